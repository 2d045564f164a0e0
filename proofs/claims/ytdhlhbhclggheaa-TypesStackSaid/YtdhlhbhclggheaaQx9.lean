-- Written by a program of this session (wip/tools: patched print) for this claim. Not trusted: Lean checks it.
import Derived.Test.YtdhlhbhclggheaaQx0
import Derived.Test.YtdhlhbhclggheaaQx3
import Derived.Test.YtdhlhbhclggheaaQx8
namespace Go.Proofs.Ytdhlhbhclggheaa.Q
open Go.RowKit Go.Proofs.Ytdhlhbhclggheaa.P Go.Proofs.Ytdhlhbhclggheaa.D Go.Proofs.YtdhlhbhclggheaaW.PrintWords Go.Proofs.YtdhlhbhclggheaaW.PrintLast Go.Proofs.YtdhlhbhclggheaaW.PrintMore
open List (setIfInBounds_toArray set_cons_zero set_cons_succ)
attribute [local go_sem] max2_int min2_int max_two min_two max_three min_three max_four min_four   -- for this text's walks alone
set_option linter.unusedVariables false
set_option linter.unusedSimpArgs false

/-! ### camshaftref07_Gives: function 24 -/
mutual
def camshaftref07_Gives.j0 : Nat → ByteArray → Bool → Int → Int → Int → Option (ByteArray)
 | 0, _, _, _, _, _ => none
 | k + 1, x1, x14, x217000, x217001, x217002 => if x14 = true then (some (⟨#[]⟩ : ByteArray)) else (if x217000 = 1 then (camshaftref07_Gives.j1 k x1 x217000 (x217000 == 1) x217000 x217001 x217002) else (if x217000 = 6 then (camshaftref07_Gives.j1 k x1 x217000 (x217000 == 6) x217000 x217001 x217002) else (if x217000 = 10 then (camshaftref07_Gives.j1 k x1 x217000 (x217000 == 10) x217000 x217001 x217002) else (if x217000 = 11 then (camshaftref07_Gives.j1 k x1 x217000 (x217000 == 11) x217000 x217001 x217002) else (if x217000 = 13 then (camshaftref07_Gives.j1 k x1 x217000 (x217000 == 13) x217000 x217001 x217002) else (if x217000 = 15 then (camshaftref07_Gives.j1 k x1 x217000 (x217000 == 15) x217000 x217001 x217002) else (camshaftref07_Gives.j1 k x1 x217000 (x217000 == 17) x217000 x217001 x217002)))))))
def camshaftref07_Gives.j1 : Nat → ByteArray → Int → Bool → Int → Int → Int → Option (ByteArray)
 | 0, _, _, _, _, _, _ => none
 | k + 1, x1, x16, x17, x217000, x217001, x217002 => if x17 = true then (some (⟨#[105]⟩ : ByteArray)) else (if x16 = 3 then (if x1.size + x1.size ≤ 9223372036854775807 then (some (x1 ++ x1)) else (none)) else (if x16 = 4 then (if 1 ≤ (x1.size : Int) then (if 0 ≤ 1 then (if (x1.extract 1 x1.size).size + (x1.extract 0 1).size ≤ 9223372036854775807 then (some ((x1.extract 1 x1.size) ++ (x1.extract 0 1))) else (none)) else (none)) else (none)) else (if x16 = 5 then (if x217001 ≥ 11 then (some (⟨#[98]⟩ : ByteArray)) else (some (⟨#[105]⟩ : ByteArray))) else (if x16 = 7 then (some (⟨#[98]⟩ : ByteArray)) else (if x16 = 8 then (some (⟨#[98]⟩ : ByteArray)) else (if x16 = 9 then (some (⟨#[98]⟩ : ByteArray)) else (some (⟨#[]⟩ : ByteArray))))))))
end
def camshaftref07_Gives.f (k : Nat) (a0_0 : Int) (a0_1 : Int) (a0_2 : Int) (a1 : ByteArray) : Option (ByteArray) := (camshaftref04_Right.f k a0_0 a0_1 a0_2).bind fun t217 => (if t217 = true then ((camshaftref07_Takes.f k a0_0 a0_1 a0_2).bind fun t218 => ((camshaftref07_fits.f k a1 t218).bind fun t219 => (camshaftref07_Gives.j0 k a1 (!t219) a0_0 a0_1 a0_2))) else (camshaftref07_Gives.j0 k a1 true a0_0 a0_1 a0_2))
theorem camshaftref07_Gives.mono_l : ∀ k, (∀ y0 y1 y2 y3 y4, LeO (camshaftref07_Gives.j0 k y0 y1 y2 y3 y4) (camshaftref07_Gives.j0 (k + 1) y0 y1 y2 y3 y4)) ∧ (∀ y0 y1 y2 y3 y4 y5, LeO (camshaftref07_Gives.j1 k y0 y1 y2 y3 y4 y5) (camshaftref07_Gives.j1 (k + 1) y0 y1 y2 y3 y4 y5))
 | 0 => ⟨fun _ _ _ _ _ r h => by simp [camshaftref07_Gives.j0] at h, fun _ _ _ _ _ _ r h => by simp [camshaftref07_Gives.j1] at h⟩
 | k + 1 => by
  obtain ⟨ih0, ih1⟩ := camshaftref07_Gives.mono_l k
  refine ⟨?_, ?_⟩
  ·intro y0 y1 y2 y3 y4
   unfold camshaftref07_Gives.j0
   repeat' first
   | (with_reducible exact ih0 _ _ _ _ _)
   | (with_reducible exact ih1 _ _ _ _ _ _)
   | (with_reducible exact camshaftref04_Right.mono _ _ _ _)
   | (with_reducible exact camshaftref07_Takes.mono _ _ _ _)
   | (with_reducible exact camshaftref07_fits.mono _ _ _)
   | (with_reducible exact LeO.refl _)
   | (with_reducible exact LeO.none _)
   | (with_reducible refine LeO.ite ?_ ?_)
   | (with_reducible refine LeO.bind ?_ (fun _ => ?_))
   | exact ih0 _ _ _ _ _
   | exact ih1 _ _ _ _ _ _
   | exact camshaftref04_Right.mono _ _ _ _
   | exact camshaftref07_Takes.mono _ _ _ _
   | exact camshaftref07_fits.mono _ _ _
   | exact LeO.none _
   | refine LeO.ite ?_ ?_
   | refine LeO.bind ?_ (fun _ => ?_)
  ·intro y0 y1 y2 y3 y4 y5
   unfold camshaftref07_Gives.j1
   repeat' first
   | (with_reducible exact ih0 _ _ _ _ _)
   | (with_reducible exact ih1 _ _ _ _ _ _)
   | (with_reducible exact camshaftref04_Right.mono _ _ _ _)
   | (with_reducible exact camshaftref07_Takes.mono _ _ _ _)
   | (with_reducible exact camshaftref07_fits.mono _ _ _)
   | (with_reducible exact LeO.refl _)
   | (with_reducible exact LeO.none _)
   | (with_reducible refine LeO.ite ?_ ?_)
   | (with_reducible refine LeO.bind ?_ (fun _ => ?_))
   | exact ih0 _ _ _ _ _
   | exact ih1 _ _ _ _ _ _
   | exact camshaftref04_Right.mono _ _ _ _
   | exact camshaftref07_Takes.mono _ _ _ _
   | exact camshaftref07_fits.mono _ _ _
   | exact LeO.none _
   | refine LeO.ite ?_ ?_
   | refine LeO.bind ?_ (fun _ => ?_)
theorem camshaftref07_Gives.mono : ∀ a0 a1 a2 a3 k, LeO (camshaftref07_Gives.f k a0 a1 a2 a3) (camshaftref07_Gives.f (k + 1) a0 a1 a2 a3) := by
 intro a0 a1 a2 a3 k
 obtain ⟨ih0, ih1⟩ := camshaftref07_Gives.mono_l k
 unfold camshaftref07_Gives.f
 repeat' first
   | (with_reducible exact ih0 _ _ _ _ _)
   | (with_reducible exact ih1 _ _ _ _ _ _)
   | (with_reducible exact camshaftref04_Right.mono _ _ _ _)
   | (with_reducible exact camshaftref07_Takes.mono _ _ _ _)
   | (with_reducible exact camshaftref07_fits.mono _ _ _)
   | (with_reducible exact LeO.refl _)
   | (with_reducible exact LeO.none _)
   | (with_reducible refine LeO.ite ?_ ?_)
   | (with_reducible refine LeO.bind ?_ (fun _ => ?_))
   | exact ih0 _ _ _ _ _
   | exact ih1 _ _ _ _ _ _
   | exact camshaftref04_Right.mono _ _ _ _
   | exact camshaftref07_Takes.mono _ _ _ _
   | exact camshaftref07_fits.mono _ _ _
   | exact LeO.none _
   | refine LeO.ite ?_ ?_
   | refine LeO.bind ?_ (fun _ => ?_)
set_option maxHeartbeats 8000000 in
set_option maxRecDepth 100000 in
theorem camshaftref07_Gives.calls (k : Nat) (a0_0 : Int) (a0_1 : Int) (a0_2 : Int) (a1 : ByteArray) (r : ByteArray) (w : World) (h : camshaftref07_Gives.f k a0_0 a0_1 a0_2 a1 = some r) :
  Calls Try.prog 24 #[.agg #[.int .i64 a0_0, .int .i64 a0_1, .int .i64 a0_2], .string a1] w fun e w' => e = .returned (.string r) ∧ Below w.heap.size w w' := by
 have hu37 := Try.underlying37
 have HB := Aside0.mk (Below.refl w.heap.size w)
 have H : ((camshaftref04_Right.f k a0_0 a0_1 a0_2).bind fun t217 => (if t217 = true then ((camshaftref07_Takes.f k a0_0 a0_1 a0_2).bind fun t218 => ((camshaftref07_fits.f k a1 t218).bind fun t219 => (camshaftref07_Gives.j0 k a1 (!t219) a0_0 a0_1 a0_2))) else (camshaftref07_Gives.j0 k a1 true a0_0 a0_1 a0_2))) = some r := h
 clear h
 have HC3 := Aside0.mk H
 clear H
 go_enter Try.func24, Try.ntmps24
 go_upto_region 1 with (first | ((with_reducible refine gate_dst (N := 2) rfl ?_); refine box_event ?hg (N := 2) ?hd (cs := #[.int .i64 a0_0, .int .i64 a0_1, .int .i64 a0_2]) (t := 37) ?hr ?_; (case hd => rfl); (case hg => rfl); (case hr => first | (go_simp; done) | (go_simp; rfl)); intro gb216 hg w4 hbox hb; have n0_ := Aside0.mk (below_step ab_ hb); have n1_ := Aside0.mk (hbox); have n2_ := Aside0.mk ((by rw [hg]; exact (below_size ab_) : w.heap.size ≤ gb216)); have n3_ := Aside0.mk ((by rw [hg]; exact (below_size ab_) : w.heap.size ≤ gb216)); clear HB; have HB := n0_; have BK216 := n1_; have GW216 := n2_; have GE216 := n3_; clear n0_ n1_ n2_ n3_; clear hb hbox hg))
 repeat (go_quiet (first | ((with_reducible refine gate_dst (N := 2) rfl ?_); refine box_event ?hg (N := 2) ?hd (cs := #[.int .i64 a0_0, .int .i64 a0_1, .int .i64 a0_2]) (t := 37) ?hr ?_; (case hd => rfl); (case hg => rfl); (case hr => first | (go_simp; done) | (go_simp; rfl)); intro gb216 hg w4 hbox hb; have n0_ := Aside0.mk (below_step ab_ hb); have n1_ := Aside0.mk (hbox); have n2_ := Aside0.mk ((by rw [hg]; exact (below_size ab_) : w.heap.size ≤ gb216)); have n3_ := Aside0.mk ((by rw [hg]; exact (below_size ab_) : w.heap.size ≤ gb216)); clear HB; have HB := n0_; have BK216 := n1_; have GW216 := n2_; have GE216 := n3_; clear n0_ n1_ n2_ n3_; clear hb hbox hg)); go_upto_region 1 with (first | ((with_reducible refine gate_dst (N := 2) rfl ?_); refine box_event ?hg (N := 2) ?hd (cs := #[.int .i64 a0_0, .int .i64 a0_1, .int .i64 a0_2]) (t := 37) ?hr ?_; (case hd => rfl); (case hg => rfl); (case hr => first | (go_simp; done) | (go_simp; rfl)); intro gb216 hg w4 hbox hb; have n0_ := Aside0.mk (below_step ab_ hb); have n1_ := Aside0.mk (hbox); have n2_ := Aside0.mk ((by rw [hg]; exact (below_size ab_) : w.heap.size ≤ gb216)); have n3_ := Aside0.mk ((by rw [hg]; exact (below_size ab_) : w.heap.size ≤ gb216)); clear HB; have HB := n0_; have BK216 := n1_; have GW216 := n2_; have GE216 := n3_; clear n0_ n1_ n2_ n3_; clear hb hbox hg)))
 (try simp only [Act.put, setIfInBounds_toArray,set_cons_zero,set_cons_succ])
 go_cut [14] (fun v14 wc => ∃ (kq : Nat) (x14_2 : Bool), v14 = .bool x14_2 ∧ Aside0 (camshaftref07_Gives.j0 kq a1 x14_2 a0_0 a0_1 a0_2 = some r) ∧ Aside0 (kq ≤ k) ∧ Aside0 (wc.heap[gb216]? = some (.cells #[.int .i64 a0_0, .int .i64 a0_1, .int .i64 a0_2] 37 (0, 0))) ∧ Aside0 (Below w.heap.size w wc))
 case first =>
  have H := HC3.out
  clear HC3
  replace H := Option.bind_eq_some_iff.mp H
  obtain ⟨t217, A50, H⟩ := H
  replace H : (if t217 = true then ((camshaftref07_Takes.f k a0_0 a0_1 a0_2).bind fun t218 => ((camshaftref07_fits.f k a1 t218).bind fun t219 => (camshaftref07_Gives.j0 k a1 (!t219) a0_0 a0_1 a0_2))) else (camshaftref07_Gives.j0 k a1 true a0_0 a0_1 a0_2)) = some r := H
  have A5 := Aside0.mk A50
  clear A50
  by_cases c6 : t217 = true
  rotate_left
  ·replace c6 := Bool.eq_false_iff.mpr c6
   subst c6
   have H1 : (camshaftref07_Gives.j0 k a1 true a0_0 a0_1 a0_2) = some r := by rw [if_neg (show ¬ (false = true) by decide)] at H; exact H
   clear H
   have H := H1
   clear H1
   have H' := Aside0.mk H
   clear H
   have hcz13_0 : w4.cell? ⟨gb216, 0, none⟩ = some (.int .i64 a0_0) := (blk_cell BK216.out 0).trans rfl
   have hcz13_1 : w4.cell? ⟨gb216, 1, none⟩ = some (.int .i64 a0_1) := (blk_cell BK216.out 1).trans rfl
   have hcz13_2 : w4.cell? ⟨gb216, 2, none⟩ = some (.int .i64 a0_2) := (blk_cell BK216.out 2).trans rfl
   have hfz13_0 := blk_frozen BK216.out 0
   have hfz13_1 := blk_frozen BK216.out 1
   have hfz13_2 := blk_frozen BK216.out 2
   go_wp2_with (first | (go_at_call 36; (with_reducible refine (camshaftref04_Right.calls k a0_0 a0_1 a0_2 false _ A5.out).mono ?_); rintro e w14 ⟨rfl, hb⟩; have n0_ := Aside0.mk (blk_below (g := gb216) (o := .cells #[.int .i64 a0_0, .int .i64 a0_1, .int .i64 a0_2] 37 (0, 0)) (by (with_reducible repeat (first | refine blk_drewN ?_ _ | refine blk_drew ?_ | refine blk_alloc ?_ _)); exact BK216.out) hb); have n1_ := Aside0.mk (below_step (by repeat (first | (with_reducible first | exact HB.out | apply below_alloc | apply pw_below_drewN | apply below_drew1 | refine below_set ?_ GE216.out) | exact HB.out)) hb); clear BK216; clear HB; have BK216 := n0_; have HB := n1_; clear n0_ n1_; (try clear hb); (try clear hb2); (try clear hk); (try clear hi)))
   repeat (go_quiet (first | (go_at_call 36; (with_reducible refine (camshaftref04_Right.calls k a0_0 a0_1 a0_2 false _ A5.out).mono ?_); rintro e w14 ⟨rfl, hb⟩; have n0_ := Aside0.mk (blk_below (g := gb216) (o := .cells #[.int .i64 a0_0, .int .i64 a0_1, .int .i64 a0_2] 37 (0, 0)) (by (with_reducible repeat (first | refine blk_drewN ?_ _ | refine blk_drew ?_ | refine blk_alloc ?_ _)); exact BK216.out) hb); have n1_ := Aside0.mk (below_step (by repeat (first | (with_reducible first | exact HB.out | apply below_alloc | apply pw_below_drewN | apply below_drew1 | refine below_set ?_ GE216.out) | exact HB.out)) hb); clear BK216; clear HB; have BK216 := n0_; have HB := n1_; clear n0_ n1_; (try clear hb); (try clear hb2); (try clear hk); (try clear hi))); try go_wp2_with (first | (go_at_call 36; (with_reducible refine (camshaftref04_Right.calls k a0_0 a0_1 a0_2 false _ A5.out).mono ?_); rintro e w14 ⟨rfl, hb⟩; have n0_ := Aside0.mk (blk_below (g := gb216) (o := .cells #[.int .i64 a0_0, .int .i64 a0_1, .int .i64 a0_2] 37 (0, 0)) (by (with_reducible repeat (first | refine blk_drewN ?_ _ | refine blk_drew ?_ | refine blk_alloc ?_ _)); exact BK216.out) hb); have n1_ := Aside0.mk (below_step (by repeat (first | (with_reducible first | exact HB.out | apply below_alloc | apply pw_below_drewN | apply below_drew1 | refine below_set ?_ GE216.out) | exact HB.out)) hb); clear BK216; clear HB; have BK216 := n0_; have HB := n1_; clear n0_ n1_; (try clear hb); (try clear hb2); (try clear hk); (try clear hi))))
   go_meet
   case rel => exact ⟨_, (true), (by first | rfl | (simp; done) | (simp [*]; done)), H', ⟨by first | omega | exact Nat.le_refl _⟩, ⟨by (with_reducible repeat (first | refine blk_drewN ?_ _ | refine blk_drew ?_ | refine blk_alloc ?_ _)); exact BK216.out⟩, ⟨by repeat (first | (with_reducible first | exact HB.out | apply below_alloc | apply pw_below_drewN | apply below_drew1 | refine below_set ?_ GE216.out) | exact HB.out | exact Below.refl _ _)⟩⟩
  subst c6
  have H1 : ((camshaftref07_Takes.f k a0_0 a0_1 a0_2).bind fun t218 => ((camshaftref07_fits.f k a1 t218).bind fun t219 => (camshaftref07_Gives.j0 k a1 (!t219) a0_0 a0_1 a0_2))) = some r := by rw [if_pos rfl] at H; exact H
  clear H
  have H := H1
  clear H1
  replace H := Option.bind_eq_some_iff.mp H
  obtain ⟨t218, A70, H⟩ := H
  replace H : ((camshaftref07_fits.f k a1 t218).bind fun t219 => (camshaftref07_Gives.j0 k a1 (!t219) a0_0 a0_1 a0_2)) = some r := H
  have A7 := Aside0.mk A70
  clear A70
  replace H := Option.bind_eq_some_iff.mp H
  obtain ⟨t219, A80, H⟩ := H
  replace H : (camshaftref07_Gives.j0 k a1 (!t219) a0_0 a0_1 a0_2) = some r := H
  have A8 := Aside0.mk A80
  clear A80
  have H' := Aside0.mk H
  clear H
  have hcz9_0 : w4.cell? ⟨gb216, 0, none⟩ = some (.int .i64 a0_0) := (blk_cell BK216.out 0).trans rfl
  have hcz9_1 : w4.cell? ⟨gb216, 1, none⟩ = some (.int .i64 a0_1) := (blk_cell BK216.out 1).trans rfl
  have hcz9_2 : w4.cell? ⟨gb216, 2, none⟩ = some (.int .i64 a0_2) := (blk_cell BK216.out 2).trans rfl
  have hfz9_0 := blk_frozen BK216.out 0
  have hfz9_1 := blk_frozen BK216.out 1
  have hfz9_2 := blk_frozen BK216.out 2
  go_wp2_with (first | (go_at_call 36; (with_reducible refine (camshaftref04_Right.calls k a0_0 a0_1 a0_2 true _ A5.out).mono ?_); rintro e w10 ⟨rfl, hb⟩; have n0_ := Aside0.mk (blk_below (g := gb216) (o := .cells #[.int .i64 a0_0, .int .i64 a0_1, .int .i64 a0_2] 37 (0, 0)) (by (with_reducible repeat (first | refine blk_drewN ?_ _ | refine blk_drew ?_ | refine blk_alloc ?_ _)); exact BK216.out) hb); have n1_ := Aside0.mk (below_step (by repeat (first | (with_reducible first | exact HB.out | apply below_alloc | apply pw_below_drewN | apply below_drew1 | refine below_set ?_ GE216.out) | exact HB.out)) hb); clear BK216; clear HB; have BK216 := n0_; have HB := n1_; clear n0_ n1_; (try clear hb); (try clear hb2); (try clear hk); (try clear hi); have hcz11_0 : w10.cell? ⟨gb216, 0, none⟩ = some (.int .i64 a0_0) := (blk_cell BK216.out 0).trans rfl; have hcz11_1 : w10.cell? ⟨gb216, 1, none⟩ = some (.int .i64 a0_1) := (blk_cell BK216.out 1).trans rfl; have hcz11_2 : w10.cell? ⟨gb216, 2, none⟩ = some (.int .i64 a0_2) := (blk_cell BK216.out 2).trans rfl; have hfz11_0 := blk_frozen BK216.out 0; have hfz11_1 := blk_frozen BK216.out 1; have hfz11_2 := blk_frozen BK216.out 2) | (go_at_call 22; (with_reducible refine (camshaftref07_Takes.calls k a0_0 a0_1 a0_2 t218 _ A7.out).mono ?_); rintro e w12 ⟨rfl, hb⟩; have n0_ := Aside0.mk (blk_below (g := gb216) (o := .cells #[.int .i64 a0_0, .int .i64 a0_1, .int .i64 a0_2] 37 (0, 0)) (by (with_reducible repeat (first | refine blk_drewN ?_ _ | refine blk_drew ?_ | refine blk_alloc ?_ _)); exact BK216.out) hb); have n1_ := Aside0.mk (below_step (by repeat (first | (with_reducible first | exact HB.out | apply below_alloc | apply pw_below_drewN | apply below_drew1 | refine below_set ?_ GE216.out) | exact HB.out)) hb); clear BK216; clear HB; have BK216 := n0_; have HB := n1_; clear n0_ n1_; (try clear hb); (try clear hb2); (try clear hk); (try clear hi)) | (go_at_call 23; (with_reducible refine (camshaftref07_fits.calls k a1 t218 t219 _ A8.out).mono ?_); rintro e w' ⟨rfl, ⟨nd, rfl⟩⟩; (try first | exact ⟨rfl, _, World.drewN_drewN _ _ _⟩ | exact ⟨rfl, _, Eq.trans (World.drewN_drewN _ _ _) (congrArg (World.drewN _) (Nat.add_assoc _ _ _))⟩)))
  repeat (go_quiet (first | (go_at_call 36; (with_reducible refine (camshaftref04_Right.calls k a0_0 a0_1 a0_2 true _ A5.out).mono ?_); rintro e w10 ⟨rfl, hb⟩; have n0_ := Aside0.mk (blk_below (g := gb216) (o := .cells #[.int .i64 a0_0, .int .i64 a0_1, .int .i64 a0_2] 37 (0, 0)) (by (with_reducible repeat (first | refine blk_drewN ?_ _ | refine blk_drew ?_ | refine blk_alloc ?_ _)); exact BK216.out) hb); have n1_ := Aside0.mk (below_step (by repeat (first | (with_reducible first | exact HB.out | apply below_alloc | apply pw_below_drewN | apply below_drew1 | refine below_set ?_ GE216.out) | exact HB.out)) hb); clear BK216; clear HB; have BK216 := n0_; have HB := n1_; clear n0_ n1_; (try clear hb); (try clear hb2); (try clear hk); (try clear hi); have hcz11_0 : w10.cell? ⟨gb216, 0, none⟩ = some (.int .i64 a0_0) := (blk_cell BK216.out 0).trans rfl; have hcz11_1 : w10.cell? ⟨gb216, 1, none⟩ = some (.int .i64 a0_1) := (blk_cell BK216.out 1).trans rfl; have hcz11_2 : w10.cell? ⟨gb216, 2, none⟩ = some (.int .i64 a0_2) := (blk_cell BK216.out 2).trans rfl; have hfz11_0 := blk_frozen BK216.out 0; have hfz11_1 := blk_frozen BK216.out 1; have hfz11_2 := blk_frozen BK216.out 2) | (go_at_call 22; (with_reducible refine (camshaftref07_Takes.calls k a0_0 a0_1 a0_2 t218 _ A7.out).mono ?_); rintro e w12 ⟨rfl, hb⟩; have n0_ := Aside0.mk (blk_below (g := gb216) (o := .cells #[.int .i64 a0_0, .int .i64 a0_1, .int .i64 a0_2] 37 (0, 0)) (by (with_reducible repeat (first | refine blk_drewN ?_ _ | refine blk_drew ?_ | refine blk_alloc ?_ _)); exact BK216.out) hb); have n1_ := Aside0.mk (below_step (by repeat (first | (with_reducible first | exact HB.out | apply below_alloc | apply pw_below_drewN | apply below_drew1 | refine below_set ?_ GE216.out) | exact HB.out)) hb); clear BK216; clear HB; have BK216 := n0_; have HB := n1_; clear n0_ n1_; (try clear hb); (try clear hb2); (try clear hk); (try clear hi)) | (go_at_call 23; (with_reducible refine (camshaftref07_fits.calls k a1 t218 t219 _ A8.out).mono ?_); rintro e w' ⟨rfl, ⟨nd, rfl⟩⟩; (try first | exact ⟨rfl, _, World.drewN_drewN _ _ _⟩ | exact ⟨rfl, _, Eq.trans (World.drewN_drewN _ _ _) (congrArg (World.drewN _) (Nat.add_assoc _ _ _))⟩))); try go_wp2_with (first | (go_at_call 36; (with_reducible refine (camshaftref04_Right.calls k a0_0 a0_1 a0_2 true _ A5.out).mono ?_); rintro e w10 ⟨rfl, hb⟩; have n0_ := Aside0.mk (blk_below (g := gb216) (o := .cells #[.int .i64 a0_0, .int .i64 a0_1, .int .i64 a0_2] 37 (0, 0)) (by (with_reducible repeat (first | refine blk_drewN ?_ _ | refine blk_drew ?_ | refine blk_alloc ?_ _)); exact BK216.out) hb); have n1_ := Aside0.mk (below_step (by repeat (first | (with_reducible first | exact HB.out | apply below_alloc | apply pw_below_drewN | apply below_drew1 | refine below_set ?_ GE216.out) | exact HB.out)) hb); clear BK216; clear HB; have BK216 := n0_; have HB := n1_; clear n0_ n1_; (try clear hb); (try clear hb2); (try clear hk); (try clear hi); have hcz11_0 : w10.cell? ⟨gb216, 0, none⟩ = some (.int .i64 a0_0) := (blk_cell BK216.out 0).trans rfl; have hcz11_1 : w10.cell? ⟨gb216, 1, none⟩ = some (.int .i64 a0_1) := (blk_cell BK216.out 1).trans rfl; have hcz11_2 : w10.cell? ⟨gb216, 2, none⟩ = some (.int .i64 a0_2) := (blk_cell BK216.out 2).trans rfl; have hfz11_0 := blk_frozen BK216.out 0; have hfz11_1 := blk_frozen BK216.out 1; have hfz11_2 := blk_frozen BK216.out 2) | (go_at_call 22; (with_reducible refine (camshaftref07_Takes.calls k a0_0 a0_1 a0_2 t218 _ A7.out).mono ?_); rintro e w12 ⟨rfl, hb⟩; have n0_ := Aside0.mk (blk_below (g := gb216) (o := .cells #[.int .i64 a0_0, .int .i64 a0_1, .int .i64 a0_2] 37 (0, 0)) (by (with_reducible repeat (first | refine blk_drewN ?_ _ | refine blk_drew ?_ | refine blk_alloc ?_ _)); exact BK216.out) hb); have n1_ := Aside0.mk (below_step (by repeat (first | (with_reducible first | exact HB.out | apply below_alloc | apply pw_below_drewN | apply below_drew1 | refine below_set ?_ GE216.out) | exact HB.out)) hb); clear BK216; clear HB; have BK216 := n0_; have HB := n1_; clear n0_ n1_; (try clear hb); (try clear hb2); (try clear hk); (try clear hi)) | (go_at_call 23; (with_reducible refine (camshaftref07_fits.calls k a1 t218 t219 _ A8.out).mono ?_); rintro e w' ⟨rfl, ⟨nd, rfl⟩⟩; (try first | exact ⟨rfl, _, World.drewN_drewN _ _ _⟩ | exact ⟨rfl, _, Eq.trans (World.drewN_drewN _ _ _) (congrArg (World.drewN _) (Nat.add_assoc _ _ _))⟩))))
  go_meet
  case rel => exact ⟨_, (!t219), (by first | rfl | (simp; done) | (simp [*]; done)), H', ⟨by first | omega | exact Nat.le_refl _⟩, ⟨by (with_reducible repeat (first | refine blk_drewN ?_ _ | refine blk_drew ?_ | refine blk_alloc ?_ _)); exact BK216.out⟩, ⟨by repeat (first | (with_reducible first | exact HB.out | apply below_alloc | apply pw_below_drewN | apply below_drew1 | refine below_set ?_ GE216.out) | exact HB.out | exact Below.refl _ _)⟩⟩
 case rest =>
  clear HC3
  try clear c2
  try clear p2
  try clear c6
  try clear hcz11_0
  try clear hcz11_1
  try clear hcz11_2
  try clear hcz13_0
  try clear hcz13_1
  try clear hcz13_2
  try clear hcz9_0
  try clear hcz9_1
  try clear hcz9_2
  try clear hfz11_0
  try clear hfz11_1
  try clear hfz11_2
  try clear hfz13_0
  try clear hfz13_1
  try clear hfz13_2
  try clear hfz9_0
  try clear hfz9_1
  try clear hfz9_2
  obtain ⟨kq, x14_2, rfl, HA, HJ2, BK216, HB⟩ := hcut
  cases kq with
  | zero => exact absurd HA.out (by simp [camshaftref07_Gives.j0])
  | succ kj2 =>
   have H := HA.out
   clear HA
   simp only [camshaftref07_Gives.j0] at H
   by_cases c15 : x14_2 = true
   ·subst c15
    have H1 : (some (⟨#[]⟩ : ByteArray)) = some r := by rw [if_pos rfl] at H; exact H
    clear H
    have H := H1
    clear H1
    obtain rfl := Option.some.inj H
    go_wp2
    repeat (go_quiet (fail); try go_wp2)
    go_ret
    exact ⟨by first | rfl | (simp [errW_none, errW_some] <;> rfl) | (simp [*, errW_none, errW_some] <;> rfl), by repeat (first | (with_reducible first | exact HB.out | apply below_alloc | apply pw_below_drewN | apply below_drew1 | refine below_set ?_ GE216.out) | exact HB.out | exact Below.refl _ _)⟩
   replace c15 := Bool.eq_false_iff.mpr c15
   subst c15
   have H1 : (if a0_0 = 1 then (camshaftref07_Gives.j1 kj2 a1 a0_0 (a0_0 == 1) a0_0 a0_1 a0_2) else (if a0_0 = 6 then (camshaftref07_Gives.j1 kj2 a1 a0_0 (a0_0 == 6) a0_0 a0_1 a0_2) else (if a0_0 = 10 then (camshaftref07_Gives.j1 kj2 a1 a0_0 (a0_0 == 10) a0_0 a0_1 a0_2) else (if a0_0 = 11 then (camshaftref07_Gives.j1 kj2 a1 a0_0 (a0_0 == 11) a0_0 a0_1 a0_2) else (if a0_0 = 13 then (camshaftref07_Gives.j1 kj2 a1 a0_0 (a0_0 == 13) a0_0 a0_1 a0_2) else (if a0_0 = 15 then (camshaftref07_Gives.j1 kj2 a1 a0_0 (a0_0 == 15) a0_0 a0_1 a0_2) else (camshaftref07_Gives.j1 kj2 a1 a0_0 (a0_0 == 17) a0_0 a0_1 a0_2))))))) = some r := by rw [if_neg (show ¬ (false = true) by decide)] at H; exact H
   clear H
   have H := H1
   clear H1
   have HC16 := Aside0.mk H
   clear H
   have hcz17_0 : wc.cell? ⟨gb216, 0, none⟩ = some (.int .i64 a0_0) := (blk_cell BK216.out 0).trans rfl
   have hcz17_1 : wc.cell? ⟨gb216, 1, none⟩ = some (.int .i64 a0_1) := (blk_cell BK216.out 1).trans rfl
   have hcz17_2 : wc.cell? ⟨gb216, 2, none⟩ = some (.int .i64 a0_2) := (blk_cell BK216.out 2).trans rfl
   have hfz17_0 := blk_frozen BK216.out 0
   have hfz17_1 := blk_frozen BK216.out 1
   have hfz17_2 := blk_frozen BK216.out 2
   go_upto_if 17 with (fail)
   repeat (go_quiet (fail); go_upto_if 17 with (fail))
   go_cut [17] (fun v17 wc => ∃ (kq : Nat) (x17_15 : Bool), v17 = .bool x17_15 ∧ Aside0 (camshaftref07_Gives.j1 kq a1 a0_0 x17_15 a0_0 a0_1 a0_2 = some r) ∧ Aside0 (kq ≤ kj2) ∧ Aside0 (wc.heap[gb216]? = some (.cells #[.int .i64 a0_0, .int .i64 a0_1, .int .i64 a0_2] 37 (0, 0))) ∧ Aside0 (Below w.heap.size w wc))
   case first =>
    have H := HC16.out
    clear HC16
    by_cases c18 : a0_0 = 1
    ·rw [if_pos c18] at H
     have c18b0 : (a0_0 == 1) = true := beq_iff_eq.mpr c18
     have c18b1 : (a0_0 != 1) = false := bne_eq_false_iff_eq.mpr c18
     clear c18
     (first | rw [c18b0] | (simp only [i64_w, i32_w]; rw [c18b0]) | rw [c18b1] | skip)
     have H' := Aside0.mk H
     clear H
     go_wp2
     repeat (go_quiet (fail); try go_wp2)
     go_meet
     case rel => exact ⟨_, ((a0_0 == 1)), (by first | rfl | (simp; done) | (simp [*]; done)), H', ⟨by have := HJ2.out; first | omega | exact Nat.le_refl _⟩, ⟨by (with_reducible repeat (first | refine blk_drewN ?_ _ | refine blk_drew ?_ | refine blk_alloc ?_ _)); exact BK216.out⟩, ⟨by repeat (first | (with_reducible first | exact HB.out | apply below_alloc | apply pw_below_drewN | apply below_drew1 | refine below_set ?_ GE216.out) | exact HB.out | exact Below.refl _ _)⟩⟩
    rw [if_neg c18] at H
    have c18b0 : (a0_0 == 1) = false := beq_eq_false_iff_ne.mpr c18
    have c18b1 : (a0_0 != 1) = true := bne_iff_ne.mpr c18
    (first | rw [c18b0] | (simp only [i64_w, i32_w]; rw [c18b0]) | rw [c18b1] | skip)
    by_cases c19 : a0_0 = 6
    ·rw [if_pos c19] at H
     have c19b0 : (a0_0 == 6) = true := beq_iff_eq.mpr c19
     have c19b1 : (a0_0 != 6) = false := bne_eq_false_iff_eq.mpr c19
     clear c19
     have H' := Aside0.mk H
     clear H
     go_wp2
     repeat (go_quiet (fail); try go_wp2)
     go_meet
     case rel => exact ⟨_, ((a0_0 == 6)), (by first | rfl | (simp; done) | (simp [*]; done)), H', ⟨by have := HJ2.out; first | omega | exact Nat.le_refl _⟩, ⟨by (with_reducible repeat (first | refine blk_drewN ?_ _ | refine blk_drew ?_ | refine blk_alloc ?_ _)); exact BK216.out⟩, ⟨by repeat (first | (with_reducible first | exact HB.out | apply below_alloc | apply pw_below_drewN | apply below_drew1 | refine below_set ?_ GE216.out) | exact HB.out | exact Below.refl _ _)⟩⟩
    rw [if_neg c19] at H
    have c19b0 : (a0_0 == 6) = false := beq_eq_false_iff_ne.mpr c19
    have c19b1 : (a0_0 != 6) = true := bne_iff_ne.mpr c19
    by_cases c20 : a0_0 = 10
    ·rw [if_pos c20] at H
     have c20b0 : (a0_0 == 10) = true := beq_iff_eq.mpr c20
     have c20b1 : (a0_0 != 10) = false := bne_eq_false_iff_eq.mpr c20
     clear c20
     have H' := Aside0.mk H
     clear H
     go_wp2
     repeat (go_quiet (fail); try go_wp2)
     go_meet
     case rel => exact ⟨_, ((a0_0 == 10)), (by first | rfl | (simp; done) | (simp [*]; done)), H', ⟨by have := HJ2.out; first | omega | exact Nat.le_refl _⟩, ⟨by (with_reducible repeat (first | refine blk_drewN ?_ _ | refine blk_drew ?_ | refine blk_alloc ?_ _)); exact BK216.out⟩, ⟨by repeat (first | (with_reducible first | exact HB.out | apply below_alloc | apply pw_below_drewN | apply below_drew1 | refine below_set ?_ GE216.out) | exact HB.out | exact Below.refl _ _)⟩⟩
    rw [if_neg c20] at H
    have c20b0 : (a0_0 == 10) = false := beq_eq_false_iff_ne.mpr c20
    have c20b1 : (a0_0 != 10) = true := bne_iff_ne.mpr c20
    by_cases c21 : a0_0 = 11
    ·rw [if_pos c21] at H
     have c21b0 : (a0_0 == 11) = true := beq_iff_eq.mpr c21
     have c21b1 : (a0_0 != 11) = false := bne_eq_false_iff_eq.mpr c21
     clear c21
     have H' := Aside0.mk H
     clear H
     go_wp2
     repeat (go_quiet (fail); try go_wp2)
     go_meet
     case rel => exact ⟨_, ((a0_0 == 11)), (by first | rfl | (simp; done) | (simp [*]; done)), H', ⟨by have := HJ2.out; first | omega | exact Nat.le_refl _⟩, ⟨by (with_reducible repeat (first | refine blk_drewN ?_ _ | refine blk_drew ?_ | refine blk_alloc ?_ _)); exact BK216.out⟩, ⟨by repeat (first | (with_reducible first | exact HB.out | apply below_alloc | apply pw_below_drewN | apply below_drew1 | refine below_set ?_ GE216.out) | exact HB.out | exact Below.refl _ _)⟩⟩
    rw [if_neg c21] at H
    have c21b0 : (a0_0 == 11) = false := beq_eq_false_iff_ne.mpr c21
    have c21b1 : (a0_0 != 11) = true := bne_iff_ne.mpr c21
    by_cases c22 : a0_0 = 13
    ·rw [if_pos c22] at H
     have c22b0 : (a0_0 == 13) = true := beq_iff_eq.mpr c22
     have c22b1 : (a0_0 != 13) = false := bne_eq_false_iff_eq.mpr c22
     clear c22
     have H' := Aside0.mk H
     clear H
     go_wp2
     repeat (go_quiet (fail); try go_wp2)
     go_meet
     case rel => exact ⟨_, ((a0_0 == 13)), (by first | rfl | (simp; done) | (simp [*]; done)), H', ⟨by have := HJ2.out; first | omega | exact Nat.le_refl _⟩, ⟨by (with_reducible repeat (first | refine blk_drewN ?_ _ | refine blk_drew ?_ | refine blk_alloc ?_ _)); exact BK216.out⟩, ⟨by repeat (first | (with_reducible first | exact HB.out | apply below_alloc | apply pw_below_drewN | apply below_drew1 | refine below_set ?_ GE216.out) | exact HB.out | exact Below.refl _ _)⟩⟩
    rw [if_neg c22] at H
    have c22b0 : (a0_0 == 13) = false := beq_eq_false_iff_ne.mpr c22
    have c22b1 : (a0_0 != 13) = true := bne_iff_ne.mpr c22
    by_cases c23 : a0_0 = 15
    rotate_left
    ·rw [if_neg c23] at H
     have c23b0 : (a0_0 == 15) = false := beq_eq_false_iff_ne.mpr c23
     have c23b1 : (a0_0 != 15) = true := bne_iff_ne.mpr c23
     have H' := Aside0.mk H
     clear H
     go_wp2
     repeat (go_quiet (fail); try go_wp2)
     go_meet
     case rel => exact ⟨_, ((a0_0 == 17)), (by first | rfl | (simp; done) | (simp [*]; done)), H', ⟨by have := HJ2.out; first | omega | exact Nat.le_refl _⟩, ⟨by (with_reducible repeat (first | refine blk_drewN ?_ _ | refine blk_drew ?_ | refine blk_alloc ?_ _)); exact BK216.out⟩, ⟨by repeat (first | (with_reducible first | exact HB.out | apply below_alloc | apply pw_below_drewN | apply below_drew1 | refine below_set ?_ GE216.out) | exact HB.out | exact Below.refl _ _)⟩⟩
    rw [if_pos c23] at H
    have c23b0 : (a0_0 == 15) = true := beq_iff_eq.mpr c23
    have c23b1 : (a0_0 != 15) = false := bne_eq_false_iff_eq.mpr c23
    clear c23
    have H' := Aside0.mk H
    clear H
    go_wp2
    repeat (go_quiet (fail); try go_wp2)
    go_meet
    case rel => exact ⟨_, ((a0_0 == 15)), (by first | rfl | (simp; done) | (simp [*]; done)), H', ⟨by have := HJ2.out; first | omega | exact Nat.le_refl _⟩, ⟨by (with_reducible repeat (first | refine blk_drewN ?_ _ | refine blk_drew ?_ | refine blk_alloc ?_ _)); exact BK216.out⟩, ⟨by repeat (first | (with_reducible first | exact HB.out | apply below_alloc | apply pw_below_drewN | apply below_drew1 | refine below_set ?_ GE216.out) | exact HB.out | exact Below.refl _ _)⟩⟩
   case rest =>
    clear HC16
    try clear c1
    try clear c2
    try clear p2
    try clear c6
    try clear c15
    try clear c18
    try clear c18b0
    try clear c18b1
    try clear c19
    try clear c19b0
    try clear c19b1
    try clear c20
    try clear c20b0
    try clear c20b1
    try clear c21
    try clear c21b0
    try clear c21b1
    try clear c22
    try clear c22b0
    try clear c22b1
    try clear c23
    try clear c23b0
    try clear c23b1
    try clear hcz11_0
    try clear hcz11_1
    try clear hcz11_2
    try clear hcz13_0
    try clear hcz13_1
    try clear hcz13_2
    try clear hcz17_0
    try clear hcz17_1
    try clear hcz17_2
    try clear hcz9_0
    try clear hcz9_1
    try clear hcz9_2
    try clear hfz11_0
    try clear hfz11_1
    try clear hfz11_2
    try clear hfz13_0
    try clear hfz13_1
    try clear hfz13_2
    try clear hfz17_0
    try clear hfz17_1
    try clear hfz17_2
    try clear hfz9_0
    try clear hfz9_1
    try clear hfz9_2
    try clear p2
    obtain ⟨kq, x17_15, rfl, HA, HJ15, BK216, HB⟩ := hcut
    cases kq with
    | zero => exact absurd HA.out (by simp [camshaftref07_Gives.j1])
    | succ kj15 =>
     have H := HA.out
     clear HA
     simp only [camshaftref07_Gives.j1] at H
     by_cases c24 : x17_15 = true
     ·subst c24
      have H1 : (some (⟨#[105]⟩ : ByteArray)) = some r := by rw [if_pos rfl] at H; exact H
      clear H
      have H := H1
      clear H1
      obtain rfl := Option.some.inj H
      go_wp2
      repeat (go_quiet (fail); try go_wp2)
      go_ret
      exact ⟨by first | rfl | (simp [errW_none, errW_some] <;> rfl) | (simp [*, errW_none, errW_some] <;> rfl), by repeat (first | (with_reducible first | exact HB.out | apply below_alloc | apply pw_below_drewN | apply below_drew1 | refine below_set ?_ GE216.out) | exact HB.out | exact Below.refl _ _)⟩
     replace c24 := Bool.eq_false_iff.mpr c24
     subst c24
     have H1 : (if a0_0 = 3 then (if a1.size + a1.size ≤ 9223372036854775807 then (some (a1 ++ a1)) else (none)) else (if a0_0 = 4 then (if 1 ≤ (a1.size : Int) then (if 0 ≤ 1 then (if (a1.extract 1 a1.size).size + (a1.extract 0 1).size ≤ 9223372036854775807 then (some ((a1.extract 1 a1.size) ++ (a1.extract 0 1))) else (none)) else (none)) else (none)) else (if a0_0 = 5 then (if a0_1 ≥ 11 then (some (⟨#[98]⟩ : ByteArray)) else (some (⟨#[105]⟩ : ByteArray))) else (if a0_0 = 7 then (some (⟨#[98]⟩ : ByteArray)) else (if a0_0 = 8 then (some (⟨#[98]⟩ : ByteArray)) else (if a0_0 = 9 then (some (⟨#[98]⟩ : ByteArray)) else (some (⟨#[]⟩ : ByteArray)))))))) = some r := by rw [if_neg (show ¬ (false = true) by decide)] at H; exact H
     clear H
     have H := H1
     clear H1
     by_cases c25 : a0_0 = 3
     ·rw [if_pos c25] at H
      have c25b0 : (a0_0 == 3) = true := beq_iff_eq.mpr c25
      have c25b1 : (a0_0 != 3) = false := bne_eq_false_iff_eq.mpr c25
      clear c25
      by_cases c26 : a1.size + a1.size ≤ 9223372036854775807
      rotate_left
      ·rw [if_neg c26] at H
       exact absurd H (by simp)
      rw [if_pos c26] at H
      have c26b0 := eq_true c26
      have c26b1 : decide (a1.size + a1.size ≤ 9223372036854775807) = true := decide_eq_true c26
      try have c26b2 : (9223372036854775807 < a1.size + a1.size) = False := eq_false (Nat.not_lt.2 c26)
      obtain rfl := Option.some.inj H
      go_wp2
      repeat (go_quiet (fail); try go_wp2)
      go_ret
      exact ⟨by first | rfl | (simp [errW_none, errW_some] <;> rfl) | (simp [*, errW_none, errW_some] <;> rfl), by repeat (first | (with_reducible first | exact HB.out | apply below_alloc | apply pw_below_drewN | apply below_drew1 | refine below_set ?_ GE216.out) | exact HB.out | exact Below.refl _ _)⟩
     rw [if_neg c25] at H
     have c25b0 : (a0_0 == 3) = false := beq_eq_false_iff_ne.mpr c25
     have c25b1 : (a0_0 != 3) = true := bne_iff_ne.mpr c25
     by_cases c27 : a0_0 = 4
     ·rw [if_pos c27] at H
      have c27b0 : (a0_0 == 4) = true := beq_iff_eq.mpr c27
      have c27b1 : (a0_0 != 4) = false := bne_eq_false_iff_eq.mpr c27
      clear c27
      by_cases c28 : 1 ≤ (a1.size : Int)
      rotate_left
      ·rw [if_neg c28] at H
       exact absurd H (by simp)
      rw [if_pos c28] at H
      have c28b0 := eq_true c28
      have c28b1 : decide (1 ≤ (a1.size : Int)) = true := decide_eq_true c28
      clear c28
      by_cases c29 : 0 ≤ 1
      rotate_left
      ·rw [if_neg c29] at H
       exact absurd H (by simp)
      rw [if_pos c29] at H
      have c29b0 := eq_true c29
      have c29b1 : decide (0 ≤ 1) = true := decide_eq_true c29
      clear c29
      have c30b0 := eq_true (of_decide_eq_true as_ : 1 ≤ (a1.size : Int))
      by_cases c31 : (a1.extract 1 a1.size).size + (a1.extract 0 1).size ≤ 9223372036854775807
      rotate_left
      ·rw [if_neg c31] at H
       exact absurd H (by simp)
      rw [if_pos c31] at H
      have c31b0 := eq_true c31
      have c31b1 : decide ((a1.extract 1 a1.size).size + (a1.extract 0 1).size ≤ 9223372036854775807) = true := decide_eq_true c31
      try have c31b2 : (9223372036854775807 < (a1.extract 1 a1.size).size + (a1.extract 0 1).size) = False := eq_false (Nat.not_lt.2 c31)
      obtain rfl := Option.some.inj H
      go_wp2
      repeat (go_quiet (fail); try go_wp2)
      go_ret
      exact ⟨by first | rfl | (simp [errW_none, errW_some] <;> rfl) | (simp [*, errW_none, errW_some] <;> rfl), by repeat (first | (with_reducible first | exact HB.out | apply below_alloc | apply pw_below_drewN | apply below_drew1 | refine below_set ?_ GE216.out) | exact HB.out | exact Below.refl _ _)⟩
     rw [if_neg c27] at H
     have c27b0 : (a0_0 == 4) = false := beq_eq_false_iff_ne.mpr c27
     have c27b1 : (a0_0 != 4) = true := bne_iff_ne.mpr c27
     by_cases c32 : a0_0 = 5
     ·rw [if_pos c32] at H
      have c32b0 : (a0_0 == 5) = true := beq_iff_eq.mpr c32
      have c32b1 : (a0_0 != 5) = false := bne_eq_false_iff_eq.mpr c32
      clear c32
      by_cases c33 : a0_1 ≥ 11
      ·rw [if_pos c33] at H
       have c33b0 : decide (11 ≤ a0_1) = true := decide_eq_true c33
       clear c33
       obtain rfl := Option.some.inj H
       have hcz34_0 : wc.cell? ⟨gb216, 0, none⟩ = some (.int .i64 a0_0) := (blk_cell BK216.out 0).trans rfl
       have hcz34_1 : wc.cell? ⟨gb216, 1, none⟩ = some (.int .i64 a0_1) := (blk_cell BK216.out 1).trans rfl
       have hcz34_2 : wc.cell? ⟨gb216, 2, none⟩ = some (.int .i64 a0_2) := (blk_cell BK216.out 2).trans rfl
       have hfz34_0 := blk_frozen BK216.out 0
       have hfz34_1 := blk_frozen BK216.out 1
       have hfz34_2 := blk_frozen BK216.out 2
       go_wp2
       repeat (go_quiet (fail); try go_wp2)
       go_ret
       exact ⟨by first | rfl | (simp [errW_none, errW_some] <;> rfl) | (simp [*, errW_none, errW_some] <;> rfl), by repeat (first | (with_reducible first | exact HB.out | apply below_alloc | apply pw_below_drewN | apply below_drew1 | refine below_set ?_ GE216.out) | exact HB.out | exact Below.refl _ _)⟩
      rw [if_neg c33] at H
      have c33b0 : decide (11 ≤ a0_1) = false := decide_eq_false c33
      clear c33
      obtain rfl := Option.some.inj H
      have hcz35_0 : wc.cell? ⟨gb216, 0, none⟩ = some (.int .i64 a0_0) := (blk_cell BK216.out 0).trans rfl
      have hcz35_1 : wc.cell? ⟨gb216, 1, none⟩ = some (.int .i64 a0_1) := (blk_cell BK216.out 1).trans rfl
      have hcz35_2 : wc.cell? ⟨gb216, 2, none⟩ = some (.int .i64 a0_2) := (blk_cell BK216.out 2).trans rfl
      have hfz35_0 := blk_frozen BK216.out 0
      have hfz35_1 := blk_frozen BK216.out 1
      have hfz35_2 := blk_frozen BK216.out 2
      go_wp2
      repeat (go_quiet (fail); try go_wp2)
      go_ret
      exact ⟨by first | rfl | (simp [errW_none, errW_some] <;> rfl) | (simp [*, errW_none, errW_some] <;> rfl), by repeat (first | (with_reducible first | exact HB.out | apply below_alloc | apply pw_below_drewN | apply below_drew1 | refine below_set ?_ GE216.out) | exact HB.out | exact Below.refl _ _)⟩
     rw [if_neg c32] at H
     have c32b0 : (a0_0 == 5) = false := beq_eq_false_iff_ne.mpr c32
     have c32b1 : (a0_0 != 5) = true := bne_iff_ne.mpr c32
     by_cases c36 : a0_0 = 7
     ·rw [if_pos c36] at H
      have c36b0 : (a0_0 == 7) = true := beq_iff_eq.mpr c36
      have c36b1 : (a0_0 != 7) = false := bne_eq_false_iff_eq.mpr c36
      clear c36
      obtain rfl := Option.some.inj H
      go_wp2
      repeat (go_quiet (fail); try go_wp2)
      go_ret
      exact ⟨by first | rfl | (simp [errW_none, errW_some] <;> rfl) | (simp [*, errW_none, errW_some] <;> rfl), by repeat (first | (with_reducible first | exact HB.out | apply below_alloc | apply pw_below_drewN | apply below_drew1 | refine below_set ?_ GE216.out) | exact HB.out | exact Below.refl _ _)⟩
     rw [if_neg c36] at H
     have c36b0 : (a0_0 == 7) = false := beq_eq_false_iff_ne.mpr c36
     have c36b1 : (a0_0 != 7) = true := bne_iff_ne.mpr c36
     by_cases c37 : a0_0 = 8
     ·rw [if_pos c37] at H
      have c37b0 : (a0_0 == 8) = true := beq_iff_eq.mpr c37
      have c37b1 : (a0_0 != 8) = false := bne_eq_false_iff_eq.mpr c37
      clear c37
      obtain rfl := Option.some.inj H
      go_wp2
      repeat (go_quiet (fail); try go_wp2)
      go_ret
      exact ⟨by first | rfl | (simp [errW_none, errW_some] <;> rfl) | (simp [*, errW_none, errW_some] <;> rfl), by repeat (first | (with_reducible first | exact HB.out | apply below_alloc | apply pw_below_drewN | apply below_drew1 | refine below_set ?_ GE216.out) | exact HB.out | exact Below.refl _ _)⟩
     rw [if_neg c37] at H
     have c37b0 : (a0_0 == 8) = false := beq_eq_false_iff_ne.mpr c37
     have c37b1 : (a0_0 != 8) = true := bne_iff_ne.mpr c37
     by_cases c38 : a0_0 = 9
     rotate_left
     ·rw [if_neg c38] at H
      have c38b0 : (a0_0 == 9) = false := beq_eq_false_iff_ne.mpr c38
      have c38b1 : (a0_0 != 9) = true := bne_iff_ne.mpr c38
      obtain rfl := Option.some.inj H
      go_wp2
      repeat (go_quiet (fail); try go_wp2)
      go_ret
      exact ⟨by first | rfl | (simp [errW_none, errW_some] <;> rfl) | (simp [*, errW_none, errW_some] <;> rfl), by repeat (first | (with_reducible first | exact HB.out | apply below_alloc | apply pw_below_drewN | apply below_drew1 | refine below_set ?_ GE216.out) | exact HB.out | exact Below.refl _ _)⟩
     rw [if_pos c38] at H
     have c38b0 : (a0_0 == 9) = true := beq_iff_eq.mpr c38
     have c38b1 : (a0_0 != 9) = false := bne_eq_false_iff_eq.mpr c38
     clear c38
     obtain rfl := Option.some.inj H
     go_wp2
     repeat (go_quiet (fail); try go_wp2)
     go_ret
     exact ⟨by first | rfl | (simp [errW_none, errW_some] <;> rfl) | (simp [*, errW_none, errW_some] <;> rfl), by repeat (first | (with_reducible first | exact HB.out | apply below_alloc | apply pw_below_drewN | apply below_drew1 | refine below_set ?_ GE216.out) | exact HB.out | exact Below.refl _ _)⟩

end Go.Proofs.Ytdhlhbhclggheaa.Q
