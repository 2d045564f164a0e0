-- Written by a program of this session (wip/tools: patched print) for this claim. Not trusted: Lean checks it.
import Derived.Test.YtdhlhbhclggheaaQx0
import Derived.Test.YtdhlhbhclggheaaQx2
namespace Go.Proofs.Ytdhlhbhclggheaa.Q
open Go.RowKit Go.Proofs.Ytdhlhbhclggheaa.P Go.Proofs.Ytdhlhbhclggheaa.D Go.Proofs.YtdhlhbhclggheaaW.PrintWords Go.Proofs.YtdhlhbhclggheaaW.PrintLast Go.Proofs.YtdhlhbhclggheaaW.PrintMore
open List (setIfInBounds_toArray set_cons_zero set_cons_succ)
attribute [local go_sem] max2_int min2_int max_two min_two max_three min_three max_four min_four   -- for this text's walks alone
set_option linter.unusedVariables false
set_option linter.unusedSimpArgs false

/-! ### camshaftref04_Right: function 36 -/
mutual
def camshaftref04_Right.j0 : Nat → Bool → Int → Int → Int → Option (Bool)
 | 0, _, _, _, _ => none
 | k + 1, x28, x163000, x163001, x163002 => if x28 = true then (some false) else (if x163000 = 5 then ((camshaftref01_Name.f x163001).bind fun t167 => (some (t167.toList != ([] : List UInt8)))) else (if x163000 = 11 then (camshaftref04_Right.j1 k x163000 (x163000 == 11) x163000 x163001 x163002) else (if x163000 = 12 then (camshaftref04_Right.j1 k x163000 (x163000 == 12) x163000 x163001 x163002) else (if x163000 = 13 then (camshaftref04_Right.j1 k x163000 (x163000 == 13) x163000 x163001 x163002) else (if x163000 = 14 then (camshaftref04_Right.j1 k x163000 (x163000 == 14) x163000 x163001 x163002) else (if x163000 = 17 then (camshaftref04_Right.j1 k x163000 (x163000 == 17) x163000 x163001 x163002) else (if x163000 = 18 then (camshaftref04_Right.j1 k x163000 (x163000 == 18) x163000 x163001 x163002) else (if x163000 = 23 then (camshaftref04_Right.j1 k x163000 (x163000 == 23) x163000 x163001 x163002) else (camshaftref04_Right.j1 k x163000 (x163000 == 24) x163000 x163001 x163002)))))))))
def camshaftref04_Right.j1 : Nat → Int → Bool → Int → Int → Int → Option (Bool)
 | 0, _, _, _, _, _ => none
 | k + 1, x30, x37, x163000, x163001, x163002 => if x37 = true then (if x163001 ≥ 0 then (if x163001 ≤ 7 then (if x163002 ≥ 0 then (some (decide (x163002 ≤ 7))) else (some false)) else (some false)) else (some false)) else (if x30 = 15 then (camshaftref04_Right.j2 k x30 (x30 == 15) x163000 x163001 x163002) else (camshaftref04_Right.j2 k x30 (x30 == 16) x163000 x163001 x163002))
def camshaftref04_Right.j2 : Nat → Int → Bool → Int → Int → Int → Option (Bool)
 | 0, _, _, _, _, _ => none
 | k + 1, x30, x64, x163000, x163001, x163002 => if x64 = true then (if x163001 ≥ 0 then (some (decide (x163001 ≤ 15))) else (some false)) else (if x30 = 19 then (camshaftref04_Right.j3 k x30 (x30 == 19) x163000 x163001 x163002) else (camshaftref04_Right.j3 k x30 (x30 == 20) x163000 x163001 x163002))
def camshaftref04_Right.j3 : Nat → Int → Bool → Int → Int → Int → Option (Bool)
 | 0, _, _, _, _, _ => none
 | k + 1, x30, x75, x163000, x163001, x163002 => if x75 = true then (if x163001 ≥ 0 then (some (decide (x163001 ≤ 199))) else (some false)) else (if x30 = 21 then (if x163001 ≥ 1 then (some (decide (x163001 ≤ 1000))) else (some false)) else (some true))
end
def camshaftref04_Right.f (k : Nat) (a0_0 : Int) (a0_1 : Int) (a0_2 : Int) : Option (Bool) := (camshaftref04_Name.f a0_0).bind fun t163 => (if t163.toList = ([] : List UInt8) then (camshaftref04_Right.j0 k true a0_0 a0_1 a0_2) else ((camshaftref04_Args.f a0_0).bind fun t164 => (if t164 < 2 then (if a0_2 = 0 then ((camshaftref04_Args.f a0_0).bind fun t165 => (if t165 < 1 then (camshaftref04_Right.j0 k (a0_1 != 0) a0_0 a0_1 a0_2) else (camshaftref04_Right.j0 k false a0_0 a0_1 a0_2))) else (camshaftref04_Right.j0 k true a0_0 a0_1 a0_2)) else ((camshaftref04_Args.f a0_0).bind fun t166 => (if t166 < 1 then (camshaftref04_Right.j0 k (a0_1 != 0) a0_0 a0_1 a0_2) else (camshaftref04_Right.j0 k false a0_0 a0_1 a0_2))))))
theorem camshaftref04_Right.mono_l : ∀ k, (∀ y0 y1 y2 y3, LeO (camshaftref04_Right.j0 k y0 y1 y2 y3) (camshaftref04_Right.j0 (k + 1) y0 y1 y2 y3)) ∧ (∀ y0 y1 y2 y3 y4, LeO (camshaftref04_Right.j1 k y0 y1 y2 y3 y4) (camshaftref04_Right.j1 (k + 1) y0 y1 y2 y3 y4)) ∧ (∀ y0 y1 y2 y3 y4, LeO (camshaftref04_Right.j2 k y0 y1 y2 y3 y4) (camshaftref04_Right.j2 (k + 1) y0 y1 y2 y3 y4)) ∧ (∀ y0 y1 y2 y3 y4, LeO (camshaftref04_Right.j3 k y0 y1 y2 y3 y4) (camshaftref04_Right.j3 (k + 1) y0 y1 y2 y3 y4))
 | 0 => ⟨fun _ _ _ _ r h => by simp [camshaftref04_Right.j0] at h, fun _ _ _ _ _ r h => by simp [camshaftref04_Right.j1] at h, fun _ _ _ _ _ r h => by simp [camshaftref04_Right.j2] at h, fun _ _ _ _ _ r h => by simp [camshaftref04_Right.j3] at h⟩
 | k + 1 => by
  obtain ⟨ih0, ih1, ih2, ih3⟩ := camshaftref04_Right.mono_l k
  refine ⟨?_, ?_, ?_, ?_⟩
  ·intro y0 y1 y2 y3
   unfold camshaftref04_Right.j0
   repeat' first
   | (with_reducible exact ih0 _ _ _ _)
   | (with_reducible exact ih1 _ _ _ _ _)
   | (with_reducible exact ih2 _ _ _ _ _)
   | (with_reducible exact ih3 _ _ _ _ _)
   | (with_reducible exact LeO.refl _)
   | (with_reducible exact LeO.none _)
   | (with_reducible refine LeO.ite ?_ ?_)
   | (with_reducible refine LeO.bind ?_ (fun _ => ?_))
   | exact ih0 _ _ _ _
   | exact ih1 _ _ _ _ _
   | exact ih2 _ _ _ _ _
   | exact ih3 _ _ _ _ _
   | exact LeO.none _
   | refine LeO.ite ?_ ?_
   | refine LeO.bind ?_ (fun _ => ?_)
  ·intro y0 y1 y2 y3 y4
   unfold camshaftref04_Right.j1
   repeat' first
   | (with_reducible exact ih0 _ _ _ _)
   | (with_reducible exact ih1 _ _ _ _ _)
   | (with_reducible exact ih2 _ _ _ _ _)
   | (with_reducible exact ih3 _ _ _ _ _)
   | (with_reducible exact LeO.refl _)
   | (with_reducible exact LeO.none _)
   | (with_reducible refine LeO.ite ?_ ?_)
   | (with_reducible refine LeO.bind ?_ (fun _ => ?_))
   | exact ih0 _ _ _ _
   | exact ih1 _ _ _ _ _
   | exact ih2 _ _ _ _ _
   | exact ih3 _ _ _ _ _
   | exact LeO.none _
   | refine LeO.ite ?_ ?_
   | refine LeO.bind ?_ (fun _ => ?_)
  ·intro y0 y1 y2 y3 y4
   unfold camshaftref04_Right.j2
   repeat' first
   | (with_reducible exact ih0 _ _ _ _)
   | (with_reducible exact ih1 _ _ _ _ _)
   | (with_reducible exact ih2 _ _ _ _ _)
   | (with_reducible exact ih3 _ _ _ _ _)
   | (with_reducible exact LeO.refl _)
   | (with_reducible exact LeO.none _)
   | (with_reducible refine LeO.ite ?_ ?_)
   | (with_reducible refine LeO.bind ?_ (fun _ => ?_))
   | exact ih0 _ _ _ _
   | exact ih1 _ _ _ _ _
   | exact ih2 _ _ _ _ _
   | exact ih3 _ _ _ _ _
   | exact LeO.none _
   | refine LeO.ite ?_ ?_
   | refine LeO.bind ?_ (fun _ => ?_)
  ·intro y0 y1 y2 y3 y4
   unfold camshaftref04_Right.j3
   repeat' first
   | (with_reducible exact ih0 _ _ _ _)
   | (with_reducible exact ih1 _ _ _ _ _)
   | (with_reducible exact ih2 _ _ _ _ _)
   | (with_reducible exact ih3 _ _ _ _ _)
   | (with_reducible exact LeO.refl _)
   | (with_reducible exact LeO.none _)
   | (with_reducible refine LeO.ite ?_ ?_)
   | (with_reducible refine LeO.bind ?_ (fun _ => ?_))
   | exact ih0 _ _ _ _
   | exact ih1 _ _ _ _ _
   | exact ih2 _ _ _ _ _
   | exact ih3 _ _ _ _ _
   | exact LeO.none _
   | refine LeO.ite ?_ ?_
   | refine LeO.bind ?_ (fun _ => ?_)
theorem camshaftref04_Right.mono : ∀ a0 a1 a2 k, LeO (camshaftref04_Right.f k a0 a1 a2) (camshaftref04_Right.f (k + 1) a0 a1 a2) := by
 intro a0 a1 a2 k
 obtain ⟨ih0, ih1, ih2, ih3⟩ := camshaftref04_Right.mono_l k
 unfold camshaftref04_Right.f
 repeat' first
   | (with_reducible exact ih0 _ _ _ _)
   | (with_reducible exact ih1 _ _ _ _ _)
   | (with_reducible exact ih2 _ _ _ _ _)
   | (with_reducible exact ih3 _ _ _ _ _)
   | (with_reducible exact LeO.refl _)
   | (with_reducible exact LeO.none _)
   | (with_reducible refine LeO.ite ?_ ?_)
   | (with_reducible refine LeO.bind ?_ (fun _ => ?_))
   | exact ih0 _ _ _ _
   | exact ih1 _ _ _ _ _
   | exact ih2 _ _ _ _ _
   | exact ih3 _ _ _ _ _
   | exact LeO.none _
   | refine LeO.ite ?_ ?_
   | refine LeO.bind ?_ (fun _ => ?_)
set_option maxHeartbeats 8000000 in
set_option maxRecDepth 100000 in
theorem camshaftref04_Right.calls (k : Nat) (a0_0 : Int) (a0_1 : Int) (a0_2 : Int) (r : Bool) (w : World) (h : camshaftref04_Right.f k a0_0 a0_1 a0_2 = some r) :
  Calls Try.prog 36 #[.agg #[.int .i64 a0_0, .int .i64 a0_1, .int .i64 a0_2]] w fun e w' => e = .returned (.bool r) ∧ Below w.heap.size w w' := by
 have hu37 := Try.underlying37
 have HB := Aside0.mk (Below.refl w.heap.size w)
 have H : ((camshaftref04_Name.f a0_0).bind fun t163 => (if t163.toList = ([] : List UInt8) then (camshaftref04_Right.j0 k true a0_0 a0_1 a0_2) else ((camshaftref04_Args.f a0_0).bind fun t164 => (if t164 < 2 then (if a0_2 = 0 then ((camshaftref04_Args.f a0_0).bind fun t165 => (if t165 < 1 then (camshaftref04_Right.j0 k (a0_1 != 0) a0_0 a0_1 a0_2) else (camshaftref04_Right.j0 k false a0_0 a0_1 a0_2))) else (camshaftref04_Right.j0 k true a0_0 a0_1 a0_2)) else ((camshaftref04_Args.f a0_0).bind fun t166 => (if t166 < 1 then (camshaftref04_Right.j0 k (a0_1 != 0) a0_0 a0_1 a0_2) else (camshaftref04_Right.j0 k false a0_0 a0_1 a0_2))))))) = some r := h
 clear h
 have HC2 := Aside0.mk H
 clear H
 go_enter Try.func36, Try.ntmps36
 go_upto_region 1 with (first | ((with_reducible refine gate_dst (N := 1) rfl ?_); refine box_event ?hg (N := 1) ?hd (cs := #[.int .i64 a0_0, .int .i64 a0_1, .int .i64 a0_2]) (t := 37) ?hr ?_; (case hd => rfl); (case hg => rfl); (case hr => first | (go_simp; done) | (go_simp; rfl)); intro gb162 hg w3 hbox hb; have n0_ := Aside0.mk (below_step ab_ hb); have n1_ := Aside0.mk (hbox); have n2_ := Aside0.mk ((by rw [hg]; exact (below_size ab_) : w.heap.size ≤ gb162)); have n3_ := Aside0.mk ((by rw [hg]; exact (below_size ab_) : w.heap.size ≤ gb162)); clear HB; have HB := n0_; have BK162 := n1_; have GW162 := n2_; have GE162 := n3_; clear n0_ n1_ n2_ n3_; clear hb hbox hg))
 (try simp only [Act.put, setIfInBounds_toArray,set_cons_zero,set_cons_succ])
 go_cut [28] (fun v28 wc => ∃ (kq : Nat) (x28_1 : Bool), v28 = .bool x28_1 ∧ Aside0 (camshaftref04_Right.j0 kq x28_1 a0_0 a0_1 a0_2 = some r) ∧ Aside0 (kq ≤ k) ∧ Aside0 (wc.heap[gb162]? = some (.cells #[.int .i64 a0_0, .int .i64 a0_1, .int .i64 a0_2] 37 (0, 0))) ∧ Aside0 (Below w.heap.size w wc))
 case first =>
  have H := HC2.out
  clear HC2
  replace H := Option.bind_eq_some_iff.mp H
  obtain ⟨t163, A40, H⟩ := H
  replace H : (if t163.toList = ([] : List UInt8) then (camshaftref04_Right.j0 k true a0_0 a0_1 a0_2) else ((camshaftref04_Args.f a0_0).bind fun t164 => (if t164 < 2 then (if a0_2 = 0 then ((camshaftref04_Args.f a0_0).bind fun t165 => (if t165 < 1 then (camshaftref04_Right.j0 k (a0_1 != 0) a0_0 a0_1 a0_2) else (camshaftref04_Right.j0 k false a0_0 a0_1 a0_2))) else (camshaftref04_Right.j0 k true a0_0 a0_1 a0_2)) else ((camshaftref04_Args.f a0_0).bind fun t166 => (if t166 < 1 then (camshaftref04_Right.j0 k (a0_1 != 0) a0_0 a0_1 a0_2) else (camshaftref04_Right.j0 k false a0_0 a0_1 a0_2)))))) = some r := H
  have A4 := Aside0.mk A40
  clear A40
  by_cases c5 : t163.toList = ([] : List UInt8)
  ·rw [if_pos c5] at H
   have c5b0 : (t163.toList == ([] : List UInt8)) = true := beq_iff_eq.mpr c5
   have c5b1 : (t163.toList != ([] : List UInt8)) = false := bne_eq_false_iff_eq.mpr c5
   clear c5
   (first | rw [c5b0] | (simp only [i64_w, i32_w]; rw [c5b0]) | rw [c5b1] | skip)
   have H' := Aside0.mk H
   clear H
   have hcz6_0 : w3.cell? ⟨gb162, 0, none⟩ = some (.int .i64 a0_0) := (blk_cell BK162.out 0).trans rfl
   have hcz6_1 : w3.cell? ⟨gb162, 1, none⟩ = some (.int .i64 a0_1) := (blk_cell BK162.out 1).trans rfl
   have hcz6_2 : w3.cell? ⟨gb162, 2, none⟩ = some (.int .i64 a0_2) := (blk_cell BK162.out 2).trans rfl
   have hfz6_0 := blk_frozen BK162.out 0
   have hfz6_1 := blk_frozen BK162.out 1
   have hfz6_2 := blk_frozen BK162.out 2
   go_wp2_with (first | ((with_reducible refine gate_callee (f := 45) rfl ?_); refine goesL_ (some 5) rfl rfl Try.func45 (by kernel_rfl) rfl #[.int .i64 a0_0] rfl am_ ?_; (with_reducible refine (camshaftref04_Name.calls a0_0 t163 _ A4.out).mono ?_); rintro e w7 ⟨rfl, hb⟩; refine ⟨_, rfl, ?_⟩; have n0_ := Aside0.mk (blk_below (g := gb162) (o := .cells #[.int .i64 a0_0, .int .i64 a0_1, .int .i64 a0_2] 37 (0, 0)) (by (with_reducible repeat (first | refine blk_drewN ?_ _ | refine blk_drew ?_ | refine blk_alloc ?_ _)); exact BK162.out) hb); have n1_ := Aside0.mk (below_step (by repeat (first | (with_reducible first | exact HB.out | apply below_alloc | apply pw_below_drewN | apply below_drew1 | refine below_set ?_ GE162.out) | exact HB.out)) hb); clear BK162; clear HB; have BK162 := n0_; have HB := n1_; clear n0_ n1_; (try clear hb); (try clear hb2); (try clear hk); (try clear hi)))
   go_meet
   case rel => exact ⟨_, (true), (by first | rfl | (simp; done) | (simp [*]; done)), H', ⟨by first | omega | exact Nat.le_refl _⟩, ⟨by (with_reducible repeat (first | refine blk_drewN ?_ _ | refine blk_drew ?_ | refine blk_alloc ?_ _)); exact BK162.out⟩, ⟨by repeat (first | (with_reducible first | exact HB.out | apply below_alloc | apply pw_below_drewN | apply below_drew1 | refine below_set ?_ GE162.out) | exact HB.out | exact Below.refl _ _)⟩⟩
  rw [if_neg c5] at H
  have c5b0 : (t163.toList == ([] : List UInt8)) = false := beq_eq_false_iff_ne.mpr c5
  have c5b1 : (t163.toList != ([] : List UInt8)) = true := bne_iff_ne.mpr c5
  (first | rw [c5b0] | (simp only [i64_w, i32_w]; rw [c5b0]) | rw [c5b1] | skip)
  replace H := Option.bind_eq_some_iff.mp H
  obtain ⟨t164, A80, H⟩ := H
  replace H : (if t164 < 2 then (if a0_2 = 0 then ((camshaftref04_Args.f a0_0).bind fun t165 => (if t165 < 1 then (camshaftref04_Right.j0 k (a0_1 != 0) a0_0 a0_1 a0_2) else (camshaftref04_Right.j0 k false a0_0 a0_1 a0_2))) else (camshaftref04_Right.j0 k true a0_0 a0_1 a0_2)) else ((camshaftref04_Args.f a0_0).bind fun t166 => (if t166 < 1 then (camshaftref04_Right.j0 k (a0_1 != 0) a0_0 a0_1 a0_2) else (camshaftref04_Right.j0 k false a0_0 a0_1 a0_2)))) = some r := H
  have A8 := Aside0.mk A80
  clear A80
  by_cases c9 : t164 < 2
  rotate_left
  ·rw [if_neg c9] at H
   have c9b0 : decide (t164 < 2) = false := decide_eq_false c9
   clear c9
   replace H := Option.bind_eq_some_iff.mp H
   obtain ⟨t166, A310, H⟩ := H
   replace H : (if t166 < 1 then (camshaftref04_Right.j0 k (a0_1 != 0) a0_0 a0_1 a0_2) else (camshaftref04_Right.j0 k false a0_0 a0_1 a0_2)) = some r := H
   have A31 := Aside0.mk A310
   clear A310
   by_cases c32 : t166 < 1
   rotate_left
   ·rw [if_neg c32] at H
    have c32b0 : decide (t166 < 1) = false := decide_eq_false c32
    clear c32
    have H' := Aside0.mk H
    clear H
    have hcz40_0 : w3.cell? ⟨gb162, 0, none⟩ = some (.int .i64 a0_0) := (blk_cell BK162.out 0).trans rfl
    have hcz40_1 : w3.cell? ⟨gb162, 1, none⟩ = some (.int .i64 a0_1) := (blk_cell BK162.out 1).trans rfl
    have hcz40_2 : w3.cell? ⟨gb162, 2, none⟩ = some (.int .i64 a0_2) := (blk_cell BK162.out 2).trans rfl
    have hfz40_0 := blk_frozen BK162.out 0
    have hfz40_1 := blk_frozen BK162.out 1
    have hfz40_2 := blk_frozen BK162.out 2
    go_wp2_with (first | ((with_reducible refine gate_callee (f := 45) rfl ?_); refine goesL_ (some 5) rfl rfl Try.func45 (by kernel_rfl) rfl #[.int .i64 a0_0] rfl am_ ?_; (with_reducible refine (camshaftref04_Name.calls a0_0 t163 _ A4.out).mono ?_); rintro e w41 ⟨rfl, hb⟩; refine ⟨_, rfl, ?_⟩; have n0_ := Aside0.mk (blk_below (g := gb162) (o := .cells #[.int .i64 a0_0, .int .i64 a0_1, .int .i64 a0_2] 37 (0, 0)) (by (with_reducible repeat (first | refine blk_drewN ?_ _ | refine blk_drew ?_ | refine blk_alloc ?_ _)); exact BK162.out) hb); have n1_ := Aside0.mk (below_step (by repeat (first | (with_reducible first | exact HB.out | apply below_alloc | apply pw_below_drewN | apply below_drew1 | refine below_set ?_ GE162.out) | exact HB.out)) hb); clear BK162; clear HB; have BK162 := n0_; have HB := n1_; clear n0_ n1_; (try clear hb); (try clear hb2); (try clear hk); (try clear hi); have hcz42_0 : w41.cell? ⟨gb162, 0, none⟩ = some (.int .i64 a0_0) := (blk_cell BK162.out 0).trans rfl; have hcz42_1 : w41.cell? ⟨gb162, 1, none⟩ = some (.int .i64 a0_1) := (blk_cell BK162.out 1).trans rfl; have hcz42_2 : w41.cell? ⟨gb162, 2, none⟩ = some (.int .i64 a0_2) := (blk_cell BK162.out 2).trans rfl; have hfz42_0 := blk_frozen BK162.out 0; have hfz42_1 := blk_frozen BK162.out 1; have hfz42_2 := blk_frozen BK162.out 2) | ((with_reducible refine gate_callee (f := 46) rfl ?_); (with_reducible refine gate_dst (N := 10) rfl ?_); (refine gate_guard (by rfl) ?_; dsimp only); refine goesL_ (some 10) rfl rfl Try.func46 (by kernel_rfl) rfl #[.int .i64 a0_0] rfl am_ ?_; (with_reducible refine (camshaftref04_Args.calls a0_0 t164 _ A8.out).mono ?_); rintro e w43 ⟨rfl, hb⟩; refine ⟨_, rfl, ?_⟩; have n0_ := Aside0.mk (blk_below (g := gb162) (o := .cells #[.int .i64 a0_0, .int .i64 a0_1, .int .i64 a0_2] 37 (0, 0)) (by (with_reducible repeat (first | refine blk_drewN ?_ _ | refine blk_drew ?_ | refine blk_alloc ?_ _)); exact BK162.out) hb); have n1_ := Aside0.mk (below_step (by repeat (first | (with_reducible first | exact HB.out | apply below_alloc | apply pw_below_drewN | apply below_drew1 | refine below_set ?_ GE162.out) | exact HB.out)) hb); clear BK162; clear HB; have BK162 := n0_; have HB := n1_; clear n0_ n1_; (try clear hb); (try clear hb2); (try clear hk); (try clear hi); have hcz44_0 : w43.cell? ⟨gb162, 0, none⟩ = some (.int .i64 a0_0) := (blk_cell BK162.out 0).trans rfl; have hcz44_1 : w43.cell? ⟨gb162, 1, none⟩ = some (.int .i64 a0_1) := (blk_cell BK162.out 1).trans rfl; have hcz44_2 : w43.cell? ⟨gb162, 2, none⟩ = some (.int .i64 a0_2) := (blk_cell BK162.out 2).trans rfl; have hfz44_0 := blk_frozen BK162.out 0; have hfz44_1 := blk_frozen BK162.out 1; have hfz44_2 := blk_frozen BK162.out 2) | ((with_reducible refine gate_callee (f := 46) rfl ?_); (with_reducible refine gate_dst (N := 21) rfl ?_); (refine gate_guard (by rfl) ?_; dsimp only); refine goesL_ (some 21) rfl rfl Try.func46 (by kernel_rfl) rfl #[.int .i64 a0_0] rfl am_ ?_; (with_reducible refine (camshaftref04_Args.calls a0_0 t166 _ A31.out).mono ?_); rintro e w45 ⟨rfl, hb⟩; refine ⟨_, rfl, ?_⟩; have n0_ := Aside0.mk (blk_below (g := gb162) (o := .cells #[.int .i64 a0_0, .int .i64 a0_1, .int .i64 a0_2] 37 (0, 0)) (by (with_reducible repeat (first | refine blk_drewN ?_ _ | refine blk_drew ?_ | refine blk_alloc ?_ _)); exact BK162.out) hb); have n1_ := Aside0.mk (below_step (by repeat (first | (with_reducible first | exact HB.out | apply below_alloc | apply pw_below_drewN | apply below_drew1 | refine below_set ?_ GE162.out) | exact HB.out)) hb); clear BK162; clear HB; have BK162 := n0_; have HB := n1_; clear n0_ n1_; (try clear hb); (try clear hb2); (try clear hk); (try clear hi)))
    go_meet
    case rel => exact ⟨_, (false), (by first | rfl | (simp; done) | (simp [*]; done)), H', ⟨by first | omega | exact Nat.le_refl _⟩, ⟨by (with_reducible repeat (first | refine blk_drewN ?_ _ | refine blk_drew ?_ | refine blk_alloc ?_ _)); exact BK162.out⟩, ⟨by repeat (first | (with_reducible first | exact HB.out | apply below_alloc | apply pw_below_drewN | apply below_drew1 | refine below_set ?_ GE162.out) | exact HB.out | exact Below.refl _ _)⟩⟩
   rw [if_pos c32] at H
   have c32b0 : decide (t166 < 1) = true := decide_eq_true c32
   clear c32
   have H' := Aside0.mk H
   clear H
   have hcz33_0 : w3.cell? ⟨gb162, 0, none⟩ = some (.int .i64 a0_0) := (blk_cell BK162.out 0).trans rfl
   have hcz33_1 : w3.cell? ⟨gb162, 1, none⟩ = some (.int .i64 a0_1) := (blk_cell BK162.out 1).trans rfl
   have hcz33_2 : w3.cell? ⟨gb162, 2, none⟩ = some (.int .i64 a0_2) := (blk_cell BK162.out 2).trans rfl
   have hfz33_0 := blk_frozen BK162.out 0
   have hfz33_1 := blk_frozen BK162.out 1
   have hfz33_2 := blk_frozen BK162.out 2
   go_wp2_with (first | ((with_reducible refine gate_callee (f := 45) rfl ?_); refine goesL_ (some 5) rfl rfl Try.func45 (by kernel_rfl) rfl #[.int .i64 a0_0] rfl am_ ?_; (with_reducible refine (camshaftref04_Name.calls a0_0 t163 _ A4.out).mono ?_); rintro e w34 ⟨rfl, hb⟩; refine ⟨_, rfl, ?_⟩; have n0_ := Aside0.mk (blk_below (g := gb162) (o := .cells #[.int .i64 a0_0, .int .i64 a0_1, .int .i64 a0_2] 37 (0, 0)) (by (with_reducible repeat (first | refine blk_drewN ?_ _ | refine blk_drew ?_ | refine blk_alloc ?_ _)); exact BK162.out) hb); have n1_ := Aside0.mk (below_step (by repeat (first | (with_reducible first | exact HB.out | apply below_alloc | apply pw_below_drewN | apply below_drew1 | refine below_set ?_ GE162.out) | exact HB.out)) hb); clear BK162; clear HB; have BK162 := n0_; have HB := n1_; clear n0_ n1_; (try clear hb); (try clear hb2); (try clear hk); (try clear hi); have hcz35_0 : w34.cell? ⟨gb162, 0, none⟩ = some (.int .i64 a0_0) := (blk_cell BK162.out 0).trans rfl; have hcz35_1 : w34.cell? ⟨gb162, 1, none⟩ = some (.int .i64 a0_1) := (blk_cell BK162.out 1).trans rfl; have hcz35_2 : w34.cell? ⟨gb162, 2, none⟩ = some (.int .i64 a0_2) := (blk_cell BK162.out 2).trans rfl; have hfz35_0 := blk_frozen BK162.out 0; have hfz35_1 := blk_frozen BK162.out 1; have hfz35_2 := blk_frozen BK162.out 2) | ((with_reducible refine gate_callee (f := 46) rfl ?_); (with_reducible refine gate_dst (N := 10) rfl ?_); (refine gate_guard (by rfl) ?_; dsimp only); refine goesL_ (some 10) rfl rfl Try.func46 (by kernel_rfl) rfl #[.int .i64 a0_0] rfl am_ ?_; (with_reducible refine (camshaftref04_Args.calls a0_0 t164 _ A8.out).mono ?_); rintro e w36 ⟨rfl, hb⟩; refine ⟨_, rfl, ?_⟩; have n0_ := Aside0.mk (blk_below (g := gb162) (o := .cells #[.int .i64 a0_0, .int .i64 a0_1, .int .i64 a0_2] 37 (0, 0)) (by (with_reducible repeat (first | refine blk_drewN ?_ _ | refine blk_drew ?_ | refine blk_alloc ?_ _)); exact BK162.out) hb); have n1_ := Aside0.mk (below_step (by repeat (first | (with_reducible first | exact HB.out | apply below_alloc | apply pw_below_drewN | apply below_drew1 | refine below_set ?_ GE162.out) | exact HB.out)) hb); clear BK162; clear HB; have BK162 := n0_; have HB := n1_; clear n0_ n1_; (try clear hb); (try clear hb2); (try clear hk); (try clear hi); have hcz37_0 : w36.cell? ⟨gb162, 0, none⟩ = some (.int .i64 a0_0) := (blk_cell BK162.out 0).trans rfl; have hcz37_1 : w36.cell? ⟨gb162, 1, none⟩ = some (.int .i64 a0_1) := (blk_cell BK162.out 1).trans rfl; have hcz37_2 : w36.cell? ⟨gb162, 2, none⟩ = some (.int .i64 a0_2) := (blk_cell BK162.out 2).trans rfl; have hfz37_0 := blk_frozen BK162.out 0; have hfz37_1 := blk_frozen BK162.out 1; have hfz37_2 := blk_frozen BK162.out 2) | ((with_reducible refine gate_callee (f := 46) rfl ?_); (with_reducible refine gate_dst (N := 21) rfl ?_); (refine gate_guard (by rfl) ?_; dsimp only); refine goesL_ (some 21) rfl rfl Try.func46 (by kernel_rfl) rfl #[.int .i64 a0_0] rfl am_ ?_; (with_reducible refine (camshaftref04_Args.calls a0_0 t166 _ A31.out).mono ?_); rintro e w38 ⟨rfl, hb⟩; refine ⟨_, rfl, ?_⟩; have n0_ := Aside0.mk (blk_below (g := gb162) (o := .cells #[.int .i64 a0_0, .int .i64 a0_1, .int .i64 a0_2] 37 (0, 0)) (by (with_reducible repeat (first | refine blk_drewN ?_ _ | refine blk_drew ?_ | refine blk_alloc ?_ _)); exact BK162.out) hb); have n1_ := Aside0.mk (below_step (by repeat (first | (with_reducible first | exact HB.out | apply below_alloc | apply pw_below_drewN | apply below_drew1 | refine below_set ?_ GE162.out) | exact HB.out)) hb); clear BK162; clear HB; have BK162 := n0_; have HB := n1_; clear n0_ n1_; (try clear hb); (try clear hb2); (try clear hk); (try clear hi); have hcz39_0 : w38.cell? ⟨gb162, 0, none⟩ = some (.int .i64 a0_0) := (blk_cell BK162.out 0).trans rfl; have hcz39_1 : w38.cell? ⟨gb162, 1, none⟩ = some (.int .i64 a0_1) := (blk_cell BK162.out 1).trans rfl; have hcz39_2 : w38.cell? ⟨gb162, 2, none⟩ = some (.int .i64 a0_2) := (blk_cell BK162.out 2).trans rfl; have hfz39_0 := blk_frozen BK162.out 0; have hfz39_1 := blk_frozen BK162.out 1; have hfz39_2 := blk_frozen BK162.out 2))
   go_meet
   case rel => exact ⟨_, ((a0_1 != 0)), (by first | rfl | (simp; done) | (simp [*]; done)), H', ⟨by first | omega | exact Nat.le_refl _⟩, ⟨by (with_reducible repeat (first | refine blk_drewN ?_ _ | refine blk_drew ?_ | refine blk_alloc ?_ _)); exact BK162.out⟩, ⟨by repeat (first | (with_reducible first | exact HB.out | apply below_alloc | apply pw_below_drewN | apply below_drew1 | refine below_set ?_ GE162.out) | exact HB.out | exact Below.refl _ _)⟩⟩
  rw [if_pos c9] at H
  have c9b0 : decide (t164 < 2) = true := decide_eq_true c9
  clear c9
  by_cases c10 : a0_2 = 0
  rotate_left
  ·rw [if_neg c10] at H
   have c10b0 : (a0_2 == 0) = false := beq_eq_false_iff_ne.mpr c10
   have c10b1 : (a0_2 != 0) = true := bne_iff_ne.mpr c10
   have H' := Aside0.mk H
   clear H
   have hcz26_0 : w3.cell? ⟨gb162, 0, none⟩ = some (.int .i64 a0_0) := (blk_cell BK162.out 0).trans rfl
   have hcz26_1 : w3.cell? ⟨gb162, 1, none⟩ = some (.int .i64 a0_1) := (blk_cell BK162.out 1).trans rfl
   have hcz26_2 : w3.cell? ⟨gb162, 2, none⟩ = some (.int .i64 a0_2) := (blk_cell BK162.out 2).trans rfl
   have hfz26_0 := blk_frozen BK162.out 0
   have hfz26_1 := blk_frozen BK162.out 1
   have hfz26_2 := blk_frozen BK162.out 2
   go_wp2_with (first | ((with_reducible refine gate_callee (f := 45) rfl ?_); refine goesL_ (some 5) rfl rfl Try.func45 (by kernel_rfl) rfl #[.int .i64 a0_0] rfl am_ ?_; (with_reducible refine (camshaftref04_Name.calls a0_0 t163 _ A4.out).mono ?_); rintro e w27 ⟨rfl, hb⟩; refine ⟨_, rfl, ?_⟩; have n0_ := Aside0.mk (blk_below (g := gb162) (o := .cells #[.int .i64 a0_0, .int .i64 a0_1, .int .i64 a0_2] 37 (0, 0)) (by (with_reducible repeat (first | refine blk_drewN ?_ _ | refine blk_drew ?_ | refine blk_alloc ?_ _)); exact BK162.out) hb); have n1_ := Aside0.mk (below_step (by repeat (first | (with_reducible first | exact HB.out | apply below_alloc | apply pw_below_drewN | apply below_drew1 | refine below_set ?_ GE162.out) | exact HB.out)) hb); clear BK162; clear HB; have BK162 := n0_; have HB := n1_; clear n0_ n1_; (try clear hb); (try clear hb2); (try clear hk); (try clear hi); have hcz28_0 : w27.cell? ⟨gb162, 0, none⟩ = some (.int .i64 a0_0) := (blk_cell BK162.out 0).trans rfl; have hcz28_1 : w27.cell? ⟨gb162, 1, none⟩ = some (.int .i64 a0_1) := (blk_cell BK162.out 1).trans rfl; have hcz28_2 : w27.cell? ⟨gb162, 2, none⟩ = some (.int .i64 a0_2) := (blk_cell BK162.out 2).trans rfl; have hfz28_0 := blk_frozen BK162.out 0; have hfz28_1 := blk_frozen BK162.out 1; have hfz28_2 := blk_frozen BK162.out 2) | ((with_reducible refine gate_callee (f := 46) rfl ?_); (with_reducible refine gate_dst (N := 10) rfl ?_); (refine gate_guard (by rfl) ?_; dsimp only); refine goesL_ (some 10) rfl rfl Try.func46 (by kernel_rfl) rfl #[.int .i64 a0_0] rfl am_ ?_; (with_reducible refine (camshaftref04_Args.calls a0_0 t164 _ A8.out).mono ?_); rintro e w29 ⟨rfl, hb⟩; refine ⟨_, rfl, ?_⟩; have n0_ := Aside0.mk (blk_below (g := gb162) (o := .cells #[.int .i64 a0_0, .int .i64 a0_1, .int .i64 a0_2] 37 (0, 0)) (by (with_reducible repeat (first | refine blk_drewN ?_ _ | refine blk_drew ?_ | refine blk_alloc ?_ _)); exact BK162.out) hb); have n1_ := Aside0.mk (below_step (by repeat (first | (with_reducible first | exact HB.out | apply below_alloc | apply pw_below_drewN | apply below_drew1 | refine below_set ?_ GE162.out) | exact HB.out)) hb); clear BK162; clear HB; have BK162 := n0_; have HB := n1_; clear n0_ n1_; (try clear hb); (try clear hb2); (try clear hk); (try clear hi); have hcz30_0 : w29.cell? ⟨gb162, 0, none⟩ = some (.int .i64 a0_0) := (blk_cell BK162.out 0).trans rfl; have hcz30_1 : w29.cell? ⟨gb162, 1, none⟩ = some (.int .i64 a0_1) := (blk_cell BK162.out 1).trans rfl; have hcz30_2 : w29.cell? ⟨gb162, 2, none⟩ = some (.int .i64 a0_2) := (blk_cell BK162.out 2).trans rfl; have hfz30_0 := blk_frozen BK162.out 0; have hfz30_1 := blk_frozen BK162.out 1; have hfz30_2 := blk_frozen BK162.out 2))
   go_meet
   case rel => exact ⟨_, (true), (by first | rfl | (simp; done) | (simp [*]; done)), H', ⟨by first | omega | exact Nat.le_refl _⟩, ⟨by (with_reducible repeat (first | refine blk_drewN ?_ _ | refine blk_drew ?_ | refine blk_alloc ?_ _)); exact BK162.out⟩, ⟨by repeat (first | (with_reducible first | exact HB.out | apply below_alloc | apply pw_below_drewN | apply below_drew1 | refine below_set ?_ GE162.out) | exact HB.out | exact Below.refl _ _)⟩⟩
  rw [if_pos c10] at H
  have c10b0 : (a0_2 == 0) = true := beq_iff_eq.mpr c10
  have c10b1 : (a0_2 != 0) = false := bne_eq_false_iff_eq.mpr c10
  clear c10
  replace H := Option.bind_eq_some_iff.mp H
  obtain ⟨t165, A110, H⟩ := H
  replace H : (if t165 < 1 then (camshaftref04_Right.j0 k (a0_1 != 0) a0_0 a0_1 a0_2) else (camshaftref04_Right.j0 k false a0_0 a0_1 a0_2)) = some r := H
  have A11 := Aside0.mk A110
  clear A110
  by_cases c12 : t165 < 1
  rotate_left
  ·rw [if_neg c12] at H
   have c12b0 : decide (t165 < 1) = false := decide_eq_false c12
   clear c12
   have H' := Aside0.mk H
   clear H
   have hcz20_0 : w3.cell? ⟨gb162, 0, none⟩ = some (.int .i64 a0_0) := (blk_cell BK162.out 0).trans rfl
   have hcz20_1 : w3.cell? ⟨gb162, 1, none⟩ = some (.int .i64 a0_1) := (blk_cell BK162.out 1).trans rfl
   have hcz20_2 : w3.cell? ⟨gb162, 2, none⟩ = some (.int .i64 a0_2) := (blk_cell BK162.out 2).trans rfl
   have hfz20_0 := blk_frozen BK162.out 0
   have hfz20_1 := blk_frozen BK162.out 1
   have hfz20_2 := blk_frozen BK162.out 2
   go_wp2_with (first | ((with_reducible refine gate_callee (f := 45) rfl ?_); refine goesL_ (some 5) rfl rfl Try.func45 (by kernel_rfl) rfl #[.int .i64 a0_0] rfl am_ ?_; (with_reducible refine (camshaftref04_Name.calls a0_0 t163 _ A4.out).mono ?_); rintro e w21 ⟨rfl, hb⟩; refine ⟨_, rfl, ?_⟩; have n0_ := Aside0.mk (blk_below (g := gb162) (o := .cells #[.int .i64 a0_0, .int .i64 a0_1, .int .i64 a0_2] 37 (0, 0)) (by (with_reducible repeat (first | refine blk_drewN ?_ _ | refine blk_drew ?_ | refine blk_alloc ?_ _)); exact BK162.out) hb); have n1_ := Aside0.mk (below_step (by repeat (first | (with_reducible first | exact HB.out | apply below_alloc | apply pw_below_drewN | apply below_drew1 | refine below_set ?_ GE162.out) | exact HB.out)) hb); clear BK162; clear HB; have BK162 := n0_; have HB := n1_; clear n0_ n1_; (try clear hb); (try clear hb2); (try clear hk); (try clear hi); have hcz22_0 : w21.cell? ⟨gb162, 0, none⟩ = some (.int .i64 a0_0) := (blk_cell BK162.out 0).trans rfl; have hcz22_1 : w21.cell? ⟨gb162, 1, none⟩ = some (.int .i64 a0_1) := (blk_cell BK162.out 1).trans rfl; have hcz22_2 : w21.cell? ⟨gb162, 2, none⟩ = some (.int .i64 a0_2) := (blk_cell BK162.out 2).trans rfl; have hfz22_0 := blk_frozen BK162.out 0; have hfz22_1 := blk_frozen BK162.out 1; have hfz22_2 := blk_frozen BK162.out 2) | ((with_reducible refine gate_callee (f := 46) rfl ?_); (with_reducible refine gate_dst (N := 10) rfl ?_); (refine gate_guard (by rfl) ?_; dsimp only); refine goesL_ (some 10) rfl rfl Try.func46 (by kernel_rfl) rfl #[.int .i64 a0_0] rfl am_ ?_; (with_reducible refine (camshaftref04_Args.calls a0_0 t164 _ A8.out).mono ?_); rintro e w23 ⟨rfl, hb⟩; refine ⟨_, rfl, ?_⟩; have n0_ := Aside0.mk (blk_below (g := gb162) (o := .cells #[.int .i64 a0_0, .int .i64 a0_1, .int .i64 a0_2] 37 (0, 0)) (by (with_reducible repeat (first | refine blk_drewN ?_ _ | refine blk_drew ?_ | refine blk_alloc ?_ _)); exact BK162.out) hb); have n1_ := Aside0.mk (below_step (by repeat (first | (with_reducible first | exact HB.out | apply below_alloc | apply pw_below_drewN | apply below_drew1 | refine below_set ?_ GE162.out) | exact HB.out)) hb); clear BK162; clear HB; have BK162 := n0_; have HB := n1_; clear n0_ n1_; (try clear hb); (try clear hb2); (try clear hk); (try clear hi); have hcz24_0 : w23.cell? ⟨gb162, 0, none⟩ = some (.int .i64 a0_0) := (blk_cell BK162.out 0).trans rfl; have hcz24_1 : w23.cell? ⟨gb162, 1, none⟩ = some (.int .i64 a0_1) := (blk_cell BK162.out 1).trans rfl; have hcz24_2 : w23.cell? ⟨gb162, 2, none⟩ = some (.int .i64 a0_2) := (blk_cell BK162.out 2).trans rfl; have hfz24_0 := blk_frozen BK162.out 0; have hfz24_1 := blk_frozen BK162.out 1; have hfz24_2 := blk_frozen BK162.out 2) | ((with_reducible refine gate_callee (f := 46) rfl ?_); (with_reducible refine gate_dst (N := 21) rfl ?_); (refine gate_guard (by rfl) ?_; dsimp only); refine goesL_ (some 21) rfl rfl Try.func46 (by kernel_rfl) rfl #[.int .i64 a0_0] rfl am_ ?_; (with_reducible refine (camshaftref04_Args.calls a0_0 t165 _ A11.out).mono ?_); rintro e w25 ⟨rfl, hb⟩; refine ⟨_, rfl, ?_⟩; have n0_ := Aside0.mk (blk_below (g := gb162) (o := .cells #[.int .i64 a0_0, .int .i64 a0_1, .int .i64 a0_2] 37 (0, 0)) (by (with_reducible repeat (first | refine blk_drewN ?_ _ | refine blk_drew ?_ | refine blk_alloc ?_ _)); exact BK162.out) hb); have n1_ := Aside0.mk (below_step (by repeat (first | (with_reducible first | exact HB.out | apply below_alloc | apply pw_below_drewN | apply below_drew1 | refine below_set ?_ GE162.out) | exact HB.out)) hb); clear BK162; clear HB; have BK162 := n0_; have HB := n1_; clear n0_ n1_; (try clear hb); (try clear hb2); (try clear hk); (try clear hi)))
   go_meet
   case rel => exact ⟨_, (false), (by first | rfl | (simp; done) | (simp [*]; done)), H', ⟨by first | omega | exact Nat.le_refl _⟩, ⟨by (with_reducible repeat (first | refine blk_drewN ?_ _ | refine blk_drew ?_ | refine blk_alloc ?_ _)); exact BK162.out⟩, ⟨by repeat (first | (with_reducible first | exact HB.out | apply below_alloc | apply pw_below_drewN | apply below_drew1 | refine below_set ?_ GE162.out) | exact HB.out | exact Below.refl _ _)⟩⟩
  rw [if_pos c12] at H
  have c12b0 : decide (t165 < 1) = true := decide_eq_true c12
  clear c12
  have H' := Aside0.mk H
  clear H
  have hcz13_0 : w3.cell? ⟨gb162, 0, none⟩ = some (.int .i64 a0_0) := (blk_cell BK162.out 0).trans rfl
  have hcz13_1 : w3.cell? ⟨gb162, 1, none⟩ = some (.int .i64 a0_1) := (blk_cell BK162.out 1).trans rfl
  have hcz13_2 : w3.cell? ⟨gb162, 2, none⟩ = some (.int .i64 a0_2) := (blk_cell BK162.out 2).trans rfl
  have hfz13_0 := blk_frozen BK162.out 0
  have hfz13_1 := blk_frozen BK162.out 1
  have hfz13_2 := blk_frozen BK162.out 2
  go_wp2_with (first | ((with_reducible refine gate_callee (f := 45) rfl ?_); refine goesL_ (some 5) rfl rfl Try.func45 (by kernel_rfl) rfl #[.int .i64 a0_0] rfl am_ ?_; (with_reducible refine (camshaftref04_Name.calls a0_0 t163 _ A4.out).mono ?_); rintro e w14 ⟨rfl, hb⟩; refine ⟨_, rfl, ?_⟩; have n0_ := Aside0.mk (blk_below (g := gb162) (o := .cells #[.int .i64 a0_0, .int .i64 a0_1, .int .i64 a0_2] 37 (0, 0)) (by (with_reducible repeat (first | refine blk_drewN ?_ _ | refine blk_drew ?_ | refine blk_alloc ?_ _)); exact BK162.out) hb); have n1_ := Aside0.mk (below_step (by repeat (first | (with_reducible first | exact HB.out | apply below_alloc | apply pw_below_drewN | apply below_drew1 | refine below_set ?_ GE162.out) | exact HB.out)) hb); clear BK162; clear HB; have BK162 := n0_; have HB := n1_; clear n0_ n1_; (try clear hb); (try clear hb2); (try clear hk); (try clear hi); have hcz15_0 : w14.cell? ⟨gb162, 0, none⟩ = some (.int .i64 a0_0) := (blk_cell BK162.out 0).trans rfl; have hcz15_1 : w14.cell? ⟨gb162, 1, none⟩ = some (.int .i64 a0_1) := (blk_cell BK162.out 1).trans rfl; have hcz15_2 : w14.cell? ⟨gb162, 2, none⟩ = some (.int .i64 a0_2) := (blk_cell BK162.out 2).trans rfl; have hfz15_0 := blk_frozen BK162.out 0; have hfz15_1 := blk_frozen BK162.out 1; have hfz15_2 := blk_frozen BK162.out 2) | ((with_reducible refine gate_callee (f := 46) rfl ?_); (with_reducible refine gate_dst (N := 10) rfl ?_); (refine gate_guard (by rfl) ?_; dsimp only); refine goesL_ (some 10) rfl rfl Try.func46 (by kernel_rfl) rfl #[.int .i64 a0_0] rfl am_ ?_; (with_reducible refine (camshaftref04_Args.calls a0_0 t164 _ A8.out).mono ?_); rintro e w16 ⟨rfl, hb⟩; refine ⟨_, rfl, ?_⟩; have n0_ := Aside0.mk (blk_below (g := gb162) (o := .cells #[.int .i64 a0_0, .int .i64 a0_1, .int .i64 a0_2] 37 (0, 0)) (by (with_reducible repeat (first | refine blk_drewN ?_ _ | refine blk_drew ?_ | refine blk_alloc ?_ _)); exact BK162.out) hb); have n1_ := Aside0.mk (below_step (by repeat (first | (with_reducible first | exact HB.out | apply below_alloc | apply pw_below_drewN | apply below_drew1 | refine below_set ?_ GE162.out) | exact HB.out)) hb); clear BK162; clear HB; have BK162 := n0_; have HB := n1_; clear n0_ n1_; (try clear hb); (try clear hb2); (try clear hk); (try clear hi); have hcz17_0 : w16.cell? ⟨gb162, 0, none⟩ = some (.int .i64 a0_0) := (blk_cell BK162.out 0).trans rfl; have hcz17_1 : w16.cell? ⟨gb162, 1, none⟩ = some (.int .i64 a0_1) := (blk_cell BK162.out 1).trans rfl; have hcz17_2 : w16.cell? ⟨gb162, 2, none⟩ = some (.int .i64 a0_2) := (blk_cell BK162.out 2).trans rfl; have hfz17_0 := blk_frozen BK162.out 0; have hfz17_1 := blk_frozen BK162.out 1; have hfz17_2 := blk_frozen BK162.out 2) | ((with_reducible refine gate_callee (f := 46) rfl ?_); (with_reducible refine gate_dst (N := 21) rfl ?_); (refine gate_guard (by rfl) ?_; dsimp only); refine goesL_ (some 21) rfl rfl Try.func46 (by kernel_rfl) rfl #[.int .i64 a0_0] rfl am_ ?_; (with_reducible refine (camshaftref04_Args.calls a0_0 t165 _ A11.out).mono ?_); rintro e w18 ⟨rfl, hb⟩; refine ⟨_, rfl, ?_⟩; have n0_ := Aside0.mk (blk_below (g := gb162) (o := .cells #[.int .i64 a0_0, .int .i64 a0_1, .int .i64 a0_2] 37 (0, 0)) (by (with_reducible repeat (first | refine blk_drewN ?_ _ | refine blk_drew ?_ | refine blk_alloc ?_ _)); exact BK162.out) hb); have n1_ := Aside0.mk (below_step (by repeat (first | (with_reducible first | exact HB.out | apply below_alloc | apply pw_below_drewN | apply below_drew1 | refine below_set ?_ GE162.out) | exact HB.out)) hb); clear BK162; clear HB; have BK162 := n0_; have HB := n1_; clear n0_ n1_; (try clear hb); (try clear hb2); (try clear hk); (try clear hi); have hcz19_0 : w18.cell? ⟨gb162, 0, none⟩ = some (.int .i64 a0_0) := (blk_cell BK162.out 0).trans rfl; have hcz19_1 : w18.cell? ⟨gb162, 1, none⟩ = some (.int .i64 a0_1) := (blk_cell BK162.out 1).trans rfl; have hcz19_2 : w18.cell? ⟨gb162, 2, none⟩ = some (.int .i64 a0_2) := (blk_cell BK162.out 2).trans rfl; have hfz19_0 := blk_frozen BK162.out 0; have hfz19_1 := blk_frozen BK162.out 1; have hfz19_2 := blk_frozen BK162.out 2))
  go_meet
  case rel => exact ⟨_, ((a0_1 != 0)), (by first | rfl | (simp; done) | (simp [*]; done)), H', ⟨by first | omega | exact Nat.le_refl _⟩, ⟨by (with_reducible repeat (first | refine blk_drewN ?_ _ | refine blk_drew ?_ | refine blk_alloc ?_ _)); exact BK162.out⟩, ⟨by repeat (first | (with_reducible first | exact HB.out | apply below_alloc | apply pw_below_drewN | apply below_drew1 | refine below_set ?_ GE162.out) | exact HB.out | exact Below.refl _ _)⟩⟩
 case rest =>
  clear HC2
  try clear c1
  try clear p2
  try clear c3
  try clear c4
  try clear c5
  try clear c5b0
  try clear c5b1
  try clear c9
  try clear c9b0
  try clear c10
  try clear c10b0
  try clear c10b1
  try clear c12
  try clear c12b0
  try clear c32
  try clear c32b0
  try clear c36
  try clear c45
  try clear hcz13_0
  try clear hcz13_1
  try clear hcz13_2
  try clear hcz15_0
  try clear hcz15_1
  try clear hcz15_2
  try clear hcz17_0
  try clear hcz17_1
  try clear hcz17_2
  try clear hcz19_0
  try clear hcz19_1
  try clear hcz19_2
  try clear hcz20_0
  try clear hcz20_1
  try clear hcz20_2
  try clear hcz22_0
  try clear hcz22_1
  try clear hcz22_2
  try clear hcz24_0
  try clear hcz24_1
  try clear hcz24_2
  try clear hcz26_0
  try clear hcz26_1
  try clear hcz26_2
  try clear hcz28_0
  try clear hcz28_1
  try clear hcz28_2
  try clear hcz30_0
  try clear hcz30_1
  try clear hcz30_2
  try clear hcz33_0
  try clear hcz33_1
  try clear hcz33_2
  try clear hcz35_0
  try clear hcz35_1
  try clear hcz35_2
  try clear hcz37_0
  try clear hcz37_1
  try clear hcz37_2
  try clear hcz39_0
  try clear hcz39_1
  try clear hcz39_2
  try clear hcz40_0
  try clear hcz40_1
  try clear hcz40_2
  try clear hcz42_0
  try clear hcz42_1
  try clear hcz42_2
  try clear hcz44_0
  try clear hcz44_1
  try clear hcz44_2
  try clear hcz6_0
  try clear hcz6_1
  try clear hcz6_2
  try clear hfz13_0
  try clear hfz13_1
  try clear hfz13_2
  try clear hfz15_0
  try clear hfz15_1
  try clear hfz15_2
  try clear hfz17_0
  try clear hfz17_1
  try clear hfz17_2
  try clear hfz19_0
  try clear hfz19_1
  try clear hfz19_2
  try clear hfz20_0
  try clear hfz20_1
  try clear hfz20_2
  try clear hfz22_0
  try clear hfz22_1
  try clear hfz22_2
  try clear hfz24_0
  try clear hfz24_1
  try clear hfz24_2
  try clear hfz26_0
  try clear hfz26_1
  try clear hfz26_2
  try clear hfz28_0
  try clear hfz28_1
  try clear hfz28_2
  try clear hfz30_0
  try clear hfz30_1
  try clear hfz30_2
  try clear hfz33_0
  try clear hfz33_1
  try clear hfz33_2
  try clear hfz35_0
  try clear hfz35_1
  try clear hfz35_2
  try clear hfz37_0
  try clear hfz37_1
  try clear hfz37_2
  try clear hfz39_0
  try clear hfz39_1
  try clear hfz39_2
  try clear hfz40_0
  try clear hfz40_1
  try clear hfz40_2
  try clear hfz42_0
  try clear hfz42_1
  try clear hfz42_2
  try clear hfz44_0
  try clear hfz44_1
  try clear hfz44_2
  try clear hfz6_0
  try clear hfz6_1
  try clear hfz6_2
  obtain ⟨kq, x28_1, rfl, HA, HJ1, BK162, HB⟩ := hcut
  cases kq with
  | zero => exact absurd HA.out (by simp [camshaftref04_Right.j0])
  | succ kj1 =>
   have H := HA.out
   clear HA
   simp only [camshaftref04_Right.j0] at H
   by_cases c46 : x28_1 = true
   ·subst c46
    have H1 : (some false) = some r := by rw [if_pos rfl] at H; exact H
    clear H
    have H := H1
    clear H1
    obtain rfl := Option.some.inj H
    go_wp2
    go_ret
    exact ⟨by first | rfl | (rw [bne_nil_eq]; rfl) | (simp [bne_nil_eq]; done) | (simp [errW_none, errW_some] <;> rfl) | (simp [*, errW_none, errW_some] <;> rfl), by repeat (first | (with_reducible first | exact HB.out | apply below_alloc | apply pw_below_drewN | apply below_drew1 | refine below_set ?_ GE162.out) | exact HB.out | exact Below.refl _ _)⟩
   replace c46 := Bool.eq_false_iff.mpr c46
   subst c46
   have H1 : (if a0_0 = 5 then ((camshaftref01_Name.f a0_1).bind fun t167 => (some (t167.toList != ([] : List UInt8)))) else (if a0_0 = 11 then (camshaftref04_Right.j1 kj1 a0_0 (a0_0 == 11) a0_0 a0_1 a0_2) else (if a0_0 = 12 then (camshaftref04_Right.j1 kj1 a0_0 (a0_0 == 12) a0_0 a0_1 a0_2) else (if a0_0 = 13 then (camshaftref04_Right.j1 kj1 a0_0 (a0_0 == 13) a0_0 a0_1 a0_2) else (if a0_0 = 14 then (camshaftref04_Right.j1 kj1 a0_0 (a0_0 == 14) a0_0 a0_1 a0_2) else (if a0_0 = 17 then (camshaftref04_Right.j1 kj1 a0_0 (a0_0 == 17) a0_0 a0_1 a0_2) else (if a0_0 = 18 then (camshaftref04_Right.j1 kj1 a0_0 (a0_0 == 18) a0_0 a0_1 a0_2) else (if a0_0 = 23 then (camshaftref04_Right.j1 kj1 a0_0 (a0_0 == 23) a0_0 a0_1 a0_2) else (camshaftref04_Right.j1 kj1 a0_0 (a0_0 == 24) a0_0 a0_1 a0_2))))))))) = some r := by rw [if_neg (show ¬ (false = true) by decide)] at H; exact H
   clear H
   have H := H1
   clear H1
   by_cases c47 : a0_0 = 5
   ·rw [if_pos c47] at H
    have c47b0 : (a0_0 == 5) = true := beq_iff_eq.mpr c47
    have c47b1 : (a0_0 != 5) = false := bne_eq_false_iff_eq.mpr c47
    clear c47
    replace H := Option.bind_eq_some_iff.mp H
    obtain ⟨t167, A480, H⟩ := H
    replace H : (some (t167.toList != ([] : List UInt8))) = some r := H
    have A48 := Aside0.mk A480
    clear A480
    obtain rfl := Option.some.inj H
    have hcz49_0 : wc.cell? ⟨gb162, 0, none⟩ = some (.int .i64 a0_0) := (blk_cell BK162.out 0).trans rfl
    have hcz49_1 : wc.cell? ⟨gb162, 1, none⟩ = some (.int .i64 a0_1) := (blk_cell BK162.out 1).trans rfl
    have hcz49_2 : wc.cell? ⟨gb162, 2, none⟩ = some (.int .i64 a0_2) := (blk_cell BK162.out 2).trans rfl
    have hfz49_0 := blk_frozen BK162.out 0
    have hfz49_1 := blk_frozen BK162.out 1
    have hfz49_2 := blk_frozen BK162.out 2
    go_wp2_with (first | ((with_reducible refine gate_callee (f := 47) rfl ?_); refine goesL_ (some 35) rfl rfl Try.func47 (by kernel_rfl) rfl #[.int .i64 a0_1] rfl am_ ?_; (with_reducible refine (camshaftref01_Name.calls a0_1 t167 _ A48.out).mono ?_); rintro e w50 ⟨rfl, hb⟩; refine ⟨_, rfl, ?_⟩; have n0_ := Aside0.mk (blk_below (g := gb162) (o := .cells #[.int .i64 a0_0, .int .i64 a0_1, .int .i64 a0_2] 37 (0, 0)) (by (with_reducible repeat (first | refine blk_drewN ?_ _ | refine blk_drew ?_ | refine blk_alloc ?_ _)); exact BK162.out) hb); have n1_ := Aside0.mk (below_step (by repeat (first | (with_reducible first | exact HB.out | apply below_alloc | apply pw_below_drewN | apply below_drew1 | refine below_set ?_ GE162.out) | exact HB.out)) hb); clear BK162; clear HB; have BK162 := n0_; have HB := n1_; clear n0_ n1_; (try clear hb); (try clear hb2); (try clear hk); (try clear hi)))
    go_ret
    exact ⟨by first | rfl | (rw [bne_nil_eq]; rfl) | (simp [bne_nil_eq]; done) | (simp [errW_none, errW_some] <;> rfl) | (simp [*, errW_none, errW_some] <;> rfl), by repeat (first | (with_reducible first | exact HB.out | apply below_alloc | apply pw_below_drewN | apply below_drew1 | refine below_set ?_ GE162.out) | exact HB.out | exact Below.refl _ _)⟩
   rw [if_neg c47] at H
   have c47b0 : (a0_0 == 5) = false := beq_eq_false_iff_ne.mpr c47
   have c47b1 : (a0_0 != 5) = true := bne_iff_ne.mpr c47
   have HC51 := Aside0.mk H
   clear H
   have hcz52_0 : wc.cell? ⟨gb162, 0, none⟩ = some (.int .i64 a0_0) := (blk_cell BK162.out 0).trans rfl
   have hcz52_1 : wc.cell? ⟨gb162, 1, none⟩ = some (.int .i64 a0_1) := (blk_cell BK162.out 1).trans rfl
   have hcz52_2 : wc.cell? ⟨gb162, 2, none⟩ = some (.int .i64 a0_2) := (blk_cell BK162.out 2).trans rfl
   have hfz52_0 := blk_frozen BK162.out 0
   have hfz52_1 := blk_frozen BK162.out 1
   have hfz52_2 := blk_frozen BK162.out 2
   go_upto_if 37 with (fail)
   go_cut [37] (fun v37 wc => ∃ (kq : Nat) (x37_50 : Bool), v37 = .bool x37_50 ∧ Aside0 (camshaftref04_Right.j1 kq a0_0 x37_50 a0_0 a0_1 a0_2 = some r) ∧ Aside0 (kq ≤ kj1) ∧ Aside0 (wc.heap[gb162]? = some (.cells #[.int .i64 a0_0, .int .i64 a0_1, .int .i64 a0_2] 37 (0, 0))) ∧ Aside0 (Below w.heap.size w wc))
   case first =>
    have H := HC51.out
    clear HC51
    by_cases c53 : a0_0 = 11
    ·rw [if_pos c53] at H
     have c53b0 : (a0_0 == 11) = true := beq_iff_eq.mpr c53
     have c53b1 : (a0_0 != 11) = false := bne_eq_false_iff_eq.mpr c53
     clear c53
     (first | rw [c53b0] | (simp only [i64_w, i32_w]; rw [c53b0]) | rw [c53b1] | skip)
     have H' := Aside0.mk H
     clear H
     go_wp2
     go_meet
     case rel => exact ⟨_, ((a0_0 == 11)), (by first | rfl | (simp; done) | (simp [*]; done)), H', ⟨by have := HJ1.out; first | omega | exact Nat.le_refl _⟩, ⟨by (with_reducible repeat (first | refine blk_drewN ?_ _ | refine blk_drew ?_ | refine blk_alloc ?_ _)); exact BK162.out⟩, ⟨by repeat (first | (with_reducible first | exact HB.out | apply below_alloc | apply pw_below_drewN | apply below_drew1 | refine below_set ?_ GE162.out) | exact HB.out | exact Below.refl _ _)⟩⟩
    rw [if_neg c53] at H
    have c53b0 : (a0_0 == 11) = false := beq_eq_false_iff_ne.mpr c53
    have c53b1 : (a0_0 != 11) = true := bne_iff_ne.mpr c53
    (first | rw [c53b0] | (simp only [i64_w, i32_w]; rw [c53b0]) | rw [c53b1] | skip)
    by_cases c54 : a0_0 = 12
    ·rw [if_pos c54] at H
     have c54b0 : (a0_0 == 12) = true := beq_iff_eq.mpr c54
     have c54b1 : (a0_0 != 12) = false := bne_eq_false_iff_eq.mpr c54
     clear c54
     have H' := Aside0.mk H
     clear H
     go_wp2
     go_meet
     case rel => exact ⟨_, ((a0_0 == 12)), (by first | rfl | (simp; done) | (simp [*]; done)), H', ⟨by have := HJ1.out; first | omega | exact Nat.le_refl _⟩, ⟨by (with_reducible repeat (first | refine blk_drewN ?_ _ | refine blk_drew ?_ | refine blk_alloc ?_ _)); exact BK162.out⟩, ⟨by repeat (first | (with_reducible first | exact HB.out | apply below_alloc | apply pw_below_drewN | apply below_drew1 | refine below_set ?_ GE162.out) | exact HB.out | exact Below.refl _ _)⟩⟩
    rw [if_neg c54] at H
    have c54b0 : (a0_0 == 12) = false := beq_eq_false_iff_ne.mpr c54
    have c54b1 : (a0_0 != 12) = true := bne_iff_ne.mpr c54
    by_cases c55 : a0_0 = 13
    ·rw [if_pos c55] at H
     have c55b0 : (a0_0 == 13) = true := beq_iff_eq.mpr c55
     have c55b1 : (a0_0 != 13) = false := bne_eq_false_iff_eq.mpr c55
     clear c55
     have H' := Aside0.mk H
     clear H
     go_wp2
     go_meet
     case rel => exact ⟨_, ((a0_0 == 13)), (by first | rfl | (simp; done) | (simp [*]; done)), H', ⟨by have := HJ1.out; first | omega | exact Nat.le_refl _⟩, ⟨by (with_reducible repeat (first | refine blk_drewN ?_ _ | refine blk_drew ?_ | refine blk_alloc ?_ _)); exact BK162.out⟩, ⟨by repeat (first | (with_reducible first | exact HB.out | apply below_alloc | apply pw_below_drewN | apply below_drew1 | refine below_set ?_ GE162.out) | exact HB.out | exact Below.refl _ _)⟩⟩
    rw [if_neg c55] at H
    have c55b0 : (a0_0 == 13) = false := beq_eq_false_iff_ne.mpr c55
    have c55b1 : (a0_0 != 13) = true := bne_iff_ne.mpr c55
    by_cases c56 : a0_0 = 14
    ·rw [if_pos c56] at H
     have c56b0 : (a0_0 == 14) = true := beq_iff_eq.mpr c56
     have c56b1 : (a0_0 != 14) = false := bne_eq_false_iff_eq.mpr c56
     clear c56
     have H' := Aside0.mk H
     clear H
     go_wp2
     go_meet
     case rel => exact ⟨_, ((a0_0 == 14)), (by first | rfl | (simp; done) | (simp [*]; done)), H', ⟨by have := HJ1.out; first | omega | exact Nat.le_refl _⟩, ⟨by (with_reducible repeat (first | refine blk_drewN ?_ _ | refine blk_drew ?_ | refine blk_alloc ?_ _)); exact BK162.out⟩, ⟨by repeat (first | (with_reducible first | exact HB.out | apply below_alloc | apply pw_below_drewN | apply below_drew1 | refine below_set ?_ GE162.out) | exact HB.out | exact Below.refl _ _)⟩⟩
    rw [if_neg c56] at H
    have c56b0 : (a0_0 == 14) = false := beq_eq_false_iff_ne.mpr c56
    have c56b1 : (a0_0 != 14) = true := bne_iff_ne.mpr c56
    by_cases c57 : a0_0 = 17
    ·rw [if_pos c57] at H
     have c57b0 : (a0_0 == 17) = true := beq_iff_eq.mpr c57
     have c57b1 : (a0_0 != 17) = false := bne_eq_false_iff_eq.mpr c57
     clear c57
     have H' := Aside0.mk H
     clear H
     go_wp2
     go_meet
     case rel => exact ⟨_, ((a0_0 == 17)), (by first | rfl | (simp; done) | (simp [*]; done)), H', ⟨by have := HJ1.out; first | omega | exact Nat.le_refl _⟩, ⟨by (with_reducible repeat (first | refine blk_drewN ?_ _ | refine blk_drew ?_ | refine blk_alloc ?_ _)); exact BK162.out⟩, ⟨by repeat (first | (with_reducible first | exact HB.out | apply below_alloc | apply pw_below_drewN | apply below_drew1 | refine below_set ?_ GE162.out) | exact HB.out | exact Below.refl _ _)⟩⟩
    rw [if_neg c57] at H
    have c57b0 : (a0_0 == 17) = false := beq_eq_false_iff_ne.mpr c57
    have c57b1 : (a0_0 != 17) = true := bne_iff_ne.mpr c57
    by_cases c58 : a0_0 = 18
    ·rw [if_pos c58] at H
     have c58b0 : (a0_0 == 18) = true := beq_iff_eq.mpr c58
     have c58b1 : (a0_0 != 18) = false := bne_eq_false_iff_eq.mpr c58
     clear c58
     have H' := Aside0.mk H
     clear H
     go_wp2
     go_meet
     case rel => exact ⟨_, ((a0_0 == 18)), (by first | rfl | (simp; done) | (simp [*]; done)), H', ⟨by have := HJ1.out; first | omega | exact Nat.le_refl _⟩, ⟨by (with_reducible repeat (first | refine blk_drewN ?_ _ | refine blk_drew ?_ | refine blk_alloc ?_ _)); exact BK162.out⟩, ⟨by repeat (first | (with_reducible first | exact HB.out | apply below_alloc | apply pw_below_drewN | apply below_drew1 | refine below_set ?_ GE162.out) | exact HB.out | exact Below.refl _ _)⟩⟩
    rw [if_neg c58] at H
    have c58b0 : (a0_0 == 18) = false := beq_eq_false_iff_ne.mpr c58
    have c58b1 : (a0_0 != 18) = true := bne_iff_ne.mpr c58
    by_cases c59 : a0_0 = 23
    rotate_left
    ·rw [if_neg c59] at H
     have c59b0 : (a0_0 == 23) = false := beq_eq_false_iff_ne.mpr c59
     have c59b1 : (a0_0 != 23) = true := bne_iff_ne.mpr c59
     have H' := Aside0.mk H
     clear H
     go_wp2
     go_meet
     case rel => exact ⟨_, ((a0_0 == 24)), (by first | rfl | (simp; done) | (simp [*]; done)), H', ⟨by have := HJ1.out; first | omega | exact Nat.le_refl _⟩, ⟨by (with_reducible repeat (first | refine blk_drewN ?_ _ | refine blk_drew ?_ | refine blk_alloc ?_ _)); exact BK162.out⟩, ⟨by repeat (first | (with_reducible first | exact HB.out | apply below_alloc | apply pw_below_drewN | apply below_drew1 | refine below_set ?_ GE162.out) | exact HB.out | exact Below.refl _ _)⟩⟩
    rw [if_pos c59] at H
    have c59b0 : (a0_0 == 23) = true := beq_iff_eq.mpr c59
    have c59b1 : (a0_0 != 23) = false := bne_eq_false_iff_eq.mpr c59
    clear c59
    have H' := Aside0.mk H
    clear H
    go_wp2
    go_meet
    case rel => exact ⟨_, ((a0_0 == 23)), (by first | rfl | (simp; done) | (simp [*]; done)), H', ⟨by have := HJ1.out; first | omega | exact Nat.le_refl _⟩, ⟨by (with_reducible repeat (first | refine blk_drewN ?_ _ | refine blk_drew ?_ | refine blk_alloc ?_ _)); exact BK162.out⟩, ⟨by repeat (first | (with_reducible first | exact HB.out | apply below_alloc | apply pw_below_drewN | apply below_drew1 | refine below_set ?_ GE162.out) | exact HB.out | exact Below.refl _ _)⟩⟩
   case rest =>
    clear HC51
    try clear c1
    try clear p2
    try clear c3
    try clear c4
    try clear c5
    try clear c5b0
    try clear c5b1
    try clear c9
    try clear c9b0
    try clear c10
    try clear c10b0
    try clear c10b1
    try clear c12
    try clear c12b0
    try clear c32
    try clear c32b0
    try clear c36
    try clear c45
    try clear c46
    try clear c47
    try clear c47b0
    try clear c47b1
    try clear c53
    try clear c53b0
    try clear c53b1
    try clear c54
    try clear c54b0
    try clear c54b1
    try clear c55
    try clear c55b0
    try clear c55b1
    try clear c56
    try clear c56b0
    try clear c56b1
    try clear c57
    try clear c57b0
    try clear c57b1
    try clear c58
    try clear c58b0
    try clear c58b1
    try clear c59
    try clear c59b0
    try clear c59b1
    try clear hcz13_0
    try clear hcz13_1
    try clear hcz13_2
    try clear hcz15_0
    try clear hcz15_1
    try clear hcz15_2
    try clear hcz17_0
    try clear hcz17_1
    try clear hcz17_2
    try clear hcz19_0
    try clear hcz19_1
    try clear hcz19_2
    try clear hcz20_0
    try clear hcz20_1
    try clear hcz20_2
    try clear hcz22_0
    try clear hcz22_1
    try clear hcz22_2
    try clear hcz24_0
    try clear hcz24_1
    try clear hcz24_2
    try clear hcz26_0
    try clear hcz26_1
    try clear hcz26_2
    try clear hcz28_0
    try clear hcz28_1
    try clear hcz28_2
    try clear hcz30_0
    try clear hcz30_1
    try clear hcz30_2
    try clear hcz33_0
    try clear hcz33_1
    try clear hcz33_2
    try clear hcz35_0
    try clear hcz35_1
    try clear hcz35_2
    try clear hcz37_0
    try clear hcz37_1
    try clear hcz37_2
    try clear hcz39_0
    try clear hcz39_1
    try clear hcz39_2
    try clear hcz40_0
    try clear hcz40_1
    try clear hcz40_2
    try clear hcz42_0
    try clear hcz42_1
    try clear hcz42_2
    try clear hcz44_0
    try clear hcz44_1
    try clear hcz44_2
    try clear hcz49_0
    try clear hcz49_1
    try clear hcz49_2
    try clear hcz52_0
    try clear hcz52_1
    try clear hcz52_2
    try clear hcz6_0
    try clear hcz6_1
    try clear hcz6_2
    try clear hfz13_0
    try clear hfz13_1
    try clear hfz13_2
    try clear hfz15_0
    try clear hfz15_1
    try clear hfz15_2
    try clear hfz17_0
    try clear hfz17_1
    try clear hfz17_2
    try clear hfz19_0
    try clear hfz19_1
    try clear hfz19_2
    try clear hfz20_0
    try clear hfz20_1
    try clear hfz20_2
    try clear hfz22_0
    try clear hfz22_1
    try clear hfz22_2
    try clear hfz24_0
    try clear hfz24_1
    try clear hfz24_2
    try clear hfz26_0
    try clear hfz26_1
    try clear hfz26_2
    try clear hfz28_0
    try clear hfz28_1
    try clear hfz28_2
    try clear hfz30_0
    try clear hfz30_1
    try clear hfz30_2
    try clear hfz33_0
    try clear hfz33_1
    try clear hfz33_2
    try clear hfz35_0
    try clear hfz35_1
    try clear hfz35_2
    try clear hfz37_0
    try clear hfz37_1
    try clear hfz37_2
    try clear hfz39_0
    try clear hfz39_1
    try clear hfz39_2
    try clear hfz40_0
    try clear hfz40_1
    try clear hfz40_2
    try clear hfz42_0
    try clear hfz42_1
    try clear hfz42_2
    try clear hfz44_0
    try clear hfz44_1
    try clear hfz44_2
    try clear hfz49_0
    try clear hfz49_1
    try clear hfz49_2
    try clear hfz52_0
    try clear hfz52_1
    try clear hfz52_2
    try clear hfz6_0
    try clear hfz6_1
    try clear hfz6_2
    try clear p2
    obtain ⟨kq, x37_50, rfl, HA, HJ50, BK162, HB⟩ := hcut
    cases kq with
    | zero => exact absurd HA.out (by simp [camshaftref04_Right.j1])
    | succ kj50 =>
     have H := HA.out
     clear HA
     simp only [camshaftref04_Right.j1] at H
     by_cases c60 : x37_50 = true
     ·subst c60
      have H1 : (if a0_1 ≥ 0 then (if a0_1 ≤ 7 then (if a0_2 ≥ 0 then (some (decide (a0_2 ≤ 7))) else (some false)) else (some false)) else (some false)) = some r := by rw [if_pos rfl] at H; exact H
      clear H
      have H := H1
      clear H1
      by_cases c61 : a0_1 ≥ 0
      rotate_left
      ·rw [if_neg c61] at H
       have c61b0 : decide (0 ≤ a0_1) = false := decide_eq_false c61
       clear c61
       obtain rfl := Option.some.inj H
       have hcz67_0 : wc.cell? ⟨gb162, 0, none⟩ = some (.int .i64 a0_0) := (blk_cell BK162.out 0).trans rfl
       have hcz67_1 : wc.cell? ⟨gb162, 1, none⟩ = some (.int .i64 a0_1) := (blk_cell BK162.out 1).trans rfl
       have hcz67_2 : wc.cell? ⟨gb162, 2, none⟩ = some (.int .i64 a0_2) := (blk_cell BK162.out 2).trans rfl
       have hfz67_0 := blk_frozen BK162.out 0
       have hfz67_1 := blk_frozen BK162.out 1
       have hfz67_2 := blk_frozen BK162.out 2
       go_wp2
       go_ret
       exact ⟨by first | rfl | (rw [bne_nil_eq]; rfl) | (simp [bne_nil_eq]; done) | (simp [errW_none, errW_some] <;> rfl) | (simp [*, errW_none, errW_some] <;> rfl), by repeat (first | (with_reducible first | exact HB.out | apply below_alloc | apply pw_below_drewN | apply below_drew1 | refine below_set ?_ GE162.out) | exact HB.out | exact Below.refl _ _)⟩
      rw [if_pos c61] at H
      have c61b0 : decide (0 ≤ a0_1) = true := decide_eq_true c61
      clear c61
      by_cases c62 : a0_1 ≤ 7
      rotate_left
      ·rw [if_neg c62] at H
       have c62b0 : decide (a0_1 ≤ 7) = false := decide_eq_false c62
       clear c62
       obtain rfl := Option.some.inj H
       have hcz66_0 : wc.cell? ⟨gb162, 0, none⟩ = some (.int .i64 a0_0) := (blk_cell BK162.out 0).trans rfl
       have hcz66_1 : wc.cell? ⟨gb162, 1, none⟩ = some (.int .i64 a0_1) := (blk_cell BK162.out 1).trans rfl
       have hcz66_2 : wc.cell? ⟨gb162, 2, none⟩ = some (.int .i64 a0_2) := (blk_cell BK162.out 2).trans rfl
       have hfz66_0 := blk_frozen BK162.out 0
       have hfz66_1 := blk_frozen BK162.out 1
       have hfz66_2 := blk_frozen BK162.out 2
       go_wp2
       go_ret
       exact ⟨by first | rfl | (rw [bne_nil_eq]; rfl) | (simp [bne_nil_eq]; done) | (simp [errW_none, errW_some] <;> rfl) | (simp [*, errW_none, errW_some] <;> rfl), by repeat (first | (with_reducible first | exact HB.out | apply below_alloc | apply pw_below_drewN | apply below_drew1 | refine below_set ?_ GE162.out) | exact HB.out | exact Below.refl _ _)⟩
      rw [if_pos c62] at H
      have c62b0 : decide (a0_1 ≤ 7) = true := decide_eq_true c62
      clear c62
      by_cases c63 : a0_2 ≥ 0
      ·rw [if_pos c63] at H
       have c63b0 : decide (0 ≤ a0_2) = true := decide_eq_true c63
       clear c63
       obtain rfl := Option.some.inj H
       have hcz64_0 : wc.cell? ⟨gb162, 0, none⟩ = some (.int .i64 a0_0) := (blk_cell BK162.out 0).trans rfl
       have hcz64_1 : wc.cell? ⟨gb162, 1, none⟩ = some (.int .i64 a0_1) := (blk_cell BK162.out 1).trans rfl
       have hcz64_2 : wc.cell? ⟨gb162, 2, none⟩ = some (.int .i64 a0_2) := (blk_cell BK162.out 2).trans rfl
       have hfz64_0 := blk_frozen BK162.out 0
       have hfz64_1 := blk_frozen BK162.out 1
       have hfz64_2 := blk_frozen BK162.out 2
       go_wp2
       go_ret
       exact ⟨by first | rfl | (rw [bne_nil_eq]; rfl) | (simp [bne_nil_eq]; done) | (simp [errW_none, errW_some] <;> rfl) | (simp [*, errW_none, errW_some] <;> rfl), by repeat (first | (with_reducible first | exact HB.out | apply below_alloc | apply pw_below_drewN | apply below_drew1 | refine below_set ?_ GE162.out) | exact HB.out | exact Below.refl _ _)⟩
      rw [if_neg c63] at H
      have c63b0 : decide (0 ≤ a0_2) = false := decide_eq_false c63
      clear c63
      obtain rfl := Option.some.inj H
      have hcz65_0 : wc.cell? ⟨gb162, 0, none⟩ = some (.int .i64 a0_0) := (blk_cell BK162.out 0).trans rfl
      have hcz65_1 : wc.cell? ⟨gb162, 1, none⟩ = some (.int .i64 a0_1) := (blk_cell BK162.out 1).trans rfl
      have hcz65_2 : wc.cell? ⟨gb162, 2, none⟩ = some (.int .i64 a0_2) := (blk_cell BK162.out 2).trans rfl
      have hfz65_0 := blk_frozen BK162.out 0
      have hfz65_1 := blk_frozen BK162.out 1
      have hfz65_2 := blk_frozen BK162.out 2
      go_wp2
      go_ret
      exact ⟨by first | rfl | (rw [bne_nil_eq]; rfl) | (simp [bne_nil_eq]; done) | (simp [errW_none, errW_some] <;> rfl) | (simp [*, errW_none, errW_some] <;> rfl), by repeat (first | (with_reducible first | exact HB.out | apply below_alloc | apply pw_below_drewN | apply below_drew1 | refine below_set ?_ GE162.out) | exact HB.out | exact Below.refl _ _)⟩
     replace c60 := Bool.eq_false_iff.mpr c60
     subst c60
     have H1 : (if a0_0 = 15 then (camshaftref04_Right.j2 kj50 a0_0 (a0_0 == 15) a0_0 a0_1 a0_2) else (camshaftref04_Right.j2 kj50 a0_0 (a0_0 == 16) a0_0 a0_1 a0_2)) = some r := by rw [if_neg (show ¬ (false = true) by decide)] at H; exact H
     clear H
     have H := H1
     clear H1
     have HC68 := Aside0.mk H
     clear H
     go_upto_if 64 with (fail)
     go_cut [64] (fun v64 wc => ∃ (kq : Nat) (x64_67 : Bool), v64 = .bool x64_67 ∧ Aside0 (camshaftref04_Right.j2 kq a0_0 x64_67 a0_0 a0_1 a0_2 = some r) ∧ Aside0 (kq ≤ kj50) ∧ Aside0 (wc.heap[gb162]? = some (.cells #[.int .i64 a0_0, .int .i64 a0_1, .int .i64 a0_2] 37 (0, 0))) ∧ Aside0 (Below w.heap.size w wc))
     case first =>
      have H := HC68.out
      clear HC68
      by_cases c69 : a0_0 = 15
      rotate_left
      ·rw [if_neg c69] at H
       have c69b0 : (a0_0 == 15) = false := beq_eq_false_iff_ne.mpr c69
       have c69b1 : (a0_0 != 15) = true := bne_iff_ne.mpr c69
       (first | rw [c69b0] | (simp only [i64_w, i32_w]; rw [c69b0]) | rw [c69b1] | skip)
       have H' := Aside0.mk H
       clear H
       go_wp2
       go_meet
       case rel => exact ⟨_, ((a0_0 == 16)), (by first | rfl | (simp; done) | (simp [*]; done)), H', ⟨by have := HJ1.out; have := HJ50.out; first | omega | exact Nat.le_refl _⟩, ⟨by (with_reducible repeat (first | refine blk_drewN ?_ _ | refine blk_drew ?_ | refine blk_alloc ?_ _)); exact BK162.out⟩, ⟨by repeat (first | (with_reducible first | exact HB.out | apply below_alloc | apply pw_below_drewN | apply below_drew1 | refine below_set ?_ GE162.out) | exact HB.out | exact Below.refl _ _)⟩⟩
      rw [if_pos c69] at H
      have c69b0 : (a0_0 == 15) = true := beq_iff_eq.mpr c69
      have c69b1 : (a0_0 != 15) = false := bne_eq_false_iff_eq.mpr c69
      clear c69
      (first | rw [c69b0] | (simp only [i64_w, i32_w]; rw [c69b0]) | rw [c69b1] | skip)
      have H' := Aside0.mk H
      clear H
      go_wp2
      go_meet
      case rel => exact ⟨_, ((a0_0 == 15)), (by first | rfl | (simp; done) | (simp [*]; done)), H', ⟨by have := HJ1.out; have := HJ50.out; first | omega | exact Nat.le_refl _⟩, ⟨by (with_reducible repeat (first | refine blk_drewN ?_ _ | refine blk_drew ?_ | refine blk_alloc ?_ _)); exact BK162.out⟩, ⟨by repeat (first | (with_reducible first | exact HB.out | apply below_alloc | apply pw_below_drewN | apply below_drew1 | refine below_set ?_ GE162.out) | exact HB.out | exact Below.refl _ _)⟩⟩
     case rest =>
      clear HC68
      try clear c1
      try clear p2
      try clear c3
      try clear c4
      try clear c5
      try clear c5b0
      try clear c5b1
      try clear c6
      try clear c9
      try clear c9b0
      try clear c10
      try clear c10b0
      try clear c10b1
      try clear c12
      try clear c12b0
      try clear c32
      try clear c32b0
      try clear c36
      try clear c45
      try clear c46
      try clear c47
      try clear c47b0
      try clear c47b1
      try clear c53
      try clear c53b0
      try clear c53b1
      try clear c54
      try clear c54b0
      try clear c54b1
      try clear c55
      try clear c55b0
      try clear c55b1
      try clear c56
      try clear c56b0
      try clear c56b1
      try clear c57
      try clear c57b0
      try clear c57b1
      try clear c58
      try clear c58b0
      try clear c58b1
      try clear c59
      try clear c59b0
      try clear c59b1
      try clear c60
      try clear c61
      try clear c61b0
      try clear c62
      try clear c62b0
      try clear c63
      try clear c63b0
      try clear c69
      try clear c69b0
      try clear c69b1
      try clear hcz13_0
      try clear hcz13_1
      try clear hcz13_2
      try clear hcz15_0
      try clear hcz15_1
      try clear hcz15_2
      try clear hcz17_0
      try clear hcz17_1
      try clear hcz17_2
      try clear hcz19_0
      try clear hcz19_1
      try clear hcz19_2
      try clear hcz20_0
      try clear hcz20_1
      try clear hcz20_2
      try clear hcz22_0
      try clear hcz22_1
      try clear hcz22_2
      try clear hcz24_0
      try clear hcz24_1
      try clear hcz24_2
      try clear hcz26_0
      try clear hcz26_1
      try clear hcz26_2
      try clear hcz28_0
      try clear hcz28_1
      try clear hcz28_2
      try clear hcz30_0
      try clear hcz30_1
      try clear hcz30_2
      try clear hcz33_0
      try clear hcz33_1
      try clear hcz33_2
      try clear hcz35_0
      try clear hcz35_1
      try clear hcz35_2
      try clear hcz37_0
      try clear hcz37_1
      try clear hcz37_2
      try clear hcz39_0
      try clear hcz39_1
      try clear hcz39_2
      try clear hcz40_0
      try clear hcz40_1
      try clear hcz40_2
      try clear hcz42_0
      try clear hcz42_1
      try clear hcz42_2
      try clear hcz44_0
      try clear hcz44_1
      try clear hcz44_2
      try clear hcz49_0
      try clear hcz49_1
      try clear hcz49_2
      try clear hcz52_0
      try clear hcz52_1
      try clear hcz52_2
      try clear hcz64_0
      try clear hcz64_1
      try clear hcz64_2
      try clear hcz65_0
      try clear hcz65_1
      try clear hcz65_2
      try clear hcz66_0
      try clear hcz66_1
      try clear hcz66_2
      try clear hcz67_0
      try clear hcz67_1
      try clear hcz67_2
      try clear hcz6_0
      try clear hcz6_1
      try clear hcz6_2
      try clear hfz13_0
      try clear hfz13_1
      try clear hfz13_2
      try clear hfz15_0
      try clear hfz15_1
      try clear hfz15_2
      try clear hfz17_0
      try clear hfz17_1
      try clear hfz17_2
      try clear hfz19_0
      try clear hfz19_1
      try clear hfz19_2
      try clear hfz20_0
      try clear hfz20_1
      try clear hfz20_2
      try clear hfz22_0
      try clear hfz22_1
      try clear hfz22_2
      try clear hfz24_0
      try clear hfz24_1
      try clear hfz24_2
      try clear hfz26_0
      try clear hfz26_1
      try clear hfz26_2
      try clear hfz28_0
      try clear hfz28_1
      try clear hfz28_2
      try clear hfz30_0
      try clear hfz30_1
      try clear hfz30_2
      try clear hfz33_0
      try clear hfz33_1
      try clear hfz33_2
      try clear hfz35_0
      try clear hfz35_1
      try clear hfz35_2
      try clear hfz37_0
      try clear hfz37_1
      try clear hfz37_2
      try clear hfz39_0
      try clear hfz39_1
      try clear hfz39_2
      try clear hfz40_0
      try clear hfz40_1
      try clear hfz40_2
      try clear hfz42_0
      try clear hfz42_1
      try clear hfz42_2
      try clear hfz44_0
      try clear hfz44_1
      try clear hfz44_2
      try clear hfz49_0
      try clear hfz49_1
      try clear hfz49_2
      try clear hfz52_0
      try clear hfz52_1
      try clear hfz52_2
      try clear hfz64_0
      try clear hfz64_1
      try clear hfz64_2
      try clear hfz65_0
      try clear hfz65_1
      try clear hfz65_2
      try clear hfz66_0
      try clear hfz66_1
      try clear hfz66_2
      try clear hfz67_0
      try clear hfz67_1
      try clear hfz67_2
      try clear hfz6_0
      try clear hfz6_1
      try clear hfz6_2
      try clear p2
      obtain ⟨kq, x64_67, rfl, HA, HJ67, BK162, HB⟩ := hcut
      cases kq with
      | zero => exact absurd HA.out (by simp [camshaftref04_Right.j2])
      | succ kj67 =>
       have H := HA.out
       clear HA
       simp only [camshaftref04_Right.j2] at H
       by_cases c70 : x64_67 = true
       ·subst c70
        have H1 : (if a0_1 ≥ 0 then (some (decide (a0_1 ≤ 15))) else (some false)) = some r := by rw [if_pos rfl] at H; exact H
        clear H
        have H := H1
        clear H1
        by_cases c71 : a0_1 ≥ 0
        ·rw [if_pos c71] at H
         have c71b0 : decide (0 ≤ a0_1) = true := decide_eq_true c71
         clear c71
         obtain rfl := Option.some.inj H
         have hcz72_0 : wc.cell? ⟨gb162, 0, none⟩ = some (.int .i64 a0_0) := (blk_cell BK162.out 0).trans rfl
         have hcz72_1 : wc.cell? ⟨gb162, 1, none⟩ = some (.int .i64 a0_1) := (blk_cell BK162.out 1).trans rfl
         have hcz72_2 : wc.cell? ⟨gb162, 2, none⟩ = some (.int .i64 a0_2) := (blk_cell BK162.out 2).trans rfl
         have hfz72_0 := blk_frozen BK162.out 0
         have hfz72_1 := blk_frozen BK162.out 1
         have hfz72_2 := blk_frozen BK162.out 2
         go_wp2
         go_ret
         exact ⟨by first | rfl | (rw [bne_nil_eq]; rfl) | (simp [bne_nil_eq]; done) | (simp [errW_none, errW_some] <;> rfl) | (simp [*, errW_none, errW_some] <;> rfl), by repeat (first | (with_reducible first | exact HB.out | apply below_alloc | apply pw_below_drewN | apply below_drew1 | refine below_set ?_ GE162.out) | exact HB.out | exact Below.refl _ _)⟩
        rw [if_neg c71] at H
        have c71b0 : decide (0 ≤ a0_1) = false := decide_eq_false c71
        clear c71
        obtain rfl := Option.some.inj H
        have hcz73_0 : wc.cell? ⟨gb162, 0, none⟩ = some (.int .i64 a0_0) := (blk_cell BK162.out 0).trans rfl
        have hcz73_1 : wc.cell? ⟨gb162, 1, none⟩ = some (.int .i64 a0_1) := (blk_cell BK162.out 1).trans rfl
        have hcz73_2 : wc.cell? ⟨gb162, 2, none⟩ = some (.int .i64 a0_2) := (blk_cell BK162.out 2).trans rfl
        have hfz73_0 := blk_frozen BK162.out 0
        have hfz73_1 := blk_frozen BK162.out 1
        have hfz73_2 := blk_frozen BK162.out 2
        go_wp2
        go_ret
        exact ⟨by first | rfl | (rw [bne_nil_eq]; rfl) | (simp [bne_nil_eq]; done) | (simp [errW_none, errW_some] <;> rfl) | (simp [*, errW_none, errW_some] <;> rfl), by repeat (first | (with_reducible first | exact HB.out | apply below_alloc | apply pw_below_drewN | apply below_drew1 | refine below_set ?_ GE162.out) | exact HB.out | exact Below.refl _ _)⟩
       replace c70 := Bool.eq_false_iff.mpr c70
       subst c70
       have H1 : (if a0_0 = 19 then (camshaftref04_Right.j3 kj67 a0_0 (a0_0 == 19) a0_0 a0_1 a0_2) else (camshaftref04_Right.j3 kj67 a0_0 (a0_0 == 20) a0_0 a0_1 a0_2)) = some r := by rw [if_neg (show ¬ (false = true) by decide)] at H; exact H
       clear H
       have H := H1
       clear H1
       have HC74 := Aside0.mk H
       clear H
       go_upto_if 75 with (fail)
       go_cut [75] (fun v75 wc => ∃ (kq : Nat) (x75_73 : Bool), v75 = .bool x75_73 ∧ Aside0 (camshaftref04_Right.j3 kq a0_0 x75_73 a0_0 a0_1 a0_2 = some r) ∧ Aside0 (kq ≤ kj67) ∧ Aside0 (wc.heap[gb162]? = some (.cells #[.int .i64 a0_0, .int .i64 a0_1, .int .i64 a0_2] 37 (0, 0))) ∧ Aside0 (Below w.heap.size w wc))
       case first =>
        have H := HC74.out
        clear HC74
        by_cases c75 : a0_0 = 19
        rotate_left
        ·rw [if_neg c75] at H
         have c75b0 : (a0_0 == 19) = false := beq_eq_false_iff_ne.mpr c75
         have c75b1 : (a0_0 != 19) = true := bne_iff_ne.mpr c75
         (first | rw [c75b0] | (simp only [i64_w, i32_w]; rw [c75b0]) | rw [c75b1] | skip)
         have H' := Aside0.mk H
         clear H
         go_wp2
         go_meet
         case rel => exact ⟨_, ((a0_0 == 20)), (by first | rfl | (simp; done) | (simp [*]; done)), H', ⟨by have := HJ1.out; have := HJ50.out; have := HJ67.out; first | omega | exact Nat.le_refl _⟩, ⟨by (with_reducible repeat (first | refine blk_drewN ?_ _ | refine blk_drew ?_ | refine blk_alloc ?_ _)); exact BK162.out⟩, ⟨by repeat (first | (with_reducible first | exact HB.out | apply below_alloc | apply pw_below_drewN | apply below_drew1 | refine below_set ?_ GE162.out) | exact HB.out | exact Below.refl _ _)⟩⟩
        rw [if_pos c75] at H
        have c75b0 : (a0_0 == 19) = true := beq_iff_eq.mpr c75
        have c75b1 : (a0_0 != 19) = false := bne_eq_false_iff_eq.mpr c75
        clear c75
        (first | rw [c75b0] | (simp only [i64_w, i32_w]; rw [c75b0]) | rw [c75b1] | skip)
        have H' := Aside0.mk H
        clear H
        go_wp2
        go_meet
        case rel => exact ⟨_, ((a0_0 == 19)), (by first | rfl | (simp; done) | (simp [*]; done)), H', ⟨by have := HJ1.out; have := HJ50.out; have := HJ67.out; first | omega | exact Nat.le_refl _⟩, ⟨by (with_reducible repeat (first | refine blk_drewN ?_ _ | refine blk_drew ?_ | refine blk_alloc ?_ _)); exact BK162.out⟩, ⟨by repeat (first | (with_reducible first | exact HB.out | apply below_alloc | apply pw_below_drewN | apply below_drew1 | refine below_set ?_ GE162.out) | exact HB.out | exact Below.refl _ _)⟩⟩
       case rest =>
        clear HC74
        try clear c1
        try clear p2
        try clear c3
        try clear c4
        try clear c5
        try clear c5b0
        try clear c5b1
        try clear c6
        try clear c7
        try clear c9
        try clear c9b0
        try clear c10
        try clear c10b0
        try clear c10b1
        try clear c12
        try clear c12b0
        try clear c32
        try clear c32b0
        try clear c36
        try clear c45
        try clear c46
        try clear c47
        try clear c47b0
        try clear c47b1
        try clear c53
        try clear c53b0
        try clear c53b1
        try clear c54
        try clear c54b0
        try clear c54b1
        try clear c55
        try clear c55b0
        try clear c55b1
        try clear c56
        try clear c56b0
        try clear c56b1
        try clear c57
        try clear c57b0
        try clear c57b1
        try clear c58
        try clear c58b0
        try clear c58b1
        try clear c59
        try clear c59b0
        try clear c59b1
        try clear c60
        try clear c61
        try clear c61b0
        try clear c62
        try clear c62b0
        try clear c63
        try clear c63b0
        try clear c69
        try clear c69b0
        try clear c69b1
        try clear c70
        try clear c71
        try clear c71b0
        try clear c75
        try clear c75b0
        try clear c75b1
        try clear hcz13_0
        try clear hcz13_1
        try clear hcz13_2
        try clear hcz15_0
        try clear hcz15_1
        try clear hcz15_2
        try clear hcz17_0
        try clear hcz17_1
        try clear hcz17_2
        try clear hcz19_0
        try clear hcz19_1
        try clear hcz19_2
        try clear hcz20_0
        try clear hcz20_1
        try clear hcz20_2
        try clear hcz22_0
        try clear hcz22_1
        try clear hcz22_2
        try clear hcz24_0
        try clear hcz24_1
        try clear hcz24_2
        try clear hcz26_0
        try clear hcz26_1
        try clear hcz26_2
        try clear hcz28_0
        try clear hcz28_1
        try clear hcz28_2
        try clear hcz30_0
        try clear hcz30_1
        try clear hcz30_2
        try clear hcz33_0
        try clear hcz33_1
        try clear hcz33_2
        try clear hcz35_0
        try clear hcz35_1
        try clear hcz35_2
        try clear hcz37_0
        try clear hcz37_1
        try clear hcz37_2
        try clear hcz39_0
        try clear hcz39_1
        try clear hcz39_2
        try clear hcz40_0
        try clear hcz40_1
        try clear hcz40_2
        try clear hcz42_0
        try clear hcz42_1
        try clear hcz42_2
        try clear hcz44_0
        try clear hcz44_1
        try clear hcz44_2
        try clear hcz49_0
        try clear hcz49_1
        try clear hcz49_2
        try clear hcz52_0
        try clear hcz52_1
        try clear hcz52_2
        try clear hcz64_0
        try clear hcz64_1
        try clear hcz64_2
        try clear hcz65_0
        try clear hcz65_1
        try clear hcz65_2
        try clear hcz66_0
        try clear hcz66_1
        try clear hcz66_2
        try clear hcz67_0
        try clear hcz67_1
        try clear hcz67_2
        try clear hcz6_0
        try clear hcz6_1
        try clear hcz6_2
        try clear hcz72_0
        try clear hcz72_1
        try clear hcz72_2
        try clear hcz73_0
        try clear hcz73_1
        try clear hcz73_2
        try clear hfz13_0
        try clear hfz13_1
        try clear hfz13_2
        try clear hfz15_0
        try clear hfz15_1
        try clear hfz15_2
        try clear hfz17_0
        try clear hfz17_1
        try clear hfz17_2
        try clear hfz19_0
        try clear hfz19_1
        try clear hfz19_2
        try clear hfz20_0
        try clear hfz20_1
        try clear hfz20_2
        try clear hfz22_0
        try clear hfz22_1
        try clear hfz22_2
        try clear hfz24_0
        try clear hfz24_1
        try clear hfz24_2
        try clear hfz26_0
        try clear hfz26_1
        try clear hfz26_2
        try clear hfz28_0
        try clear hfz28_1
        try clear hfz28_2
        try clear hfz30_0
        try clear hfz30_1
        try clear hfz30_2
        try clear hfz33_0
        try clear hfz33_1
        try clear hfz33_2
        try clear hfz35_0
        try clear hfz35_1
        try clear hfz35_2
        try clear hfz37_0
        try clear hfz37_1
        try clear hfz37_2
        try clear hfz39_0
        try clear hfz39_1
        try clear hfz39_2
        try clear hfz40_0
        try clear hfz40_1
        try clear hfz40_2
        try clear hfz42_0
        try clear hfz42_1
        try clear hfz42_2
        try clear hfz44_0
        try clear hfz44_1
        try clear hfz44_2
        try clear hfz49_0
        try clear hfz49_1
        try clear hfz49_2
        try clear hfz52_0
        try clear hfz52_1
        try clear hfz52_2
        try clear hfz64_0
        try clear hfz64_1
        try clear hfz64_2
        try clear hfz65_0
        try clear hfz65_1
        try clear hfz65_2
        try clear hfz66_0
        try clear hfz66_1
        try clear hfz66_2
        try clear hfz67_0
        try clear hfz67_1
        try clear hfz67_2
        try clear hfz6_0
        try clear hfz6_1
        try clear hfz6_2
        try clear hfz72_0
        try clear hfz72_1
        try clear hfz72_2
        try clear hfz73_0
        try clear hfz73_1
        try clear hfz73_2
        try clear p2
        obtain ⟨kq, x75_73, rfl, HA, HJ73, BK162, HB⟩ := hcut
        cases kq with
        | zero => exact absurd HA.out (by simp [camshaftref04_Right.j3])
        | succ kj73 =>
         have H := HA.out
         clear HA
         simp only [camshaftref04_Right.j3] at H
         by_cases c76 : x75_73 = true
         ·subst c76
          have H1 : (if a0_1 ≥ 0 then (some (decide (a0_1 ≤ 199))) else (some false)) = some r := by rw [if_pos rfl] at H; exact H
          clear H
          have H := H1
          clear H1
          by_cases c77 : a0_1 ≥ 0
          ·rw [if_pos c77] at H
           have c77b0 : decide (0 ≤ a0_1) = true := decide_eq_true c77
           clear c77
           obtain rfl := Option.some.inj H
           have hcz78_0 : wc.cell? ⟨gb162, 0, none⟩ = some (.int .i64 a0_0) := (blk_cell BK162.out 0).trans rfl
           have hcz78_1 : wc.cell? ⟨gb162, 1, none⟩ = some (.int .i64 a0_1) := (blk_cell BK162.out 1).trans rfl
           have hcz78_2 : wc.cell? ⟨gb162, 2, none⟩ = some (.int .i64 a0_2) := (blk_cell BK162.out 2).trans rfl
           have hfz78_0 := blk_frozen BK162.out 0
           have hfz78_1 := blk_frozen BK162.out 1
           have hfz78_2 := blk_frozen BK162.out 2
           go_wp2
           go_ret
           exact ⟨by first | rfl | (rw [bne_nil_eq]; rfl) | (simp [bne_nil_eq]; done) | (simp [errW_none, errW_some] <;> rfl) | (simp [*, errW_none, errW_some] <;> rfl), by repeat (first | (with_reducible first | exact HB.out | apply below_alloc | apply pw_below_drewN | apply below_drew1 | refine below_set ?_ GE162.out) | exact HB.out | exact Below.refl _ _)⟩
          rw [if_neg c77] at H
          have c77b0 : decide (0 ≤ a0_1) = false := decide_eq_false c77
          clear c77
          obtain rfl := Option.some.inj H
          have hcz79_0 : wc.cell? ⟨gb162, 0, none⟩ = some (.int .i64 a0_0) := (blk_cell BK162.out 0).trans rfl
          have hcz79_1 : wc.cell? ⟨gb162, 1, none⟩ = some (.int .i64 a0_1) := (blk_cell BK162.out 1).trans rfl
          have hcz79_2 : wc.cell? ⟨gb162, 2, none⟩ = some (.int .i64 a0_2) := (blk_cell BK162.out 2).trans rfl
          have hfz79_0 := blk_frozen BK162.out 0
          have hfz79_1 := blk_frozen BK162.out 1
          have hfz79_2 := blk_frozen BK162.out 2
          go_wp2
          go_ret
          exact ⟨by first | rfl | (rw [bne_nil_eq]; rfl) | (simp [bne_nil_eq]; done) | (simp [errW_none, errW_some] <;> rfl) | (simp [*, errW_none, errW_some] <;> rfl), by repeat (first | (with_reducible first | exact HB.out | apply below_alloc | apply pw_below_drewN | apply below_drew1 | refine below_set ?_ GE162.out) | exact HB.out | exact Below.refl _ _)⟩
         replace c76 := Bool.eq_false_iff.mpr c76
         subst c76
         have H1 : (if a0_0 = 21 then (if a0_1 ≥ 1 then (some (decide (a0_1 ≤ 1000))) else (some false)) else (some true)) = some r := by rw [if_neg (show ¬ (false = true) by decide)] at H; exact H
         clear H
         have H := H1
         clear H1
         by_cases c80 : a0_0 = 21
         rotate_left
         ·rw [if_neg c80] at H
          have c80b0 : (a0_0 == 21) = false := beq_eq_false_iff_ne.mpr c80
          have c80b1 : (a0_0 != 21) = true := bne_iff_ne.mpr c80
          obtain rfl := Option.some.inj H
          go_wp2
          go_ret
          exact ⟨by first | rfl | (rw [bne_nil_eq]; rfl) | (simp [bne_nil_eq]; done) | (simp [errW_none, errW_some] <;> rfl) | (simp [*, errW_none, errW_some] <;> rfl), by repeat (first | (with_reducible first | exact HB.out | apply below_alloc | apply pw_below_drewN | apply below_drew1 | refine below_set ?_ GE162.out) | exact HB.out | exact Below.refl _ _)⟩
         rw [if_pos c80] at H
         have c80b0 : (a0_0 == 21) = true := beq_iff_eq.mpr c80
         have c80b1 : (a0_0 != 21) = false := bne_eq_false_iff_eq.mpr c80
         clear c80
         by_cases c81 : a0_1 ≥ 1
         ·rw [if_pos c81] at H
          have c81b0 : decide (1 ≤ a0_1) = true := decide_eq_true c81
          clear c81
          obtain rfl := Option.some.inj H
          have hcz82_0 : wc.cell? ⟨gb162, 0, none⟩ = some (.int .i64 a0_0) := (blk_cell BK162.out 0).trans rfl
          have hcz82_1 : wc.cell? ⟨gb162, 1, none⟩ = some (.int .i64 a0_1) := (blk_cell BK162.out 1).trans rfl
          have hcz82_2 : wc.cell? ⟨gb162, 2, none⟩ = some (.int .i64 a0_2) := (blk_cell BK162.out 2).trans rfl
          have hfz82_0 := blk_frozen BK162.out 0
          have hfz82_1 := blk_frozen BK162.out 1
          have hfz82_2 := blk_frozen BK162.out 2
          go_wp2
          go_ret
          exact ⟨by first | rfl | (rw [bne_nil_eq]; rfl) | (simp [bne_nil_eq]; done) | (simp [errW_none, errW_some] <;> rfl) | (simp [*, errW_none, errW_some] <;> rfl), by repeat (first | (with_reducible first | exact HB.out | apply below_alloc | apply pw_below_drewN | apply below_drew1 | refine below_set ?_ GE162.out) | exact HB.out | exact Below.refl _ _)⟩
         rw [if_neg c81] at H
         have c81b0 : decide (1 ≤ a0_1) = false := decide_eq_false c81
         clear c81
         obtain rfl := Option.some.inj H
         have hcz83_0 : wc.cell? ⟨gb162, 0, none⟩ = some (.int .i64 a0_0) := (blk_cell BK162.out 0).trans rfl
         have hcz83_1 : wc.cell? ⟨gb162, 1, none⟩ = some (.int .i64 a0_1) := (blk_cell BK162.out 1).trans rfl
         have hcz83_2 : wc.cell? ⟨gb162, 2, none⟩ = some (.int .i64 a0_2) := (blk_cell BK162.out 2).trans rfl
         have hfz83_0 := blk_frozen BK162.out 0
         have hfz83_1 := blk_frozen BK162.out 1
         have hfz83_2 := blk_frozen BK162.out 2
         go_wp2
         go_ret
         exact ⟨by first | rfl | (rw [bne_nil_eq]; rfl) | (simp [bne_nil_eq]; done) | (simp [errW_none, errW_some] <;> rfl) | (simp [*, errW_none, errW_some] <;> rfl), by repeat (first | (with_reducible first | exact HB.out | apply below_alloc | apply pw_below_drewN | apply below_drew1 | refine below_set ?_ GE162.out) | exact HB.out | exact Below.refl _ _)⟩

end Go.Proofs.Ytdhlhbhclggheaa.Q
