-- Written by a program of this session (wip/tools: patched print) for this claim. Not trusted: Lean checks it.
import Derived.Test.YtdhlhbhclggheaaPx0
import Derived.Test.YtdhlhbhclggheaaPx1
import Derived.Test.YtdhlhbhclggheaaPx2
namespace Go.Proofs.Ytdhlhbhclggheaa.P
open Go.RowKit Go.Proofs.YtdhlhbhclggheaaW.PrintWords Go.Proofs.YtdhlhbhclggheaaW.PrintLast Go.Proofs.YtdhlhbhclggheaaW.PrintMore
attribute [local go_sem] max2_int min2_int max_two min_two max_three min_three max_four min_four   -- for this text's walks alone
set_option linter.unusedVariables false
set_option linter.unusedSimpArgs false

attribute [local go_sem high] eqA37
/-! ### camshaftlaw07_TypesKinds: function 6 -/
mutual
def camshaftlaw07_TypesKinds.l0 : Nat → ByteArray → ByteArray → List Bool → Int → Int → Int → Int → Option (Bool)
  | 0, _, _, _, _, _, _, _ => none
  | k + 1, x7, x8, x9, x10, x390000, x390001, x390002 => if x10 < (x7.size : Int) then (if 0 ≤ x10 then (if x10 ≤ (wrap64 (x10 + 1)) then (if (wrap64 (x10 + 1)) ≤ (x7.size : Int) then (if (x7.extract (x10 : Int).toNat ((wrap64 (x10 + 1)) : Int).toNat).toList = ([32] : List UInt8) then (if x10 < (x9.length : Int) then (camshaftlaw07_TypesKinds.j1 k x7 x8 x9 x10 (x7.extract (x10 : Int).toNat ((wrap64 (x10 + 1)) : Int).toNat) (rdOf false x9 x10) x390000 x390001 x390002) else (none)) else (camshaftlaw07_TypesKinds.j1 k x7 x8 x9 x10 (x7.extract (x10 : Int).toNat ((wrap64 (x10 + 1)) : Int).toNat) false x390000 x390001 x390002)) else (none)) else (none)) else (none)) else ((types_Gives.f x390000 x390001 x390002 x8).bind fun t395 => (camshaftlaw07_TypesKinds.l1 k x8 t395 0 x390000 x390001 x390002))
def camshaftlaw07_TypesKinds.j1 : Nat → ByteArray → ByteArray → List Bool → Int → ByteArray → Bool → Int → Int → Int → Option (Bool)
  | 0, _, _, _, _, _, _, _, _, _ => none
  | k + 1, x7, x8, x9, x10, x11, x40, x390000, x390001, x390002 => if x40 = true then (if ([105] : List UInt8) = ([32] : List UInt8) then (if x8.size + 1 ≤ 9223372036854775807 then (camshaftlaw07_TypesKinds.l0 k x7 (x8 ++ (⟨#[98]⟩ : ByteArray)) x9 (wrap64 (x10 + 1)) x390000 x390001 x390002) else (none)) else (if x8.size + 1 ≤ 9223372036854775807 then (camshaftlaw07_TypesKinds.l0 k x7 (x8 ++ (⟨#[105]⟩ : ByteArray)) x9 (wrap64 (x10 + 1)) x390000 x390001 x390002) else (none))) else (if x11.toList = ([32] : List UInt8) then (if x8.size + 1 ≤ 9223372036854775807 then (camshaftlaw07_TypesKinds.l0 k x7 (x8 ++ (⟨#[98]⟩ : ByteArray)) x9 (wrap64 (x10 + 1)) x390000 x390001 x390002) else (none)) else (if x8.size + x11.size ≤ 9223372036854775807 then (camshaftlaw07_TypesKinds.l0 k x7 (x8 ++ x11) x9 (wrap64 (x10 + 1)) x390000 x390001 x390002) else (none)))
def camshaftlaw07_TypesKinds.l1 : Nat → ByteArray → ByteArray → Int → Int → Int → Int → Option (Bool)
  | 0, _, _, _, _, _, _ => none
  | k + 1, x8, x12, x13, x390000, x390001, x390002 => if x13 < (x12.size : Int) then (if 0 ≤ x13 then (if (bt x12 x13) = 105 then (camshaftlaw07_TypesKinds.l1 k x8 x12 (wrap64 (x13 + 1)) x390000 x390001 x390002) else (if (bt x12 x13) = 98 then (camshaftlaw07_TypesKinds.l1 k x8 x12 (wrap64 (x13 + 1)) x390000 x390001 x390002) else (some false))) else (none)) else (if (x390000 == 3 && (x390001 == 0 && (x390002 == 0))) = true then (if x8.size + x8.size ≤ 9223372036854775807 then (if x12.toList = (x8 ++ x8).toList then (if (x390000 == 4 && (x390001 == 0 && (x390002 == 0))) = true then ((types_Gives.f x390000 x390001 x390002 x12).bind fun t396 => (camshaftlaw07_TypesKinds.j3 k x8 x12 (t396.toList != x8.toList) x390000 x390001 x390002)) else (camshaftlaw07_TypesKinds.j3 k x8 x12 false x390000 x390001 x390002)) else (camshaftlaw07_TypesKinds.j3 k x8 x12 true x390000 x390001 x390002)) else (none)) else (if (x390000 == 4 && (x390001 == 0 && (x390002 == 0))) = true then ((types_Gives.f x390000 x390001 x390002 x12).bind fun t397 => (camshaftlaw07_TypesKinds.j3 k x8 x12 (t397.toList != x8.toList) x390000 x390001 x390002)) else (camshaftlaw07_TypesKinds.j3 k x8 x12 false x390000 x390001 x390002)))
def camshaftlaw07_TypesKinds.j3 : Nat → ByteArray → ByteArray → Bool → Int → Int → Int → Option (Bool)
  | 0, _, _, _, _, _, _ => none
  | k + 1, x8, x12, x86, x390000, x390001, x390002 => if x86 = true then (some false) else (if (x12.size : Int) ≤ 2 then (if x8.size + 1 ≤ 9223372036854775807 then ((types_Gives.f x390000 x390001 x390002 (x8 ++ (⟨#[105]⟩ : ByteArray))).bind fun t398 => (if t398.toList = ([] : List UInt8) then ((camshaftlaw07_known.f k).bind fun t399 => (some t399)) else (some false))) else (none)) else (some false))
end
def camshaftlaw07_TypesKinds.f (k : Nat) (a0_0 : Int) (a0_1 : Int) (a0_2 : Int) (a1 : Bool) (a2 : Bool) : Option (Bool) := (types_Takes.f a0_0 a0_1 a0_2).bind fun t390 => (if (t390.size : Int) > 2 then (some false) else (camshaftlaw07_TypesKinds.l0 k t390 (⟨#[]⟩ : ByteArray) (([a1, a2] : List Bool)) 0 a0_0 a0_1 a0_2))
theorem camshaftlaw07_TypesKinds.mono_l : ∀ k, (∀ y0 y1 y2 y3 y4 y5 y6, LeO (camshaftlaw07_TypesKinds.l0 k y0 y1 y2 y3 y4 y5 y6) (camshaftlaw07_TypesKinds.l0 (k + 1) y0 y1 y2 y3 y4 y5 y6)) ∧ (∀ y0 y1 y2 y3 y4 y5 y6 y7 y8, LeO (camshaftlaw07_TypesKinds.j1 k y0 y1 y2 y3 y4 y5 y6 y7 y8) (camshaftlaw07_TypesKinds.j1 (k + 1) y0 y1 y2 y3 y4 y5 y6 y7 y8)) ∧ (∀ y0 y1 y2 y3 y4 y5, LeO (camshaftlaw07_TypesKinds.l1 k y0 y1 y2 y3 y4 y5) (camshaftlaw07_TypesKinds.l1 (k + 1) y0 y1 y2 y3 y4 y5)) ∧ (∀ y0 y1 y2 y3 y4 y5, LeO (camshaftlaw07_TypesKinds.j3 k y0 y1 y2 y3 y4 y5) (camshaftlaw07_TypesKinds.j3 (k + 1) y0 y1 y2 y3 y4 y5))
  | 0 => ⟨fun _ _ _ _ _ _ _ r h => by simp [camshaftlaw07_TypesKinds.l0] at h, fun _ _ _ _ _ _ _ _ _ r h => by simp [camshaftlaw07_TypesKinds.j1] at h, fun _ _ _ _ _ _ r h => by simp [camshaftlaw07_TypesKinds.l1] at h, fun _ _ _ _ _ _ r h => by simp [camshaftlaw07_TypesKinds.j3] at h⟩
  | k + 1 => by
    obtain ⟨ih0, ih1, ih2, ih3⟩ := camshaftlaw07_TypesKinds.mono_l k
    refine ⟨?_, ?_, ?_, ?_⟩
    · intro y0 y1 y2 y3 y4 y5 y6
      unfold camshaftlaw07_TypesKinds.l0
      repeat' first
      | (with_reducible exact ih0 _ _ _ _ _ _ _)
      | (with_reducible exact ih1 _ _ _ _ _ _ _ _ _)
      | (with_reducible exact ih2 _ _ _ _ _ _)
      | (with_reducible exact ih3 _ _ _ _ _ _)
      | (with_reducible exact camshaftlaw07_known.mono _)
      | (with_reducible exact LeO.refl _)
      | (with_reducible exact LeO.none _)
      | (with_reducible refine LeO.ite ?_ ?_)
      | (with_reducible refine LeO.bind ?_ (fun _ => ?_))
      | exact ih0 _ _ _ _ _ _ _
      | exact ih1 _ _ _ _ _ _ _ _ _
      | exact ih2 _ _ _ _ _ _
      | exact ih3 _ _ _ _ _ _
      | exact camshaftlaw07_known.mono _
      | exact LeO.none _
      | refine LeO.ite ?_ ?_
      | refine LeO.bind ?_ (fun _ => ?_)
    · intro y0 y1 y2 y3 y4 y5 y6 y7 y8
      unfold camshaftlaw07_TypesKinds.j1
      repeat' first
      | (with_reducible exact ih0 _ _ _ _ _ _ _)
      | (with_reducible exact ih1 _ _ _ _ _ _ _ _ _)
      | (with_reducible exact ih2 _ _ _ _ _ _)
      | (with_reducible exact ih3 _ _ _ _ _ _)
      | (with_reducible exact camshaftlaw07_known.mono _)
      | (with_reducible exact LeO.refl _)
      | (with_reducible exact LeO.none _)
      | (with_reducible refine LeO.ite ?_ ?_)
      | (with_reducible refine LeO.bind ?_ (fun _ => ?_))
      | exact ih0 _ _ _ _ _ _ _
      | exact ih1 _ _ _ _ _ _ _ _ _
      | exact ih2 _ _ _ _ _ _
      | exact ih3 _ _ _ _ _ _
      | exact camshaftlaw07_known.mono _
      | exact LeO.none _
      | refine LeO.ite ?_ ?_
      | refine LeO.bind ?_ (fun _ => ?_)
    · intro y0 y1 y2 y3 y4 y5
      unfold camshaftlaw07_TypesKinds.l1
      repeat' first
      | (with_reducible exact ih0 _ _ _ _ _ _ _)
      | (with_reducible exact ih1 _ _ _ _ _ _ _ _ _)
      | (with_reducible exact ih2 _ _ _ _ _ _)
      | (with_reducible exact ih3 _ _ _ _ _ _)
      | (with_reducible exact camshaftlaw07_known.mono _)
      | (with_reducible exact LeO.refl _)
      | (with_reducible exact LeO.none _)
      | (with_reducible refine LeO.ite ?_ ?_)
      | (with_reducible refine LeO.bind ?_ (fun _ => ?_))
      | exact ih0 _ _ _ _ _ _ _
      | exact ih1 _ _ _ _ _ _ _ _ _
      | exact ih2 _ _ _ _ _ _
      | exact ih3 _ _ _ _ _ _
      | exact camshaftlaw07_known.mono _
      | exact LeO.none _
      | refine LeO.ite ?_ ?_
      | refine LeO.bind ?_ (fun _ => ?_)
    · intro y0 y1 y2 y3 y4 y5
      unfold camshaftlaw07_TypesKinds.j3
      repeat' first
      | (with_reducible exact ih0 _ _ _ _ _ _ _)
      | (with_reducible exact ih1 _ _ _ _ _ _ _ _ _)
      | (with_reducible exact ih2 _ _ _ _ _ _)
      | (with_reducible exact ih3 _ _ _ _ _ _)
      | (with_reducible exact camshaftlaw07_known.mono _)
      | (with_reducible exact LeO.refl _)
      | (with_reducible exact LeO.none _)
      | (with_reducible refine LeO.ite ?_ ?_)
      | (with_reducible refine LeO.bind ?_ (fun _ => ?_))
      | exact ih0 _ _ _ _ _ _ _
      | exact ih1 _ _ _ _ _ _ _ _ _
      | exact ih2 _ _ _ _ _ _
      | exact ih3 _ _ _ _ _ _
      | exact camshaftlaw07_known.mono _
      | exact LeO.none _
      | refine LeO.ite ?_ ?_
      | refine LeO.bind ?_ (fun _ => ?_)
theorem camshaftlaw07_TypesKinds.mono : ∀ a0 a1 a2 a3 a4 k, LeO (camshaftlaw07_TypesKinds.f k a0 a1 a2 a3 a4) (camshaftlaw07_TypesKinds.f (k + 1) a0 a1 a2 a3 a4) := by
  intro a0 a1 a2 a3 a4 k
  obtain ⟨ih0, ih1, ih2, ih3⟩ := camshaftlaw07_TypesKinds.mono_l k
  unfold camshaftlaw07_TypesKinds.f
  repeat' first
      | (with_reducible exact ih0 _ _ _ _ _ _ _)
      | (with_reducible exact ih1 _ _ _ _ _ _ _ _ _)
      | (with_reducible exact ih2 _ _ _ _ _ _)
      | (with_reducible exact ih3 _ _ _ _ _ _)
      | (with_reducible exact camshaftlaw07_known.mono _)
      | (with_reducible exact LeO.refl _)
      | (with_reducible exact LeO.none _)
      | (with_reducible refine LeO.ite ?_ ?_)
      | (with_reducible refine LeO.bind ?_ (fun _ => ?_))
      | exact ih0 _ _ _ _ _ _ _
      | exact ih1 _ _ _ _ _ _ _ _ _
      | exact ih2 _ _ _ _ _ _
      | exact ih3 _ _ _ _ _ _
      | exact camshaftlaw07_known.mono _
      | exact LeO.none _
      | refine LeO.ite ?_ ?_
      | refine LeO.bind ?_ (fun _ => ?_)
set_option maxHeartbeats 8000000 in
set_option maxRecDepth 100000 in
theorem camshaftlaw07_TypesKinds.calls (k : Nat) (a0_0 : Int) (a0_1 : Int) (a0_2 : Int) (a1 : Bool) (a2 : Bool) (r : Bool) (w : World) (h : camshaftlaw07_TypesKinds.f k a0_0 a0_1 a0_2 a1 a2 = some r) (ht : r = true) :
    Calls Try.prog 6 #[.agg #[.int .i64 a0_0, .int .i64 a0_1, .int .i64 a0_2], .bool a1, .bool a2] w fun e w' => e = .returned (.bool r) ∧ Below w.heap.size w w' := by
  have hu37 := Try.underlying37
  have HT := Aside0.mk ht
  clear ht
  have HB := Aside0.mk (Below.refl w.heap.size w)
  have H : ((types_Takes.f a0_0 a0_1 a0_2).bind fun t390 => (if (t390.size : Int) > 2 then (some false) else (camshaftlaw07_TypesKinds.l0 k t390 (⟨#[]⟩ : ByteArray) (([a1, a2] : List Bool)) 0 a0_0 a0_1 a0_2))) = some r := h
  clear h
  replace H := Option.bind_eq_some_iff.mp H
  obtain ⟨t390, A40, H⟩ := H
  replace H : (if (t390.size : Int) > 2 then (some false) else (camshaftlaw07_TypesKinds.l0 k t390 (⟨#[]⟩ : ByteArray) (([a1, a2] : List Bool)) 0 a0_0 a0_1 a0_2)) = some r := H
  have A4 := Aside0.mk A40
  clear A40
  by_cases c5 : (t390.size : Int) > 2
  · rw [if_pos c5] at H
    have c5b0 : decide (2 < (t390.size : Int)) = true := decide_eq_true c5
    have c5b1 : decide (2 < t390.size) = true := decide_eq_true (by omega)
    clear c5
    exact absurd ((Option.some.inj H).trans HT.out) (by decide)
  · rw [if_neg c5] at H
    have c5b0 : decide (2 < (t390.size : Int)) = false := decide_eq_false c5
    have c5b1 : decide (2 < t390.size) = false := decide_eq_false (by omega)
    clear c5
    obtain ⟨y391, hy391⟩ : ∃ y_ : List Bool, y_ = (([a1, a2] : List Bool)) := ⟨_, rfl⟩
    replace H : (camshaftlaw07_TypesKinds.l0 k t390 (⟨#[]⟩ : ByteArray) y391 0 a0_0 a0_1 a0_2) = some r := by first | (rw [hy391]; with_reducible exact H) | (have H2_ := (Option.bind_some _ _).symm.trans H; rw [hy391]; with_reducible exact H2_) | (have H2_ := (Option.bind_some _ _).symm.trans H; with_reducible exact H2_) | with_reducible exact H | (rw [hy391]; exact H) | exact H
    have Ny391 := Aside0.mk hy391
    clear hy391
    have H' := Aside0.mk H
    clear H
    go_enter Try.func6, Try.ntmps6
    go_wp2_with (first | ((with_reducible refine gate_dst (N := 3) rfl ?_); refine box_event ?hg (N := 3) ?hd (cs := #[.int .i64 a0_0, .int .i64 a0_1, .int .i64 a0_2]) (t := 37) ?hr ?_; (case hd => rfl); (case hg => rfl); (case hr => first | (go_simp; done) | (go_simp; rfl)); intro gb389 hg w6 hbox hb; have n0_ := Aside0.mk (below_step (by repeat (first | (with_reducible first | exact HB.out | apply below_alloc | apply pw_below_drewN | apply below_drew1) | exact HB.out)) hb); have n1_ := Aside0.mk (hbox); have n2_ := Aside0.mk ((by rw [hg]; exact (below_size (by repeat (first | (with_reducible first | exact HB.out | apply below_alloc | apply pw_below_drewN | apply below_drew1) | exact HB.out))) : w.heap.size ≤ gb389)); have n3_ := Aside0.mk ((by rw [hg]; exact (below_size (by repeat (first | (with_reducible first | exact HB.out | apply below_alloc | apply pw_below_drewN | apply below_drew1) | exact HB.out))) : w.heap.size ≤ gb389)); clear HB; have HB := n0_; have BK389 := n1_; have GW389 := n2_; have GE389 := n3_; clear n0_ n1_ n2_ n3_; clear hb hbox hg; have hcz7_0 : w6.cell? ⟨gb389, 0, none⟩ = some (.int .i64 a0_0) := (blk_cell BK389.out 0).trans rfl; have hcz7_1 : w6.cell? ⟨gb389, 1, none⟩ = some (.int .i64 a0_1) := (blk_cell BK389.out 1).trans rfl; have hcz7_2 : w6.cell? ⟨gb389, 2, none⟩ = some (.int .i64 a0_2) := (blk_cell BK389.out 2).trans rfl; have hfz7_0 := blk_frozen BK389.out 0; have hfz7_1 := blk_frozen BK389.out 1; have hfz7_2 := blk_frozen BK389.out 2) | ((with_reducible refine gate_callee (f := 15) rfl ?_); refine goesL_ (some 15) rfl rfl Try.func15 (by kernel_rfl) rfl #[.agg #[.int .i64 a0_0, .int .i64 a0_1, .int .i64 a0_2]] rfl (by (try simp only [List.map_toArray, List.map_cons, List.map_nil]); first | done | rfl | (simp only [List.length_drop, List.length_take]; rfl)) ?_; (with_reducible refine (types_Takes.calls a0_0 a0_1 a0_2 t390 _ A4.out).mono ?_); rintro e w8 ⟨rfl, hb⟩; refine ⟨_, rfl, ?_⟩; have n0_ := Aside0.mk (blk_below (g := gb389) (o := .cells #[.int .i64 a0_0, .int .i64 a0_1, .int .i64 a0_2] 37 (0, 0)) (by (with_reducible repeat (first | refine blk_drewN ?_ _ | refine blk_drew ?_ | refine blk_alloc ?_ _)); exact BK389.out) hb); have n1_ := Aside0.mk (below_step (by repeat (first | (with_reducible first | exact HB.out | apply below_alloc | apply pw_below_drewN | apply below_drew1 | refine below_set ?_ GE389.out) | exact HB.out)) hb); clear BK389; clear HB; have BK389 := n0_; have HB := n1_; clear n0_ n1_; (try clear hb); (try clear hb2); (try clear hk); (try clear hi)) | ((with_reducible refine gate_dst (N := 21) rfl ?_); refine Kd.R_lit Kd.bool _ 4 ?hg (N := 21) ?hd (xs := ([a1, a2] : List Bool)) (inner := [.bool a1, .bool a2]) (ok := fun _ => True) (okp := fun _ => True) ?hr ?hp (fun _ hk => hk) trivial (Below.refl _ _) (Nat.le_refl _) (by simp) ?_; (case hd => rfl); (case hg => rfl); (case hr => first | (go_simp; done) | (go_simp; rfl)); (case hp => exact (Reps.one (show Kd.M Kd.bool _ _ _ a1 [.bool a1] from rfl) (Reps.one (show Kd.M Kd.bool _ _ _ a2 [.bool a2] from rfl) (Reps.none _ _)))); intro v392 w9 ho10 hb hg_ hnew_; clear hg_ hnew_; (first | rw [← Ny391.out] at ho10 | (simp only [Int.reduceToNat] at ho10; rw [← Ny391.out] at ho10)); have n0_ := Aside0.mk (Kd.R_lower ho10 (below_size (by repeat (first | (with_reducible first | exact HB.out | apply below_alloc | apply pw_below_drewN | apply below_drew1 | refine below_set ?_ GE389.out) | exact HB.out)))); have n1_ := Aside0.mk (blk_below (g := gb389) (o := .cells #[.int .i64 a0_0, .int .i64 a0_1, .int .i64 a0_2] 37 (0, 0)) (by (with_reducible repeat (first | refine blk_drewN ?_ _ | refine blk_drew ?_ | refine blk_alloc ?_ _)); exact BK389.out) hb); have n2_ := Aside0.mk (below_step (by repeat (first | (with_reducible first | exact HB.out | apply below_alloc | apply pw_below_drewN | apply below_drew1 | refine below_set ?_ GE389.out) | exact HB.out)) hb); clear BK389; clear HB; have HO393 := n0_; have BK389 := n1_; have HB := n2_; clear n0_ n1_ n2_; clear hb ho10))
    go_loopg [8, 10] k (fun kq v8 v10 w' => ∃ (x8_1 : ByteArray) (x10_1 : Int), v8 = .string x8_1 ∧ v10 = .int .i64 x10_1 ∧ Aside0 (camshaftlaw07_TypesKinds.l0 kq t390 x8_1 y391 x10_1 a0_0 a0_1 a0_2 = some r) ∧ Aside0 (kq ≤ k) ∧ Aside0 (Kd.R Kd.bool 4 w' w.heap.size (fun _ => True) v392 y391) ∧ Aside0 (w'.heap[gb389]? = some (.cells #[.int .i64 a0_0, .int .i64 a0_1, .int .i64 a0_2] 37 (0, 0))) ∧ Aside0 (Below w.heap.size w w'))
    case atStart => exact ⟨((⟨#[]⟩ : ByteArray)), (0), (by first | rfl | (simp; done) | (simp [*]; done)), (by first | rfl | (simp; done) | (simp [*]; done)), H', ⟨Nat.le_refl _⟩, ⟨by (with_reducible repeat (first | apply Kd.R_alloc | apply Kd.R_drewN | apply Kd.R_drew)); exact HO393.out⟩, ⟨by (with_reducible repeat (first | refine blk_drewN ?_ _ | refine blk_drew ?_ | refine blk_alloc ?_ _)); exact BK389.out⟩, ⟨by repeat (first | (with_reducible first | exact HB.out | apply below_alloc | apply pw_below_drewN | apply below_drew1 | refine below_set ?_ GE389.out) | exact HB.out)⟩⟩
    case round =>
      clear H'
      try clear c1
      try clear p2
      try clear c5
      try clear c5b0
      try clear c5b1
      try clear c6
      try clear hcz7_0
      try clear hcz7_1
      try clear hcz7_2
      try clear hfz7_0
      try clear hfz7_1
      try clear hfz7_2
      obtain ⟨x8_1, x10_1, rfl, rfl, HA, HK1, HO_9, BK389, HB⟩ := hrel
      cases gk with
      | zero => exact absurd HA.out (by simp [camshaftlaw07_TypesKinds.l0])
      | succ k1 =>
        have H := HA.out
        clear HA
        simp only [camshaftlaw07_TypesKinds.l0] at H
        by_cases c11 : x10_1 < (t390.size : Int)
        · rw [if_pos c11] at H
          have c11b0 : decide (x10_1 < (t390.size : Int)) = true := decide_eq_true c11
          clear c11
          by_cases c12 : 0 ≤ x10_1
          · rw [if_pos c12] at H
            have c12b0 := eq_true c12
            have c12b1 : decide (0 ≤ x10_1) = true := decide_eq_true c12
            clear c12
            by_cases c13 : x10_1 ≤ (wrap64 (x10_1 + 1))
            · rw [if_pos c13] at H
              have c13b0 := eq_true c13
              have c13b1 : decide (x10_1 ≤ (wrap64 (x10_1 + 1))) = true := decide_eq_true c13
              by_cases c14 : (wrap64 (x10_1 + 1)) ≤ (t390.size : Int)
              · rw [if_pos c14] at H
                have c14b0 := eq_true c14
                have c14b1 : decide ((wrap64 (x10_1 + 1)) ≤ (t390.size : Int)) = true := decide_eq_true c14
                have HC15 := Aside0.mk H
                clear H
                go_upto_region 10 with (fail)
                go_cut [40] (fun v40 wc => ∃ (kq : Nat) (x40_14 : Bool), v40 = .bool x40_14 ∧ Aside0 (camshaftlaw07_TypesKinds.j1 kq t390 x8_1 y391 x10_1 (t390.extract (x10_1 : Int).toNat ((wrap64 (x10_1 + 1)) : Int).toNat) x40_14 a0_0 a0_1 a0_2 = some r) ∧ Aside0 (kq ≤ k1) ∧ Aside0 (Kd.R Kd.bool 4 wc w.heap.size (fun _ => True) v392 y391) ∧ Aside0 (wc.heap[gb389]? = some (.cells #[.int .i64 a0_0, .int .i64 a0_1, .int .i64 a0_2] 37 (0, 0))) ∧ Aside0 (Below w.heap.size w wc))
                case first =>
                  have H := HC15.out
                  clear HC15
                  by_cases c16 : (t390.extract (x10_1 : Int).toNat ((wrap64 (x10_1 + 1)) : Int).toNat).toList = ([32] : List UInt8)
                  · rw [if_pos c16] at H
                    have c16b0 : ((t390.extract (x10_1 : Int).toNat ((wrap64 (x10_1 + 1)) : Int).toNat).toList == ([32] : List UInt8)) = true := beq_iff_eq.mpr c16
                    have c16b1 : ((t390.extract (x10_1 : Int).toNat ((wrap64 (x10_1 + 1)) : Int).toNat).toList != ([32] : List UInt8)) = false := bne_eq_false_iff_eq.mpr c16
                    clear c16
                    (first | rw [c16b0] | (simp only [i64_w, i32_w]; rw [c16b0]) | rw [c16b1] | skip)
                    by_cases c17 : x10_1 < (y391.length : Int)
                    · rw [if_pos c17] at H
                      have c17b0 : decide (x10_1 < (y391.length : Int)) = true := decide_eq_true c17
                      clear c17
                      have H' := Aside0.mk H
                      clear H
                      obtain ⟨Ao18, co18, eo18⟩ := Kd.R_slice HO_9.out
                      subst eo18
                      have p394 : 0 ≤ (x10_1 : Int) := of_decide_eq_true (by first | (with_reducible assumption) | assumption)
                      have q394 : x10_1 < (y391.length : Int) := of_decide_eq_true (by first | (with_reducible assumption) | assumption)
                      obtain ⟨ad394, e394, hx394_0⟩ := Kd.at_bool (Kd.R_reads' HO_9.out).2.2 x10_1 p394 q394
                      cases e394
                      replace p394 := eq_true p394
                      replace q394 := eq_true q394
                      go_wp2
                      go_meet
                      case rel => exact ⟨_, (rdOf false y391 x10_1), (by first | rfl | (simp; done) | (simp [*]; done)), H', ⟨by have := HK1.out; first | omega | exact Nat.le_refl _⟩, ⟨by (with_reducible repeat (first | apply Kd.R_alloc | apply Kd.R_drewN | apply Kd.R_drew)); exact HO_9.out⟩, ⟨by (with_reducible repeat (first | refine blk_drewN ?_ _ | refine blk_drew ?_ | refine blk_alloc ?_ _)); exact BK389.out⟩, ⟨by repeat (first | (with_reducible first | exact HB.out | apply below_alloc | apply pw_below_drewN | apply below_drew1 | refine below_set ?_ GE389.out) | exact HB.out | exact Below.refl _ _)⟩⟩
                    · rw [if_neg c17] at H
                      exact absurd H (by simp)
                  · rw [if_neg c16] at H
                    have c16b0 : ((t390.extract (x10_1 : Int).toNat ((wrap64 (x10_1 + 1)) : Int).toNat).toList == ([32] : List UInt8)) = false := beq_eq_false_iff_ne.mpr c16
                    have c16b1 : ((t390.extract (x10_1 : Int).toNat ((wrap64 (x10_1 + 1)) : Int).toNat).toList != ([32] : List UInt8)) = true := bne_iff_ne.mpr c16
                    (first | rw [c16b0] | (simp only [i64_w, i32_w]; rw [c16b0]) | rw [c16b1] | skip)
                    have H' := Aside0.mk H
                    clear H
                    go_wp2
                    go_meet
                    case rel => exact ⟨_, (false), (by first | rfl | (simp; done) | (simp [*]; done)), H', ⟨by have := HK1.out; first | omega | exact Nat.le_refl _⟩, ⟨by (with_reducible repeat (first | apply Kd.R_alloc | apply Kd.R_drewN | apply Kd.R_drew)); exact HO_9.out⟩, ⟨by (with_reducible repeat (first | refine blk_drewN ?_ _ | refine blk_drew ?_ | refine blk_alloc ?_ _)); exact BK389.out⟩, ⟨by repeat (first | (with_reducible first | exact HB.out | apply below_alloc | apply pw_below_drewN | apply below_drew1 | refine below_set ?_ GE389.out) | exact HB.out | exact Below.refl _ _)⟩⟩
                case rest =>
                  clear HC15
                  try clear c1
                  try clear p2
                  try clear p3
                  try clear q3
                  try clear hx3
                  try clear c5
                  try clear c5b0
                  try clear c5b1
                  try clear c6
                  try clear p6
                  try clear c11
                  try clear c11b0
                  try clear c12
                  try clear c12b0
                  try clear c12b1
                  try clear c13
                  try clear c13b0
                  try clear c13b1
                  try clear c14
                  try clear c14b0
                  try clear c14b1
                  try clear c15
                  try clear c16
                  try clear c16b0
                  try clear c16b1
                  try clear c17
                  try clear c17b0
                  try clear hcz7_0
                  try clear hcz7_1
                  try clear hcz7_2
                  try clear hfz7_0
                  try clear hfz7_1
                  try clear hfz7_2
                  try clear hx394_0
                  try clear p2
                  try clear p394
                  try clear q394
                  obtain ⟨kq, x40_14, rfl, HA, HJ14, HO_9, BK389, HB⟩ := hcut
                  cases kq with
                  | zero => exact absurd HA.out (by simp [camshaftlaw07_TypesKinds.j1])
                  | succ kj14 =>
                    have H := HA.out
                    clear HA
                    simp only [camshaftlaw07_TypesKinds.j1] at H
                    by_cases c19 : x40_14 = true
                    · subst c19
                      have H1 : (if ([105] : List UInt8) = ([32] : List UInt8) then (if x8_1.size + 1 ≤ 9223372036854775807 then (camshaftlaw07_TypesKinds.l0 kj14 t390 (x8_1 ++ (⟨#[98]⟩ : ByteArray)) y391 (wrap64 (x10_1 + 1)) a0_0 a0_1 a0_2) else (none)) else (if x8_1.size + 1 ≤ 9223372036854775807 then (camshaftlaw07_TypesKinds.l0 kj14 t390 (x8_1 ++ (⟨#[105]⟩ : ByteArray)) y391 (wrap64 (x10_1 + 1)) a0_0 a0_1 a0_2) else (none))) = some r := by rw [if_pos rfl] at H; exact H
                      clear H
                      have H := H1
                      clear H1
                      by_cases c20 : ([105] : List UInt8) = ([32] : List UInt8)
                      · rw [if_pos c20] at H
                        have c20b0 : (([105] : List UInt8) == ([32] : List UInt8)) = true := beq_iff_eq.mpr c20
                        have c20b1 : (([105] : List UInt8) != ([32] : List UInt8)) = false := bne_eq_false_iff_eq.mpr c20
                        clear c20
                        by_cases c21 : x8_1.size + 1 ≤ 9223372036854775807
                        · rw [if_pos c21] at H
                          have c21b0 := eq_true c21
                          have c21b1 : decide (x8_1.size + 1 ≤ 9223372036854775807) = true := decide_eq_true c21
                          try have c21b2 : (9223372036854775807 < x8_1.size + 1) = False := eq_false (Nat.not_lt.2 c21)
                          have H' := Aside0.mk H
                          clear H
                          go_wp2
                          go_roundg kj14
                          case measure => have := HK1.out; have := HJ14.out; omega
                          case rel => exact ⟨(x8_1 ++ (⟨#[98]⟩ : ByteArray)), (wrap64 (x10_1 + 1)), (by first | rfl | (simp; done) | (simp [*]; done)), (by first | rfl | (simp; done) | (simp [*]; done)), H', ⟨by have := HK1.out; have := HJ14.out; omega⟩, ⟨by (with_reducible repeat (first | apply Kd.R_alloc | apply Kd.R_drewN | apply Kd.R_drew)); exact HO_9.out⟩, ⟨by (with_reducible repeat (first | refine blk_drewN ?_ _ | refine blk_drew ?_ | refine blk_alloc ?_ _)); exact BK389.out⟩, ⟨by repeat (first | (with_reducible first | exact HB.out | apply below_alloc | apply pw_below_drewN | apply below_drew1 | refine below_set ?_ GE389.out) | exact HB.out | exact Below.refl _ _)⟩⟩
                        · rw [if_neg c21] at H
                          exact absurd H (by simp)
                      · rw [if_neg c20] at H
                        have c20b0 : (([105] : List UInt8) == ([32] : List UInt8)) = false := beq_eq_false_iff_ne.mpr c20
                        have c20b1 : (([105] : List UInt8) != ([32] : List UInt8)) = true := bne_iff_ne.mpr c20
                        by_cases c22 : x8_1.size + 1 ≤ 9223372036854775807
                        · rw [if_pos c22] at H
                          have c22b0 := eq_true c22
                          have c22b1 : decide (x8_1.size + 1 ≤ 9223372036854775807) = true := decide_eq_true c22
                          try have c22b2 : (9223372036854775807 < x8_1.size + 1) = False := eq_false (Nat.not_lt.2 c22)
                          have H' := Aside0.mk H
                          clear H
                          go_wp2
                          go_roundg kj14
                          case measure => have := HK1.out; have := HJ14.out; omega
                          case rel => exact ⟨(x8_1 ++ (⟨#[105]⟩ : ByteArray)), (wrap64 (x10_1 + 1)), (by first | rfl | (simp; done) | (simp [*]; done)), (by first | rfl | (simp; done) | (simp [*]; done)), H', ⟨by have := HK1.out; have := HJ14.out; omega⟩, ⟨by (with_reducible repeat (first | apply Kd.R_alloc | apply Kd.R_drewN | apply Kd.R_drew)); exact HO_9.out⟩, ⟨by (with_reducible repeat (first | refine blk_drewN ?_ _ | refine blk_drew ?_ | refine blk_alloc ?_ _)); exact BK389.out⟩, ⟨by repeat (first | (with_reducible first | exact HB.out | apply below_alloc | apply pw_below_drewN | apply below_drew1 | refine below_set ?_ GE389.out) | exact HB.out | exact Below.refl _ _)⟩⟩
                        · rw [if_neg c22] at H
                          exact absurd H (by simp)
                    · replace c19 := Bool.eq_false_iff.mpr c19
                      subst c19
                      have H1 : (if (t390.extract (x10_1 : Int).toNat ((wrap64 (x10_1 + 1)) : Int).toNat).toList = ([32] : List UInt8) then (if x8_1.size + 1 ≤ 9223372036854775807 then (camshaftlaw07_TypesKinds.l0 kj14 t390 (x8_1 ++ (⟨#[98]⟩ : ByteArray)) y391 (wrap64 (x10_1 + 1)) a0_0 a0_1 a0_2) else (none)) else (if x8_1.size + (t390.extract (x10_1 : Int).toNat ((wrap64 (x10_1 + 1)) : Int).toNat).size ≤ 9223372036854775807 then (camshaftlaw07_TypesKinds.l0 kj14 t390 (x8_1 ++ (t390.extract (x10_1 : Int).toNat ((wrap64 (x10_1 + 1)) : Int).toNat)) y391 (wrap64 (x10_1 + 1)) a0_0 a0_1 a0_2) else (none))) = some r := by rw [if_neg (show ¬ (false = true) by decide)] at H; exact H
                      clear H
                      have H := H1
                      clear H1
                      by_cases c23 : (t390.extract (x10_1 : Int).toNat ((wrap64 (x10_1 + 1)) : Int).toNat).toList = ([32] : List UInt8)
                      · rw [if_pos c23] at H
                        have c23b0 : ((t390.extract (x10_1 : Int).toNat ((wrap64 (x10_1 + 1)) : Int).toNat).toList == ([32] : List UInt8)) = true := beq_iff_eq.mpr c23
                        have c23b1 : ((t390.extract (x10_1 : Int).toNat ((wrap64 (x10_1 + 1)) : Int).toNat).toList != ([32] : List UInt8)) = false := bne_eq_false_iff_eq.mpr c23
                        clear c23
                        by_cases c24 : x8_1.size + 1 ≤ 9223372036854775807
                        · rw [if_pos c24] at H
                          have c24b0 := eq_true c24
                          have c24b1 : decide (x8_1.size + 1 ≤ 9223372036854775807) = true := decide_eq_true c24
                          try have c24b2 : (9223372036854775807 < x8_1.size + 1) = False := eq_false (Nat.not_lt.2 c24)
                          have H' := Aside0.mk H
                          clear H
                          go_wp2
                          go_roundg kj14
                          case measure => have := HK1.out; have := HJ14.out; omega
                          case rel => exact ⟨(x8_1 ++ (⟨#[98]⟩ : ByteArray)), (wrap64 (x10_1 + 1)), (by first | rfl | (simp; done) | (simp [*]; done)), (by first | rfl | (simp; done) | (simp [*]; done)), H', ⟨by have := HK1.out; have := HJ14.out; omega⟩, ⟨by (with_reducible repeat (first | apply Kd.R_alloc | apply Kd.R_drewN | apply Kd.R_drew)); exact HO_9.out⟩, ⟨by (with_reducible repeat (first | refine blk_drewN ?_ _ | refine blk_drew ?_ | refine blk_alloc ?_ _)); exact BK389.out⟩, ⟨by repeat (first | (with_reducible first | exact HB.out | apply below_alloc | apply pw_below_drewN | apply below_drew1 | refine below_set ?_ GE389.out) | exact HB.out | exact Below.refl _ _)⟩⟩
                        · rw [if_neg c24] at H
                          exact absurd H (by simp)
                      · rw [if_neg c23] at H
                        have c23b0 : ((t390.extract (x10_1 : Int).toNat ((wrap64 (x10_1 + 1)) : Int).toNat).toList == ([32] : List UInt8)) = false := beq_eq_false_iff_ne.mpr c23
                        have c23b1 : ((t390.extract (x10_1 : Int).toNat ((wrap64 (x10_1 + 1)) : Int).toNat).toList != ([32] : List UInt8)) = true := bne_iff_ne.mpr c23
                        by_cases c25 : x8_1.size + (t390.extract (x10_1 : Int).toNat ((wrap64 (x10_1 + 1)) : Int).toNat).size ≤ 9223372036854775807
                        · rw [if_pos c25] at H
                          have c25b0 := eq_true c25
                          have c25b1 : decide (x8_1.size + (t390.extract (x10_1 : Int).toNat ((wrap64 (x10_1 + 1)) : Int).toNat).size ≤ 9223372036854775807) = true := decide_eq_true c25
                          try have c25b2 : (9223372036854775807 < x8_1.size + (t390.extract (x10_1 : Int).toNat ((wrap64 (x10_1 + 1)) : Int).toNat).size) = False := eq_false (Nat.not_lt.2 c25)
                          have H' := Aside0.mk H
                          clear H
                          go_wp2
                          go_roundg kj14
                          case measure => have := HK1.out; have := HJ14.out; omega
                          case rel => exact ⟨(x8_1 ++ (t390.extract (x10_1 : Int).toNat ((wrap64 (x10_1 + 1)) : Int).toNat)), (wrap64 (x10_1 + 1)), (by first | rfl | (simp; done) | (simp [*]; done)), (by first | rfl | (simp; done) | (simp [*]; done)), H', ⟨by have := HK1.out; have := HJ14.out; omega⟩, ⟨by (with_reducible repeat (first | apply Kd.R_alloc | apply Kd.R_drewN | apply Kd.R_drew)); exact HO_9.out⟩, ⟨by (with_reducible repeat (first | refine blk_drewN ?_ _ | refine blk_drew ?_ | refine blk_alloc ?_ _)); exact BK389.out⟩, ⟨by repeat (first | (with_reducible first | exact HB.out | apply below_alloc | apply pw_below_drewN | apply below_drew1 | refine below_set ?_ GE389.out) | exact HB.out | exact Below.refl _ _)⟩⟩
                        · rw [if_neg c25] at H
                          exact absurd H (by simp)
              · rw [if_neg c14] at H
                exact absurd H (by simp)
            · rw [if_neg c13] at H
              exact absurd H (by simp)
          · rw [if_neg c12] at H
            exact absurd H (by simp)
        · rw [if_neg c11] at H
          have c11b0 : decide (x10_1 < (t390.size : Int)) = false := decide_eq_false c11
          clear c11
          replace H := Option.bind_eq_some_iff.mp H
          obtain ⟨t395, A260, H⟩ := H
          replace H : (camshaftlaw07_TypesKinds.l1 k1 x8_1 t395 0 a0_0 a0_1 a0_2) = some r := H
          have A26 := Aside0.mk A260
          clear A260
          have H' := Aside0.mk H
          clear H
          have hcz27_0 : wr.cell? ⟨gb389, 0, none⟩ = some (.int .i64 a0_0) := (blk_cell BK389.out 0).trans rfl
          have hcz27_1 : wr.cell? ⟨gb389, 1, none⟩ = some (.int .i64 a0_1) := (blk_cell BK389.out 1).trans rfl
          have hcz27_2 : wr.cell? ⟨gb389, 2, none⟩ = some (.int .i64 a0_2) := (blk_cell BK389.out 2).trans rfl
          have hfz27_0 := blk_frozen BK389.out 0
          have hfz27_1 := blk_frozen BK389.out 1
          have hfz27_2 := blk_frozen BK389.out 2
          go_wp2_with (first | ((with_reducible refine gate_callee (f := 16) rfl ?_); refine goesL_ (some 48) rfl rfl Try.func16 (by kernel_rfl) rfl #[.agg #[.int .i64 a0_0, .int .i64 a0_1, .int .i64 a0_2], .string x8_1] rfl (by (try simp only [List.map_toArray, List.map_cons, List.map_nil]); first | done | rfl | (simp only [List.length_drop, List.length_take]; rfl)) ?_; (with_reducible refine (types_Gives.calls a0_0 a0_1 a0_2 x8_1 t395 _ A26.out).mono ?_); rintro e w28 ⟨rfl, hb⟩; refine ⟨_, rfl, ?_⟩; have n0_ := Aside0.mk (Kd.R_below (by (with_reducible repeat (first | apply Kd.R_alloc | apply Kd.R_drewN | apply Kd.R_drew)); exact HO_9.out) hb); have n1_ := Aside0.mk (blk_below (g := gb389) (o := .cells #[.int .i64 a0_0, .int .i64 a0_1, .int .i64 a0_2] 37 (0, 0)) (by (with_reducible repeat (first | refine blk_drewN ?_ _ | refine blk_drew ?_ | refine blk_alloc ?_ _)); exact BK389.out) hb); have n2_ := Aside0.mk (below_step (by repeat (first | (with_reducible first | exact HB.out | apply below_alloc | apply pw_below_drewN | apply below_drew1 | refine below_set ?_ GE389.out) | exact HB.out)) hb); clear HO_9; clear BK389; clear HB; have HO_9 := n0_; have BK389 := n1_; have HB := n2_; clear n0_ n1_ n2_; (try clear hb); (try clear hb2); (try clear hk); (try clear hi)))
          go_loopg [13] k1 (fun kq v13 w' => ∃ (x13_2 : Int), v13 = .int .i64 x13_2 ∧ Aside0 (camshaftlaw07_TypesKinds.l1 kq x8_1 t395 x13_2 a0_0 a0_1 a0_2 = some r) ∧ Aside0 (kq ≤ k1) ∧ Aside0 (w'.heap[gb389]? = some (.cells #[.int .i64 a0_0, .int .i64 a0_1, .int .i64 a0_2] 37 (0, 0))) ∧ Aside0 (Below w.heap.size w w'))
          case atStart => exact ⟨(0), (by first | rfl | (simp; done) | (simp [*]; done)), H', ⟨Nat.le_refl _⟩, ⟨by (with_reducible repeat (first | refine blk_drewN ?_ _ | refine blk_drew ?_ | refine blk_alloc ?_ _)); exact BK389.out⟩, ⟨by repeat (first | (with_reducible first | exact HB.out | apply below_alloc | apply pw_below_drewN | apply below_drew1 | refine below_set ?_ GE389.out) | exact HB.out)⟩⟩
          case round =>
            clear H'
            try clear c1
            try clear c2
            try clear p2
            try clear p3
            try clear q3
            try clear hx3
            try clear c5
            try clear c5b0
            try clear c5b1
            try clear c6
            try clear p6
            try clear c11
            try clear c11b0
            try clear c12
            try clear c12b0
            try clear c12b1
            try clear c13
            try clear c13b0
            try clear c13b1
            try clear c14
            try clear c14b0
            try clear c14b1
            try clear c15
            try clear c16
            try clear c16b0
            try clear c16b1
            try clear c17
            try clear c17b0
            try clear c19
            try clear c20
            try clear c20b0
            try clear c20b1
            try clear c21
            try clear c21b0
            try clear c21b1
            try clear c21b2
            try clear c22
            try clear c22b0
            try clear c22b1
            try clear c22b2
            try clear c23
            try clear c23b0
            try clear c23b1
            try clear c24
            try clear c24b0
            try clear c24b1
            try clear c24b2
            try clear c25
            try clear c25b0
            try clear c25b1
            try clear c25b2
            try clear hcz27_0
            try clear hcz27_1
            try clear hcz27_2
            try clear hcz7_0
            try clear hcz7_1
            try clear hcz7_2
            try clear hfz27_0
            try clear hfz27_1
            try clear hfz27_2
            try clear hfz7_0
            try clear hfz7_1
            try clear hfz7_2
            try clear hx394_0
            try clear p2
            try clear p3
            try clear p394
            try clear p6
            try clear q3
            try clear q394
            obtain ⟨x13_2, rfl, HA, HK2, BK389, HB⟩ := hrel
            cases gk with
            | zero => exact absurd HA.out (by simp [camshaftlaw07_TypesKinds.l1])
            | succ k2 =>
              have H := HA.out
              clear HA
              simp only [camshaftlaw07_TypesKinds.l1] at H
              by_cases c29 : x13_2 < (t395.size : Int)
              · rw [if_pos c29] at H
                have c29b0 : decide (x13_2 < (t395.size : Int)) = true := decide_eq_true c29
                clear c29
                by_cases c30 : 0 ≤ x13_2
                · rw [if_pos c30] at H
                  have c30b0 : decide (0 ≤ x13_2) = true := decide_eq_true c30
                  clear c30
                  by_cases c32 : (bt t395 x13_2) = 105
                  · rw [if_pos c32] at H
                    have c32b0 : ((bt t395 x13_2) == 105) = true := beq_iff_eq.mpr c32
                    have c32b1 : ((bt t395 x13_2) != 105) = false := bne_eq_false_iff_eq.mpr c32
                    clear c32
                    have H' := Aside0.mk H
                    clear H
                    have p31 : 0 ≤ (x13_2 : Int) := of_decide_eq_true (by first | (with_reducible assumption) | assumption)
                    have q31 : x13_2 < (t395.size : Int) := of_decide_eq_true (by first | (with_reducible assumption) | assumption)
                    have hx31 := bt_at t395 x13_2
                    replace p31 := eq_true p31
                    replace q31 := eq_true q31
                    go_wp2
                    go_roundg k2
                    case measure => have := HK1.out; have := HK2.out; omega
                    case rel => exact ⟨(wrap64 (x13_2 + 1)), (by first | rfl | (simp; done) | (simp [*]; done)), H', ⟨by have := HK1.out; have := HK2.out; omega⟩, ⟨by (with_reducible repeat (first | refine blk_drewN ?_ _ | refine blk_drew ?_ | refine blk_alloc ?_ _)); exact BK389.out⟩, ⟨by repeat (first | (with_reducible first | exact HB.out | apply below_alloc | apply pw_below_drewN | apply below_drew1 | refine below_set ?_ GE389.out) | exact HB.out | exact Below.refl _ _)⟩⟩
                  · rw [if_neg c32] at H
                    have c32b0 : ((bt t395 x13_2) == 105) = false := beq_eq_false_iff_ne.mpr c32
                    have c32b1 : ((bt t395 x13_2) != 105) = true := bne_iff_ne.mpr c32
                    by_cases c34 : (bt t395 x13_2) = 98
                    · rw [if_pos c34] at H
                      have c34b0 : ((bt t395 x13_2) == 98) = true := beq_iff_eq.mpr c34
                      have c34b1 : ((bt t395 x13_2) != 98) = false := bne_eq_false_iff_eq.mpr c34
                      clear c34
                      have H' := Aside0.mk H
                      clear H
                      have p31 : 0 ≤ (x13_2 : Int) := of_decide_eq_true (by first | (with_reducible assumption) | assumption)
                      have q31 : x13_2 < (t395.size : Int) := of_decide_eq_true (by first | (with_reducible assumption) | assumption)
                      have hx31 := bt_at t395 x13_2
                      replace p31 := eq_true p31
                      replace q31 := eq_true q31
                      have p33 : 0 ≤ (x13_2 : Int) := of_decide_eq_true (by first | (with_reducible assumption) | assumption)
                      have q33 : x13_2 < (t395.size : Int) := of_decide_eq_true (by first | (with_reducible assumption) | assumption)
                      have hx33 := bt_at t395 x13_2
                      replace p33 := eq_true p33
                      replace q33 := eq_true q33
                      go_wp2
                      go_roundg k2
                      case measure => have := HK1.out; have := HK2.out; omega
                      case rel => exact ⟨(wrap64 (x13_2 + 1)), (by first | rfl | (simp; done) | (simp [*]; done)), H', ⟨by have := HK1.out; have := HK2.out; omega⟩, ⟨by (with_reducible repeat (first | refine blk_drewN ?_ _ | refine blk_drew ?_ | refine blk_alloc ?_ _)); exact BK389.out⟩, ⟨by repeat (first | (with_reducible first | exact HB.out | apply below_alloc | apply pw_below_drewN | apply below_drew1 | refine below_set ?_ GE389.out) | exact HB.out | exact Below.refl _ _)⟩⟩
                    · rw [if_neg c34] at H
                      have c34b0 : ((bt t395 x13_2) == 98) = false := beq_eq_false_iff_ne.mpr c34
                      have c34b1 : ((bt t395 x13_2) != 98) = true := bne_iff_ne.mpr c34
                      exact absurd ((Option.some.inj H).trans HT.out) (by decide)
                · rw [if_neg c30] at H
                  exact absurd H (by simp)
              · rw [if_neg c29] at H
                have c29b0 : decide (x13_2 < (t395.size : Int)) = false := decide_eq_false c29
                clear c29
                have HC35 := Aside0.mk H
                clear H
                go_upto_region 21 with (fail)
                go_cut [86] (fun v86 wc => ∃ (kq : Nat) (x86_34 : Bool), v86 = .bool x86_34 ∧ Aside0 (camshaftlaw07_TypesKinds.j3 kq x8_1 t395 x86_34 a0_0 a0_1 a0_2 = some r) ∧ Aside0 (kq ≤ k2) ∧ Aside0 (wc.heap[gb389]? = some (.cells #[.int .i64 a0_0, .int .i64 a0_1, .int .i64 a0_2] 37 (0, 0))) ∧ Aside0 (Below w.heap.size w wc))
                case first =>
                  have H := HC35.out
                  clear HC35
                  by_cases c36 : (a0_0 == 3 && (a0_1 == 0 && (a0_2 == 0))) = true
                  · rw [if_pos c36] at H
                    have c36b0 : (a0_0 == 3 && (a0_1 == 0 && (a0_2 == 0))) = true := c36
                    (try (have c36b1 : decide (a0_0 = 3 && (a0_1 == 0 && (a0_2 == 0))) = true := by simpa using c36))
                    (try (have c36b2 : (a0_0 == 3 && (a0_1 == 0 && (a0_2 == 0))) = true := by simpa using c36))
                    clear c36
                    (first | rw [c36b0] | (simp only [i64_w, i32_w]; rw [c36b0]) | rw [c36b1] | skip)
                    by_cases c37 : x8_1.size + x8_1.size ≤ 9223372036854775807
                    · rw [if_pos c37] at H
                      have c37b0 := eq_true c37
                      have c37b1 : decide (x8_1.size + x8_1.size ≤ 9223372036854775807) = true := decide_eq_true c37
                      try have c37b2 : (9223372036854775807 < x8_1.size + x8_1.size) = False := eq_false (Nat.not_lt.2 c37)
                      by_cases c38 : t395.toList = (x8_1 ++ x8_1).toList
                      · rw [if_pos c38] at H
                        have c38b0 : (t395.toList == (x8_1 ++ x8_1).toList) = true := beq_iff_eq.mpr c38
                        have c38b1 : (t395.toList != (x8_1 ++ x8_1).toList) = false := bne_eq_false_iff_eq.mpr c38
                        clear c38
                        by_cases c39 : (a0_0 == 4 && (a0_1 == 0 && (a0_2 == 0))) = true
                        · rw [if_pos c39] at H
                          have c39b0 : (a0_0 == 4 && (a0_1 == 0 && (a0_2 == 0))) = true := c39
                          (try (have c39b1 : decide (a0_0 = 4 && (a0_1 == 0 && (a0_2 == 0))) = true := by simpa using c39))
                          (try (have c39b2 : (a0_0 == 4 && (a0_1 == 0 && (a0_2 == 0))) = true := by simpa using c39))
                          clear c39
                          replace H := Option.bind_eq_some_iff.mp H
                          obtain ⟨t396, A400, H⟩ := H
                          replace H : (camshaftlaw07_TypesKinds.j3 k2 x8_1 t395 (t396.toList != x8_1.toList) a0_0 a0_1 a0_2) = some r := H
                          have A40 := Aside0.mk A400
                          clear A400
                          have H' := Aside0.mk H
                          clear H
                          have hcz41_0 : wr.cell? ⟨gb389, 0, none⟩ = some (.int .i64 a0_0) := (blk_cell BK389.out 0).trans rfl
                          have hcz41_1 : wr.cell? ⟨gb389, 1, none⟩ = some (.int .i64 a0_1) := (blk_cell BK389.out 1).trans rfl
                          have hcz41_2 : wr.cell? ⟨gb389, 2, none⟩ = some (.int .i64 a0_2) := (blk_cell BK389.out 2).trans rfl
                          have hfz41_0 := blk_frozen BK389.out 0
                          have hfz41_1 := blk_frozen BK389.out 1
                          have hfz41_2 := blk_frozen BK389.out 2
                          go_wp2_with (first | (go_at_call 16; (with_reducible refine (types_Gives.calls a0_0 a0_1 a0_2 t395 t396 _ A40.out).mono ?_); rintro e w42 ⟨rfl, hb⟩; have n0_ := Aside0.mk (blk_below (g := gb389) (o := .cells #[.int .i64 a0_0, .int .i64 a0_1, .int .i64 a0_2] 37 (0, 0)) (by (with_reducible repeat (first | refine blk_drewN ?_ _ | refine blk_drew ?_ | refine blk_alloc ?_ _)); exact BK389.out) hb); have n1_ := Aside0.mk (below_step (by repeat (first | (with_reducible first | exact HB.out | apply below_alloc | apply pw_below_drewN | apply below_drew1 | refine below_set ?_ GE389.out) | exact HB.out)) hb); clear BK389; clear HB; have BK389 := n0_; have HB := n1_; clear n0_ n1_; (try clear hb); (try clear hb2); (try clear hk); (try clear hi)))
                          go_meet
                          case rel => exact ⟨_, ((t396.toList != x8_1.toList)), (by first | rfl | (simp; done) | (simp [*]; done)), H', ⟨by have := HK1.out; have := HK2.out; first | omega | exact Nat.le_refl _⟩, ⟨by (with_reducible repeat (first | refine blk_drewN ?_ _ | refine blk_drew ?_ | refine blk_alloc ?_ _)); exact BK389.out⟩, ⟨by repeat (first | (with_reducible first | exact HB.out | apply below_alloc | apply pw_below_drewN | apply below_drew1 | refine below_set ?_ GE389.out) | exact HB.out | exact Below.refl _ _)⟩⟩
                        · rw [if_neg c39] at H
                          have c39b0 : (a0_0 == 4 && (a0_1 == 0 && (a0_2 == 0))) = false := by simpa using c39
                          (try (have c39b1 : decide (a0_0 = 4 && (a0_1 == 0 && (a0_2 == 0))) = false := by simpa using c39))
                          (try (have c39b2 : (a0_0 == 4 && (a0_1 == 0 && (a0_2 == 0))) = false := by simpa using c39))
                          (try (have c39b3 : ¬ (a0_0 = 4 && (a0_1 == 0 && (a0_2 == 0))) := by simpa using c39))
                          clear c39
                          have H' := Aside0.mk H
                          clear H
                          have hcz43_0 : wr.cell? ⟨gb389, 0, none⟩ = some (.int .i64 a0_0) := (blk_cell BK389.out 0).trans rfl
                          have hcz43_1 : wr.cell? ⟨gb389, 1, none⟩ = some (.int .i64 a0_1) := (blk_cell BK389.out 1).trans rfl
                          have hcz43_2 : wr.cell? ⟨gb389, 2, none⟩ = some (.int .i64 a0_2) := (blk_cell BK389.out 2).trans rfl
                          have hfz43_0 := blk_frozen BK389.out 0
                          have hfz43_1 := blk_frozen BK389.out 1
                          have hfz43_2 := blk_frozen BK389.out 2
                          go_wp2
                          go_meet
                          case rel => exact ⟨_, (false), (by first | rfl | (simp; done) | (simp [*]; done)), H', ⟨by have := HK1.out; have := HK2.out; first | omega | exact Nat.le_refl _⟩, ⟨by (with_reducible repeat (first | refine blk_drewN ?_ _ | refine blk_drew ?_ | refine blk_alloc ?_ _)); exact BK389.out⟩, ⟨by repeat (first | (with_reducible first | exact HB.out | apply below_alloc | apply pw_below_drewN | apply below_drew1 | refine below_set ?_ GE389.out) | exact HB.out | exact Below.refl _ _)⟩⟩
                      · rw [if_neg c38] at H
                        have c38b0 : (t395.toList == (x8_1 ++ x8_1).toList) = false := beq_eq_false_iff_ne.mpr c38
                        have c38b1 : (t395.toList != (x8_1 ++ x8_1).toList) = true := bne_iff_ne.mpr c38
                        have H' := Aside0.mk H
                        clear H
                        have hcz44_0 : wr.cell? ⟨gb389, 0, none⟩ = some (.int .i64 a0_0) := (blk_cell BK389.out 0).trans rfl
                        have hcz44_1 : wr.cell? ⟨gb389, 1, none⟩ = some (.int .i64 a0_1) := (blk_cell BK389.out 1).trans rfl
                        have hcz44_2 : wr.cell? ⟨gb389, 2, none⟩ = some (.int .i64 a0_2) := (blk_cell BK389.out 2).trans rfl
                        have hfz44_0 := blk_frozen BK389.out 0
                        have hfz44_1 := blk_frozen BK389.out 1
                        have hfz44_2 := blk_frozen BK389.out 2
                        go_wp2
                        go_meet
                        case rel => exact ⟨_, (true), (by first | rfl | (simp; done) | (simp [*]; done)), H', ⟨by have := HK1.out; have := HK2.out; first | omega | exact Nat.le_refl _⟩, ⟨by (with_reducible repeat (first | refine blk_drewN ?_ _ | refine blk_drew ?_ | refine blk_alloc ?_ _)); exact BK389.out⟩, ⟨by repeat (first | (with_reducible first | exact HB.out | apply below_alloc | apply pw_below_drewN | apply below_drew1 | refine below_set ?_ GE389.out) | exact HB.out | exact Below.refl _ _)⟩⟩
                    · rw [if_neg c37] at H
                      exact absurd H (by simp)
                  · rw [if_neg c36] at H
                    have c36b0 : (a0_0 == 3 && (a0_1 == 0 && (a0_2 == 0))) = false := by simpa using c36
                    (try (have c36b1 : decide (a0_0 = 3 && (a0_1 == 0 && (a0_2 == 0))) = false := by simpa using c36))
                    (try (have c36b2 : (a0_0 == 3 && (a0_1 == 0 && (a0_2 == 0))) = false := by simpa using c36))
                    (try (have c36b3 : ¬ (a0_0 = 3 && (a0_1 == 0 && (a0_2 == 0))) := by simpa using c36))
                    clear c36
                    (first | rw [c36b0] | (simp only [i64_w, i32_w]; rw [c36b0]) | rw [c36b1] | skip)
                    by_cases c45 : (a0_0 == 4 && (a0_1 == 0 && (a0_2 == 0))) = true
                    · rw [if_pos c45] at H
                      have c45b0 : (a0_0 == 4 && (a0_1 == 0 && (a0_2 == 0))) = true := c45
                      (try (have c45b1 : decide (a0_0 = 4 && (a0_1 == 0 && (a0_2 == 0))) = true := by simpa using c45))
                      (try (have c45b2 : (a0_0 == 4 && (a0_1 == 0 && (a0_2 == 0))) = true := by simpa using c45))
                      clear c45
                      replace H := Option.bind_eq_some_iff.mp H
                      obtain ⟨t397, A460, H⟩ := H
                      replace H : (camshaftlaw07_TypesKinds.j3 k2 x8_1 t395 (t397.toList != x8_1.toList) a0_0 a0_1 a0_2) = some r := H
                      have A46 := Aside0.mk A460
                      clear A460
                      have H' := Aside0.mk H
                      clear H
                      have hcz47_0 : wr.cell? ⟨gb389, 0, none⟩ = some (.int .i64 a0_0) := (blk_cell BK389.out 0).trans rfl
                      have hcz47_1 : wr.cell? ⟨gb389, 1, none⟩ = some (.int .i64 a0_1) := (blk_cell BK389.out 1).trans rfl
                      have hcz47_2 : wr.cell? ⟨gb389, 2, none⟩ = some (.int .i64 a0_2) := (blk_cell BK389.out 2).trans rfl
                      have hfz47_0 := blk_frozen BK389.out 0
                      have hfz47_1 := blk_frozen BK389.out 1
                      have hfz47_2 := blk_frozen BK389.out 2
                      go_wp2_with (first | (go_at_call 16; (with_reducible refine (types_Gives.calls a0_0 a0_1 a0_2 t395 t397 _ A46.out).mono ?_); rintro e w48 ⟨rfl, hb⟩; have n0_ := Aside0.mk (blk_below (g := gb389) (o := .cells #[.int .i64 a0_0, .int .i64 a0_1, .int .i64 a0_2] 37 (0, 0)) (by (with_reducible repeat (first | refine blk_drewN ?_ _ | refine blk_drew ?_ | refine blk_alloc ?_ _)); exact BK389.out) hb); have n1_ := Aside0.mk (below_step (by repeat (first | (with_reducible first | exact HB.out | apply below_alloc | apply pw_below_drewN | apply below_drew1 | refine below_set ?_ GE389.out) | exact HB.out)) hb); clear BK389; clear HB; have BK389 := n0_; have HB := n1_; clear n0_ n1_; (try clear hb); (try clear hb2); (try clear hk); (try clear hi)))
                      go_meet
                      case rel => exact ⟨_, ((t397.toList != x8_1.toList)), (by first | rfl | (simp; done) | (simp [*]; done)), H', ⟨by have := HK1.out; have := HK2.out; first | omega | exact Nat.le_refl _⟩, ⟨by (with_reducible repeat (first | refine blk_drewN ?_ _ | refine blk_drew ?_ | refine blk_alloc ?_ _)); exact BK389.out⟩, ⟨by repeat (first | (with_reducible first | exact HB.out | apply below_alloc | apply pw_below_drewN | apply below_drew1 | refine below_set ?_ GE389.out) | exact HB.out | exact Below.refl _ _)⟩⟩
                    · rw [if_neg c45] at H
                      have c45b0 : (a0_0 == 4 && (a0_1 == 0 && (a0_2 == 0))) = false := by simpa using c45
                      (try (have c45b1 : decide (a0_0 = 4 && (a0_1 == 0 && (a0_2 == 0))) = false := by simpa using c45))
                      (try (have c45b2 : (a0_0 == 4 && (a0_1 == 0 && (a0_2 == 0))) = false := by simpa using c45))
                      (try (have c45b3 : ¬ (a0_0 = 4 && (a0_1 == 0 && (a0_2 == 0))) := by simpa using c45))
                      clear c45
                      have H' := Aside0.mk H
                      clear H
                      have hcz49_0 : wr.cell? ⟨gb389, 0, none⟩ = some (.int .i64 a0_0) := (blk_cell BK389.out 0).trans rfl
                      have hcz49_1 : wr.cell? ⟨gb389, 1, none⟩ = some (.int .i64 a0_1) := (blk_cell BK389.out 1).trans rfl
                      have hcz49_2 : wr.cell? ⟨gb389, 2, none⟩ = some (.int .i64 a0_2) := (blk_cell BK389.out 2).trans rfl
                      have hfz49_0 := blk_frozen BK389.out 0
                      have hfz49_1 := blk_frozen BK389.out 1
                      have hfz49_2 := blk_frozen BK389.out 2
                      go_wp2
                      go_meet
                      case rel => exact ⟨_, (false), (by first | rfl | (simp; done) | (simp [*]; done)), H', ⟨by have := HK1.out; have := HK2.out; first | omega | exact Nat.le_refl _⟩, ⟨by (with_reducible repeat (first | refine blk_drewN ?_ _ | refine blk_drew ?_ | refine blk_alloc ?_ _)); exact BK389.out⟩, ⟨by repeat (first | (with_reducible first | exact HB.out | apply below_alloc | apply pw_below_drewN | apply below_drew1 | refine below_set ?_ GE389.out) | exact HB.out | exact Below.refl _ _)⟩⟩
                case rest =>
                  clear HC35
                  try clear c1
                  try clear c2
                  try clear p2
                  try clear c3
                  try clear p3
                  try clear q3
                  try clear hx3
                  try clear c4
                  try clear c5
                  try clear c5b0
                  try clear c5b1
                  try clear c6
                  try clear p6
                  try clear c11
                  try clear c11b0
                  try clear c12
                  try clear c12b0
                  try clear c12b1
                  try clear c13
                  try clear c13b0
                  try clear c13b1
                  try clear c14
                  try clear c14b0
                  try clear c14b1
                  try clear c15
                  try clear c16
                  try clear c16b0
                  try clear c16b1
                  try clear c17
                  try clear c17b0
                  try clear c19
                  try clear c20
                  try clear c20b0
                  try clear c20b1
                  try clear c21
                  try clear c21b0
                  try clear c21b1
                  try clear c21b2
                  try clear c22
                  try clear c22b0
                  try clear c22b1
                  try clear c22b2
                  try clear c23
                  try clear c23b0
                  try clear c23b1
                  try clear c24
                  try clear c24b0
                  try clear c24b1
                  try clear c24b2
                  try clear c25
                  try clear c25b0
                  try clear c25b1
                  try clear c25b2
                  try clear c29
                  try clear c29b0
                  try clear c30
                  try clear c30b0
                  try clear p31
                  try clear q31
                  try clear hx31
                  try clear c32
                  try clear c32b0
                  try clear c32b1
                  try clear p33
                  try clear q33
                  try clear hx33
                  try clear c34
                  try clear c34b0
                  try clear c34b1
                  try clear c36
                  try clear c36b0
                  try clear c36b1
                  try clear c36b2
                  try clear c37
                  try clear c37b0
                  try clear c37b1
                  try clear c37b2
                  try clear c38
                  try clear c38b0
                  try clear c38b1
                  try clear c39
                  try clear c39b0
                  try clear c39b1
                  try clear c39b2
                  try clear p39
                  try clear q39
                  try clear hx39
                  try clear c45
                  try clear c45b0
                  try clear c45b1
                  try clear c45b2
                  try clear hcz27_0
                  try clear hcz27_1
                  try clear hcz27_2
                  try clear hcz41_0
                  try clear hcz41_1
                  try clear hcz41_2
                  try clear hcz43_0
                  try clear hcz43_1
                  try clear hcz43_2
                  try clear hcz44_0
                  try clear hcz44_1
                  try clear hcz44_2
                  try clear hcz47_0
                  try clear hcz47_1
                  try clear hcz47_2
                  try clear hcz49_0
                  try clear hcz49_1
                  try clear hcz49_2
                  try clear hcz7_0
                  try clear hcz7_1
                  try clear hcz7_2
                  try clear hfz27_0
                  try clear hfz27_1
                  try clear hfz27_2
                  try clear hfz41_0
                  try clear hfz41_1
                  try clear hfz41_2
                  try clear hfz43_0
                  try clear hfz43_1
                  try clear hfz43_2
                  try clear hfz44_0
                  try clear hfz44_1
                  try clear hfz44_2
                  try clear hfz47_0
                  try clear hfz47_1
                  try clear hfz47_2
                  try clear hfz49_0
                  try clear hfz49_1
                  try clear hfz49_2
                  try clear hfz7_0
                  try clear hfz7_1
                  try clear hfz7_2
                  try clear hx394_0
                  try clear p2
                  try clear p3
                  try clear p31
                  try clear p33
                  try clear p394
                  try clear p6
                  try clear q3
                  try clear q31
                  try clear q33
                  try clear q394
                  obtain ⟨kq, x86_34, rfl, HA, HJ34, BK389, HB⟩ := hcut
                  cases kq with
                  | zero => exact absurd HA.out (by simp [camshaftlaw07_TypesKinds.j3])
                  | succ kj34 =>
                    have H := HA.out
                    clear HA
                    simp only [camshaftlaw07_TypesKinds.j3] at H
                    by_cases c50 : x86_34 = true
                    · subst c50
                      have H1 : (some false) = some r := by rw [if_pos rfl] at H; exact H
                      clear H
                      have H := H1
                      clear H1
                      exact absurd ((Option.some.inj H).trans HT.out) (by decide)
                    · replace c50 := Bool.eq_false_iff.mpr c50
                      subst c50
                      have H1 : (if (t395.size : Int) ≤ 2 then (if x8_1.size + 1 ≤ 9223372036854775807 then ((types_Gives.f a0_0 a0_1 a0_2 (x8_1 ++ (⟨#[105]⟩ : ByteArray))).bind fun t398 => (if t398.toList = ([] : List UInt8) then ((camshaftlaw07_known.f kj34).bind fun t399 => (some t399)) else (some false))) else (none)) else (some false)) = some r := by rw [if_neg (show ¬ (false = true) by decide)] at H; exact H
                      clear H
                      have H := H1
                      clear H1
                      by_cases c51 : (t395.size : Int) ≤ 2
                      · rw [if_pos c51] at H
                        have c51b0 : decide ((t395.size : Int) ≤ 2) = true := decide_eq_true c51
                        have c51b1 : decide (t395.size ≤ 2) = true := decide_eq_true (by omega)
                        clear c51
                        by_cases c52 : x8_1.size + 1 ≤ 9223372036854775807
                        · rw [if_pos c52] at H
                          have c52b0 := eq_true c52
                          have c52b1 : decide (x8_1.size + 1 ≤ 9223372036854775807) = true := decide_eq_true c52
                          try have c52b2 : (9223372036854775807 < x8_1.size + 1) = False := eq_false (Nat.not_lt.2 c52)
                          replace H := Option.bind_eq_some_iff.mp H
                          obtain ⟨t398, A530, H⟩ := H
                          replace H : (if t398.toList = ([] : List UInt8) then ((camshaftlaw07_known.f kj34).bind fun t399 => (some t399)) else (some false)) = some r := H
                          have A53 := Aside0.mk A530
                          clear A530
                          by_cases c54 : t398.toList = ([] : List UInt8)
                          · rw [if_pos c54] at H
                            have c54b0 : (t398.toList == ([] : List UInt8)) = true := beq_iff_eq.mpr c54
                            have c54b1 : (t398.toList != ([] : List UInt8)) = false := bne_eq_false_iff_eq.mpr c54
                            clear c54
                            replace H := Option.bind_eq_some_iff.mp H
                            obtain ⟨t399, A550, H⟩ := H
                            replace H : (some t399) = some r := H
                            have A55 := Aside0.mk A550
                            clear A550
                            obtain rfl := Option.some.inj H
                            have hcz56_0 : wc.cell? ⟨gb389, 0, none⟩ = some (.int .i64 a0_0) := (blk_cell BK389.out 0).trans rfl
                            have hcz56_1 : wc.cell? ⟨gb389, 1, none⟩ = some (.int .i64 a0_1) := (blk_cell BK389.out 1).trans rfl
                            have hcz56_2 : wc.cell? ⟨gb389, 2, none⟩ = some (.int .i64 a0_2) := (blk_cell BK389.out 2).trans rfl
                            have hfz56_0 := blk_frozen BK389.out 0
                            have hfz56_1 := blk_frozen BK389.out 1
                            have hfz56_2 := blk_frozen BK389.out 2
                            go_wp2_with (first | (go_at_call 16; (with_reducible refine (types_Gives.calls a0_0 a0_1 a0_2 (x8_1 ++ (⟨#[105]⟩ : ByteArray)) t398 _ A53.out).mono ?_); rintro e w57 ⟨rfl, hb⟩; have n0_ := Aside0.mk (blk_below (g := gb389) (o := .cells #[.int .i64 a0_0, .int .i64 a0_1, .int .i64 a0_2] 37 (0, 0)) (by (with_reducible repeat (first | refine blk_drewN ?_ _ | refine blk_drew ?_ | refine blk_alloc ?_ _)); exact BK389.out) hb); have n1_ := Aside0.mk (below_step (by repeat (first | (with_reducible first | exact HB.out | apply below_alloc | apply pw_below_drewN | apply below_drew1 | refine below_set ?_ GE389.out) | exact HB.out)) hb); clear BK389; clear HB; have BK389 := n0_; have HB := n1_; clear n0_ n1_; (try clear hb); (try clear hb2); (try clear hk); (try clear hi)) | (go_at_call 8; (with_reducible refine (camshaftlaw07_known.calls kj34  t399 _ A55.out).mono ?_); rintro e w58 ⟨rfl, hb⟩; have n0_ := Aside0.mk (blk_below (g := gb389) (o := .cells #[.int .i64 a0_0, .int .i64 a0_1, .int .i64 a0_2] 37 (0, 0)) (by (with_reducible repeat (first | refine blk_drewN ?_ _ | refine blk_drew ?_ | refine blk_alloc ?_ _)); exact BK389.out) hb); have n1_ := Aside0.mk (below_step (by repeat (first | (with_reducible first | exact HB.out | apply below_alloc | apply pw_below_drewN | apply below_drew1 | refine below_set ?_ GE389.out) | exact HB.out)) hb); clear BK389; clear HB; have BK389 := n0_; have HB := n1_; clear n0_ n1_; (try clear hb); (try clear hb2); (try clear hk); (try clear hi)))
                            go_ret
                            exact ⟨by first | rfl | (rw [bne_nil_eq]; rfl) | (simp [bne_nil_eq]; done) | (simp [errW_none, errW_some] <;> rfl) | (simp [*, errW_none, errW_some] <;> rfl), by repeat (first | (with_reducible first | exact HB.out | apply below_alloc | apply pw_below_drewN | apply below_drew1 | refine below_set ?_ GE389.out) | exact HB.out | exact Below.refl _ _)⟩
                          · rw [if_neg c54] at H
                            have c54b0 : (t398.toList == ([] : List UInt8)) = false := beq_eq_false_iff_ne.mpr c54
                            have c54b1 : (t398.toList != ([] : List UInt8)) = true := bne_iff_ne.mpr c54
                            exact absurd ((Option.some.inj H).trans HT.out) (by decide)
                        · rw [if_neg c52] at H
                          exact absurd H (by simp)
                      · rw [if_neg c51] at H
                        have c51b0 : decide ((t395.size : Int) ≤ 2) = false := decide_eq_false c51
                        have c51b1 : decide (t395.size ≤ 2) = false := decide_eq_false (by omega)
                        clear c51
                        exact absurd ((Option.some.inj H).trans HT.out) (by decide)

/-- THE ONE PURE STATEMENT of camshaftlaw07_TypesKinds. -/
def camshaftlaw07_TypesKinds.Pure : Prop := ∀ (a0_0 a0_1 a0_2 : Int) (a1 : Bool) (a2 : Bool), (Lit.int .i64 a0_0).wf = true → (Lit.int .i64 a0_1).wf = true → (Lit.int .i64 a0_2).wf = true → ∃ k, camshaftlaw07_TypesKinds.f k a0_0 a0_1 a0_2 a1 a2 = some true
theorem camshaftlaw07_TypesKinds.walk (P : camshaftlaw07_TypesKinds.Pure) (a0_0 a0_1 a0_2 : Int) (a1 : Bool) (a2 : Bool) (w : World) (w0_0 : (Lit.int .i64 a0_0).wf = true) (w0_1 : (Lit.int .i64 a0_1).wf = true) (w0_2 : (Lit.int .i64 a0_2).wf = true) :
    Calls Try.prog 6 #[.agg #[.int .i64 a0_0, .int .i64 a0_1, .int .i64 a0_2], .bool a1, .bool a2] w fun e w' => e = .returned (.bool true) ∧ Below w.heap.size w w' := by
  obtain ⟨k, h⟩ := P a0_0 a0_1 a0_2 a1 a2 w0_0 w0_1 w0_2
  refine (camshaftlaw07_TypesKinds.calls k a0_0 a0_1 a0_2 a1 a2 true w h rfl).mono ?_
  rintro e w' ⟨rfl, hd⟩
  exact ⟨rfl, hd⟩

end Go.Proofs.Ytdhlhbhclggheaa.P
