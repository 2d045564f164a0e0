-- Written by a program of this session (wip/tools: patched print) for this claim. Not trusted: Lean checks it.
import Derived.Test.YtdhlhbhclggheaaDx0
import Derived.Test.YtdhlhbhclggheaaDx1
import Derived.Test.YtdhlhbhclggheaaDx2
namespace Go.Proofs.Ytdhlhbhclggheaa.D
open Go.RowKit Go.Proofs.Ytdhlhbhclggheaa.P Go.Proofs.YtdhlhbhclggheaaW.PrintWords Go.Proofs.YtdhlhbhclggheaaW.PrintLast Go.Proofs.YtdhlhbhclggheaaW.PrintMore
open List (setIfInBounds_toArray set_cons_zero set_cons_succ)
attribute [local go_sem] max2_int min2_int max_two min_two max_three min_three max_four min_four   -- for this text's walks alone
set_option linter.unusedVariables false
set_option linter.unusedSimpArgs false

attribute [local go_sem high] eqA37
/-! ### nest_scan: function 26 -/
mutual
def nest_scan.l0 : Nat → List Int → List Int → List (S64) → List (S37) → Int → Int → Option (List Int × List Int × Int)
 | 0, _, _, _, _, _, _ => none
 | k + 1, x5, x6, x7, x21, x22, x23 => if x23 < x22 then (if 0 ≤ x23 then (if x23 < (x21.length : Int) then (if x23 < (x5.length : Int) then ((some (x5.set (x23 : Int).toNat (-1) : List Int)).bind fun y115 => (if x23 < (x6.length : Int) then ((some (x6.set (x23 : Int).toNat (-1) : List Int)).bind fun y116 => (if (x7.length : Int) > 0 then (if 0 ≤ (wrap64 ((x7.length : Int) - 1)) then (if (wrap64 ((x7.length : Int) - 1)) < (x7.length : Int) then (nest_scan.j1 k y115 (y116.set (x23 : Int).toNat ((rd_T64 x7 (wrap64 ((x7.length : Int) - 1))).f0)) x7 x23 x21 x22 x23 ((rd_T37 x21 x23).f0) ((rd_T37 x21 x23).f1) ((rd_T37 x21 x23).f2)) else (none)) else (none)) else (nest_scan.j1 k y115 y116 x7 x23 x21 x22 x23 ((rd_T37 x21 x23).f0) ((rd_T37 x21 x23).f1) ((rd_T37 x21 x23).f2)))) else (none))) else (none)) else (none)) else (none)) else (if (x7.length : Int) > 0 then (some (([] : List Int), ([] : List Int), 7)) else (some (x5, x6, 0)))
def nest_scan.j1 : Nat → List Int → List Int → List (S64) → Int → List (S37) → Int → Int → Int → Int → Int → Option (List Int × List Int × Int)
 | 0, _, _, _, _, _, _, _, _, _, _ => none
 | k + 1, x5, x6, x7, x8, x21, x22, x23, x115000, x115001, x115002 => (nest_opening.f x115000 x115001 x115002).bind fun bt119 => (if bt119.2.2.2 = true then (if x7.length < 4398046511104 then (nest_scan.l0 k x5 x6 (x7 ++ [(⟨x8, (⟨bt119.1, bt119.2.1, bt119.2.2.1⟩ : S37)⟩ : S64)]) x21 x22 (wrap64 (x23 + 1))) else (none)) else (if x115000 = 22 then (nest_scan.j2 k x5 x6 x7 x8 x21 x22 x23 false x115000 x115001 x115002) else (nest_scan.j2 k x5 x6 x7 x8 x21 x22 x23 (x115000 != 24) x115000 x115001 x115002)))
def nest_scan.j2 : Nat → List Int → List Int → List (S64) → Int → List (S37) → Int → Int → Bool → Int → Int → Int → Option (List Int × List Int × Int)
 | 0, _, _, _, _, _, _, _, _, _, _, _ => none
 | k + 1, x5, x6, x7, x8, x21, x22, x23, x66, x115000, x115001, x115002 => if x66 = true then (nest_scan.l0 k x5 x6 x7 x21 x22 (wrap64 (x23 + 1))) else (if (x7.length : Int) = 0 then (some (([] : List Int), ([] : List Int), 7)) else (if 0 ≤ (wrap64 ((x7.length : Int) - 1)) then (if (wrap64 ((x7.length : Int) - 1)) < (x7.length : Int) then (if (!(((rd_T64 x7 (wrap64 ((x7.length : Int) - 1))).f1.f0) == x115000) || (!(((rd_T64 x7 (wrap64 ((x7.length : Int) - 1))).f1.f1) == x115001) || (!(((rd_T64 x7 (wrap64 ((x7.length : Int) - 1))).f1.f2) == x115002)))) = true then (some (([] : List Int), ([] : List Int), 7)) else (if 0 ≤ x8 then (if x8 < (x6.length : Int) then (if x8 < (x5.length : Int) then (if 0 ≤ (rd x6 x8) then (if (rd x6 x8) < (x5.length : Int) then (if (wrap64 ((x7.length : Int) - 1)) ≤ (x7.length : Int) then (nest_scan.l0 k ((x5.set (x8 : Int).toNat (rd x6 x8)).set ((rd x6 x8) : Int).toNat x8) x6 (x7.take ((wrap64 ((x7.length : Int) - 1)) : Int).toNat) x21 x22 (wrap64 (x23 + 1))) else (none)) else (none)) else (none)) else (none)) else (none)) else (none))) else (none)) else (none)))
end
def nest_scan.f (k : Nat) (l0 : List (S37)) : Option (List Int × List Int × Int) := (nest_right.f k l0).bind fun t106 => (if t106 = true then (if 0 ≤ (l0.length : Int) then (if ((l0.length : Int) : Int).toNat ≤ 35184372088832 then (nest_scan.l0 k (List.replicate ((l0.length : Int) : Int).toNat 0) (List.replicate ((l0.length : Int) : Int).toNat 0) ([] : List (S64)) l0 (l0.length : Int) 0) else (none)) else (none)) else (some (([] : List Int), ([] : List Int), 1)))
theorem nest_scan.mono_l : ∀ k, (∀ y0 y1 y2 y3 y4 y5, LeO (nest_scan.l0 k y0 y1 y2 y3 y4 y5) (nest_scan.l0 (k + 1) y0 y1 y2 y3 y4 y5)) ∧ (∀ y0 y1 y2 y3 y4 y5 y6 y7 y8 y9, LeO (nest_scan.j1 k y0 y1 y2 y3 y4 y5 y6 y7 y8 y9) (nest_scan.j1 (k + 1) y0 y1 y2 y3 y4 y5 y6 y7 y8 y9)) ∧ (∀ y0 y1 y2 y3 y4 y5 y6 y7 y8 y9 y10, LeO (nest_scan.j2 k y0 y1 y2 y3 y4 y5 y6 y7 y8 y9 y10) (nest_scan.j2 (k + 1) y0 y1 y2 y3 y4 y5 y6 y7 y8 y9 y10))
 | 0 => ⟨fun _ _ _ _ _ _ r h => by simp [nest_scan.l0] at h, fun _ _ _ _ _ _ _ _ _ _ r h => by simp [nest_scan.j1] at h, fun _ _ _ _ _ _ _ _ _ _ _ r h => by simp [nest_scan.j2] at h⟩
 | k + 1 => by
  obtain ⟨ih0, ih1, ih2⟩ := nest_scan.mono_l k
  refine ⟨?_, ?_, ?_⟩
  ·intro y0 y1 y2 y3 y4 y5
   unfold nest_scan.l0
   repeat' first
   | (with_reducible exact ih0 _ _ _ _ _ _)
   | (with_reducible exact ih1 _ _ _ _ _ _ _ _ _ _)
   | (with_reducible exact ih2 _ _ _ _ _ _ _ _ _ _ _)
   | (with_reducible exact nest_right.mono _ _)
   | (with_reducible exact LeO.refl _)
   | (with_reducible exact LeO.none _)
   | (with_reducible refine LeO.ite ?_ ?_)
   | (with_reducible refine LeO.bind ?_ (fun _ => ?_))
   | exact ih0 _ _ _ _ _ _
   | exact ih1 _ _ _ _ _ _ _ _ _ _
   | exact ih2 _ _ _ _ _ _ _ _ _ _ _
   | exact nest_right.mono _ _
   | exact LeO.none _
   | refine LeO.ite ?_ ?_
   | refine LeO.bind ?_ (fun _ => ?_)
  ·intro y0 y1 y2 y3 y4 y5 y6 y7 y8 y9
   unfold nest_scan.j1
   repeat' first
   | (with_reducible exact ih0 _ _ _ _ _ _)
   | (with_reducible exact ih1 _ _ _ _ _ _ _ _ _ _)
   | (with_reducible exact ih2 _ _ _ _ _ _ _ _ _ _ _)
   | (with_reducible exact nest_right.mono _ _)
   | (with_reducible exact LeO.refl _)
   | (with_reducible exact LeO.none _)
   | (with_reducible refine LeO.ite ?_ ?_)
   | (with_reducible refine LeO.bind ?_ (fun _ => ?_))
   | exact ih0 _ _ _ _ _ _
   | exact ih1 _ _ _ _ _ _ _ _ _ _
   | exact ih2 _ _ _ _ _ _ _ _ _ _ _
   | exact nest_right.mono _ _
   | exact LeO.none _
   | refine LeO.ite ?_ ?_
   | refine LeO.bind ?_ (fun _ => ?_)
  ·intro y0 y1 y2 y3 y4 y5 y6 y7 y8 y9 y10
   unfold nest_scan.j2
   repeat' first
   | (with_reducible exact ih0 _ _ _ _ _ _)
   | (with_reducible exact ih1 _ _ _ _ _ _ _ _ _ _)
   | (with_reducible exact ih2 _ _ _ _ _ _ _ _ _ _ _)
   | (with_reducible exact nest_right.mono _ _)
   | (with_reducible exact LeO.refl _)
   | (with_reducible exact LeO.none _)
   | (with_reducible refine LeO.ite ?_ ?_)
   | (with_reducible refine LeO.bind ?_ (fun _ => ?_))
   | exact ih0 _ _ _ _ _ _
   | exact ih1 _ _ _ _ _ _ _ _ _ _
   | exact ih2 _ _ _ _ _ _ _ _ _ _ _
   | exact nest_right.mono _ _
   | exact LeO.none _
   | refine LeO.ite ?_ ?_
   | refine LeO.bind ?_ (fun _ => ?_)
theorem nest_scan.mono : ∀ a0 k, LeO (nest_scan.f k a0) (nest_scan.f (k + 1) a0) := by
 intro a0 k
 obtain ⟨ih0, ih1, ih2⟩ := nest_scan.mono_l k
 unfold nest_scan.f
 repeat' first
   | (with_reducible exact ih0 _ _ _ _ _ _)
   | (with_reducible exact ih1 _ _ _ _ _ _ _ _ _ _)
   | (with_reducible exact ih2 _ _ _ _ _ _ _ _ _ _ _)
   | (with_reducible exact nest_right.mono _ _)
   | (with_reducible exact LeO.refl _)
   | (with_reducible exact LeO.none _)
   | (with_reducible refine LeO.ite ?_ ?_)
   | (with_reducible refine LeO.bind ?_ (fun _ => ?_))
   | exact ih0 _ _ _ _ _ _
   | exact ih1 _ _ _ _ _ _ _ _ _ _
   | exact ih2 _ _ _ _ _ _ _ _ _ _ _
   | exact nest_right.mono _ _
   | exact LeO.none _
   | refine LeO.ite ?_ ?_
   | refine LeO.bind ?_ (fun _ => ?_)
def nest_scan.T3 : Bool × List (List Nat × List Nat) := (true, [([], []), ([0], [0]), ([1, 1], [1]), ([], []), ([3], [3]), ([4, 4], [4]), ([2, 0, 1, 2], [2]), ([5, 6, 0, 1, 2, 3, 4, 5, 6], [5])])
def nest_scan.B3 : List Nat := [0, 1, 3, 0, 8, 24, 7, 127]
theorem nest_scan.tab3 : rtab .any (opsOf Try.f26 3) = nest_scan.T3 := by kernel_rfl
theorem nest_scan.bits3 : waitsOk nest_scan.T3.2 nest_scan.B3 = true := by kernel_rfl
def nest_scan.T15 : Bool × List (List Nat × List Nat) := (true, [([], []), ([0], [0]), ([1], [1]), ([2], [2]), ([3], [3]), ([3], [3]), ([5, 3], [3, 5]), ([6, 3], [3, 6]), ([4, 7, 3], [3, 4, 7]), ([8, 3], [3, 8]), ([9, 3], [3, 9]), ([3], [3]), ([10, 11, 3], [3, 10, 11]), ([3, 12], [3, 12])])
def nest_scan.B15 : List Nat := [0, 1, 3, 7, 15, 15, 47, 111, 255, 511, 1023, 15, 4095, 8191]
theorem nest_scan.tab15 : rtab .any (opsOf Try.f26 15) = nest_scan.T15 := by kernel_rfl
theorem nest_scan.bits15 : waitsOk nest_scan.T15.2 nest_scan.B15 = true := by kernel_rfl
def nest_scan.T17 : Bool × List (List Nat × List Nat) := (true, [([], []), ([], []), ([], []), ([], []), ([], []), ([3, 4], [3, 4]), ([5], [5]), ([], []), ([], []), ([7, 8], [7, 8]), ([9], [9]), ([], []), ([0, 1, 0, 1, 6, 7, 8, 9, 10], [0, 1]), ([12, 10, 0, 1, 6, 7, 8, 9, 10], [10, 12]), ([2, 6, 0, 1, 2, 3, 4, 5, 6, 7, 8, 9, 10, 11, 12, 13], [2, 6]), ([14, 11, 13, 0, 1, 2, 3, 4, 5, 6, 7, 8, 9, 10, 11, 12, 13], [11, 14])])
def nest_scan.B17 : List Nat := [0, 0, 0, 0, 0, 24, 56, 0, 0, 384, 896, 0, 2043, 6139, 16383, 32767]
theorem nest_scan.tab17 : rtab .any (opsOf Try.f26 17) = nest_scan.T17 := by kernel_rfl
theorem nest_scan.bits17 : waitsOk nest_scan.T17.2 nest_scan.B17 = true := by kernel_rfl
set_option maxHeartbeats 8000000 in
set_option maxRecDepth 100000 in
theorem nest_scan.calls (k : Nat) (A0 : Option Addr) (c0 : Nat) (l0 : List (S37)) (r1 : List Int) (r2 : List Int) (r3 : Int) (w : World) (hr0 : Kd.C k37 w A0 l0.length l0) (hc0 : l0.length ≤ c0) (h : nest_scan.f k l0 = some (r1, r2, r3)) :
  Calls Try.prog 26 #[.slice A0 l0.length c0] w fun e w' => ∃ v0_ v1_ : Value, e = .returned (.tuple #[v0_, v1_, .int .i64 r3]) ∧ Kd.R (Kd.int .i64) 3 w' w.heap.size (fun k_ => some k_ ≠ (v1_ : Value).ownBlock) v0_ r1 ∧ Kd.R (Kd.int .i64) 3 w' w.heap.size (fun k_ => some k_ ≠ (v0_ : Value).ownBlock) v1_ r2 ∧ Below w.heap.size w w' := by
 have hu37 := Try.underlying37
 have hu64 := Try.underlying64
 have HR0 := Aside0.mk hr0
 have HC0 := Aside0.mk hc0
 clear hr0 hc0
 have HB := Aside0.mk (Below.refl w.heap.size w)
 have H : ((nest_right.f k l0).bind fun t106 => (if t106 = true then (if 0 ≤ (l0.length : Int) then (if ((l0.length : Int) : Int).toNat ≤ 35184372088832 then (nest_scan.l0 k (List.replicate ((l0.length : Int) : Int).toNat 0) (List.replicate ((l0.length : Int) : Int).toNat 0) ([] : List (S64)) l0 (l0.length : Int) 0) else (none)) else (none)) else (some (([] : List Int), ([] : List Int), 1)))) = some (r1, r2, r3) := h
 clear h
 replace H := Option.bind_eq_some_iff.mp H
 obtain ⟨t106, A20, H⟩ := H
 replace H : (if t106 = true then (if 0 ≤ (l0.length : Int) then (if ((l0.length : Int) : Int).toNat ≤ 35184372088832 then (nest_scan.l0 k (List.replicate ((l0.length : Int) : Int).toNat 0) (List.replicate ((l0.length : Int) : Int).toNat 0) ([] : List (S64)) l0 (l0.length : Int) 0) else (none)) else (none)) else (some (([] : List Int), ([] : List Int), 1))) = some (r1, r2, r3) := H
 have A2 := Aside0.mk A20
 clear A20
 by_cases c3 : t106 = true
 rotate_left
 ·replace c3 := Bool.eq_false_iff.mpr c3
  subst c3
  have H1 : (some (([] : List Int), ([] : List Int), 1)) = some (r1, r2, r3) := by rw [if_neg (show ¬ (false = true) by decide)] at H; exact H
  clear H
  have H := H1
  clear H1
  simp only [Option.some.injEq, Prod.mk.injEq] at H
  obtain ⟨rfl, rfl, rfl⟩ := H
  go_enter Try.func26, Try.ntmps26
  go_wp2_with (first | (with_reducible refine wp_label ?_) | ((with_reducible refine wp_scope_plain ?hgs_ ?_); (case hgs_ => exact fun _ _ _ h => h)) | ((with_reducible refine gate_callee (f := 37) rfl ?_); refine goesL_ (some 13) rfl rfl Try.func37 (by kernel_rfl) rfl #[.slice A0 l0.length c0] rfl am_ ?_; (with_reducible refine (nest_right.calls k _ _ l0 false _ ?side1 ?side2 A2.out).mono ?_); (case side1 => repeat (first | exact HR0.out | (with_reducible refine Kd.C_alloc ?_ _) | (with_reducible refine Kd.C_drewN ?_ _) | (with_reducible refine Kd.C_drew ?_))); (case side2 => exact HC0.out); rintro e w81 ⟨rfl, hb⟩; refine ⟨_, rfl, ?_⟩; have n0_ := Aside0.mk (below_step ab_ hb); clear HB; have HB := n0_; clear n0_; (try clear hb); (try clear hb2); (try clear hk); (try clear hi)))
  go_ret3
  exact ⟨_, _, by first | rfl | (simp [errW_none, errW_some] <;> rfl) | (simp [*, errW_none, errW_some] <;> rfl), by first | exact Kd.R_nil _ _ _ _ _ | exact Kd.N_nil _ _ _ _ _ | exact Kd.V_nil _ _ _ _ _ | exact Kd.Q_nil _ _ _ _ _ | exact Kd.S_nil _ _ _ _ _, by first | exact Kd.R_nil _ _ _ _ _ | exact Kd.N_nil _ _ _ _ _ | exact Kd.V_nil _ _ _ _ _ | exact Kd.Q_nil _ _ _ _ _ | exact Kd.S_nil _ _ _ _ _, by repeat (first | (with_reducible first | exact HB.out | apply below_alloc | apply pw_below_drewN | apply below_drew1) | exact HB.out | exact Below.refl _ _)⟩
 subst c3
 have H1 : (if 0 ≤ (l0.length : Int) then (if ((l0.length : Int) : Int).toNat ≤ 35184372088832 then (nest_scan.l0 k (List.replicate ((l0.length : Int) : Int).toNat 0) (List.replicate ((l0.length : Int) : Int).toNat 0) ([] : List (S64)) l0 (l0.length : Int) 0) else (none)) else (none)) = some (r1, r2, r3) := by rw [if_pos rfl] at H; exact H
 clear H
 have H := H1
 clear H1
 by_cases c4 : 0 ≤ (l0.length : Int)
 rotate_left
 ·rw [if_neg c4] at H
  exact absurd H (by simp)
 rw [if_pos c4] at H
 have c4b0 := eq_true c4
 have c4b1 : decide (0 ≤ (l0.length : Int)) = true := decide_eq_true c4
 clear c4
 by_cases c5 : ((l0.length : Int) : Int).toNat ≤ 35184372088832
 rotate_left
 ·rw [if_neg c5] at H
  exact absurd H (by simp)
 rw [if_pos c5] at H
 have c5b0 := eq_true c5
 have c5b1 : decide (((l0.length : Int) : Int).toNat ≤ 35184372088832) = true := decide_eq_true c5
 clear c5
 obtain ⟨y107, hy107⟩ : ∃ y_ : List Int, y_ = (List.replicate ((l0.length : Int) : Int).toNat 0) := ⟨_, rfl⟩
 replace H : (nest_scan.l0 k y107 (List.replicate ((l0.length : Int) : Int).toNat 0) ([] : List (S64)) l0 (l0.length : Int) 0) = some (r1, r2, r3) := by first | (rw [hy107]; with_reducible exact H) | (have H2_ := (Option.bind_some _ _).symm.trans H; rw [hy107]; with_reducible exact H2_) | (have H2_ := (Option.bind_some _ _).symm.trans H; with_reducible exact H2_) | with_reducible exact H | (rw [hy107]; exact H) | exact H
 have Ny107 := Aside0.mk hy107
 clear hy107
 obtain ⟨y110, hy110⟩ : ∃ y_ : List Int, y_ = (List.replicate ((l0.length : Int) : Int).toNat 0) := ⟨_, rfl⟩
 replace H : (nest_scan.l0 k y107 y110 ([] : List (S64)) l0 (l0.length : Int) 0) = some (r1, r2, r3) := by first | (rw [hy110]; with_reducible exact H) | (have H2_ := (Option.bind_some _ _).symm.trans H; rw [hy110]; with_reducible exact H2_) | (have H2_ := (Option.bind_some _ _).symm.trans H; with_reducible exact H2_) | with_reducible exact H | (rw [hy110]; exact H) | exact H
 have Ny110 := Aside0.mk hy110
 clear hy110
 have H' := Aside0.mk H
 clear H
 go_enter Try.func26, Try.ntmps26
 try go_wp2_with (first | (with_reducible refine wp_label ?_) | ((with_reducible refine wp_scope_plain ?hgs_ ?_); (case hgs_ => exact fun _ _ _ h => h)) | ((with_reducible refine gate_callee (f := 37) rfl ?_); refine goesL_ (some 13) rfl rfl Try.func37 (by kernel_rfl) rfl #[.slice A0 l0.length c0] rfl am_ ?_; (with_reducible refine (nest_right.calls k _ _ l0 true _ ?side1 ?side2 A2.out).mono ?_); (case side1 => repeat (first | exact HR0.out | (with_reducible refine Kd.C_alloc ?_ _) | (with_reducible refine Kd.C_drewN ?_ _) | (with_reducible refine Kd.C_drew ?_))); (case side2 => exact HC0.out); rintro e w6 ⟨rfl, hb⟩; refine ⟨_, rfl, ?_⟩; have n0_ := Aside0.mk (below_step ab_ hb); clear HB; have HB := n0_; clear n0_; (try clear hb); (try clear hb2); (try clear hk); (try clear hi)))
 have n0_ := Aside0.mk (below_drew1 HB.out)
 clear HB
 have HB := n0_
 clear n0_
 refine start_ (n := 8) (S := fun w' => True) (ds := []) #[Z,Z,Z,Z,Z,Z,Z,Z] (by kernel_rfl) rfl rfl trivial (fun hHeld => ?_); refine with_tabW nest_scan.tab3 nest_scan.bits3 (fun HT_ HW_ => ?_)
 generalize w6.drew = w7 at HB hHeld ⊢
 refine pure_ (i := 0) (N := some 15) (v := ?_) (a' := ?_) #[Y,Z,Z,Z,Z,Z,Z,Z] rfl rfl (any_of HT_.out (by kernel_rfl)) (fun _ _ _ h => h) (Or.inl ⟨by rfl, ?_⟩) ?_ ?_
 rotate_left
 ·intro w'
  go_simp
  with_reducible rfl
 rotate_left
 ·exact ac_
 refine pure_ (i := 1) (N := some 16) (v := ?_) (a' := ?_) #[Y,Y,Z,Z,Z,Z,Z,Z] rfl rfl (any_of HT_.out (by kernel_rfl)) (fun _ _ _ h => h) (Or.inl ⟨by rfl, ?_⟩) ?_ ?_
 rotate_left
 ·intro w'
  go_simp
  with_reducible rfl
 rotate_left
 ·exact ac_
 refine pure_ (i := 3) (N := some 18) (v := ?_) (a' := ?_) #[Y,Y,Z,Y,Z,Z,Z,Z] rfl rfl (any_of HT_.out (by kernel_rfl)) (fun _ _ _ h => h) (Or.inl ⟨by rfl, ?_⟩) ?_ ?_
 rotate_left
 ·intro w'
  go_simp
  with_reducible rfl
 rotate_left
 ·exact ac_
 refine pure_ (i := 4) (N := some 19) (v := ?_) (a' := ?_) #[Y,Y,Z,Y,Y,Z,Z,Z] rfl rfl (any_of HT_.out (by kernel_rfl)) (fun _ _ _ h => h) (Or.inl ⟨by rfl, ?_⟩) ?_ ?_
 rotate_left
 ·intro w'
  go_simp
  with_reducible rfl
 rotate_left
 ·exact ac_
 refine join_ (σ := Value × Value) 1 #[Y,Y,Y,Y,Y,Y,Y,Z] (fun s_ => [(17, s_.1), (20, s_.2), (5, s_.1)]) (fun s_ w' => (Kd.R (Kd.int .i64) 3 w' w.heap.size (fun k_ => some k_ ≠ (s_.2 : Value).ownBlock) s_.1 y107) ∧ (Kd.R (Kd.int .i64) 3 w' w.heap.size (fun k_ => some k_ ≠ (s_.1 : Value).ownBlock) s_.2 y110) ∧ (Below w.heap.size w w')) ?_ ?_
 rotate_left
 ·intro hCont
  refine two_ (i := 2) (j := 5) (Ni := some 17) (Nj := some 20) #[Y,Y,Y,Y,Y,Z,Z,Z] #[Y,Y,Z,Y,Y,Y,Z,Z] rfl rfl rfl rfl (two_of HT_.out (by kernel_rfl)) (by decide) (by decide) (fun K hK => ?_) (fun K hK => ?_)
  ·skip
   refine Kd.R_make_step (Kd.int .i64) _ 3 (by rfl) (N := 17) rfl 32 _ _ rfl (l0.length : Int) rfl rfl Try.underlying32 (.int .i64 0) 8 info3 rfl (by decide) (by omega) 0 (ok := fun _ => True) (okp := fun _ => True) rfl (fun _ hk => hk) trivial (of_decide_eq_true as_) (Nat.le_trans (Nat.mul_le_mul_right _ (of_decide_eq_true as_ : (l0.length : Int).toNat ≤ 35184372088832)) (by omega)) (Below.refl _ _) (Nat.le_refl _) ?_
   intro v108 w8 ho9 hb hg_ hnew_
   clear hg_ hnew_
   (first | rw [← Ny107.out] at ho9 | (simp only [Int.reduceToNat] at ho9; rw [← Ny107.out] at ho9))
   have n0_ := Aside0.mk (Kd.R_lower ho9 (below_size ab_))
   first | (have n1_ := Aside0.mk (below_step (Below.refl w.heap.size w) hb)) | (have n1_ := Aside0.mk (below_step (below_drew (pw_below_drewN (Below.refl w.heap.size w) _)) hb)) | (have n1_ := Aside0.mk (below_step (pw_below_drewN (Below.refl w.heap.size w) _) hb)) | (have n1_ := Aside0.mk (below_step ab_ hb))
   clear HB
   have HO109 := n0_
   have HB := n1_
   clear n0_ n1_
   clear hb ho9
   refine hK.out _ _ trivial (fun hHeld => ?_)
   clear hK K
   refine norm_ (a' := ?_) ?_ ?_
   rotate_left
   ·show Act.put _ (some 17) _ = _
    simp only [Act.put, setIfInBounds_toArray,set_cons_zero,set_cons_succ, i64_w, i32_w]
    rfl
   refine pure_ (i := 6) (N := some 5) (v := ?_) (a' := ?_) #[Y,Y,Y,Y,Y,Z,Y,Z] rfl rfl (any_of HT_.out (by kernel_rfl)) (fun _ _ _ h => h) (Or.inl ⟨by rfl, ?_⟩) ?_ ?_
   rotate_left
   ·intro w'
    go_simp
    with_reducible rfl
   rotate_left
   ·exact ac_
   refine one_ (i := 5) (N := some 20) #[Y,Y,Y,Y,Y,Y,Y,Z] rfl rfl (one_of HT_.out (by kernel_rfl)) (by decide) (fun K hK => ?_)
   refine Kd.R_make_step (Kd.int .i64) _ 3 (by rfl) (N := 20) rfl 32 _ _ rfl (l0.length : Int) rfl rfl Try.underlying32 (.int .i64 0) 8 info3 rfl (by decide) (by omega) 0 (ok := fun _ => True) (okp := fun _ => True) rfl (fun _ hk => hk) trivial (of_decide_eq_true as_) (Nat.le_trans (Nat.mul_le_mul_right _ (of_decide_eq_true as_ : (l0.length : Int).toNat ≤ 35184372088832)) (by omega)) (Below.refl _ _) (Nat.le_refl _) ?_
   intro v111 w10 ho11 hb hg_ hnew_
   clear hg_ hnew_
   (first | rw [← Ny110.out] at ho11 | (simp only [Int.reduceToNat] at ho11; rw [← Ny110.out] at ho11))
   have n0_ := Aside0.mk (Kd.R_elder' (by (with_reducible repeat (first | apply Kd.R_alloc | apply Kd.R_drewN | apply Kd.R_drew)); exact HO109.out) (Kd.R_base ho11) hb)
   have n1_ := Aside0.mk (Kd.R_lower (Kd.R_new' ho11 (Kd.R_lt (by (with_reducible repeat (first | apply Kd.R_alloc | apply Kd.R_drewN | apply Kd.R_drew)); exact HO109.out))) (below_size ab_))
   first | (have n2_ := Aside0.mk (below_step (Below.refl w.heap.size w) hb)) | (have n2_ := Aside0.mk (below_step (below_drew (pw_below_drewN (Below.refl w.heap.size w) _)) hb)) | (have n2_ := Aside0.mk (below_step (pw_below_drewN (Below.refl w.heap.size w) _) hb)) | (have n2_ := Aside0.mk (below_step ab_ hb))
   clear HO109
   clear HB
   have HO109 := n0_
   have HO112 := n1_
   have HB := n2_
   clear n0_ n1_ n2_
   clear hb ho11
   refine hK.out _ _ trivial (fun hHeld => ?_)
   clear hK K
   refine norm_ (a' := ?_) ?_ ?_
   rotate_left
   ·show Act.put _ (some 20) _ = _
    simp only [Act.put, setIfInBounds_toArray,set_cons_zero,set_cons_succ, i64_w, i32_w]
    rfl
   exact norm_ (by simp only [putAll, Act.put, setIfInBounds_toArray,set_cons_zero,set_cons_succ]) (hCont (v108, v111) _ ⟨(by (with_reducible repeat (first | apply Kd.R_alloc | apply Kd.R_drewN | apply Kd.R_drew)); exact Kd.R_mono HO109.out (fun _ hk => hk.2)), (by (with_reducible repeat (first | apply Kd.R_alloc | apply Kd.R_drewN | apply Kd.R_drew)); exact Kd.R_mono HO112.out (fun _ hk => hk.2)), ab_⟩)
  ·skip
   refine Kd.R_make_step (Kd.int .i64) _ 3 (by rfl) (N := 20) rfl 32 _ _ rfl (l0.length : Int) rfl rfl Try.underlying32 (.int .i64 0) 8 info3 rfl (by decide) (by omega) 0 (ok := fun _ => True) (okp := fun _ => True) rfl (fun _ hk => hk) trivial (of_decide_eq_true as_) (Nat.le_trans (Nat.mul_le_mul_right _ (of_decide_eq_true as_ : (l0.length : Int).toNat ≤ 35184372088832)) (by omega)) (Below.refl _ _) (Nat.le_refl _) ?_
   intro v111 w8 ho9 hb hg_ hnew_
   clear hg_ hnew_
   (first | rw [← Ny110.out] at ho9 | (simp only [Int.reduceToNat] at ho9; rw [← Ny110.out] at ho9))
   have n0_ := Aside0.mk (Kd.R_lower ho9 (below_size ab_))
   first | (have n1_ := Aside0.mk (below_step (Below.refl w.heap.size w) hb)) | (have n1_ := Aside0.mk (below_step (below_drew (pw_below_drewN (Below.refl w.heap.size w) _)) hb)) | (have n1_ := Aside0.mk (below_step (pw_below_drewN (Below.refl w.heap.size w) _) hb)) | (have n1_ := Aside0.mk (below_step ab_ hb))
   clear HB
   have HO112 := n0_
   have HB := n1_
   clear n0_ n1_
   clear hb ho9
   refine hK.out _ _ trivial (fun hHeld => ?_)
   clear hK K
   refine norm_ (a' := ?_) ?_ ?_
   rotate_left
   ·show Act.put _ (some 20) _ = _
    simp only [Act.put, setIfInBounds_toArray,set_cons_zero,set_cons_succ, i64_w, i32_w]
    rfl
   refine one_ (i := 2) (N := some 17) #[Y,Y,Y,Y,Y,Y,Z,Z] rfl rfl (one_of HT_.out (by kernel_rfl)) (by decide) (fun K hK => ?_)
   refine Kd.R_make_step (Kd.int .i64) _ 3 (by rfl) (N := 17) rfl 32 _ _ rfl (l0.length : Int) rfl rfl Try.underlying32 (.int .i64 0) 8 info3 rfl (by decide) (by omega) 0 (ok := fun _ => True) (okp := fun _ => True) rfl (fun _ hk => hk) trivial (of_decide_eq_true as_) (Nat.le_trans (Nat.mul_le_mul_right _ (of_decide_eq_true as_ : (l0.length : Int).toNat ≤ 35184372088832)) (by omega)) (Below.refl _ _) (Nat.le_refl _) ?_
   intro v108 w10 ho11 hb hg_ hnew_
   clear hg_ hnew_
   (first | rw [← Ny107.out] at ho11 | (simp only [Int.reduceToNat] at ho11; rw [← Ny107.out] at ho11))
   have n0_ := Aside0.mk (Kd.R_elder' (by (with_reducible repeat (first | apply Kd.R_alloc | apply Kd.R_drewN | apply Kd.R_drew)); exact HO112.out) (Kd.R_base ho11) hb)
   have n1_ := Aside0.mk (Kd.R_lower (Kd.R_new' ho11 (Kd.R_lt (by (with_reducible repeat (first | apply Kd.R_alloc | apply Kd.R_drewN | apply Kd.R_drew)); exact HO112.out))) (below_size ab_))
   first | (have n2_ := Aside0.mk (below_step (Below.refl w.heap.size w) hb)) | (have n2_ := Aside0.mk (below_step (below_drew (pw_below_drewN (Below.refl w.heap.size w) _)) hb)) | (have n2_ := Aside0.mk (below_step (pw_below_drewN (Below.refl w.heap.size w) _) hb)) | (have n2_ := Aside0.mk (below_step ab_ hb))
   clear HO112
   clear HB
   have HO112 := n0_
   have HO109 := n1_
   have HB := n2_
   clear n0_ n1_ n2_
   clear hb ho11
   refine hK.out _ _ trivial (fun hHeld => ?_)
   clear hK K
   refine norm_ (a' := ?_) ?_ ?_
   rotate_left
   ·show Act.put _ (some 17) _ = _
    simp only [Act.put, setIfInBounds_toArray,set_cons_zero,set_cons_succ, i64_w, i32_w]
    rfl
   refine pure_ (i := 6) (N := some 5) (v := ?_) (a' := ?_) #[Y,Y,Y,Y,Y,Y,Y,Z] rfl rfl (any_of HT_.out (by kernel_rfl)) (fun _ _ _ h => h) (Or.inl ⟨by rfl, ?_⟩) ?_ ?_
   rotate_left
   ·intro w'
    go_simp
    with_reducible rfl
   rotate_left
   ·exact ac_
   exact norm_ (by simp only [putAll, Act.put, setIfInBounds_toArray,set_cons_zero,set_cons_succ]) (hCont (v108, v111) _ ⟨(by (with_reducible repeat (first | apply Kd.R_alloc | apply Kd.R_drewN | apply Kd.R_drew)); exact Kd.R_mono HO109.out (fun _ hk => hk.2)), (by (with_reducible repeat (first | apply Kd.R_alloc | apply Kd.R_drewN | apply Kd.R_drew)); exact Kd.R_mono HO112.out (fun _ hk => hk.2)), ab_⟩)
 rintro ⟨v108, v111⟩ w12 ⟨h0_, h1_, h2_⟩
 have n0_ : Aside0 (Kd.R (Kd.int .i64) 3 w12 w.heap.size (fun k_ => some k_ ≠ (v111 : Value).ownBlock) v108 y107) := ⟨h0_⟩
 have n1_ : Aside0 (Kd.R (Kd.int .i64) 3 w12 w.heap.size (fun k_ => some k_ ≠ (v108 : Value).ownBlock) v111 y110) := ⟨h1_⟩
 have n2_ : Aside0 (Below w.heap.size w w12) := ⟨h2_⟩
 clear HB
 clear h0_ h1_ h2_
 have HO109 := n0_
 have HO112 := n1_
 have HB := n2_
 clear n0_ n1_ n2_
 have hHeld := trivial
 refine norm_ (a' := ?_) ?_ ?_
 rotate_left
 ·simp only [putAll, Act.put, setIfInBounds_toArray,set_cons_zero,set_cons_succ]
  rfl
 refine pure_ (i := 7) (N := some 6) (v := ?_) (a' := ?_) #[Y,Y,Y,Y,Y,Y,Y,Y] rfl rfl (any_of HT_.out (by kernel_rfl)) (fun _ _ _ h => h) (Or.inl ⟨by rfl, ?_⟩) ?_ ?_
 rotate_left
 ·intro w'
  go_simp
  with_reducible rfl
 rotate_left
 ·exact ac_
 refine done_ (done_of HT_.out (by kernel_rfl)) ?_
 try go_wp2_with (first | (with_reducible refine wp_label ?_) | ((with_reducible refine wp_scope_plain ?hgs_ ?_); (case hgs_ => exact fun _ _ _ h => h)))
 go_loopg [7, 23] k (fun kq v7 v23 w' => ∃ (x5_1 : List Int) (x6_1 : List Int) (x7_1 : List (S64)) (x23_1 : Int), v23 = .int .i64 x23_1 ∧ Aside0 (nest_scan.l0 kq x5_1 x6_1 x7_1 l0 (l0.length : Int) x23_1 = some (r1, r2, r3)) ∧ Aside0 (kq ≤ k) ∧ Aside0 (Kd.R (Kd.int .i64) 3 w' w.heap.size (fun k_ => some k_ ≠ (v111 : Value).ownBlock) v108 x5_1) ∧ Aside0 (Kd.R (Kd.int .i64) 3 w' w.heap.size (fun k_ => some k_ ≠ (v108 : Value).ownBlock) v111 x6_1) ∧ Aside0 (Kd.R k64 64 w' w.heap.size (fun _ => True) v7 x7_1) ∧ Aside0 (Below w.heap.size w w'))
 case atStart => exact ⟨(y107), (y110), (([] : List (S64))), (0), (by first | rfl | (simp; done) | (simp [*]; done)), H', ⟨Nat.le_refl _⟩, ⟨by (with_reducible repeat (first | apply Kd.R_alloc | apply Kd.R_drewN | apply Kd.R_drew)); exact HO109.out⟩, ⟨by (with_reducible repeat (first | apply Kd.R_alloc | apply Kd.R_drewN | apply Kd.R_drew)); exact HO112.out⟩, ⟨by first | exact Kd.R_nil _ _ _ _ _ | exact Kd.N_nil _ _ _ _ _ | exact Kd.V_nil _ _ _ _ _ | exact Kd.Q_nil _ _ _ _ _ | exact Kd.S_nil _ _ _ _ _⟩, ⟨by repeat (first | (with_reducible first | exact HB.out | apply below_alloc | apply pw_below_drewN | apply below_drew1) | exact HB.out)⟩⟩
 case round =>
  clear H'
  try clear c2
  try clear p2
  try clear c3
  try clear c4
  try clear c4b0
  try clear c4b1
  try clear c5
  try clear c5b0
  try clear c5b1
  obtain ⟨x5_1, x6_1, x7_1, x23_1, rfl, HA, HK1, HO_5, HO_6, HO_7, HB⟩ := hrel
  cases gk with
  | zero => exact absurd HA.out (by simp [nest_scan.l0])
  | succ k1 =>
   have H := HA.out
   clear HA
   simp only [nest_scan.l0] at H
   by_cases c13 : x23_1 < (l0.length : Int)
   rotate_left
   ·rw [if_neg c13] at H
    have c13b0 : decide (x23_1 < (l0.length : Int)) = false := decide_eq_false c13
    clear c13
    by_cases c78 : (x7_1.length : Int) > 0
    rotate_left
    ·rw [if_neg c78] at H
     have c78b0 : decide (0 < (x7_1.length : Int)) = false := decide_eq_false c78
     have c78b1 : decide (0 < x7_1.length) = false := decide_eq_false (by omega)
     clear c78
     simp only [Option.some.injEq, Prod.mk.injEq] at H
     obtain ⟨rfl, rfl, rfl⟩ := H
     obtain ⟨Ao80, co80, eo80⟩ := Kd.R_slice HO_7.out
     subst eo80
     go_wp2_with (first | (with_reducible refine wp_label ?_) | ((with_reducible refine wp_scope_plain ?hgs_ ?_); (case hgs_ => exact fun _ _ _ h => h)))
     go_ret3
     exact ⟨_, _, by first | rfl | (simp [errW_none, errW_some] <;> rfl) | (simp [*, errW_none, errW_some] <;> rfl), by (with_reducible repeat (first | apply Kd.R_alloc | apply Kd.R_drewN | apply Kd.R_drew)); exact HO_5.out, by (with_reducible repeat (first | apply Kd.R_alloc | apply Kd.R_drewN | apply Kd.R_drew)); exact HO_6.out, by repeat (first | (with_reducible first | exact HB.out | apply below_alloc | apply pw_below_drewN | apply below_drew1) | exact HB.out | exact Below.refl _ _)⟩
    rw [if_pos c78] at H
    have c78b0 : decide (0 < (x7_1.length : Int)) = true := decide_eq_true c78
    have c78b1 : decide (0 < x7_1.length) = true := decide_eq_true (by omega)
    clear c78
    simp only [Option.some.injEq, Prod.mk.injEq] at H
    obtain ⟨rfl, rfl, rfl⟩ := H
    obtain ⟨Ao79, co79, eo79⟩ := Kd.R_slice HO_7.out
    subst eo79
    go_wp2_with (first | (with_reducible refine wp_label ?_) | ((with_reducible refine wp_scope_plain ?hgs_ ?_); (case hgs_ => exact fun _ _ _ h => h)))
    go_ret3
    exact ⟨_, _, by first | rfl | (simp [errW_none, errW_some] <;> rfl) | (simp [*, errW_none, errW_some] <;> rfl), by first | exact Kd.R_nil _ _ _ _ _ | exact Kd.N_nil _ _ _ _ _ | exact Kd.V_nil _ _ _ _ _ | exact Kd.Q_nil _ _ _ _ _ | exact Kd.S_nil _ _ _ _ _, by first | exact Kd.R_nil _ _ _ _ _ | exact Kd.N_nil _ _ _ _ _ | exact Kd.V_nil _ _ _ _ _ | exact Kd.Q_nil _ _ _ _ _ | exact Kd.S_nil _ _ _ _ _, by repeat (first | (with_reducible first | exact HB.out | apply below_alloc | apply pw_below_drewN | apply below_drew1) | exact HB.out | exact Below.refl _ _)⟩
   rw [if_pos c13] at H
   have c13b0 : decide (x23_1 < (l0.length : Int)) = true := decide_eq_true c13
   clear c13
   by_cases c14 : 0 ≤ x23_1
   rotate_left
   ·rw [if_neg c14] at H
    exact absurd H (by simp)
   rw [if_pos c14] at H
   have c14b0 : decide (0 ≤ x23_1) = true := decide_eq_true c14
   clear c14
   by_cases c15 : x23_1 < (l0.length : Int)
   rotate_left
   ·rw [if_neg c15] at H
    exact absurd H (by simp)
   rw [if_pos c15] at H
   have c15b0 : decide (x23_1 < (l0.length : Int)) = true := decide_eq_true c15
   clear c15
   by_cases c16 : x23_1 < (x5_1.length : Int)
   rotate_left
   ·rw [if_neg c16] at H
    exact absurd H (by simp)
   rw [if_pos c16] at H
   have c16b0 : decide (x23_1 < (x5_1.length : Int)) = true := decide_eq_true c16
   clear c16
   obtain ⟨y115, hy115⟩ : ∃ y_ : List Int, y_ = (x5_1.set (x23_1 : Int).toNat (-1)) := ⟨_, rfl⟩
   replace H : (if x23_1 < (x6_1.length : Int) then ((some (x6_1.set (x23_1 : Int).toNat (-1) : List Int)).bind fun y116 => (if (x7_1.length : Int) > 0 then (if 0 ≤ (wrap64 ((x7_1.length : Int) - 1)) then (if (wrap64 ((x7_1.length : Int) - 1)) < (x7_1.length : Int) then (nest_scan.j1 k1 y115 (y116.set (x23_1 : Int).toNat ((rd_T64 x7_1 (wrap64 ((x7_1.length : Int) - 1))).f0)) x7_1 x23_1 l0 (l0.length : Int) x23_1 ((rd_T37 l0 x23_1).f0) ((rd_T37 l0 x23_1).f1) ((rd_T37 l0 x23_1).f2)) else (none)) else (none)) else (nest_scan.j1 k1 y115 y116 x7_1 x23_1 l0 (l0.length : Int) x23_1 ((rd_T37 l0 x23_1).f0) ((rd_T37 l0 x23_1).f1) ((rd_T37 l0 x23_1).f2)))) else (none)) = some (r1, r2, r3) := by first | (rw [hy115]; with_reducible exact H) | (have H2_ := (Option.bind_some _ _).symm.trans H; rw [hy115]; with_reducible exact H2_) | (have H2_ := (Option.bind_some _ _).symm.trans H; with_reducible exact H2_) | with_reducible exact H | (rw [hy115]; exact H) | exact H
   have Ny115 := Aside0.mk hy115
   clear hy115
   by_cases c18 : x23_1 < (x6_1.length : Int)
   rotate_left
   ·rw [if_neg c18] at H
    exact absurd H (by simp)
   rw [if_pos c18] at H
   have c18b0 : decide (x23_1 < (x6_1.length : Int)) = true := decide_eq_true c18
   clear c18
   obtain ⟨y116, hy116⟩ : ∃ y_ : List Int, y_ = (x6_1.set (x23_1 : Int).toNat (-1)) := ⟨_, rfl⟩
   replace H : (if (x7_1.length : Int) > 0 then (if 0 ≤ (wrap64 ((x7_1.length : Int) - 1)) then (if (wrap64 ((x7_1.length : Int) - 1)) < (x7_1.length : Int) then (nest_scan.j1 k1 y115 (y116.set (x23_1 : Int).toNat ((rd_T64 x7_1 (wrap64 ((x7_1.length : Int) - 1))).f0)) x7_1 x23_1 l0 (l0.length : Int) x23_1 ((rd_T37 l0 x23_1).f0) ((rd_T37 l0 x23_1).f1) ((rd_T37 l0 x23_1).f2)) else (none)) else (none)) else (nest_scan.j1 k1 y115 y116 x7_1 x23_1 l0 (l0.length : Int) x23_1 ((rd_T37 l0 x23_1).f0) ((rd_T37 l0 x23_1).f1) ((rd_T37 l0 x23_1).f2))) = some (r1, r2, r3) := by first | (rw [hy116]; with_reducible exact H) | (have H2_ := (Option.bind_some _ _).symm.trans H; rw [hy116]; with_reducible exact H2_) | (have H2_ := (Option.bind_some _ _).symm.trans H; with_reducible exact H2_) | with_reducible exact H | (rw [hy116]; exact H) | exact H
   have Ny116 := Aside0.mk hy116
   clear hy116
   have HC20 := Aside0.mk H
   clear H
   have p113 : 0 ≤ (x23_1 : Int) := of_decide_eq_true as_
   have q113 : x23_1 < (l0.length : Int) := of_decide_eq_true as_
   obtain ⟨ad113, e113, hx113_0, hx113_1, hx113_2⟩ := at_T37 HR0.out x23_1 p113 q113
   cases e113
   replace hx113_0 := (HB.out.cell (World.block_lt_of_cell? w _ hx113_0)).trans hx113_0
   replace hx113_1 := (HB.out.cell (World.block_lt_of_cell? w _ hx113_1)).trans hx113_1
   replace hx113_2 := (HB.out.cell (World.block_lt_of_cell? w _ hx113_2)).trans hx113_2
   replace p113 := eq_true p113
   replace q113 := eq_true q113
   go_upto_if 36 with (first | (with_reducible refine wp_label ?_) | ((with_reducible refine wp_scope_plain ?hgs_ ?_); (case hgs_ => exact fun _ _ _ h => h)) | ((with_reducible refine gate_dst (N := 9) rfl ?_); (try (refine gate_guard (by rfl) ?_; dsimp only)); refine box_event ?hg (N := 9) ?hd (cs := #[.int .i64 0, .int .i64 0, .int .i64 0]) (t := 37) ?hr ?_; (case hd => rfl); (case hg => rfl); (case hr => first | (go_simp; done) | (go_simp; rfl)); intro gb114 hg w21 hbox hb; have n0_ := Aside0.mk (Kd.R_below (by (with_reducible repeat (first | apply Kd.R_alloc | apply Kd.R_drewN | apply Kd.R_drew)); exact HO_5.out) hb); have n1_ := Aside0.mk (Kd.R_below (by (with_reducible repeat (first | apply Kd.R_alloc | apply Kd.R_drewN | apply Kd.R_drew)); exact HO_6.out) hb); have n2_ := Aside0.mk (Kd.R_below (by (with_reducible repeat (first | apply Kd.R_alloc | apply Kd.R_drewN | apply Kd.R_drew)); exact HO_7.out) hb); have n3_ := Aside0.mk (below_step ab_ hb); have n4_ := Aside0.mk (hbox); have n5_ := Aside0.mk ((by rw [hg]; exact (below_size ab_) : w.heap.size ≤ gb114)); have n6_ := Aside0.mk ((by rw [hg]; exact (below_size ab_) : w.heap.size ≤ gb114)); clear HO_5; clear HO_6; clear HO_7; clear HB; have HO_5 := n0_; have HO_6 := n1_; have HO_7 := n2_; have HB := n3_; have BK114 := n4_; have GW114 := n5_; have GE114 := n6_; clear n0_ n1_ n2_ n3_ n4_ n5_ n6_; clear hb hbox hg; have hcz22_0 : w21.cell? ⟨gb114, 0, none⟩ = some (.int .i64 0) := (blk_cell BK114.out 0).trans rfl; have hcz22_1 : w21.cell? ⟨gb114, 1, none⟩ = some (.int .i64 0) := (blk_cell BK114.out 1).trans rfl; have hcz22_2 : w21.cell? ⟨gb114, 2, none⟩ = some (.int .i64 0) := (blk_cell BK114.out 2).trans rfl; have hfz22_0 := blk_frozen BK114.out 0; have hfz22_1 := blk_frozen BK114.out 1; have hfz22_2 := blk_frozen BK114.out 2) | ((with_reducible refine gate_store (t := 37) (p := 9) rfl ?_); refine store_event (t := 37) (p := 9) (v := ?vo_w23) (w1 := (((w21.setCell ⟨gb114, 0, none⟩ (.int .i64 ((rd_T37 l0 x23_1).f0))).setCell ⟨gb114, 1, none⟩ (.int .i64 ((rd_T37 l0 x23_1).f1))).setCell ⟨gb114, 2, none⟩ (.int .i64 ((rd_T37 l0 x23_1).f2)))) ?hg ?ho ?hn ?hr ?_; (case ho => rfl); (case hg => rfl); (case hn => rfl); (case hr => first | (go_simp; done) | (go_simp; rfl)); intro w23 hw; have n0_ : Aside0 (Kd.R (Kd.int .i64) 3 w23 w.heap.size (fun k_ => some k_ ≠ (v111 : Value).ownBlock) v108 x5_1) := ⟨(by rw [hw]; exact (by (with_reducible repeat (first | apply Kd.R_alloc | apply Kd.R_drewN | apply Kd.R_drew)); exact Kd.R_mono (Kd.R_far (p := ⟨gb114, 2, none⟩) (Kd.R_far (p := ⟨gb114, 1, none⟩) (Kd.R_far (p := ⟨gb114, 0, none⟩) (Kd.R_types HO_5.out BK114.out (by decide)) (fun _ hk => hk.2) (.int .i64 ((rd_T37 l0 x23_1).f0))) (fun _ hk => hk.2) (.int .i64 ((rd_T37 l0 x23_1).f1))) (fun _ hk => hk.2) (.int .i64 ((rd_T37 l0 x23_1).f2))) (fun _ hk => hk.1)))⟩; have n1_ : Aside0 (Kd.R (Kd.int .i64) 3 w23 w.heap.size (fun k_ => some k_ ≠ (v108 : Value).ownBlock) v111 x6_1) := ⟨(by rw [hw]; exact (by (with_reducible repeat (first | apply Kd.R_alloc | apply Kd.R_drewN | apply Kd.R_drew)); exact Kd.R_mono (Kd.R_far (p := ⟨gb114, 2, none⟩) (Kd.R_far (p := ⟨gb114, 1, none⟩) (Kd.R_far (p := ⟨gb114, 0, none⟩) (Kd.R_types HO_6.out BK114.out (by decide)) (fun _ hk => hk.2) (.int .i64 ((rd_T37 l0 x23_1).f0))) (fun _ hk => hk.2) (.int .i64 ((rd_T37 l0 x23_1).f1))) (fun _ hk => hk.2) (.int .i64 ((rd_T37 l0 x23_1).f2))) (fun _ hk => hk.1)))⟩; have n2_ : Aside0 (Kd.R k64 64 w23 w.heap.size (fun _ => True) u7 x7_1) := ⟨(by rw [hw]; exact (by (with_reducible repeat (first | apply Kd.R_alloc | apply Kd.R_drewN | apply Kd.R_drew)); exact Kd.R_mono (Kd.R_far (p := ⟨gb114, 2, none⟩) (Kd.R_far (p := ⟨gb114, 1, none⟩) (Kd.R_far (p := ⟨gb114, 0, none⟩) (Kd.R_types HO_7.out BK114.out (by decide)) (fun _ hk => hk.2) (.int .i64 ((rd_T37 l0 x23_1).f0))) (fun _ hk => hk.2) (.int .i64 ((rd_T37 l0 x23_1).f1))) (fun _ hk => hk.2) (.int .i64 ((rd_T37 l0 x23_1).f2))) (fun _ hk => trivial)))⟩; have n3_ : Aside0 (w23.heap[gb114]? = some (.cells #[.int .i64 ((rd_T37 l0 x23_1).f0), .int .i64 ((rd_T37 l0 x23_1).f1), .int .i64 ((rd_T37 l0 x23_1).f2)] 37 (0, 0))) := ⟨(by rw [hw]; exact (by (with_reducible repeat (first | refine blk_drewN ?_ _ | refine blk_drew ?_ | refine blk_alloc ?_ _)); refine blk_put (cs := #[.int .i64 ((rd_T37 l0 x23_1).f0), .int .i64 ((rd_T37 l0 x23_1).f1), .int .i64 0]) ?_ 2 _ rfl; (with_reducible repeat (first | refine blk_drewN ?_ _ | refine blk_drew ?_ | refine blk_alloc ?_ _)); refine blk_put (cs := #[.int .i64 ((rd_T37 l0 x23_1).f0), .int .i64 0, .int .i64 0]) ?_ 1 _ rfl; (with_reducible repeat (first | refine blk_drewN ?_ _ | refine blk_drew ?_ | refine blk_alloc ?_ _)); refine blk_put (cs := #[.int .i64 0, .int .i64 0, .int .i64 0]) ?_ 0 _ rfl; (with_reducible repeat (first | refine blk_drewN ?_ _ | refine blk_drew ?_ | refine blk_alloc ?_ _)); exact BK114.out))⟩; have n4_ : Aside0 (Below w.heap.size w w23) := ⟨(by rw [hw]; exact (by repeat (first | (with_reducible first | exact HB.out | apply below_alloc | apply pw_below_drewN | apply below_drew1 | refine below_set ?_ GE114.out) | exact HB.out)))⟩; clear hw; clear HO_5; clear HO_6; clear HO_7; clear BK114; clear HB; have HO_5 := n0_; have HO_6 := n1_; have HO_7 := n2_; have BK114 := n3_; have HB := n4_; clear n0_ n1_ n2_ n3_ n4_; have p17 : 0 ≤ (x23_1 : Int) := of_decide_eq_true as_; have q17 : (x23_1 : Int) < ((x5_1.length : Int) : Int) := of_decide_eq_true as_; obtain ⟨go17, co17, eo17, gb17, gl17, cl17, HG17⟩ := Kd.R_form HO_5.out (by omega); (first | cases eo17 | (injection eo17 with ea_ en_ ec_; (first | subst ea_ | (injection ea_ with ea_; subst ea_)); subst ec_; clear en_)); have GB17 := Aside0.mk gb17; have GG17 := Aside0.mk HG17; clear gb17 gl17 HG17; obtain ⟨hx17_0, hf17_0⟩ := Kd.R_celln 0 HO_5.out (x23_1 : Int) p17 q17; replace p17 := eq_true p17; replace q17 := eq_true q17; obtain ⟨hy24_, hz24_⟩ := Kd.R_celln 0 HO_5.out (x23_1 : Int) (of_decide_eq_true as_) (of_decide_eq_true as_); have HP24 := Kd.R_putg HO_5.out (x23_1 : Int) (-1)) | ((with_reducible refine gate_store (t := 3) (p := 32) rfl ?_); refine store_event (t := 3) (p := 32) (v := ?vo_w25) (w1 := (w23.setCell ⟨go17, (x23_1 : Int).toNat, none⟩ (.int .i64 (-1)))) ?hg ?ho ?hn ?hr ?_; (case ho => rfl); (case hg => rfl); (case hn => rfl); (case hr => first | (go_simp; done) | (go_simp; rfl)); intro w25 hw; have hg : w23.grownBy w25 (some go17) := (by rw [hw]; exact HP24.2); have hp_ : Kd.R (Kd.int .i64) 3 w25 w.heap.size (fun k_ => some k_ ≠ (v111 : Value).ownBlock) (.slice (some ⟨go17, 0, none⟩) x5_1.length co17) y115 := (by rw [hw, Ny115.out]; exact HP24.1); clear HP24; have n0_ := Aside0.mk (hp_); have n1_ := Aside0.mk (Kd.R_after (v := (.slice (some ⟨go17, 0, none⟩) x5_1.length co17)) (v1 := (.slice (some ⟨go17, 0, none⟩) x5_1.length co17)) (ok := (fun _ => True)) (by (with_reducible repeat (first | apply Kd.R_alloc | apply Kd.R_drewN | apply Kd.R_drew)); exact Kd.R_mono HO_6.out (fun _ hk => ⟨trivial, hk⟩)) hg (.inl rfl)); have n2_ := Aside0.mk (Kd.R_over' (v := (.slice (some ⟨go17, 0, none⟩) x5_1.length co17)) (by (with_reducible repeat (first | apply Kd.R_alloc | apply Kd.R_drewN | apply Kd.R_drew)); exact HO_7.out) (Kd.R_typed HO_5.out) (by decide) hg); have n3_ := Aside0.mk (blk_grown (g := gb114) (o := .cells #[.int .i64 ((rd_T37 l0 x23_1).f0), .int .i64 ((rd_T37 l0 x23_1).f1), .int .i64 ((rd_T37 l0 x23_1).f2)] 37 (0, 0)) (by (with_reducible repeat (first | refine blk_drewN ?_ _ | refine blk_drew ?_ | refine blk_alloc ?_ _)); exact BK114.out) hg (Kd.R_ne HO_5.out BK114.out (by decide))); have n4_ := Aside0.mk ((by rw [hw]; exact below_set (HB.out) GB17.out : Below w.heap.size w w25)); clear HO_5; clear HO_6; clear HO_7; clear BK114; clear HB; have HO_5 := n0_; have HO_6 := n1_; have HO_7 := n2_; have BK114 := n3_; have HB := n4_; clear n0_ n1_ n2_ n3_ n4_; clear hg hw hp_; have p19 : 0 ≤ (x23_1 : Int) := of_decide_eq_true as_; have q19 : (x23_1 : Int) < ((x6_1.length : Int) : Int) := of_decide_eq_true as_; obtain ⟨go19, co19, eo19, gb19, gl19, cl19, HG19⟩ := Kd.R_form HO_6.out (by omega); (first | cases eo19 | (injection eo19 with ea_ en_ ec_; (first | subst ea_ | (injection ea_ with ea_; subst ea_)); subst ec_; clear en_)); have GB19 := Aside0.mk gb19; have GG19 := Aside0.mk HG19; clear gb19 gl19 HG19; obtain ⟨hx19_0, hf19_0⟩ := Kd.R_celln 0 HO_6.out (x23_1 : Int) p19 q19; replace p19 := eq_true p19; replace q19 := eq_true q19; have n_ := Aside0.mk (Kd.R_mono (ok' := (fun k_ => some k_ ≠ (.slice (some ⟨go17, 0, none⟩) x5_1.length co17 : Value).ownBlock)) HO_6.out (fun k_ hk => hk.2)); clear HO_6; have HO_6 := n_; clear n_; obtain ⟨hy26_, hz26_⟩ := Kd.R_celln 0 HO_6.out (x23_1 : Int) (of_decide_eq_true as_) (of_decide_eq_true as_); have HP26 := Kd.R_putg HO_6.out (x23_1 : Int) (-1)) | ((with_reducible refine gate_store (t := 3) (p := 33) rfl ?_); refine store_event (t := 3) (p := 33) (v := ?vo_w27) (w1 := (w25.setCell ⟨go19, (x23_1 : Int).toNat, none⟩ (.int .i64 (-1)))) ?hg ?ho ?hn ?hr ?_; (case ho => rfl); (case hg => rfl); (case hn => rfl); (case hr => first | (go_simp; done) | (go_simp; rfl)); intro w27 hw; have hg : w25.grownBy w27 (some go19) := (by rw [hw]; exact HP26.2); have hp_ : Kd.R (Kd.int .i64) 3 w27 w.heap.size (fun k_ => some k_ ≠ (.slice (some ⟨go17, 0, none⟩) x5_1.length co17 : Value).ownBlock) (.slice (some ⟨go19, 0, none⟩) x6_1.length co19) y116 := (by rw [hw, Ny116.out]; exact HP26.1); clear HP26; have n0_ := Aside0.mk (Kd.R_after (v := (.slice (some ⟨go19, 0, none⟩) x6_1.length co19)) (v1 := (.slice (some ⟨go19, 0, none⟩) x6_1.length co19)) (ok := (fun _ => True)) (by (with_reducible repeat (first | apply Kd.R_alloc | apply Kd.R_drewN | apply Kd.R_drew)); exact Kd.R_mono HO_5.out (fun _ hk => ⟨trivial, hk⟩)) hg (.inl rfl)); have n1_ := Aside0.mk (hp_); have n2_ := Aside0.mk (Kd.R_over' (v := (.slice (some ⟨go19, 0, none⟩) x6_1.length co19)) (by (with_reducible repeat (first | apply Kd.R_alloc | apply Kd.R_drewN | apply Kd.R_drew)); exact HO_7.out) (Kd.R_typed HO_6.out) (by decide) hg); have n3_ := Aside0.mk (blk_grown (g := gb114) (o := .cells #[.int .i64 ((rd_T37 l0 x23_1).f0), .int .i64 ((rd_T37 l0 x23_1).f1), .int .i64 ((rd_T37 l0 x23_1).f2)] 37 (0, 0)) (by (with_reducible repeat (first | refine blk_drewN ?_ _ | refine blk_drew ?_ | refine blk_alloc ?_ _)); exact BK114.out) hg (Kd.R_ne HO_6.out BK114.out (by decide))); have n4_ := Aside0.mk ((by rw [hw]; exact below_set (HB.out) GB19.out : Below w.heap.size w w27)); clear HO_5; clear HO_6; clear HO_7; clear BK114; clear HB; have HO_5 := n0_; have HO_6 := n1_; have HO_7 := n2_; have BK114 := n3_; have HB := n4_; clear n0_ n1_ n2_ n3_ n4_; clear hg hw hp_; obtain ⟨Ao28, co28, eo28⟩ := Kd.R_slice HO_7.out; subst eo28))
   (try simp only [Act.put, setIfInBounds_toArray,set_cons_zero,set_cons_succ])
   go_cut [] (fun wc => ∃ (kq : Nat) (x6_19 : List Int), Aside0 (nest_scan.j1 kq y115 x6_19 x7_1 x23_1 l0 (l0.length : Int) x23_1 ((rd_T37 l0 x23_1).f0) ((rd_T37 l0 x23_1).f1) ((rd_T37 l0 x23_1).f2) = some (r1, r2, r3)) ∧ Aside0 (kq ≤ k1) ∧ Aside0 (Kd.R (Kd.int .i64) 3 wc w.heap.size (fun k_ => some k_ ≠ ((.slice (some ⟨go19, 0, none⟩) x6_1.length co19) : Value).ownBlock) (.slice (some ⟨go17, 0, none⟩) x5_1.length co17) y115) ∧ Aside0 (Kd.R (Kd.int .i64) 3 wc w.heap.size (fun k_ => some k_ ≠ ((.slice (some ⟨go17, 0, none⟩) x5_1.length co17) : Value).ownBlock) (.slice (some ⟨go19, 0, none⟩) x6_1.length co19) x6_19) ∧ Aside0 (Kd.R k64 64 wc w.heap.size (fun _ => True) (.slice Ao28 x7_1.length co28) x7_1) ∧ Aside0 (wc.heap[gb114]? = some (.cells #[.int .i64 ((rd_T37 l0 x23_1).f0), .int .i64 ((rd_T37 l0 x23_1).f1), .int .i64 ((rd_T37 l0 x23_1).f2)] 37 (0, 0))) ∧ Aside0 (Below w.heap.size w wc))
   case first =>
    have H := HC20.out
    clear HC20
    by_cases c29 : (x7_1.length : Int) > 0
    rotate_left
    ·rw [if_neg c29] at H
     have c29b0 : decide (0 < (x7_1.length : Int)) = false := decide_eq_false c29
     have c29b1 : decide (0 < x7_1.length) = false := decide_eq_false (by omega)
     clear c29
     (first | rw [c29b0] | (simp only [i64_w, i32_w]; rw [c29b0]) | rw [c29b1] | skip)
     have H' := Aside0.mk H
     clear H
     go_wp2_with (first | (with_reducible refine wp_label ?_) | ((with_reducible refine wp_scope_plain ?hgs_ ?_); (case hgs_ => exact fun _ _ _ h => h)))
     go_meet
     case rel => exact ⟨_, (y116), H', ⟨by have := HK1.out; first | omega | exact Nat.le_refl _⟩, ⟨by (with_reducible repeat (first | apply Kd.R_alloc | apply Kd.R_drewN | apply Kd.R_drew)); exact Kd.R_mono HO_5.out (fun _ hk => hk.2)⟩, ⟨by (with_reducible repeat (first | apply Kd.R_alloc | apply Kd.R_drewN | apply Kd.R_drew)); exact HO_6.out⟩, ⟨by (with_reducible repeat (first | apply Kd.R_alloc | apply Kd.R_drewN | apply Kd.R_drew)); exact HO_7.out⟩, ⟨by (with_reducible repeat (first | refine blk_drewN ?_ _ | refine blk_drew ?_ | refine blk_alloc ?_ _)); exact BK114.out⟩, ⟨by repeat (first | (with_reducible first | exact HB.out | apply below_alloc | apply pw_below_drewN | apply below_drew1 | refine below_set ?_ GE114.out) | exact HB.out | exact Below.refl _ _)⟩⟩
    rw [if_pos c29] at H
    have c29b0 : decide (0 < (x7_1.length : Int)) = true := decide_eq_true c29
    have c29b1 : decide (0 < x7_1.length) = true := decide_eq_true (by omega)
    clear c29
    (first | rw [c29b0] | (simp only [i64_w, i32_w]; rw [c29b0]) | rw [c29b1] | skip)
    obtain ⟨ji30, hji30⟩ : ∃ j_ : Int, (wrap64 ((x7_1.length : Int) - 1)) = j_ := ⟨_, rfl⟩
    replace H : (if 0 ≤ (ji30) then (if (ji30) < (x7_1.length : Int) then (nest_scan.j1 k1 y115 (y116.set (x23_1 : Int).toNat ((rd_T64 x7_1 (ji30)).f0)) x7_1 x23_1 l0 (l0.length : Int) x23_1 ((rd_T37 l0 x23_1).f0) ((rd_T37 l0 x23_1).f1) ((rd_T37 l0 x23_1).f2)) else (none)) else (none)) = some (r1, r2, r3) := by first | (rw [hji30] at H; exact H) | (simp only [hji30] at H ⊢; exact H)
    have hji30w : (IntKind.i64.wrap ((x7_1.length : Int) - 1)) = ji30 := (i64_w _).trans hji30
    by_cases c31 : 0 ≤ (ji30)
    rotate_left
    ·rw [if_neg c31] at H
     exact absurd H (by simp)
    rw [if_pos c31] at H
    have c31b0 : decide (0 ≤ (ji30)) = true := decide_eq_true c31
    clear c31
    by_cases c32 : (ji30) < (x7_1.length : Int)
    rotate_left
    ·rw [if_neg c32] at H
     exact absurd H (by simp)
    rw [if_pos c32] at H
    have c32b0 : decide ((ji30) < (x7_1.length : Int)) = true := decide_eq_true c32
    clear c32
    obtain ⟨y118, hy118⟩ : ∃ y_ : List Int, y_ = (y116.set (x23_1 : Int).toNat ((rd_T64 x7_1 (ji30)).f0)) := ⟨_, rfl⟩
    replace H : (nest_scan.j1 k1 y115 y118 x7_1 x23_1 l0 (l0.length : Int) x23_1 ((rd_T37 l0 x23_1).f0) ((rd_T37 l0 x23_1).f1) ((rd_T37 l0 x23_1).f2)) = some (r1, r2, r3) := by first | (rw [hy118]; with_reducible exact H) | (have H2_ := (Option.bind_some _ _).symm.trans H; rw [hy118]; with_reducible exact H2_) | (have H2_ := (Option.bind_some _ _).symm.trans H; with_reducible exact H2_) | with_reducible exact H | (rw [hy118]; exact H) | exact H
    have Ny118 := Aside0.mk hy118
    clear hy118
    have H' := Aside0.mk H
    clear H
    have p117 : 0 ≤ ((ji30) : Int) := of_decide_eq_true as_
    have q117 : (ji30) < (x7_1.length : Int) := of_decide_eq_true as_
    obtain ⟨ad117, e117, hx117_0, hx117_1, hx117_2, hx117_3⟩ := at_T64 (Kd.R_reads' HO_7.out).2.2 (ji30) p117 q117
    cases e117
    replace p117 := eq_true p117
    replace q117 := eq_true q117
    have p33 : 0 ≤ (x23_1 : Int) := of_decide_eq_true as_
    have q33 : (x23_1 : Int) < ((x6_1.length : Int) : Int) := of_decide_eq_true as_
    obtain ⟨hx33_0, hf33_0⟩ := Kd.R_celln 0 HO_6.out (x23_1 : Int) p33 q33
    replace p33 := eq_true p33
    replace q33 := eq_true q33
    have HP34 := Kd.R_putg HO_6.out (x23_1 : Int) ((rd_T64 x7_1 (ji30)).f0)
    go_wp2_with (first | (with_reducible refine wp_label ?_) | ((with_reducible refine wp_scope_plain ?hgs_ ?_); (case hgs_ => exact fun _ _ _ h => h)) | ((with_reducible refine gate_store (t := 3) (p := 46) rfl ?_); refine store_event (t := 3) (p := 46) (v := ?vo_w35) (w1 := (w27.setCell ⟨go19, (x23_1 : Int).toNat, none⟩ (.int .i64 ((rd_T64 x7_1 (ji30)).f0)))) ?hg ?ho ?hn ?hr ?_; (case ho => rfl); (case hg => rfl); (case hn => rfl); (case hr => first | (go_simp; done) | (go_simp; rfl)); intro w35 hw; have hg : w27.grownBy w35 (some go19) := (by rw [hw]; exact HP34.2); have hp_ : Kd.R (Kd.int .i64) 3 w35 w.heap.size (fun k_ => some k_ ≠ (.slice (some ⟨go17, 0, none⟩) x5_1.length co17 : Value).ownBlock) (.slice (some ⟨go19, 0, none⟩) x6_1.length co19) y118 := (by rw [hw, Ny118.out]; exact HP34.1); clear HP34; have n0_ := Aside0.mk (Kd.R_after (v := (.slice (some ⟨go19, 0, none⟩) x6_1.length co19)) (v1 := (.slice (some ⟨go19, 0, none⟩) x6_1.length co19)) (ok := (fun _ => True)) (by (with_reducible repeat (first | apply Kd.R_alloc | apply Kd.R_drewN | apply Kd.R_drew)); exact HO_5.out) hg (.inl rfl)); have n1_ := Aside0.mk (hp_); have n2_ := Aside0.mk (Kd.R_over' (v := (.slice (some ⟨go19, 0, none⟩) x6_1.length co19)) (by (with_reducible repeat (first | apply Kd.R_alloc | apply Kd.R_drewN | apply Kd.R_drew)); exact HO_7.out) (Kd.R_typed HO_6.out) (by decide) hg); have n3_ := Aside0.mk (blk_grown (g := gb114) (o := .cells #[.int .i64 ((rd_T37 l0 x23_1).f0), .int .i64 ((rd_T37 l0 x23_1).f1), .int .i64 ((rd_T37 l0 x23_1).f2)] 37 (0, 0)) (by (with_reducible repeat (first | refine blk_drewN ?_ _ | refine blk_drew ?_ | refine blk_alloc ?_ _)); exact BK114.out) hg (Kd.R_ne HO_6.out BK114.out (by decide))); have n4_ := Aside0.mk ((by rw [hw]; exact below_set (HB.out) GB19.out : Below w.heap.size w w35)); clear HO_5; clear HO_6; clear HO_7; clear BK114; clear HB; have HO_5 := n0_; have HO_6 := n1_; have HO_7 := n2_; have BK114 := n3_; have HB := n4_; clear n0_ n1_ n2_ n3_ n4_; clear hg hw hp_))
    go_meet
    case rel => exact ⟨_, (y118), H', ⟨by have := HK1.out; first | omega | exact Nat.le_refl _⟩, ⟨by (with_reducible repeat (first | apply Kd.R_alloc | apply Kd.R_drewN | apply Kd.R_drew)); exact Kd.R_mono HO_5.out (fun _ hk => hk.2)⟩, ⟨by (with_reducible repeat (first | apply Kd.R_alloc | apply Kd.R_drewN | apply Kd.R_drew)); exact HO_6.out⟩, ⟨by (with_reducible repeat (first | apply Kd.R_alloc | apply Kd.R_drewN | apply Kd.R_drew)); exact HO_7.out⟩, ⟨by (with_reducible repeat (first | refine blk_drewN ?_ _ | refine blk_drew ?_ | refine blk_alloc ?_ _)); exact BK114.out⟩, ⟨by repeat (first | (with_reducible first | exact HB.out | apply below_alloc | apply pw_below_drewN | apply below_drew1 | refine below_set ?_ GE114.out) | exact HB.out | exact Below.refl _ _)⟩⟩
   case rest =>
    clear HC20
    try clear c1
    try clear p1
    try clear q1
    try clear hx1
    try clear hf1
    try clear c2
    try clear p2
    try clear c3
    try clear p3
    try clear q3
    try clear hx3
    try clear hf3
    try clear c4
    try clear c4b0
    try clear c4b1
    try clear c5
    try clear c5b0
    try clear c5b1
    try clear p6
    try clear p11
    try clear q11
    try clear hx11
    try clear c13
    try clear c13b0
    try clear c14
    try clear c14b0
    try clear c15
    try clear c15b0
    try clear c16
    try clear c16b0
    try clear p17
    try clear q17
    try clear hx17
    try clear hf17
    try clear c18
    try clear c18b0
    try clear p19
    try clear q19
    try clear hx19
    try clear hf19
    try clear c26
    try clear c29
    try clear c29b0
    try clear c29b1
    try clear c31
    try clear c31b0
    try clear c32
    try clear c32b0
    try clear p33
    try clear q33
    try clear hx33
    try clear hf33
    try clear hcz22_0
    try clear hcz22_1
    try clear hcz22_2
    try clear hfz22_0
    try clear hfz22_1
    try clear hfz22_2
    try clear hx113_0
    try clear hx113_1
    try clear hx113_2
    try clear hx117_0
    try clear hx117_1
    try clear hx117_2
    try clear hx117_3
    try clear hx17_0
    try clear hx19_0
    try clear hx33_0
    try clear p113
    try clear p117
    try clear p17
    try clear p19
    try clear p2
    try clear p33
    try clear q113
    try clear q117
    try clear q17
    try clear q19
    try clear q33
    obtain ⟨kq, x6_19, HA, HJ19, HO_5, HO_6, HO_7, BK114, HB⟩ := hcut
    have hl5_19 := (Kd.R_reads' HO_5.out).1
    rw [hl5_19] at HO_5
    (try simp only [hl5_19])
    (try simp only [hl5_19] at BK114)
    (try simp only [hl5_19] at HO_6)
    (try simp only [hl5_19] at HO_7)
    have hl6_19 := (Kd.R_reads' HO_6.out).1
    rw [hl6_19] at HO_6
    (try simp only [hl6_19])
    (try simp only [hl6_19] at BK114)
    (try simp only [hl6_19] at HO_5)
    (try simp only [hl6_19] at HO_7)
    cases kq with
    | zero => exact absurd HA.out (by simp [nest_scan.j1])
    | succ kj19 =>
     have H := HA.out
     clear HA
     simp only [nest_scan.j1] at H
     replace H := Option.bind_eq_some_iff.mp H
     obtain ⟨⟨t119, t120, t121, t122⟩, A360, H⟩ := H
     replace H : (if t122 = true then (if x7_1.length < 4398046511104 then (nest_scan.l0 kj19 y115 x6_19 (x7_1 ++ [(⟨x23_1, (⟨t119, t120, t121⟩ : S37)⟩ : S64)]) l0 (l0.length : Int) (wrap64 (x23_1 + 1))) else (none)) else (if ((rd_T37 l0 x23_1).f0) = 22 then (nest_scan.j2 kj19 y115 x6_19 x7_1 x23_1 l0 (l0.length : Int) x23_1 false ((rd_T37 l0 x23_1).f0) ((rd_T37 l0 x23_1).f1) ((rd_T37 l0 x23_1).f2)) else (nest_scan.j2 kj19 y115 x6_19 x7_1 x23_1 l0 (l0.length : Int) x23_1 (((rd_T37 l0 x23_1).f0) != 24) ((rd_T37 l0 x23_1).f0) ((rd_T37 l0 x23_1).f1) ((rd_T37 l0 x23_1).f2)))) = some (r1, r2, r3) := H
     have A36 := Aside0.mk A360
     clear A360
     by_cases c37 : t122 = true
     ·subst c37
      have H1 : (if x7_1.length < 4398046511104 then (nest_scan.l0 kj19 y115 x6_19 (x7_1 ++ [(⟨x23_1, (⟨t119, t120, t121⟩ : S37)⟩ : S64)]) l0 (l0.length : Int) (wrap64 (x23_1 + 1))) else (none)) = some (r1, r2, r3) := by rw [if_pos rfl] at H; exact H
      clear H
      have H := H1
      clear H1
      by_cases c38 : x7_1.length < 4398046511104
      rotate_left
      ·rw [if_neg c38] at H
       exact absurd H (by simp)
      rw [if_pos c38] at H
      have LMc38 := Aside0.mk c38
      clear c38
      obtain ⟨y124, hy124⟩ : ∃ y_ : List (S64), y_ = (x7_1 ++ [(⟨x23_1, (⟨t119, t120, t121⟩ : S37)⟩ : S64)]) := ⟨_, rfl⟩
      replace H : (nest_scan.l0 kj19 y115 x6_19 y124 l0 (l0.length : Int) (wrap64 (x23_1 + 1))) = some (r1, r2, r3) := by first | (rw [hy124]; with_reducible exact H) | (have H2_ := (Option.bind_some _ _).symm.trans H; rw [hy124]; with_reducible exact H2_) | (have H2_ := (Option.bind_some _ _).symm.trans H; with_reducible exact H2_) | with_reducible exact H | (rw [hy124]; exact H) | exact H
      have Ny124 := Aside0.mk hy124
      clear hy124
      have H' := Aside0.mk H
      clear H
      have hcz39_0 : wc.cell? ⟨gb114, 0, none⟩ = some (.int .i64 ((rd_T37 l0 x23_1).f0)) := (blk_cell BK114.out 0).trans rfl
      have hcz39_1 : wc.cell? ⟨gb114, 1, none⟩ = some (.int .i64 ((rd_T37 l0 x23_1).f1)) := (blk_cell BK114.out 1).trans rfl
      have hcz39_2 : wc.cell? ⟨gb114, 2, none⟩ = some (.int .i64 ((rd_T37 l0 x23_1).f2)) := (blk_cell BK114.out 2).trans rfl
      have hfz39_0 := blk_frozen BK114.out 0
      have hfz39_1 := blk_frozen BK114.out 1
      have hfz39_2 := blk_frozen BK114.out 2
      go_wp2_with (first | (with_reducible refine wp_label ?_) | ((with_reducible refine wp_scope_plain ?hgs_ ?_); (case hgs_ => exact fun _ _ _ h => h)) | ((with_reducible refine gate_callee (f := 38) rfl ?_); refine goesL_ (some 49) rfl rfl Try.func38 (by kernel_rfl) rfl #[.agg #[.int .i64 ((rd_T37 l0 x23_1).f0), .int .i64 ((rd_T37 l0 x23_1).f1), .int .i64 ((rd_T37 l0 x23_1).f2)]] rfl am_ ?_; (with_reducible refine (nest_opening.calls ((rd_T37 l0 x23_1).f0) ((rd_T37 l0 x23_1).f1) ((rd_T37 l0 x23_1).f2) t119 t120 t121 true _ A36.out).mono ?_); rintro e w40 ⟨rfl, hb⟩; refine ⟨_, rfl, ?_⟩; have n0_ := Aside0.mk (Kd.R_below (by (with_reducible repeat (first | apply Kd.R_alloc | apply Kd.R_drewN | apply Kd.R_drew)); exact HO_5.out) hb); have n1_ := Aside0.mk (Kd.R_below (by (with_reducible repeat (first | apply Kd.R_alloc | apply Kd.R_drewN | apply Kd.R_drew)); exact HO_6.out) hb); have n2_ := Aside0.mk (Kd.R_below (by (with_reducible repeat (first | apply Kd.R_alloc | apply Kd.R_drewN | apply Kd.R_drew)); exact HO_7.out) hb); have n3_ := Aside0.mk (blk_below (g := gb114) (o := .cells #[.int .i64 ((rd_T37 l0 x23_1).f0), .int .i64 ((rd_T37 l0 x23_1).f1), .int .i64 ((rd_T37 l0 x23_1).f2)] 37 (0, 0)) (by (with_reducible repeat (first | refine blk_drewN ?_ _ | refine blk_drew ?_ | refine blk_alloc ?_ _)); exact BK114.out) hb); have n4_ := Aside0.mk (below_step (by repeat (first | (with_reducible first | exact HB.out | apply below_alloc | apply pw_below_drewN | apply below_drew1 | refine below_set ?_ GE114.out) | exact HB.out)) hb); clear HO_5; clear HO_6; clear HO_7; clear BK114; clear HB; have HO_5 := n0_; have HO_6 := n1_; have HO_7 := n2_; have BK114 := n3_; have HB := n4_; clear n0_ n1_ n2_ n3_ n4_; (try clear hb); (try clear hb2); (try clear hk); (try clear hi)) | ((with_reducible refine gate_dst (N := 10) rfl ?_); (try (refine gate_guard (by rfl) ?_; dsimp only)); refine box_event ?hg (N := 10) ?hd (cs := #[.int .i64 0, .int .i64 0, .int .i64 0]) (t := 37) ?hr ?_; (case hd => rfl); (case hg => rfl); (case hr => first | (go_simp; done) | (go_simp; rfl)); intro gb123 hg w41 hbox hb; have n0_ := Aside0.mk (Kd.R_below (by (with_reducible repeat (first | apply Kd.R_alloc | apply Kd.R_drewN | apply Kd.R_drew)); exact HO_5.out) hb); have n1_ := Aside0.mk (Kd.R_below (by (with_reducible repeat (first | apply Kd.R_alloc | apply Kd.R_drewN | apply Kd.R_drew)); exact HO_6.out) hb); have n2_ := Aside0.mk (Kd.R_below (by (with_reducible repeat (first | apply Kd.R_alloc | apply Kd.R_drewN | apply Kd.R_drew)); exact HO_7.out) hb); have n3_ := Aside0.mk (blk_below (g := gb114) (o := .cells #[.int .i64 ((rd_T37 l0 x23_1).f0), .int .i64 ((rd_T37 l0 x23_1).f1), .int .i64 ((rd_T37 l0 x23_1).f2)] 37 (0, 0)) (by (with_reducible repeat (first | refine blk_drewN ?_ _ | refine blk_drew ?_ | refine blk_alloc ?_ _)); exact BK114.out) hb); have n4_ := Aside0.mk (below_step (by repeat (first | (with_reducible first | exact HB.out | apply below_alloc | apply pw_below_drewN | apply below_drew1 | refine below_set ?_ GE114.out) | exact HB.out)) hb); have n5_ := Aside0.mk (hbox); have n6_ := Aside0.mk ((by rw [hg]; exact (below_size (by repeat (first | (with_reducible first | exact HB.out | apply below_alloc | apply pw_below_drewN | apply below_drew1 | refine below_set ?_ GE114.out) | exact HB.out))) : w.heap.size ≤ gb123)); have n7_ := Aside0.mk ((by rw [hg]; exact (below_size (by repeat (first | (with_reducible first | exact HB.out | apply below_alloc | apply pw_below_drewN | apply below_drew1 | refine below_set ?_ GE114.out) | exact HB.out))) : w.heap.size ≤ gb123)); have n8_ := Aside0.mk ((by rw [hg]; exact Nat.ne_of_lt (blk_lt (g := gb114) (o := .cells #[.int .i64 ((rd_T37 l0 x23_1).f0), .int .i64 ((rd_T37 l0 x23_1).f1), .int .i64 ((rd_T37 l0 x23_1).f2)] 37 (0, 0)) (by (with_reducible repeat (first | refine blk_drewN ?_ _ | refine blk_drew ?_ | refine blk_alloc ?_ _)); exact BK114.out)) : gb114 ≠ gb123)); have n9_ := Aside0.mk ((by rw [hg]; exact Nat.ne_of_gt (blk_lt (g := gb114) (o := .cells #[.int .i64 ((rd_T37 l0 x23_1).f0), .int .i64 ((rd_T37 l0 x23_1).f1), .int .i64 ((rd_T37 l0 x23_1).f2)] 37 (0, 0)) (by (with_reducible repeat (first | refine blk_drewN ?_ _ | refine blk_drew ?_ | refine blk_alloc ?_ _)); exact BK114.out)) : gb123 ≠ gb114)); clear HO_5; clear HO_6; clear HO_7; clear BK114; clear HB; have HO_5 := n0_; have HO_6 := n1_; have HO_7 := n2_; have BK114 := n3_; have HB := n4_; have BK123 := n5_; have GW123 := n6_; have GE123 := n7_; have NB114_123 := n8_; have NB123_114 := n9_; clear n0_ n1_ n2_ n3_ n4_ n5_ n6_ n7_ n8_ n9_; clear hb hbox hg; have hnb42 := NB123_114.out; have hnc42 := NB114_123.out; have hcz43_0 : w41.cell? ⟨gb123, 0, none⟩ = some (.int .i64 0) := (blk_cell BK123.out 0).trans rfl; have hcz43_1 : w41.cell? ⟨gb123, 1, none⟩ = some (.int .i64 0) := (blk_cell BK123.out 1).trans rfl; have hcz43_2 : w41.cell? ⟨gb123, 2, none⟩ = some (.int .i64 0) := (blk_cell BK123.out 2).trans rfl; have hfz43_0 := blk_frozen BK123.out 0; have hfz43_1 := blk_frozen BK123.out 1; have hfz43_2 := blk_frozen BK123.out 2) | ((with_reducible refine gate_builtin (b := .append) (xs := #[.tmp 53, .tmp 57]) rfl ?_); (try (refine gate_guard (by rfl) ?_; dsimp only)); at_builtin; refine Kd.R_append k64 (w0 := w) w.heap.size rfl (.tmp 53) (.tmp 57) 62 64 (.agg #[(.int .i64 0), (.int .i64 0), (.int .i64 0), (.int .i64 0)]) 32 rfl Try.underlying62 info64 rfl (by decide) (by omega) (.slice Ao28 x7_1.length co28) x7_1 (⟨x23_1, (⟨t119, t120, t121⟩ : S37)⟩ : S64) [.int .i64 x23_1, .int .i64 t119, .int .i64 t120, .int .i64 t121] (fun _ => True) (fun _ => False) rfl (by first | (go_simp; done) | (go_simp; rfl)) ?aP (fun _ hk => hk.elim) ?aF ?aO ?aB ?aS ?aL ?_; (case aP => exact k64_mkM _ _ _ (⟨x23_1, (⟨t119, t120, t121⟩ : S37)⟩ : S64)); (case aB => exact (by repeat (first | (with_reducible first | exact HB.out | apply below_alloc | apply pw_below_drewN | apply below_drew1 | refine below_set ?_ GE114.out | refine below_set ?_ GE123.out) | exact HB.out))); (case aF => exact (fun _ _ => trivial)); (case aO => exact (by (with_reducible repeat (first | apply Kd.R_alloc | apply Kd.R_drewN | apply Kd.R_drew)); exact Kd.R_mono (Kd.R_far (p := ⟨gb123, 2, none⟩) (Kd.R_far (p := ⟨gb123, 1, none⟩) (Kd.R_far (p := ⟨gb123, 0, none⟩) (Kd.R_types HO_7.out BK123.out (by decide)) (fun _ hk => hk.2) (.int .i64 t119)) (fun _ hk => hk.2) (.int .i64 t120)) (fun _ hk => hk.2) (.int .i64 t121)) (fun _ hk => trivial))); (case aS => exact (below_size (by repeat (first | (with_reducible first | exact HB.out | apply below_alloc | apply pw_below_drewN | apply below_drew1 | refine below_set ?_ GE114.out | refine below_set ?_ GE123.out) | exact HB.out)))); (case aL => have := LMc38.out; omega); intro v125 w44 ho hb hg hat; rw [← Ny124.out] at ho; have n0_ := Aside0.mk (Kd.R_over' (by (with_reducible repeat (first | apply Kd.R_alloc | apply Kd.R_drewN | apply Kd.R_drew)); exact (Kd.R_mono (Kd.R_far (p := ⟨gb123, 2, none⟩) (Kd.R_far (p := ⟨gb123, 1, none⟩) (Kd.R_far (p := ⟨gb123, 0, none⟩) (Kd.R_types HO_5.out BK123.out (by decide)) (fun _ hk => hk.2) (.int .i64 t119)) (fun _ hk => hk.2) (.int .i64 t120)) (fun _ hk => hk.2) (.int .i64 t121)) (fun _ h_ => h_.1))) (Kd.R_typed (by (with_reducible repeat (first | apply Kd.R_alloc | apply Kd.R_drewN | apply Kd.R_drew)); exact (Kd.R_mono (Kd.R_far (p := ⟨gb123, 2, none⟩) (Kd.R_far (p := ⟨gb123, 1, none⟩) (Kd.R_far (p := ⟨gb123, 0, none⟩) (Kd.R_types HO_7.out BK123.out (by decide)) (fun _ hk => hk.2) (.int .i64 t119)) (fun _ hk => hk.2) (.int .i64 t120)) (fun _ hk => hk.2) (.int .i64 t121)) (fun _ h_ => h_.1)))) (by decide) hg); have n1_ := Aside0.mk (Kd.R_over' (by (with_reducible repeat (first | apply Kd.R_alloc | apply Kd.R_drewN | apply Kd.R_drew)); exact (Kd.R_mono (Kd.R_far (p := ⟨gb123, 2, none⟩) (Kd.R_far (p := ⟨gb123, 1, none⟩) (Kd.R_far (p := ⟨gb123, 0, none⟩) (Kd.R_types HO_6.out BK123.out (by decide)) (fun _ hk => hk.2) (.int .i64 t119)) (fun _ hk => hk.2) (.int .i64 t120)) (fun _ hk => hk.2) (.int .i64 t121)) (fun _ h_ => h_.1))) (Kd.R_typed (by (with_reducible repeat (first | apply Kd.R_alloc | apply Kd.R_drewN | apply Kd.R_drew)); exact (Kd.R_mono (Kd.R_far (p := ⟨gb123, 2, none⟩) (Kd.R_far (p := ⟨gb123, 1, none⟩) (Kd.R_far (p := ⟨gb123, 0, none⟩) (Kd.R_types HO_7.out BK123.out (by decide)) (fun _ hk => hk.2) (.int .i64 t119)) (fun _ hk => hk.2) (.int .i64 t120)) (fun _ hk => hk.2) (.int .i64 t121)) (fun _ h_ => h_.1)))) (by decide) hg); have n2_ := Aside0.mk (blk_grown (g := gb114) (o := .cells #[.int .i64 ((rd_T37 l0 x23_1).f0), .int .i64 ((rd_T37 l0 x23_1).f1), .int .i64 ((rd_T37 l0 x23_1).f2)] 37 (0, 0)) (by (with_reducible repeat (first | refine blk_drewN ?_ _ | refine blk_drew ?_ | refine blk_alloc ?_ _)); refine blk_far ?_ NB114_123.out _; (with_reducible repeat (first | refine blk_drewN ?_ _ | refine blk_drew ?_ | refine blk_alloc ?_ _)); refine blk_far ?_ NB114_123.out _; (with_reducible repeat (first | refine blk_drewN ?_ _ | refine blk_drew ?_ | refine blk_alloc ?_ _)); refine blk_far ?_ NB114_123.out _; (with_reducible repeat (first | refine blk_drewN ?_ _ | refine blk_drew ?_ | refine blk_alloc ?_ _)); exact BK114.out) hg (Kd.R_ne HO_7.out BK114.out (by decide))); have n3_ := Aside0.mk (blk_grown (g := gb123) (o := .cells #[.int .i64 t119, .int .i64 t120, .int .i64 t121] 37 (0, 0)) (by (with_reducible repeat (first | refine blk_drewN ?_ _ | refine blk_drew ?_ | refine blk_alloc ?_ _)); refine blk_put (cs := #[.int .i64 t119, .int .i64 t120, .int .i64 0]) ?_ 2 _ rfl; (with_reducible repeat (first | refine blk_drewN ?_ _ | refine blk_drew ?_ | refine blk_alloc ?_ _)); refine blk_put (cs := #[.int .i64 t119, .int .i64 0, .int .i64 0]) ?_ 1 _ rfl; (with_reducible repeat (first | refine blk_drewN ?_ _ | refine blk_drew ?_ | refine blk_alloc ?_ _)); refine blk_put (cs := #[.int .i64 0, .int .i64 0, .int .i64 0]) ?_ 0 _ rfl; (with_reducible repeat (first | refine blk_drewN ?_ _ | refine blk_drew ?_ | refine blk_alloc ?_ _)); exact BK123.out) hg (Kd.R_ne HO_7.out BK123.out (by decide))); have n4_ := Aside0.mk (hb); have n5_ := Aside0.mk (ho); clear HO_5; clear HO_6; clear BK114; clear BK123; clear HB; clear HO_7; have HO_5 := n0_; have HO_6 := n1_; have BK114 := n2_; have BK123 := n3_; have HB := n4_; have HO126 := n5_; clear n0_ n1_ n2_ n3_ n4_ n5_; clear ho hb hg hat))
      (try simp only [← hl5_19, ← hl6_19])
      go_roundg kj19
      case measure => have := HK1.out; have := HJ19.out; omega
      case rel => exact ⟨(y115), (x6_19), (y124), (wrap64 (x23_1 + 1)), (by first | rfl | (simp; done) | (simp [*]; done)), H', ⟨by have := HK1.out; have := HJ19.out; omega⟩, ⟨by (try simp only [hl5_19]); (try simp only [hl6_19]); (with_reducible repeat (first | apply Kd.R_alloc | apply Kd.R_drewN | apply Kd.R_drew)); exact HO_5.out⟩, ⟨by (try simp only [hl5_19]); (try simp only [hl6_19]); (with_reducible repeat (first | apply Kd.R_alloc | apply Kd.R_drewN | apply Kd.R_drew)); exact HO_6.out⟩, ⟨by (try simp only [hl5_19]); (try simp only [hl6_19]); (with_reducible repeat (first | apply Kd.R_alloc | apply Kd.R_drewN | apply Kd.R_drew)); exact HO126.out⟩, ⟨by repeat (first | (with_reducible first | exact HB.out | apply below_alloc | apply pw_below_drewN | apply below_drew1 | refine below_set ?_ GE114.out | refine below_set ?_ GE123.out) | exact HB.out | exact Below.refl _ _)⟩⟩
     replace c37 := Bool.eq_false_iff.mpr c37
     subst c37
     have H1 : (if ((rd_T37 l0 x23_1).f0) = 22 then (nest_scan.j2 kj19 y115 x6_19 x7_1 x23_1 l0 (l0.length : Int) x23_1 false ((rd_T37 l0 x23_1).f0) ((rd_T37 l0 x23_1).f1) ((rd_T37 l0 x23_1).f2)) else (nest_scan.j2 kj19 y115 x6_19 x7_1 x23_1 l0 (l0.length : Int) x23_1 (((rd_T37 l0 x23_1).f0) != 24) ((rd_T37 l0 x23_1).f0) ((rd_T37 l0 x23_1).f1) ((rd_T37 l0 x23_1).f2))) = some (r1, r2, r3) := by rw [if_neg (show ¬ (false = true) by decide)] at H; exact H
     clear H
     have H := H1
     clear H1
     have HC45 := Aside0.mk H
     clear H
     have hcz46_0 : wc.cell? ⟨gb114, 0, none⟩ = some (.int .i64 ((rd_T37 l0 x23_1).f0)) := (blk_cell BK114.out 0).trans rfl
     have hcz46_1 : wc.cell? ⟨gb114, 1, none⟩ = some (.int .i64 ((rd_T37 l0 x23_1).f1)) := (blk_cell BK114.out 1).trans rfl
     have hcz46_2 : wc.cell? ⟨gb114, 2, none⟩ = some (.int .i64 ((rd_T37 l0 x23_1).f2)) := (blk_cell BK114.out 2).trans rfl
     have hfz46_0 := blk_frozen BK114.out 0
     have hfz46_1 := blk_frozen BK114.out 1
     have hfz46_2 := blk_frozen BK114.out 2
     go_upto_region 14 with (first | (with_reducible refine wp_label ?_) | ((with_reducible refine wp_scope_plain ?hgs_ ?_); (case hgs_ => exact fun _ _ _ h => h)) | ((with_reducible refine gate_callee (f := 38) rfl ?_); refine goesL_ (some 49) rfl rfl Try.func38 (by kernel_rfl) rfl #[.agg #[.int .i64 ((rd_T37 l0 x23_1).f0), .int .i64 ((rd_T37 l0 x23_1).f1), .int .i64 ((rd_T37 l0 x23_1).f2)]] rfl am_ ?_; (with_reducible refine (nest_opening.calls ((rd_T37 l0 x23_1).f0) ((rd_T37 l0 x23_1).f1) ((rd_T37 l0 x23_1).f2) t119 t120 t121 false _ A36.out).mono ?_); rintro e w47 ⟨rfl, hb⟩; refine ⟨_, rfl, ?_⟩; have n0_ := Aside0.mk (Kd.R_below (by (with_reducible repeat (first | apply Kd.R_alloc | apply Kd.R_drewN | apply Kd.R_drew)); exact HO_5.out) hb); have n1_ := Aside0.mk (Kd.R_below (by (with_reducible repeat (first | apply Kd.R_alloc | apply Kd.R_drewN | apply Kd.R_drew)); exact HO_6.out) hb); have n2_ := Aside0.mk (Kd.R_below (by (with_reducible repeat (first | apply Kd.R_alloc | apply Kd.R_drewN | apply Kd.R_drew)); exact HO_7.out) hb); have n3_ := Aside0.mk (blk_below (g := gb114) (o := .cells #[.int .i64 ((rd_T37 l0 x23_1).f0), .int .i64 ((rd_T37 l0 x23_1).f1), .int .i64 ((rd_T37 l0 x23_1).f2)] 37 (0, 0)) (by (with_reducible repeat (first | refine blk_drewN ?_ _ | refine blk_drew ?_ | refine blk_alloc ?_ _)); exact BK114.out) hb); have n4_ := Aside0.mk (below_step (by repeat (first | (with_reducible first | exact HB.out | apply below_alloc | apply pw_below_drewN | apply below_drew1 | refine below_set ?_ GE114.out) | exact HB.out)) hb); clear HO_5; clear HO_6; clear HO_7; clear BK114; clear HB; have HO_5 := n0_; have HO_6 := n1_; have HO_7 := n2_; have BK114 := n3_; have HB := n4_; clear n0_ n1_ n2_ n3_ n4_; (try clear hb); (try clear hb2); (try clear hk); (try clear hi)) | ((with_reducible refine gate_dst (N := 10) rfl ?_); (try (refine gate_guard (by rfl) ?_; dsimp only)); refine box_event ?hg (N := 10) ?hd (cs := #[.int .i64 0, .int .i64 0, .int .i64 0]) (t := 37) ?hr ?_; (case hd => rfl); (case hg => rfl); (case hr => first | (go_simp; done) | (go_simp; rfl)); intro gb123 hg w48 hbox hb; have n0_ := Aside0.mk (Kd.R_below (by (with_reducible repeat (first | apply Kd.R_alloc | apply Kd.R_drewN | apply Kd.R_drew)); exact HO_5.out) hb); have n1_ := Aside0.mk (Kd.R_below (by (with_reducible repeat (first | apply Kd.R_alloc | apply Kd.R_drewN | apply Kd.R_drew)); exact HO_6.out) hb); have n2_ := Aside0.mk (Kd.R_below (by (with_reducible repeat (first | apply Kd.R_alloc | apply Kd.R_drewN | apply Kd.R_drew)); exact HO_7.out) hb); have n3_ := Aside0.mk (blk_below (g := gb114) (o := .cells #[.int .i64 ((rd_T37 l0 x23_1).f0), .int .i64 ((rd_T37 l0 x23_1).f1), .int .i64 ((rd_T37 l0 x23_1).f2)] 37 (0, 0)) (by (with_reducible repeat (first | refine blk_drewN ?_ _ | refine blk_drew ?_ | refine blk_alloc ?_ _)); exact BK114.out) hb); have n4_ := Aside0.mk (below_step (by repeat (first | (with_reducible first | exact HB.out | apply below_alloc | apply pw_below_drewN | apply below_drew1 | refine below_set ?_ GE114.out) | exact HB.out)) hb); have n5_ := Aside0.mk (hbox); have n6_ := Aside0.mk ((by rw [hg]; exact (below_size (by repeat (first | (with_reducible first | exact HB.out | apply below_alloc | apply pw_below_drewN | apply below_drew1 | refine below_set ?_ GE114.out) | exact HB.out))) : w.heap.size ≤ gb123)); have n7_ := Aside0.mk ((by rw [hg]; exact (below_size (by repeat (first | (with_reducible first | exact HB.out | apply below_alloc | apply pw_below_drewN | apply below_drew1 | refine below_set ?_ GE114.out) | exact HB.out))) : w.heap.size ≤ gb123)); have n8_ := Aside0.mk ((by rw [hg]; exact Nat.ne_of_lt (blk_lt (g := gb114) (o := .cells #[.int .i64 ((rd_T37 l0 x23_1).f0), .int .i64 ((rd_T37 l0 x23_1).f1), .int .i64 ((rd_T37 l0 x23_1).f2)] 37 (0, 0)) (by (with_reducible repeat (first | refine blk_drewN ?_ _ | refine blk_drew ?_ | refine blk_alloc ?_ _)); exact BK114.out)) : gb114 ≠ gb123)); have n9_ := Aside0.mk ((by rw [hg]; exact Nat.ne_of_gt (blk_lt (g := gb114) (o := .cells #[.int .i64 ((rd_T37 l0 x23_1).f0), .int .i64 ((rd_T37 l0 x23_1).f1), .int .i64 ((rd_T37 l0 x23_1).f2)] 37 (0, 0)) (by (with_reducible repeat (first | refine blk_drewN ?_ _ | refine blk_drew ?_ | refine blk_alloc ?_ _)); exact BK114.out)) : gb123 ≠ gb114)); clear HO_5; clear HO_6; clear HO_7; clear BK114; clear HB; have HO_5 := n0_; have HO_6 := n1_; have HO_7 := n2_; have BK114 := n3_; have HB := n4_; have BK123 := n5_; have GW123 := n6_; have GE123 := n7_; have NB114_123 := n8_; have NB123_114 := n9_; clear n0_ n1_ n2_ n3_ n4_ n5_ n6_ n7_ n8_ n9_; clear hb hbox hg; have hnb49 := NB123_114.out; have hnc49 := NB114_123.out; have hcz50_0 : w48.cell? ⟨gb123, 0, none⟩ = some (.int .i64 0) := (blk_cell BK123.out 0).trans rfl; have hcz50_1 : w48.cell? ⟨gb123, 1, none⟩ = some (.int .i64 0) := (blk_cell BK123.out 1).trans rfl; have hcz50_2 : w48.cell? ⟨gb123, 2, none⟩ = some (.int .i64 0) := (blk_cell BK123.out 2).trans rfl; have hfz50_0 := blk_frozen BK123.out 0; have hfz50_1 := blk_frozen BK123.out 1; have hfz50_2 := blk_frozen BK123.out 2))
     (try simp only [Act.put, setIfInBounds_toArray,set_cons_zero,set_cons_succ])
     go_cut [66] (fun v66 wc => ∃ (kq : Nat) (x66_44 : Bool), v66 = .bool x66_44 ∧ Aside0 (nest_scan.j2 kq y115 x6_19 x7_1 x23_1 l0 (l0.length : Int) x23_1 x66_44 ((rd_T37 l0 x23_1).f0) ((rd_T37 l0 x23_1).f1) ((rd_T37 l0 x23_1).f2) = some (r1, r2, r3)) ∧ Aside0 (kq ≤ kj19) ∧ Aside0 (Kd.R (Kd.int .i64) 3 wc w.heap.size (fun k_ => some k_ ≠ ((.slice (some ⟨go19, 0, none⟩) x6_19.length co19) : Value).ownBlock) (.slice (some ⟨go17, 0, none⟩) y115.length co17) y115) ∧ Aside0 (Kd.R (Kd.int .i64) 3 wc w.heap.size (fun k_ => some k_ ≠ ((.slice (some ⟨go17, 0, none⟩) y115.length co17) : Value).ownBlock) (.slice (some ⟨go19, 0, none⟩) x6_19.length co19) x6_19) ∧ Aside0 (Kd.R k64 64 wc w.heap.size (fun _ => True) (.slice Ao28 x7_1.length co28) x7_1) ∧ Aside0 (wc.heap[gb114]? = some (.cells #[.int .i64 ((rd_T37 l0 x23_1).f0), .int .i64 ((rd_T37 l0 x23_1).f1), .int .i64 ((rd_T37 l0 x23_1).f2)] 37 (0, 0))) ∧ Aside0 (wc.heap[gb123]? = some (.cells #[.int .i64 t119, .int .i64 t120, .int .i64 t121] 37 (0, 0))) ∧ Aside0 (Below w.heap.size w wc))
     case first =>
      have H := HC45.out
      clear HC45
      by_cases c51 : ((rd_T37 l0 x23_1).f0) = 22
      ·rw [if_pos c51] at H
       have c51b0 : (((rd_T37 l0 x23_1).f0) == 22) = true := beq_iff_eq.mpr c51
       have c51b1 : (((rd_T37 l0 x23_1).f0) != 22) = false := bne_eq_false_iff_eq.mpr c51
       clear c51
       (first | rw [c51b0] | (simp only [i64_w, i32_w]; rw [c51b0]) | rw [c51b1] | skip)
       have H' := Aside0.mk H
       clear H
       have hnb52 := NB114_123.out
       have hnc52 := NB123_114.out
       have hcz53_0 : w48.cell? ⟨gb114, 0, none⟩ = some (.int .i64 ((rd_T37 l0 x23_1).f0)) := (blk_cell BK114.out 0).trans rfl
       have hcz53_1 : w48.cell? ⟨gb114, 1, none⟩ = some (.int .i64 ((rd_T37 l0 x23_1).f1)) := (blk_cell BK114.out 1).trans rfl
       have hcz53_2 : w48.cell? ⟨gb114, 2, none⟩ = some (.int .i64 ((rd_T37 l0 x23_1).f2)) := (blk_cell BK114.out 2).trans rfl
       have hfz53_0 := blk_frozen BK114.out 0
       have hfz53_1 := blk_frozen BK114.out 1
       have hfz53_2 := blk_frozen BK114.out 2
       go_wp2_with (first | (with_reducible refine wp_label ?_) | ((with_reducible refine wp_scope_plain ?hgs_ ?_); (case hgs_ => exact fun _ _ _ h => h)))
       go_meet
       case rel => exact ⟨_, (false), (by first | rfl | (simp; done) | (simp [*]; done)), H', ⟨by have := HK1.out; have := HJ19.out; first | omega | exact Nat.le_refl _⟩, ⟨by (try simp only [hl5_19]); (try simp only [hl6_19]); (with_reducible repeat (first | apply Kd.R_alloc | apply Kd.R_drewN | apply Kd.R_drew)); exact Kd.R_mono (Kd.R_far (p := ⟨gb123, 2, none⟩) (Kd.R_far (p := ⟨gb123, 1, none⟩) (Kd.R_far (p := ⟨gb123, 0, none⟩) (Kd.R_types HO_5.out BK123.out (by decide)) (fun _ hk => hk.2) (.int .i64 t119)) (fun _ hk => hk.2) (.int .i64 t120)) (fun _ hk => hk.2) (.int .i64 t121)) (fun _ hk => hk.1)⟩, ⟨by (try simp only [hl5_19]); (try simp only [hl6_19]); (with_reducible repeat (first | apply Kd.R_alloc | apply Kd.R_drewN | apply Kd.R_drew)); exact Kd.R_mono (Kd.R_far (p := ⟨gb123, 2, none⟩) (Kd.R_far (p := ⟨gb123, 1, none⟩) (Kd.R_far (p := ⟨gb123, 0, none⟩) (Kd.R_types HO_6.out BK123.out (by decide)) (fun _ hk => hk.2) (.int .i64 t119)) (fun _ hk => hk.2) (.int .i64 t120)) (fun _ hk => hk.2) (.int .i64 t121)) (fun _ hk => hk.1)⟩, ⟨by (try simp only [hl5_19]); (try simp only [hl6_19]); (with_reducible repeat (first | apply Kd.R_alloc | apply Kd.R_drewN | apply Kd.R_drew)); exact Kd.R_mono (Kd.R_far (p := ⟨gb123, 2, none⟩) (Kd.R_far (p := ⟨gb123, 1, none⟩) (Kd.R_far (p := ⟨gb123, 0, none⟩) (Kd.R_types HO_7.out BK123.out (by decide)) (fun _ hk => hk.2) (.int .i64 t119)) (fun _ hk => hk.2) (.int .i64 t120)) (fun _ hk => hk.2) (.int .i64 t121)) (fun _ hk => trivial)⟩, ⟨by (try simp only [hl5_19]); (try simp only [hl6_19]); (with_reducible repeat (first | refine blk_drewN ?_ _ | refine blk_drew ?_ | refine blk_alloc ?_ _)); refine blk_far ?_ NB114_123.out _; (with_reducible repeat (first | refine blk_drewN ?_ _ | refine blk_drew ?_ | refine blk_alloc ?_ _)); refine blk_far ?_ NB114_123.out _; (with_reducible repeat (first | refine blk_drewN ?_ _ | refine blk_drew ?_ | refine blk_alloc ?_ _)); refine blk_far ?_ NB114_123.out _; (with_reducible repeat (first | refine blk_drewN ?_ _ | refine blk_drew ?_ | refine blk_alloc ?_ _)); exact BK114.out⟩, ⟨by (try simp only [hl5_19]); (try simp only [hl6_19]); (with_reducible repeat (first | refine blk_drewN ?_ _ | refine blk_drew ?_ | refine blk_alloc ?_ _)); refine blk_put (cs := #[.int .i64 t119, .int .i64 t120, .int .i64 0]) ?_ 2 _ rfl; (with_reducible repeat (first | refine blk_drewN ?_ _ | refine blk_drew ?_ | refine blk_alloc ?_ _)); refine blk_put (cs := #[.int .i64 t119, .int .i64 0, .int .i64 0]) ?_ 1 _ rfl; (with_reducible repeat (first | refine blk_drewN ?_ _ | refine blk_drew ?_ | refine blk_alloc ?_ _)); refine blk_put (cs := #[.int .i64 0, .int .i64 0, .int .i64 0]) ?_ 0 _ rfl; (with_reducible repeat (first | refine blk_drewN ?_ _ | refine blk_drew ?_ | refine blk_alloc ?_ _)); exact BK123.out⟩, ⟨by repeat (first | (with_reducible first | exact HB.out | apply below_alloc | apply pw_below_drewN | apply below_drew1 | refine below_set ?_ GE114.out | refine below_set ?_ GE123.out) | exact HB.out | exact Below.refl _ _)⟩⟩
      rw [if_neg c51] at H
      have c51b0 : (((rd_T37 l0 x23_1).f0) == 22) = false := beq_eq_false_iff_ne.mpr c51
      have c51b1 : (((rd_T37 l0 x23_1).f0) != 22) = true := bne_iff_ne.mpr c51
      (first | rw [c51b0] | (simp only [i64_w, i32_w]; rw [c51b0]) | rw [c51b1] | skip)
      have H' := Aside0.mk H
      clear H
      have hnb54 := NB114_123.out
      have hnc54 := NB123_114.out
      have hcz55_0 : w48.cell? ⟨gb114, 0, none⟩ = some (.int .i64 ((rd_T37 l0 x23_1).f0)) := (blk_cell BK114.out 0).trans rfl
      have hcz55_1 : w48.cell? ⟨gb114, 1, none⟩ = some (.int .i64 ((rd_T37 l0 x23_1).f1)) := (blk_cell BK114.out 1).trans rfl
      have hcz55_2 : w48.cell? ⟨gb114, 2, none⟩ = some (.int .i64 ((rd_T37 l0 x23_1).f2)) := (blk_cell BK114.out 2).trans rfl
      have hfz55_0 := blk_frozen BK114.out 0
      have hfz55_1 := blk_frozen BK114.out 1
      have hfz55_2 := blk_frozen BK114.out 2
      go_wp2_with (first | (with_reducible refine wp_label ?_) | ((with_reducible refine wp_scope_plain ?hgs_ ?_); (case hgs_ => exact fun _ _ _ h => h)))
      go_meet
      case rel => exact ⟨_, ((((rd_T37 l0 x23_1).f0) != 24)), (by first | rfl | (simp; done) | (simp [*]; done)), H', ⟨by have := HK1.out; have := HJ19.out; first | omega | exact Nat.le_refl _⟩, ⟨by (try simp only [hl5_19]); (try simp only [hl6_19]); (with_reducible repeat (first | apply Kd.R_alloc | apply Kd.R_drewN | apply Kd.R_drew)); exact Kd.R_mono (Kd.R_far (p := ⟨gb123, 2, none⟩) (Kd.R_far (p := ⟨gb123, 1, none⟩) (Kd.R_far (p := ⟨gb123, 0, none⟩) (Kd.R_types HO_5.out BK123.out (by decide)) (fun _ hk => hk.2) (.int .i64 t119)) (fun _ hk => hk.2) (.int .i64 t120)) (fun _ hk => hk.2) (.int .i64 t121)) (fun _ hk => hk.1)⟩, ⟨by (try simp only [hl5_19]); (try simp only [hl6_19]); (with_reducible repeat (first | apply Kd.R_alloc | apply Kd.R_drewN | apply Kd.R_drew)); exact Kd.R_mono (Kd.R_far (p := ⟨gb123, 2, none⟩) (Kd.R_far (p := ⟨gb123, 1, none⟩) (Kd.R_far (p := ⟨gb123, 0, none⟩) (Kd.R_types HO_6.out BK123.out (by decide)) (fun _ hk => hk.2) (.int .i64 t119)) (fun _ hk => hk.2) (.int .i64 t120)) (fun _ hk => hk.2) (.int .i64 t121)) (fun _ hk => hk.1)⟩, ⟨by (try simp only [hl5_19]); (try simp only [hl6_19]); (with_reducible repeat (first | apply Kd.R_alloc | apply Kd.R_drewN | apply Kd.R_drew)); exact Kd.R_mono (Kd.R_far (p := ⟨gb123, 2, none⟩) (Kd.R_far (p := ⟨gb123, 1, none⟩) (Kd.R_far (p := ⟨gb123, 0, none⟩) (Kd.R_types HO_7.out BK123.out (by decide)) (fun _ hk => hk.2) (.int .i64 t119)) (fun _ hk => hk.2) (.int .i64 t120)) (fun _ hk => hk.2) (.int .i64 t121)) (fun _ hk => trivial)⟩, ⟨by (try simp only [hl5_19]); (try simp only [hl6_19]); (with_reducible repeat (first | refine blk_drewN ?_ _ | refine blk_drew ?_ | refine blk_alloc ?_ _)); refine blk_far ?_ NB114_123.out _; (with_reducible repeat (first | refine blk_drewN ?_ _ | refine blk_drew ?_ | refine blk_alloc ?_ _)); refine blk_far ?_ NB114_123.out _; (with_reducible repeat (first | refine blk_drewN ?_ _ | refine blk_drew ?_ | refine blk_alloc ?_ _)); refine blk_far ?_ NB114_123.out _; (with_reducible repeat (first | refine blk_drewN ?_ _ | refine blk_drew ?_ | refine blk_alloc ?_ _)); exact BK114.out⟩, ⟨by (try simp only [hl5_19]); (try simp only [hl6_19]); (with_reducible repeat (first | refine blk_drewN ?_ _ | refine blk_drew ?_ | refine blk_alloc ?_ _)); refine blk_put (cs := #[.int .i64 t119, .int .i64 t120, .int .i64 0]) ?_ 2 _ rfl; (with_reducible repeat (first | refine blk_drewN ?_ _ | refine blk_drew ?_ | refine blk_alloc ?_ _)); refine blk_put (cs := #[.int .i64 t119, .int .i64 0, .int .i64 0]) ?_ 1 _ rfl; (with_reducible repeat (first | refine blk_drewN ?_ _ | refine blk_drew ?_ | refine blk_alloc ?_ _)); refine blk_put (cs := #[.int .i64 0, .int .i64 0, .int .i64 0]) ?_ 0 _ rfl; (with_reducible repeat (first | refine blk_drewN ?_ _ | refine blk_drew ?_ | refine blk_alloc ?_ _)); exact BK123.out⟩, ⟨by repeat (first | (with_reducible first | exact HB.out | apply below_alloc | apply pw_below_drewN | apply below_drew1 | refine below_set ?_ GE114.out | refine below_set ?_ GE123.out) | exact HB.out | exact Below.refl _ _)⟩⟩
     case rest =>
      clear HC45
      try clear c1
      try clear p1
      try clear q1
      try clear hx1
      try clear hf1
      try clear c2
      try clear p2
      try clear c3
      try clear p3
      try clear q3
      try clear hx3
      try clear hf3
      try clear c4
      try clear c4b0
      try clear c4b1
      try clear c5
      try clear c5b0
      try clear c5b1
      try clear p6
      try clear p11
      try clear q11
      try clear hx11
      try clear c13
      try clear c13b0
      try clear c14
      try clear c14b0
      try clear c15
      try clear c15b0
      try clear c16
      try clear c16b0
      try clear p17
      try clear q17
      try clear hx17
      try clear hf17
      try clear c18
      try clear c18b0
      try clear p19
      try clear q19
      try clear hx19
      try clear hf19
      try clear c26
      try clear c29
      try clear c29b0
      try clear c29b1
      try clear c31
      try clear c31b0
      try clear c32
      try clear c32b0
      try clear p33
      try clear q33
      try clear hx33
      try clear hf33
      try clear c37
      try clear c38
      try clear c42
      try clear c49
      try clear c51
      try clear c51b0
      try clear c51b1
      try clear c52
      try clear c54
      try clear hcz22_0
      try clear hcz22_1
      try clear hcz22_2
      try clear hcz39_0
      try clear hcz39_1
      try clear hcz39_2
      try clear hcz43_0
      try clear hcz43_1
      try clear hcz43_2
      try clear hcz46_0
      try clear hcz46_1
      try clear hcz46_2
      try clear hcz50_0
      try clear hcz50_1
      try clear hcz50_2
      try clear hcz53_0
      try clear hcz53_1
      try clear hcz53_2
      try clear hcz55_0
      try clear hcz55_1
      try clear hcz55_2
      try clear hfz22_0
      try clear hfz22_1
      try clear hfz22_2
      try clear hfz39_0
      try clear hfz39_1
      try clear hfz39_2
      try clear hfz43_0
      try clear hfz43_1
      try clear hfz43_2
      try clear hfz46_0
      try clear hfz46_1
      try clear hfz46_2
      try clear hfz50_0
      try clear hfz50_1
      try clear hfz50_2
      try clear hfz53_0
      try clear hfz53_1
      try clear hfz53_2
      try clear hfz55_0
      try clear hfz55_1
      try clear hfz55_2
      try clear hx113_0
      try clear hx113_1
      try clear hx113_2
      try clear hx117_0
      try clear hx117_1
      try clear hx117_2
      try clear hx117_3
      try clear hx17_0
      try clear hx19_0
      try clear hx33_0
      try clear p1
      try clear p11
      try clear p113
      try clear p117
      try clear p17
      try clear p19
      try clear p2
      try clear p3
      try clear p33
      try clear p6
      try clear q1
      try clear q11
      try clear q113
      try clear q117
      try clear q17
      try clear q19
      try clear q3
      try clear q33
      obtain ⟨kq, x66_44, rfl, HA, HJ44, HO_5, HO_6, HO_7, BK114, BK123, HB⟩ := hcut
      cases kq with
      | zero => exact absurd HA.out (by simp [nest_scan.j2])
      | succ kj44 =>
       have H := HA.out
       clear HA
       simp only [nest_scan.j2] at H
       by_cases c56 : x66_44 = true
       ·subst c56
        have H1 : (nest_scan.l0 kj44 y115 x6_19 x7_1 l0 (l0.length : Int) (wrap64 (x23_1 + 1))) = some (r1, r2, r3) := by rw [if_pos rfl] at H; exact H
        clear H
        have H := H1
        clear H1
        have H' := Aside0.mk H
        clear H
        go_wp2_with (first | (with_reducible refine wp_label ?_) | ((with_reducible refine wp_scope_plain ?hgs_ ?_); (case hgs_ => exact fun _ _ _ h => h)))
        (try simp only [← hl5_19, ← hl6_19])
        go_roundg kj44
        case measure => have := HK1.out; have := HJ19.out; have := HJ44.out; omega
        case rel => exact ⟨(y115), (x6_19), (x7_1), (wrap64 (x23_1 + 1)), (by first | rfl | (simp; done) | (simp [*]; done)), H', ⟨by have := HK1.out; have := HJ19.out; have := HJ44.out; omega⟩, ⟨by (try simp only [hl5_19]); (try simp only [hl6_19]); (with_reducible repeat (first | apply Kd.R_alloc | apply Kd.R_drewN | apply Kd.R_drew)); exact HO_5.out⟩, ⟨by (try simp only [hl5_19]); (try simp only [hl6_19]); (with_reducible repeat (first | apply Kd.R_alloc | apply Kd.R_drewN | apply Kd.R_drew)); exact HO_6.out⟩, ⟨by (try simp only [hl5_19]); (try simp only [hl6_19]); (with_reducible repeat (first | apply Kd.R_alloc | apply Kd.R_drewN | apply Kd.R_drew)); exact HO_7.out⟩, ⟨by repeat (first | (with_reducible first | exact HB.out | apply below_alloc | apply pw_below_drewN | apply below_drew1 | refine below_set ?_ GE114.out | refine below_set ?_ GE123.out) | exact HB.out | exact Below.refl _ _)⟩⟩
       replace c56 := Bool.eq_false_iff.mpr c56
       subst c56
       have H1 : (if (x7_1.length : Int) = 0 then (some (([] : List Int), ([] : List Int), 7)) else (if 0 ≤ (wrap64 ((x7_1.length : Int) - 1)) then (if (wrap64 ((x7_1.length : Int) - 1)) < (x7_1.length : Int) then (if (!(((rd_T64 x7_1 (wrap64 ((x7_1.length : Int) - 1))).f1.f0) == ((rd_T37 l0 x23_1).f0)) || (!(((rd_T64 x7_1 (wrap64 ((x7_1.length : Int) - 1))).f1.f1) == ((rd_T37 l0 x23_1).f1)) || (!(((rd_T64 x7_1 (wrap64 ((x7_1.length : Int) - 1))).f1.f2) == ((rd_T37 l0 x23_1).f2))))) = true then (some (([] : List Int), ([] : List Int), 7)) else (if 0 ≤ x23_1 then (if x23_1 < (x6_19.length : Int) then (if x23_1 < (y115.length : Int) then (if 0 ≤ (rd x6_19 x23_1) then (if (rd x6_19 x23_1) < (y115.length : Int) then (if (wrap64 ((x7_1.length : Int) - 1)) ≤ (x7_1.length : Int) then (nest_scan.l0 kj44 ((y115.set (x23_1 : Int).toNat (rd x6_19 x23_1)).set ((rd x6_19 x23_1) : Int).toNat x23_1) x6_19 (x7_1.take ((wrap64 ((x7_1.length : Int) - 1)) : Int).toNat) l0 (l0.length : Int) (wrap64 (x23_1 + 1))) else (none)) else (none)) else (none)) else (none)) else (none)) else (none))) else (none)) else (none))) = some (r1, r2, r3) := by rw [if_neg (show ¬ (false = true) by decide)] at H; exact H
       clear H
       have H := H1
       clear H1
       by_cases c57 : (x7_1.length : Int) = 0
       ·rw [if_pos c57] at H
        have c57b0 : ((x7_1.length : Int) == 0) = true := beq_iff_eq.mpr c57
        have c57b1 : ((x7_1.length : Int) != 0) = false := bne_eq_false_iff_eq.mpr c57
        clear c57
        simp only [Option.some.injEq, Prod.mk.injEq] at H
        obtain ⟨rfl, rfl, rfl⟩ := H
        try go_wp2_with (first | (with_reducible refine wp_label ?_) | ((with_reducible refine wp_scope_plain ?hgs_ ?_); (case hgs_ => exact fun _ _ _ h => h)))
        have n0_ := Aside0.mk (Kd.R_drew HO_5.out)
        have n1_ := Aside0.mk (Kd.R_drew HO_6.out)
        have n2_ := Aside0.mk (Kd.R_drew HO_7.out)
        have n3_ := Aside0.mk (blk_drew BK114.out)
        have n4_ := Aside0.mk (blk_drew BK123.out)
        have n5_ := Aside0.mk (below_drew1 HB.out)
        clear HO_5
        clear HO_6
        clear HO_7
        clear BK114
        clear BK123
        clear HB
        have HO_5 := n0_
        have HO_6 := n1_
        have HO_7 := n2_
        have BK114 := n3_
        have BK123 := n4_
        have HB := n5_
        clear n0_ n1_ n2_ n3_ n4_ n5_
        refine start_ (n := 14) (S := fun w' => True) (ds := []) #[Z,Z,Z,Z,Z,Z,Z,Z,Z,Z,Z,Z,Z,Z] (by kernel_rfl) rfl rfl trivial (fun hHeld => ?_); refine with_tabW nest_scan.tab15 nest_scan.bits15 (fun HT_ HW_ => ?_)
        generalize wc.drew = w58 at HO_5 HO_6 HO_7 BK114 BK123 HB hHeld ⊢
        refine pure_ (i := 0) (N := some 67) (v := ?_) (a' := ?_) #[Y,Z,Z,Z,Z,Z,Z,Z,Z,Z,Z,Z,Z,Z] rfl rfl (any_of HT_.out (by kernel_rfl)) (fun _ _ _ h => h) (Or.inl ⟨by rfl, ?_⟩) ?_ ?_
        rotate_left
        ·intro w'
         go_simp
         with_reducible rfl
        rotate_left
        ·exact ac_
        refine pure_ (i := 1) (N := some 68) (v := ?_) (a' := ?_) #[Y,Y,Z,Z,Z,Z,Z,Z,Z,Z,Z,Z,Z,Z] rfl rfl (any_of HT_.out (by kernel_rfl)) (fun _ _ _ h => h) (Or.inl ⟨by rfl, ?_⟩) ?_ ?_
        rotate_left
        ·intro w'
         go_simp
         with_reducible rfl
        rotate_left
        ·exact ac_
        refine pure_ (i := 2) (N := some 69) (v := ?_) (a' := ?_) #[Y,Y,Y,Z,Z,Z,Z,Z,Z,Z,Z,Z,Z,Z] rfl rfl (any_of HT_.out (by kernel_rfl)) (fun _ _ _ h => h) (Or.inl ⟨by rfl, ?_⟩) ?_ ?_
        rotate_left
        ·intro w'
         go_simp
         with_reducible rfl
        rotate_left
        ·exact ac_
        refine pure_ (i := 3) (N := some 70) (v := ?_) (a' := ?_) #[Y,Y,Y,Y,Z,Z,Z,Z,Z,Z,Z,Z,Z,Z] rfl rfl (any_of HT_.out (by kernel_rfl)) (fun _ _ _ h => h) (Or.inl ⟨by rfl, ?_⟩) ?_ ?_
        rotate_left
        ·intro w'
         go_simp
         with_reducible rfl
        rotate_left
        ·exact ac_
        refine pure_ (i := 4) (N := some 71) (v := undef) (a' := ?_) #[Y,Y,Y,Y,Y,Z,Z,Z,Z,Z,Z,Z,Z,Z] rfl rfl (any_of HT_.out (by kernel_rfl)) (fun _ _ _ h => h) (Or.inr ⟨by rfl, rfl⟩) ?_ ?_
        rotate_left
        ·exact ac_
        refine pure_ (i := 5) (N := some 72) (v := undef) (a' := ?_) #[Y,Y,Y,Y,Y,Y,Z,Z,Z,Z,Z,Z,Z,Z] rfl rfl (any_of HT_.out (by kernel_rfl)) (fun _ _ _ h => h) (Or.inr ⟨by rfl, rfl⟩) ?_ ?_
        rotate_left
        ·exact ac_
        refine pure_ (i := 6) (N := some 73) (v := undef) (a' := ?_) #[Y,Y,Y,Y,Y,Y,Y,Z,Z,Z,Z,Z,Z,Z] rfl rfl (any_of HT_.out (by kernel_rfl)) (fun _ _ _ h => h) (Or.inr ⟨by rfl, rfl⟩) ?_ ?_
        rotate_left
        ·exact ac_
        refine pure_ (i := 7) (N := some 74) (v := undef) (a' := ?_) #[Y,Y,Y,Y,Y,Y,Y,Y,Z,Z,Z,Z,Z,Z] rfl rfl (any_of HT_.out (by kernel_rfl)) (fun _ _ _ h => h) (Or.inr ⟨by rfl, rfl⟩) ?_ ?_
        rotate_left
        ·exact ac_
        refine pure_ (i := 8) (N := some 75) (v := undef) (a' := ?_) #[Y,Y,Y,Y,Y,Y,Y,Y,Y,Z,Z,Z,Z,Z] rfl rfl (any_of HT_.out (by kernel_rfl)) (fun _ _ _ h => h) (Or.inr ⟨by rfl, rfl⟩) ?_ ?_
        rotate_left
        ·exact ac_
        refine pure_ (i := 9) (N := some 76) (v := undef) (a' := ?_) #[Y,Y,Y,Y,Y,Y,Y,Y,Y,Y,Z,Z,Z,Z] rfl rfl (any_of HT_.out (by kernel_rfl)) (fun _ _ _ h => h) (Or.inr ⟨by rfl, rfl⟩) ?_ ?_
        rotate_left
        ·exact ac_
        refine pure_ (i := 10) (N := some 77) (v := undef) (a' := ?_) #[Y,Y,Y,Y,Y,Y,Y,Y,Y,Y,Y,Z,Z,Z] rfl rfl (any_of HT_.out (by kernel_rfl)) (fun _ _ _ h => h) (Or.inr ⟨by rfl, rfl⟩) ?_ ?_
        rotate_left
        ·exact ac_
        refine pure_ (i := 11) (N := some 78) (v := undef) (a' := ?_) #[Y,Y,Y,Y,Y,Y,Y,Y,Y,Y,Y,Y,Z,Z] rfl rfl (any_of HT_.out (by kernel_rfl)) (fun _ _ _ h => h) (Or.inr ⟨by rfl, rfl⟩) ?_ ?_
        rotate_left
        ·exact ac_
        refine pure_ (i := 12) (N := some 79) (v := undef) (a' := ?_) #[Y,Y,Y,Y,Y,Y,Y,Y,Y,Y,Y,Y,Y,Z] rfl rfl (any_of HT_.out (by kernel_rfl)) (fun _ _ _ h => h) (Or.inr ⟨by rfl, rfl⟩) ?_ ?_
        rotate_left
        ·exact ac_
        refine pure_ (i := 13) (N := some 80) (v := ?_) (a' := ?_) #[Y,Y,Y,Y,Y,Y,Y,Y,Y,Y,Y,Y,Y,Y] rfl rfl (any_of HT_.out (by kernel_rfl)) (fun _ _ _ h => h) (Or.inl ⟨by rfl, ?_⟩) ?_ ?_
        rotate_left
        ·intro w'
         go_simp
         with_reducible rfl
        rotate_left
        ·exact ac_
        refine done_ (done_of HT_.out (by kernel_rfl)) ?_
        try go_wp2_with (first | (with_reducible refine wp_label ?_) | ((with_reducible refine wp_scope_plain ?hgs_ ?_); (case hgs_ => exact fun _ _ _ h => h)))
        go_ret3
        exact ⟨_, _, by first | rfl | (simp [errW_none, errW_some] <;> rfl) | (simp [*, errW_none, errW_some] <;> rfl), by first | exact Kd.R_nil _ _ _ _ _ | exact Kd.N_nil _ _ _ _ _ | exact Kd.V_nil _ _ _ _ _ | exact Kd.Q_nil _ _ _ _ _ | exact Kd.S_nil _ _ _ _ _, by first | exact Kd.R_nil _ _ _ _ _ | exact Kd.N_nil _ _ _ _ _ | exact Kd.V_nil _ _ _ _ _ | exact Kd.Q_nil _ _ _ _ _ | exact Kd.S_nil _ _ _ _ _, by repeat (first | (with_reducible first | exact HB.out | apply below_alloc | apply pw_below_drewN | apply below_drew1 | refine below_set ?_ GE114.out | refine below_set ?_ GE123.out) | exact HB.out | exact Below.refl _ _)⟩
       rw [if_neg c57] at H
       have c57b0 : ((x7_1.length : Int) == 0) = false := beq_eq_false_iff_ne.mpr c57
       have c57b1 : ((x7_1.length : Int) != 0) = true := bne_iff_ne.mpr c57
       have c57b2 : ¬ (x7_1 = []) := fun h_ => c57 (by rw [h_]; rfl)
       obtain ⟨ji59, hji59⟩ : ∃ j_ : Int, (wrap64 ((x7_1.length : Int) - 1)) = j_ := ⟨_, rfl⟩
       replace H : (if 0 ≤ (ji59) then (if (ji59) < (x7_1.length : Int) then (if (!(((rd_T64 x7_1 (ji59)).f1.f0) == ((rd_T37 l0 x23_1).f0)) || (!(((rd_T64 x7_1 (ji59)).f1.f1) == ((rd_T37 l0 x23_1).f1)) || (!(((rd_T64 x7_1 (ji59)).f1.f2) == ((rd_T37 l0 x23_1).f2))))) = true then (some (([] : List Int), ([] : List Int), 7)) else (if 0 ≤ x23_1 then (if x23_1 < (x6_19.length : Int) then (if x23_1 < (y115.length : Int) then (if 0 ≤ (rd x6_19 x23_1) then (if (rd x6_19 x23_1) < (y115.length : Int) then (if (ji59) ≤ (x7_1.length : Int) then (nest_scan.l0 kj44 ((y115.set (x23_1 : Int).toNat (rd x6_19 x23_1)).set ((rd x6_19 x23_1) : Int).toNat x23_1) x6_19 (x7_1.take ((ji59) : Int).toNat) l0 (l0.length : Int) (wrap64 (x23_1 + 1))) else (none)) else (none)) else (none)) else (none)) else (none)) else (none))) else (none)) else (none)) = some (r1, r2, r3) := by first | (rw [hji59] at H; exact H) | (simp only [hji59] at H ⊢; exact H)
       have hji59w : (IntKind.i64.wrap ((x7_1.length : Int) - 1)) = ji59 := (i64_w _).trans hji59
       by_cases c60 : 0 ≤ (ji59)
       rotate_left
       ·rw [if_neg c60] at H
        exact absurd H (by simp)
       rw [if_pos c60] at H
       have c60b0 : decide (0 ≤ (ji59)) = true := decide_eq_true c60
       clear c60
       by_cases c61 : (ji59) < (x7_1.length : Int)
       rotate_left
       ·rw [if_neg c61] at H
        exact absurd H (by simp)
       rw [if_pos c61] at H
       have c61b0 : decide ((ji59) < (x7_1.length : Int)) = true := decide_eq_true c61
       clear c61
       by_cases c62 : (!(((rd_T64 x7_1 (ji59)).f1.f0) == ((rd_T37 l0 x23_1).f0)) || (!(((rd_T64 x7_1 (ji59)).f1.f1) == ((rd_T37 l0 x23_1).f1)) || (!(((rd_T64 x7_1 (ji59)).f1.f2) == ((rd_T37 l0 x23_1).f2))))) = true
       ·rw [if_pos c62] at H
        have c62b0 : (!(((rd_T64 x7_1 (ji59)).f1.f0) == ((rd_T37 l0 x23_1).f0)) || (!(((rd_T64 x7_1 (ji59)).f1.f1) == ((rd_T37 l0 x23_1).f1)) || (!(((rd_T64 x7_1 (ji59)).f1.f2) == ((rd_T37 l0 x23_1).f2))))) = true := c62
        clear c62
        simp only [Option.some.injEq, Prod.mk.injEq] at H
        obtain ⟨rfl, rfl, rfl⟩ := H
        try go_wp2_with (first | (with_reducible refine wp_label ?_) | ((with_reducible refine wp_scope_plain ?hgs_ ?_); (case hgs_ => exact fun _ _ _ h => h)))
        have n0_ := Aside0.mk (Kd.R_drew HO_5.out)
        have n1_ := Aside0.mk (Kd.R_drew HO_6.out)
        have n2_ := Aside0.mk (Kd.R_drew HO_7.out)
        have n3_ := Aside0.mk (blk_drew BK114.out)
        have n4_ := Aside0.mk (blk_drew BK123.out)
        have n5_ := Aside0.mk (below_drew1 HB.out)
        clear HO_5
        clear HO_6
        clear HO_7
        clear BK114
        clear BK123
        clear HB
        have HO_5 := n0_
        have HO_6 := n1_
        have HO_7 := n2_
        have BK114 := n3_
        have BK123 := n4_
        have HB := n5_
        clear n0_ n1_ n2_ n3_ n4_ n5_
        have p127 : 0 ≤ ((ji59) : Int) := of_decide_eq_true as_
        have q127 : (ji59) < (x7_1.length : Int) := of_decide_eq_true as_
        obtain ⟨ad127, e127, hx127_0, hx127_1, hx127_2, hx127_3⟩ := at_T64 (Kd.R_reads' HO_7.out).2.2 (ji59) p127 q127
        cases e127
        replace p127 := eq_true p127
        replace q127 := eq_true q127
        refine start_ (n := 14) (S := fun w' => w'.cell? ⟨gb114, 0, none⟩ = some (.int .i64 ((rd_T37 l0 x23_1).f0)) ∧ w'.cell? ⟨gb114, 1, none⟩ = some (.int .i64 ((rd_T37 l0 x23_1).f1)) ∧ w'.cell? ⟨gb114, 2, none⟩ = some (.int .i64 ((rd_T37 l0 x23_1).f2)) ∧ w'.cell? (ad127.add (((ji59)).toNat * 4)) = some (.int .i64 ((rd_T64 x7_1 (ji59)).f0)) ∧ w'.cell? ⟨(ad127.add (((ji59)).toNat * 4)).block, (ad127.add (((ji59)).toNat * 4)).off + 1, none⟩ = some (.int .i64 ((rd_T64 x7_1 (ji59)).f1.f0)) ∧ w'.cell? ⟨(ad127.add (((ji59)).toNat * 4)).block, (ad127.add (((ji59)).toNat * 4)).off + 2, none⟩ = some (.int .i64 ((rd_T64 x7_1 (ji59)).f1.f1)) ∧ w'.cell? ⟨(ad127.add (((ji59)).toNat * 4)).block, (ad127.add (((ji59)).toNat * 4)).off + 3, none⟩ = some (.int .i64 ((rd_T64 x7_1 (ji59)).f1.f2))) (ds := []) #[Z,Z,Z,Z,Z,Z,Z,Z,Z,Z,Z,Z,Z,Z] (by kernel_rfl) rfl rfl ⟨(blk_cell BK114.out 0).trans rfl, (blk_cell BK114.out 1).trans rfl, (blk_cell BK114.out 2).trans rfl, hx127_0, hx127_1, hx127_2, hx127_3⟩ (fun hHeld => ?_); refine with_tabW nest_scan.tab15 nest_scan.bits15 (fun HT_ HW_ => ?_)
        generalize wc.drew = w63 at HO_5 HO_6 HO_7 BK114 BK123 HB hx127_0 hx127_1 hx127_2 hx127_3 hHeld ⊢
        refine pure_ (i := 0) (N := some 67) (v := ?_) (a' := ?_) #[Y,Z,Z,Z,Z,Z,Z,Z,Z,Z,Z,Z,Z,Z] rfl rfl (any_of HT_.out (by kernel_rfl)) (fun _ _ _ h => h) (Or.inl ⟨by rfl, ?_⟩) ?_ ?_
        rotate_left
        ·intro w'
         go_simp
         with_reducible rfl
        rotate_left
        ·exact ac_
        refine pure_ (i := 1) (N := some 68) (v := ?_) (a' := ?_) #[Y,Y,Z,Z,Z,Z,Z,Z,Z,Z,Z,Z,Z,Z] rfl rfl (any_of HT_.out (by kernel_rfl)) (fun _ _ _ h => h) (Or.inl ⟨by rfl, ?_⟩) ?_ ?_
        rotate_left
        ·intro w'
         go_simp
         with_reducible rfl
        rotate_left
        ·exact ac_
        refine pure_ (i := 2) (N := some 69) (v := ?_) (a' := ?_) #[Y,Y,Y,Z,Z,Z,Z,Z,Z,Z,Z,Z,Z,Z] rfl rfl (any_of HT_.out (by kernel_rfl)) (fun _ _ _ h => h) (Or.inl ⟨by rfl, ?_⟩) ?_ ?_
        rotate_left
        ·intro w'
         go_simp
         with_reducible rfl
        rotate_left
        ·exact ac_
        refine pure_ (i := 3) (N := some 70) (v := ?_) (a' := ?_) #[Y,Y,Y,Y,Z,Z,Z,Z,Z,Z,Z,Z,Z,Z] rfl rfl (any_of HT_.out (by kernel_rfl)) (fun _ _ _ h => h) (Or.inl ⟨by rfl, ?_⟩) ?_ ?_
        rotate_left
        ·intro w'
         go_simp
         with_reducible rfl
        rotate_left
        ·exact ac_
        refine pure_ (i := 4) (N := some 71) (v := ?_) (a' := ?_) #[Y,Y,Y,Y,Y,Z,Z,Z,Z,Z,Z,Z,Z,Z] rfl rfl (any_of HT_.out (by kernel_rfl)) (fun _ _ _ h => h) (Or.inl ⟨by rfl, ?_⟩) ?_ ?_
        rotate_left
        ·intro w'
         go_simp
         with_reducible rfl
        rotate_left
        ·exact ac_
        refine pure_ (i := 5) (N := some 72) (v := ?_) (a' := ?_) #[Y,Y,Y,Y,Y,Y,Z,Z,Z,Z,Z,Z,Z,Z] rfl rfl (any_of HT_.out (by kernel_rfl)) (fun _ _ _ h => h) (Or.inl ⟨by rfl, ?_⟩) ?_ ?_
        rotate_left
        ·intro w'
         go_simp
         with_reducible rfl
        rotate_left
        ·exact ac_
        refine pure_ (i := 6) (N := some 73) (v := ?_) (a' := ?_) #[Y,Y,Y,Y,Y,Y,Y,Z,Z,Z,Z,Z,Z,Z] rfl rfl (any_of HT_.out (by kernel_rfl)) (fun _ _ _ h => h) (Or.inl ⟨by rfl, ?_⟩) ?_ ?_
        rotate_left
        ·intro w'
         go_simp
         with_reducible rfl
        rotate_left
        ·exact ac_
        refine pure_ (i := 7) (N := some 74) (v := ?_) (a' := ?_) #[Y,Y,Y,Y,Y,Y,Y,Y,Z,Z,Z,Z,Z,Z] rfl rfl (any_of HT_.out (by kernel_rfl)) (fun _ _ _ h => h) (Or.inl ⟨by rfl, ?_⟩) ?_ ?_
        rotate_left
        ·intro w'
         go_simp
         with_reducible rfl
        rotate_left
        ·exact ac_
        refine pure_ (i := 8) (N := some 75) (v := ?_) (a' := ?_) #[Y,Y,Y,Y,Y,Y,Y,Y,Y,Z,Z,Z,Z,Z] rfl rfl (any_of HT_.out (by kernel_rfl)) (fun _ _ _ h => h) (Or.inl ⟨by rfl, ?_⟩) ?_ ?_
        rotate_left
        ·intro w'
         go_simp
         with_reducible rfl
        rotate_left
        ·exact ac_
        refine pure_ (i := 9) (N := some 76) (v := ?_) (a' := ?_) #[Y,Y,Y,Y,Y,Y,Y,Y,Y,Y,Z,Z,Z,Z] rfl rfl (any_of HT_.out (by kernel_rfl)) (fun _ _ _ h => h) (Or.inl ⟨by rfl, ?_⟩) ?_ ?_
        rotate_left
        ·intro w'
         go_simp
         with_reducible rfl
        rotate_left
        ·exact ac_
        refine take_ (i := 10) (N := some 77) (v := ?_) (a' := ?_) #[Y,Y,Y,Y,Y,Y,Y,Y,Y,Y,Y,Z,Z,Z] rfl rfl (take_ofW HT_.out HW_.out (by kernel_rfl)) (fun _ _ _ h => h) (Or.inl ⟨by rfl, ?_⟩) hHeld ?_ ?_
        rotate_left
        ·rintro w' ⟨s0, s1, s2, s3, s4, s5, s6⟩
         go_simp
         with_reducible rfl
        rotate_left
        ·exact ac_
        refine take_ (i := 11) (N := some 78) (v := ?_) (a' := ?_) #[Y,Y,Y,Y,Y,Y,Y,Y,Y,Y,Y,Y,Z,Z] rfl rfl (take_ofW HT_.out HW_.out (by kernel_rfl)) (fun _ _ _ h => h) (Or.inl ⟨by rfl, ?_⟩) hHeld ?_ ?_
        rotate_left
        ·rintro w' ⟨s0, s1, s2, s3, s4, s5, s6⟩
         go_simp
         with_reducible rfl
        rotate_left
        ·exact ac_
        refine pure_ (i := 12) (N := some 79) (v := ?_) (a' := ?_) #[Y,Y,Y,Y,Y,Y,Y,Y,Y,Y,Y,Y,Y,Z] rfl rfl (any_of HT_.out (by kernel_rfl)) (fun _ _ _ h => h) (Or.inl ⟨by rfl, ?_⟩) ?_ ?_
        rotate_left
        ·intro w'
         go_simp
         with_reducible rfl
        rotate_left
        ·exact ac_
        refine pure_ (i := 13) (N := some 80) (v := ?_) (a' := ?_) #[Y,Y,Y,Y,Y,Y,Y,Y,Y,Y,Y,Y,Y,Y] rfl rfl (any_of HT_.out (by kernel_rfl)) (fun _ _ _ h => h) (Or.inl ⟨by rfl, ?_⟩) ?_ ?_
        rotate_left
        ·intro w'
         go_simp
         with_reducible rfl
        rotate_left
        ·exact ac_
        refine done_ (done_of HT_.out (by kernel_rfl)) ?_
        try go_wp2_with (first | (with_reducible refine wp_label ?_) | ((with_reducible refine wp_scope_plain ?hgs_ ?_); (case hgs_ => exact fun _ _ _ h => h)))
        go_ret3
        exact ⟨_, _, by first | rfl | (simp [errW_none, errW_some] <;> rfl) | (simp only [← hji59]; first | rfl | (simp [errW_none, errW_some] <;> rfl)) | (simp [*, errW_none, errW_some] <;> rfl), by first | exact Kd.R_nil _ _ _ _ _ | exact Kd.N_nil _ _ _ _ _ | exact Kd.V_nil _ _ _ _ _ | exact Kd.Q_nil _ _ _ _ _ | exact Kd.S_nil _ _ _ _ _, by first | exact Kd.R_nil _ _ _ _ _ | exact Kd.N_nil _ _ _ _ _ | exact Kd.V_nil _ _ _ _ _ | exact Kd.Q_nil _ _ _ _ _ | exact Kd.S_nil _ _ _ _ _, by repeat (first | (with_reducible first | exact HB.out | apply below_alloc | apply pw_below_drewN | apply below_drew1 | refine below_set ?_ GE114.out | refine below_set ?_ GE123.out) | exact HB.out | exact Below.refl _ _)⟩
       rw [if_neg c62] at H
       have c62b0 : (!(((rd_T64 x7_1 (ji59)).f1.f0) == ((rd_T37 l0 x23_1).f0)) || (!(((rd_T64 x7_1 (ji59)).f1.f1) == ((rd_T37 l0 x23_1).f1)) || (!(((rd_T64 x7_1 (ji59)).f1.f2) == ((rd_T37 l0 x23_1).f2))))) = false := by simpa using c62
       clear c62
       by_cases c64 : 0 ≤ x23_1
       rotate_left
       ·rw [if_neg c64] at H
        exact absurd H (by simp)
       rw [if_pos c64] at H
       have c64b0 : decide (0 ≤ x23_1) = true := decide_eq_true c64
       clear c64
       by_cases c65 : x23_1 < (x6_19.length : Int)
       rotate_left
       ·rw [if_neg c65] at H
        exact absurd H (by simp)
       rw [if_pos c65] at H
       have c65b0 : decide (x23_1 < (x6_19.length : Int)) = true := decide_eq_true c65
       clear c65
       by_cases c66 : x23_1 < (y115.length : Int)
       rotate_left
       ·rw [if_neg c66] at H
        exact absurd H (by simp)
       rw [if_pos c66] at H
       have c66b0 : decide (x23_1 < (y115.length : Int)) = true := decide_eq_true c66
       clear c66
       obtain ⟨y130, hy130⟩ : ∃ y_ : List Int, y_ = (y115.set (x23_1 : Int).toNat (rd x6_19 x23_1)) := ⟨_, rfl⟩
       replace H : (if 0 ≤ (rd x6_19 x23_1) then (if (rd x6_19 x23_1) < (y115.length : Int) then (if (ji59) ≤ (x7_1.length : Int) then (nest_scan.l0 kj44 (y130.set ((rd x6_19 x23_1) : Int).toNat x23_1) x6_19 (x7_1.take ((ji59) : Int).toNat) l0 (l0.length : Int) (wrap64 (x23_1 + 1))) else (none)) else (none)) else (none)) = some (r1, r2, r3) := by first | (rw [hy130]; with_reducible exact H) | (have H2_ := (Option.bind_some _ _).symm.trans H; rw [hy130]; with_reducible exact H2_) | (have H2_ := (Option.bind_some _ _).symm.trans H; with_reducible exact H2_) | with_reducible exact H | (rw [hy130]; exact H) | exact H
       have Ny130 := Aside0.mk hy130
       clear hy130
       by_cases c68 : 0 ≤ (rd x6_19 x23_1)
       rotate_left
       ·rw [if_neg c68] at H
        exact absurd H (by simp)
       rw [if_pos c68] at H
       have c68b0 : decide (0 ≤ (rd x6_19 x23_1)) = true := decide_eq_true c68
       clear c68
       by_cases c69 : (rd x6_19 x23_1) < (y115.length : Int)
       rotate_left
       ·rw [if_neg c69] at H
        exact absurd H (by simp)
       rw [if_pos c69] at H
       have c69b0 : decide ((rd x6_19 x23_1) < (y115.length : Int)) = true := decide_eq_true c69
       clear c69
       obtain ⟨y131, hy131⟩ : ∃ y_ : List Int, y_ = (y130.set ((rd x6_19 x23_1) : Int).toNat x23_1) := ⟨_, rfl⟩
       replace H : (if (ji59) ≤ (x7_1.length : Int) then (nest_scan.l0 kj44 y131 x6_19 (x7_1.take ((ji59) : Int).toNat) l0 (l0.length : Int) (wrap64 (x23_1 + 1))) else (none)) = some (r1, r2, r3) := by first | (rw [hy131]; with_reducible exact H) | (have H2_ := (Option.bind_some _ _).symm.trans H; rw [hy131]; with_reducible exact H2_) | (have H2_ := (Option.bind_some _ _).symm.trans H; with_reducible exact H2_) | with_reducible exact H | (rw [hy131]; exact H) | exact H
       have Ny131 := Aside0.mk hy131
       clear hy131
       by_cases c71 : (ji59) ≤ (x7_1.length : Int)
       rotate_left
       ·rw [if_neg c71] at H
        exact absurd H (by simp)
       rw [if_pos c71] at H
       have c71b0 := eq_true c71
       have c71b1 : decide ((ji59) ≤ (x7_1.length : Int)) = true := decide_eq_true c71
       clear c71
       obtain ⟨y132, hy132⟩ : ∃ y_ : List (S64), y_ = (x7_1.take ((ji59) : Int).toNat) := ⟨_, rfl⟩
       replace H : (nest_scan.l0 kj44 y131 x6_19 y132 l0 (l0.length : Int) (wrap64 (x23_1 + 1))) = some (r1, r2, r3) := by first | (rw [hy132]; with_reducible exact H) | (have H2_ := (Option.bind_some _ _).symm.trans H; rw [hy132]; with_reducible exact H2_) | (have H2_ := (Option.bind_some _ _).symm.trans H; with_reducible exact H2_) | with_reducible exact H | (rw [hy132]; exact H) | exact H
       have Ny132 := Aside0.mk hy132
       clear hy132
       have H' := Aside0.mk H
       clear H
       try go_wp2_with (first | (with_reducible refine wp_label ?_) | ((with_reducible refine wp_scope_plain ?hgs_ ?_); (case hgs_ => exact fun _ _ _ h => h)))
       have n0_ := Aside0.mk (Kd.R_drew HO_5.out)
       have n1_ := Aside0.mk (Kd.R_drew HO_6.out)
       have n2_ := Aside0.mk (Kd.R_drew HO_7.out)
       have n3_ := Aside0.mk (blk_drew BK114.out)
       have n4_ := Aside0.mk (blk_drew BK123.out)
       have n5_ := Aside0.mk (below_drew1 HB.out)
       clear HO_5
       clear HO_6
       clear HO_7
       clear BK114
       clear BK123
       clear HB
       have HO_5 := n0_
       have HO_6 := n1_
       have HO_7 := n2_
       have BK114 := n3_
       have BK123 := n4_
       have HB := n5_
       clear n0_ n1_ n2_ n3_ n4_ n5_
       have p127 : 0 ≤ ((ji59) : Int) := of_decide_eq_true as_
       have q127 : (ji59) < (x7_1.length : Int) := of_decide_eq_true as_
       obtain ⟨ad127, e127, hx127_0, hx127_1, hx127_2, hx127_3⟩ := at_T64 (Kd.R_reads' HO_7.out).2.2 (ji59) p127 q127
       cases e127
       replace p127 := eq_true p127
       replace q127 := eq_true q127
       refine start_ (n := 14) (S := fun w' => w'.cell? ⟨gb114, 0, none⟩ = some (.int .i64 ((rd_T37 l0 x23_1).f0)) ∧ w'.cell? ⟨gb114, 1, none⟩ = some (.int .i64 ((rd_T37 l0 x23_1).f1)) ∧ w'.cell? ⟨gb114, 2, none⟩ = some (.int .i64 ((rd_T37 l0 x23_1).f2)) ∧ w'.cell? (ad127.add (((ji59)).toNat * 4)) = some (.int .i64 ((rd_T64 x7_1 (ji59)).f0)) ∧ w'.cell? ⟨(ad127.add (((ji59)).toNat * 4)).block, (ad127.add (((ji59)).toNat * 4)).off + 1, none⟩ = some (.int .i64 ((rd_T64 x7_1 (ji59)).f1.f0)) ∧ w'.cell? ⟨(ad127.add (((ji59)).toNat * 4)).block, (ad127.add (((ji59)).toNat * 4)).off + 2, none⟩ = some (.int .i64 ((rd_T64 x7_1 (ji59)).f1.f1)) ∧ w'.cell? ⟨(ad127.add (((ji59)).toNat * 4)).block, (ad127.add (((ji59)).toNat * 4)).off + 3, none⟩ = some (.int .i64 ((rd_T64 x7_1 (ji59)).f1.f2))) (ds := []) #[Z,Z,Z,Z,Z,Z,Z,Z,Z,Z,Z,Z,Z,Z] (by kernel_rfl) rfl rfl ⟨(blk_cell BK114.out 0).trans rfl, (blk_cell BK114.out 1).trans rfl, (blk_cell BK114.out 2).trans rfl, hx127_0, hx127_1, hx127_2, hx127_3⟩ (fun hHeld => ?_); refine with_tabW nest_scan.tab15 nest_scan.bits15 (fun HT_ HW_ => ?_)
       generalize wc.drew = w72 at HO_5 HO_6 HO_7 BK114 BK123 HB hx127_0 hx127_1 hx127_2 hx127_3 hHeld ⊢
       refine pure_ (i := 0) (N := some 67) (v := ?_) (a' := ?_) #[Y,Z,Z,Z,Z,Z,Z,Z,Z,Z,Z,Z,Z,Z] rfl rfl (any_of HT_.out (by kernel_rfl)) (fun _ _ _ h => h) (Or.inl ⟨by rfl, ?_⟩) ?_ ?_
       rotate_left
       ·intro w'
        go_simp
        with_reducible rfl
       rotate_left
       ·exact ac_
       refine pure_ (i := 1) (N := some 68) (v := ?_) (a' := ?_) #[Y,Y,Z,Z,Z,Z,Z,Z,Z,Z,Z,Z,Z,Z] rfl rfl (any_of HT_.out (by kernel_rfl)) (fun _ _ _ h => h) (Or.inl ⟨by rfl, ?_⟩) ?_ ?_
       rotate_left
       ·intro w'
        go_simp
        with_reducible rfl
       rotate_left
       ·exact ac_
       refine pure_ (i := 2) (N := some 69) (v := ?_) (a' := ?_) #[Y,Y,Y,Z,Z,Z,Z,Z,Z,Z,Z,Z,Z,Z] rfl rfl (any_of HT_.out (by kernel_rfl)) (fun _ _ _ h => h) (Or.inl ⟨by rfl, ?_⟩) ?_ ?_
       rotate_left
       ·intro w'
        go_simp
        with_reducible rfl
       rotate_left
       ·exact ac_
       refine pure_ (i := 3) (N := some 70) (v := ?_) (a' := ?_) #[Y,Y,Y,Y,Z,Z,Z,Z,Z,Z,Z,Z,Z,Z] rfl rfl (any_of HT_.out (by kernel_rfl)) (fun _ _ _ h => h) (Or.inl ⟨by rfl, ?_⟩) ?_ ?_
       rotate_left
       ·intro w'
        go_simp
        with_reducible rfl
       rotate_left
       ·exact ac_
       refine pure_ (i := 4) (N := some 71) (v := ?_) (a' := ?_) #[Y,Y,Y,Y,Y,Z,Z,Z,Z,Z,Z,Z,Z,Z] rfl rfl (any_of HT_.out (by kernel_rfl)) (fun _ _ _ h => h) (Or.inl ⟨by rfl, ?_⟩) ?_ ?_
       rotate_left
       ·intro w'
        go_simp
        with_reducible rfl
       rotate_left
       ·exact ac_
       refine pure_ (i := 5) (N := some 72) (v := ?_) (a' := ?_) #[Y,Y,Y,Y,Y,Y,Z,Z,Z,Z,Z,Z,Z,Z] rfl rfl (any_of HT_.out (by kernel_rfl)) (fun _ _ _ h => h) (Or.inl ⟨by rfl, ?_⟩) ?_ ?_
       rotate_left
       ·intro w'
        go_simp
        with_reducible rfl
       rotate_left
       ·exact ac_
       refine pure_ (i := 6) (N := some 73) (v := ?_) (a' := ?_) #[Y,Y,Y,Y,Y,Y,Y,Z,Z,Z,Z,Z,Z,Z] rfl rfl (any_of HT_.out (by kernel_rfl)) (fun _ _ _ h => h) (Or.inl ⟨by rfl, ?_⟩) ?_ ?_
       rotate_left
       ·intro w'
        go_simp
        with_reducible rfl
       rotate_left
       ·exact ac_
       refine pure_ (i := 7) (N := some 74) (v := ?_) (a' := ?_) #[Y,Y,Y,Y,Y,Y,Y,Y,Z,Z,Z,Z,Z,Z] rfl rfl (any_of HT_.out (by kernel_rfl)) (fun _ _ _ h => h) (Or.inl ⟨by rfl, ?_⟩) ?_ ?_
       rotate_left
       ·intro w'
        go_simp
        with_reducible rfl
       rotate_left
       ·exact ac_
       refine pure_ (i := 8) (N := some 75) (v := ?_) (a' := ?_) #[Y,Y,Y,Y,Y,Y,Y,Y,Y,Z,Z,Z,Z,Z] rfl rfl (any_of HT_.out (by kernel_rfl)) (fun _ _ _ h => h) (Or.inl ⟨by rfl, ?_⟩) ?_ ?_
       rotate_left
       ·intro w'
        go_simp
        with_reducible rfl
       rotate_left
       ·exact ac_
       refine pure_ (i := 9) (N := some 76) (v := ?_) (a' := ?_) #[Y,Y,Y,Y,Y,Y,Y,Y,Y,Y,Z,Z,Z,Z] rfl rfl (any_of HT_.out (by kernel_rfl)) (fun _ _ _ h => h) (Or.inl ⟨by rfl, ?_⟩) ?_ ?_
       rotate_left
       ·intro w'
        go_simp
        with_reducible rfl
       rotate_left
       ·exact ac_
       refine take_ (i := 10) (N := some 77) (v := ?_) (a' := ?_) #[Y,Y,Y,Y,Y,Y,Y,Y,Y,Y,Y,Z,Z,Z] rfl rfl (take_ofW HT_.out HW_.out (by kernel_rfl)) (fun _ _ _ h => h) (Or.inl ⟨by rfl, ?_⟩) hHeld ?_ ?_
       rotate_left
       ·rintro w' ⟨s0, s1, s2, s3, s4, s5, s6⟩
        go_simp
        with_reducible rfl
       rotate_left
       ·exact ac_
       refine take_ (i := 11) (N := some 78) (v := ?_) (a' := ?_) #[Y,Y,Y,Y,Y,Y,Y,Y,Y,Y,Y,Y,Z,Z] rfl rfl (take_ofW HT_.out HW_.out (by kernel_rfl)) (fun _ _ _ h => h) (Or.inl ⟨by rfl, ?_⟩) hHeld ?_ ?_
       rotate_left
       ·rintro w' ⟨s0, s1, s2, s3, s4, s5, s6⟩
        go_simp
        with_reducible rfl
       rotate_left
       ·exact ac_
       refine pure_ (i := 12) (N := some 79) (v := ?_) (a' := ?_) #[Y,Y,Y,Y,Y,Y,Y,Y,Y,Y,Y,Y,Y,Z] rfl rfl (any_of HT_.out (by kernel_rfl)) (fun _ _ _ h => h) (Or.inl ⟨by rfl, ?_⟩) ?_ ?_
       rotate_left
       ·intro w'
        go_simp
        with_reducible rfl
       rotate_left
       ·exact ac_
       refine pure_ (i := 13) (N := some 80) (v := ?_) (a' := ?_) #[Y,Y,Y,Y,Y,Y,Y,Y,Y,Y,Y,Y,Y,Y] rfl rfl (any_of HT_.out (by kernel_rfl)) (fun _ _ _ h => h) (Or.inl ⟨by rfl, ?_⟩) ?_ ?_
       rotate_left
       ·intro w'
        go_simp
        with_reducible rfl
       rotate_left
       ·exact ac_
       refine done_ (done_of HT_.out (by kernel_rfl)) ?_
       try go_wp2_with (first | (with_reducible refine wp_label ?_) | ((with_reducible refine wp_scope_plain ?hgs_ ?_); (case hgs_ => exact fun _ _ _ h => h)))
       have n0_ := Aside0.mk (Kd.R_drew HO_5.out)
       have n1_ := Aside0.mk (Kd.R_drew HO_6.out)
       have n2_ := Aside0.mk (Kd.R_drew HO_7.out)
       have n3_ := Aside0.mk (blk_drew BK114.out)
       have n4_ := Aside0.mk (blk_drew BK123.out)
       have n5_ := Aside0.mk (below_drew1 HB.out)
       clear HO_5
       clear HO_6
       clear HO_7
       clear BK114
       clear BK123
       clear HB
       have HO_5 := n0_
       have HO_6 := n1_
       have HO_7 := n2_
       have BK114 := n3_
       have BK123 := n4_
       have HB := n5_
       clear n0_ n1_ n2_ n3_ n4_ n5_
       have p128 : 0 ≤ (x23_1 : Int) := of_decide_eq_true as_
       have q128 : x23_1 < (x6_19.length : Int) := of_decide_eq_true as_
       obtain ⟨ad128, e128, hx128_0⟩ := Kd.at_int (Kd.R_reads' HO_6.out).2.2 x23_1 p128 q128
       obtain rfl : (⟨go19, 0, none⟩ : Addr) = ad128 := (by injection e128)
       (first | simp only [add_plain] at hx128_0 | simp only [add_at] at hx128_0 | simp only [Addr.add, Nat.zero_add] at hx128_0 | skip)
       replace p128 := eq_true p128
       replace q128 := eq_true q128
       have p129 : 0 ≤ (x23_1 : Int) := of_decide_eq_true as_
       have q129 : x23_1 < (x6_19.length : Int) := of_decide_eq_true as_
       obtain ⟨ad129, e129, hx129_0⟩ := Kd.at_int (Kd.R_reads' HO_6.out).2.2 x23_1 p129 q129
       obtain rfl : (⟨go19, 0, none⟩ : Addr) = ad129 := (by injection e129)
       (first | simp only [add_plain] at hx129_0 | simp only [add_at] at hx129_0 | simp only [Addr.add, Nat.zero_add] at hx129_0 | skip)
       replace p129 := eq_true p129
       replace q129 := eq_true q129
       have p67 : 0 ≤ (x23_1 : Int) := of_decide_eq_true as_
       have q67 : (x23_1 : Int) < ((y115.length : Int) : Int) := of_decide_eq_true as_
       obtain ⟨hx67_0, hf67_0⟩ := Kd.R_celln 0 HO_5.out (x23_1 : Int) p67 q67
       replace p67 := eq_true p67
       replace q67 := eq_true q67
       have HP74 := Kd.R_putn HO_5.out (x23_1 : Int) (rd x6_19 x23_1)
       rw [← Ny130.out] at HP74
       have HQ74 := Aside0.mk HP74
       clear HP74
       have p70 : 0 ≤ ((rd x6_19 x23_1) : Int) := of_decide_eq_true as_
       have q70 : ((rd x6_19 x23_1) : Int) < ((y115.length : Int) : Int) := of_decide_eq_true as_
       obtain ⟨hx70_0, hf70_0⟩ := Kd.R_celln 0 HQ74.out ((rd x6_19 x23_1) : Int) p70 q70
       replace p70 := eq_true p70
       replace q70 := eq_true q70
       have HP75 := Kd.R_putn HQ74.out ((rd x6_19 x23_1) : Int) x23_1
       rw [← Ny131.out] at HP75
       have HQ75 := Aside0.mk HP75
       clear HP75
       refine start_ (n := 16) (S := fun w' => w'.cell? ⟨go19, (x23_1).toNat, none⟩ = some (.int .i64 (rd x6_19 x23_1)) ∧ w'.cell? ⟨go19, (x23_1).toNat, none⟩ = some (.int .i64 (rd x6_19 x23_1))) (ds := [13, 15]) #[Z,Z,Z,Z,Z,Z,Z,Z,Z,Z,Z,Z,Z,Z,Z,Z] (by kernel_rfl) rfl rfl ⟨hx128_0, hx129_0⟩ (fun hHeld => ?_); refine with_tabW nest_scan.tab17 nest_scan.bits17 (fun HT_ HW_ => ?_)
       generalize w72.drew = w73 at HO_5 HO_6 HO_7 BK114 BK123 HB HQ74 HQ75 hf67_0 hf70_0 hx128_0 hx129_0 hx67_0 hx70_0 hHeld ⊢
       refine pure_ (i := 0) (N := some 81) (v := ?_) (a' := ?_) #[Y,Z,Z,Z,Z,Z,Z,Z,Z,Z,Z,Z,Z,Z,Z,Z] rfl rfl (any_of HT_.out (by kernel_rfl)) (fun _ _ _ h => h) (Or.inl ⟨by rfl, ?_⟩) ?_ ?_
       rotate_left
       ·intro w'
        go_simp
        with_reducible rfl
       rotate_left
       ·exact ac_
       refine pure_ (i := 1) (N := some 82) (v := ?_) (a' := ?_) #[Y,Y,Z,Z,Z,Z,Z,Z,Z,Z,Z,Z,Z,Z,Z,Z] rfl rfl (any_of HT_.out (by kernel_rfl)) (fun _ _ _ h => h) (Or.inl ⟨by rfl, ?_⟩) ?_ ?_
       rotate_left
       ·intro w'
        go_simp
        with_reducible rfl
       rotate_left
       ·exact ac_
       refine pure_ (i := 2) (N := some 83) (v := ?_) (a' := ?_) #[Y,Y,Y,Z,Z,Z,Z,Z,Z,Z,Z,Z,Z,Z,Z,Z] rfl rfl (any_of HT_.out (by kernel_rfl)) (fun _ _ _ h => h) (Or.inl ⟨by rfl, ?_⟩) ?_ ?_
       rotate_left
       ·intro w'
        go_simp
        with_reducible rfl
       rotate_left
       ·exact ac_
       refine pure_ (i := 3) (N := some 84) (v := ?_) (a' := ?_) #[Y,Y,Y,Y,Z,Z,Z,Z,Z,Z,Z,Z,Z,Z,Z,Z] rfl rfl (any_of HT_.out (by kernel_rfl)) (fun _ _ _ h => h) (Or.inl ⟨by rfl, ?_⟩) ?_ ?_
       rotate_left
       ·intro w'
        go_simp
        with_reducible rfl
       rotate_left
       ·exact ac_
       refine pure_ (i := 4) (N := some 85) (v := ?_) (a' := ?_) #[Y,Y,Y,Y,Y,Z,Z,Z,Z,Z,Z,Z,Z,Z,Z,Z] rfl rfl (any_of HT_.out (by kernel_rfl)) (fun _ _ _ h => h) (Or.inl ⟨by rfl, ?_⟩) ?_ ?_
       rotate_left
       ·intro w'
        go_simp
        with_reducible rfl
       rotate_left
       ·exact ac_
       refine pure_ (i := 5) (N := some 86) (v := ?_) (a' := ?_) #[Y,Y,Y,Y,Y,Y,Z,Z,Z,Z,Z,Z,Z,Z,Z,Z] rfl rfl (any_of HT_.out (by kernel_rfl)) (fun _ _ _ h => h) (Or.inl ⟨by rfl, ?_⟩) ?_ ?_
       rotate_left
       ·intro w'
        go_simp
        with_reducible rfl
       rotate_left
       ·exact ac_
       refine pure_ (i := 7) (N := some 88) (v := ?_) (a' := ?_) #[Y,Y,Y,Y,Y,Y,Z,Y,Z,Z,Z,Z,Z,Z,Z,Z] rfl rfl (any_of HT_.out (by kernel_rfl)) (fun _ _ _ h => h) (Or.inl ⟨by rfl, ?_⟩) ?_ ?_
       rotate_left
       ·intro w'
        go_simp
        with_reducible rfl
       rotate_left
       ·exact ac_
       refine pure_ (i := 8) (N := some 89) (v := ?_) (a' := ?_) #[Y,Y,Y,Y,Y,Y,Z,Y,Y,Z,Z,Z,Z,Z,Z,Z] rfl rfl (any_of HT_.out (by kernel_rfl)) (fun _ _ _ h => h) (Or.inl ⟨by rfl, ?_⟩) ?_ ?_
       rotate_left
       ·intro w'
        go_simp
        with_reducible rfl
       rotate_left
       ·exact ac_
       refine pure_ (i := 9) (N := some 90) (v := ?_) (a' := ?_) #[Y,Y,Y,Y,Y,Y,Z,Y,Y,Y,Z,Z,Z,Z,Z,Z] rfl rfl (any_of HT_.out (by kernel_rfl)) (fun _ _ _ h => h) (Or.inl ⟨by rfl, ?_⟩) ?_ ?_
       rotate_left
       ·intro w'
        go_simp
        with_reducible rfl
       rotate_left
       ·exact ac_
       refine pure_ (i := 11) (N := some 92) (v := ?_) (a' := ?_) #[Y,Y,Y,Y,Y,Y,Z,Y,Y,Y,Z,Y,Z,Z,Z,Z] rfl rfl (any_of HT_.out (by kernel_rfl)) (fun _ _ _ h => h) (Or.inl ⟨by rfl, ?_⟩) ?_ ?_
       rotate_left
       ·intro w'
        go_simp
        with_reducible rfl
       rotate_left
       ·exact ac_
       refine take_ (i := 6) (N := some 87) (v := ?_) (a' := ?_) #[Y,Y,Y,Y,Y,Y,Y,Y,Y,Y,Z,Y,Z,Z,Z,Z] rfl rfl (take_ofW HT_.out HW_.out (by kernel_rfl)) (fun _ _ _ h => h) (Or.inl ⟨by rfl, ?_⟩) hHeld ?_ ?_
       rotate_left
       ·rintro w' ⟨s0, s1⟩
        go_simp
        with_reducible rfl
       rotate_left
       ·exact ac_
       refine take_ (i := 10) (N := some 91) (v := ?_) (a' := ?_) #[Y,Y,Y,Y,Y,Y,Y,Y,Y,Y,Y,Y,Z,Z,Z,Z] rfl rfl (take_ofW HT_.out HW_.out (by kernel_rfl)) (fun _ _ _ h => h) (Or.inl ⟨by rfl, ?_⟩) hHeld ?_ ?_
       rotate_left
       ·rintro w' ⟨s0, s1⟩
        go_simp
        with_reducible rfl
       rotate_left
       ·exact ac_
       refine pure_ (i := 12) (N := some 93) (v := ?_) (a' := ?_) #[Y,Y,Y,Y,Y,Y,Y,Y,Y,Y,Y,Y,Y,Z,Z,Z] rfl rfl (any_of HT_.out (by kernel_rfl)) (fun _ _ _ h => h) (Or.inl ⟨by rfl, ?_⟩) ?_ ?_
       rotate_left
       ·intro w'
        go_simp
        with_reducible rfl
       rotate_left
       ·exact ac_
       refine last_ (i := 13) (N := none) #[Y,Y,Y,Y,Y,Y,Y,Y,Y,Y,Y,Y,Y,Y,Z,Z] rfl rfl (one_of HT_.out (by kernel_rfl)) (by decide) (fun K hK => ?_)
       refine skip_ (w1 := ?_) (by rfl) rfl ?_ ?_
       rotate_left
       ·go_simp
        rfl
       refine hK.out _ _ ?_
       clear hK K
       refine pure_ (i := 14) (N := some 94) (v := ?_) (a' := ?_) #[Y,Y,Y,Y,Y,Y,Y,Y,Y,Y,Y,Y,Y,Y,Y,Z] rfl rfl (any_of HT_.out (by kernel_rfl)) (fun _ _ _ h => h) (Or.inl ⟨by rfl, ?_⟩) ?_ ?_
       rotate_left
       ·intro w'
        go_simp
        with_reducible rfl
       rotate_left
       ·exact ac_
       refine last_ (i := 15) (N := none) #[Y,Y,Y,Y,Y,Y,Y,Y,Y,Y,Y,Y,Y,Y,Y,Y] rfl rfl (one_of HT_.out (by kernel_rfl)) (by decide) (fun K hK => ?_)
       refine skip_ (w1 := ?_) (by rfl) rfl ?_ ?_
       rotate_left
       ·go_simp
        rfl
       refine hK.out _ _ ?_
       clear hK K
       refine done_ (done_of HT_.out (by kernel_rfl)) ?_
       have n0_ : Aside0 (Kd.R (Kd.int .i64) 3 ((w73.setCell ⟨go17, (x23_1 : Int).toNat, none⟩ (.int .i64 (rd x6_19 x23_1))).setCell ⟨go17, ((rd x6_19 x23_1) : Int).toNat, none⟩ (.int .i64 x23_1)) w.heap.size (fun k_ => some k_ ≠ (.slice (some ⟨go19, 0, none⟩) x6_19.length co19 : Value).ownBlock) (.slice (some ⟨go17, 0, none⟩) y115.length co17) y131) := ⟨by (with_reducible repeat (first | apply Kd.R_alloc | apply Kd.R_drewN | apply Kd.R_drew)); exact HQ75.out⟩
       have n1_ : Aside0 (Kd.R (Kd.int .i64) 3 ((w73.setCell ⟨go17, (x23_1 : Int).toNat, none⟩ (.int .i64 (rd x6_19 x23_1))).setCell ⟨go17, ((rd x6_19 x23_1) : Int).toNat, none⟩ (.int .i64 x23_1)) w.heap.size (fun k_ => some k_ ≠ (.slice (some ⟨go17, 0, none⟩) y115.length co17 : Value).ownBlock) (.slice (some ⟨go19, 0, none⟩) x6_19.length co19) x6_19) := ⟨by (with_reducible repeat (first | apply Kd.R_alloc | apply Kd.R_drewN | apply Kd.R_drew)); exact Kd.R_mono (Kd.R_far (p := ⟨go17, ((rd x6_19 x23_1) : Int).toNat, none⟩) (Kd.R_far (p := ⟨go17, (x23_1 : Int).toNat, none⟩) (Kd.R_mono HO_6.out (fun k_ hk => (⟨hk, fun e_ => hk (by rw [e_]; rfl)⟩ : _ ∧ k_ ≠ go17))) (fun _ hk => hk.2) (.int .i64 (rd x6_19 x23_1))) (fun _ hk => hk.2) (.int .i64 x23_1)) (fun _ hk => hk.1)⟩
       have n2_ : Aside0 (Kd.R k64 64 ((w73.setCell ⟨go17, (x23_1 : Int).toNat, none⟩ (.int .i64 (rd x6_19 x23_1))).setCell ⟨go17, ((rd x6_19 x23_1) : Int).toNat, none⟩ (.int .i64 x23_1)) w.heap.size (fun _ => True) (.slice (some ad127) x7_1.length co28) x7_1) := ⟨by (with_reducible repeat (first | apply Kd.R_alloc | apply Kd.R_drewN | apply Kd.R_drew)); exact Kd.R_mono (Kd.R_far (p := ⟨go17, ((rd x6_19 x23_1) : Int).toNat, none⟩) (Kd.R_far (p := ⟨go17, (x23_1 : Int).toNat, none⟩) (Kd.R_types HO_7.out (Kd.R_typed HO_5.out _ rfl).choose_spec (by decide)) (fun _ hk => hk.2) (.int .i64 (rd x6_19 x23_1))) (fun _ hk => hk.2) (.int .i64 x23_1)) (fun _ hk => trivial)⟩
       have n3_ : Aside0 (((w73.setCell ⟨go17, (x23_1 : Int).toNat, none⟩ (.int .i64 (rd x6_19 x23_1))).setCell ⟨go17, ((rd x6_19 x23_1) : Int).toNat, none⟩ (.int .i64 x23_1)).heap[gb114]? = some (.cells #[.int .i64 ((rd_T37 l0 x23_1).f0), .int .i64 ((rd_T37 l0 x23_1).f1), .int .i64 ((rd_T37 l0 x23_1).f2)] 37 (0, 0))) := ⟨by (with_reducible repeat (first | refine blk_drewN ?_ _ | refine blk_drew ?_ | refine blk_alloc ?_ _)); refine blk_far ?_ (by have h_ := Kd.R_ne HO_5.out BK114.out (by decide); intro e_; exact h_ (by rw [e_]; rfl)) _; (with_reducible repeat (first | refine blk_drewN ?_ _ | refine blk_drew ?_ | refine blk_alloc ?_ _)); refine blk_far ?_ (by have h_ := Kd.R_ne HO_5.out BK114.out (by decide); intro e_; exact h_ (by rw [e_]; rfl)) _; (with_reducible repeat (first | refine blk_drewN ?_ _ | refine blk_drew ?_ | refine blk_alloc ?_ _)); exact BK114.out⟩
       have n4_ : Aside0 (((w73.setCell ⟨go17, (x23_1 : Int).toNat, none⟩ (.int .i64 (rd x6_19 x23_1))).setCell ⟨go17, ((rd x6_19 x23_1) : Int).toNat, none⟩ (.int .i64 x23_1)).heap[gb123]? = some (.cells #[.int .i64 t119, .int .i64 t120, .int .i64 t121] 37 (0, 0))) := ⟨by (with_reducible repeat (first | refine blk_drewN ?_ _ | refine blk_drew ?_ | refine blk_alloc ?_ _)); refine blk_far ?_ (by have h_ := Kd.R_ne HO_5.out BK123.out (by decide); intro e_; exact h_ (by rw [e_]; rfl)) _; (with_reducible repeat (first | refine blk_drewN ?_ _ | refine blk_drew ?_ | refine blk_alloc ?_ _)); refine blk_far ?_ (by have h_ := Kd.R_ne HO_5.out BK123.out (by decide); intro e_; exact h_ (by rw [e_]; rfl)) _; (with_reducible repeat (first | refine blk_drewN ?_ _ | refine blk_drew ?_ | refine blk_alloc ?_ _)); exact BK123.out⟩
       have n5_ : Aside0 (Below w.heap.size w ((w73.setCell ⟨go17, (x23_1 : Int).toNat, none⟩ (.int .i64 (rd x6_19 x23_1))).setCell ⟨go17, ((rd x6_19 x23_1) : Int).toNat, none⟩ (.int .i64 x23_1))) := ⟨by repeat (first | (with_reducible first | exact HB.out | apply below_alloc | apply pw_below_drewN | apply below_drew1 | refine below_set ?_ GB17.out | refine below_set ?_ GB17.out | refine below_set ?_ GE114.out | refine below_set ?_ GE123.out) | exact HB.out)⟩
       (try clear HO_5)
       (try clear HO_6)
       (try clear HO_7)
       (try clear BK114)
       (try clear BK123)
       (try clear HB)
       generalize ((w73.setCell ⟨go17, (x23_1 : Int).toNat, none⟩ (.int .i64 (rd x6_19 x23_1))).setCell ⟨go17, ((rd x6_19 x23_1) : Int).toNat, none⟩ (.int .i64 x23_1)) = w76 at n0_ n1_ n2_ n3_ n4_ n5_ ⊢
       have HO_5 := n0_
       have HO_6 := n1_
       have HO_7 := n2_
       have BK114 := n3_
       have BK123 := n4_
       have HB := n5_
       clear n0_ n1_ n2_ n3_ n4_ n5_
       have q77 : ((ji59) : Int) ≤ ((x7_1.length : Int) : Int) := of_decide_eq_true as_
       obtain ⟨i077, hi077, _, hsz77, _⟩ := info_parts info64
       have hcut77 := cut_to (P := Try.prog) 62 64 .i64 Try.underlying62 hi077 (some ad127) x7_1.length co28 (ji59) (of_decide_eq_true as_) q77 (Kd.R_reads' HO_7.out).2.1
       have hr77 := Kd.R_take (m := ((ji59) : Int).toNat) HO_7.out (by omega)
       have hy77 : y132.length = ((ji59) : Int).toNat := (by rw [Ny132.out, List.length_take]; omega)
       rw [← Ny132.out] at hr77
       rw [← hy77] at hr77 hcut77
       clear hy77 hi077 hsz77 HO_7
       have HO134 := Aside0.mk hr77
       clear hr77
       replace q77 := eq_true q77
       try go_wp2_with (first | (with_reducible refine wp_label ?_) | ((with_reducible refine wp_scope_plain ?hgs_ ?_); (case hgs_ => exact fun _ _ _ h => h)))
       (try simp only [← hl5_19, ← hl6_19])
       go_roundg kj44
       case measure => have := HK1.out; have := HJ19.out; have := HJ44.out; omega
       case rel => exact ⟨(y131), (x6_19), (y132), (wrap64 (x23_1 + 1)), (by first | rfl | (simp; done) | (simp [*]; done)), H', ⟨by have := HK1.out; have := HJ19.out; have := HJ44.out; omega⟩, ⟨by (try simp only [hl5_19]); (try simp only [hl6_19]); (with_reducible repeat (first | apply Kd.R_alloc | apply Kd.R_drewN | apply Kd.R_drew)); exact HO_5.out⟩, ⟨by (try simp only [hl5_19]); (try simp only [hl6_19]); (with_reducible repeat (first | apply Kd.R_alloc | apply Kd.R_drewN | apply Kd.R_drew)); exact HO_6.out⟩, ⟨by (try simp only [hl5_19]); (try simp only [hl6_19]); (with_reducible repeat (first | apply Kd.R_alloc | apply Kd.R_drewN | apply Kd.R_drew)); exact HO134.out⟩, ⟨by repeat (first | (with_reducible first | exact HB.out | apply below_alloc | apply pw_below_drewN | apply below_drew1 | refine below_set ?_ GE114.out | refine below_set ?_ GE123.out) | exact HB.out | exact Below.refl _ _)⟩⟩

end Go.Proofs.Ytdhlhbhclggheaa.D
