-- Written by a program of this session (wip/tools: patched print) for this claim. Not trusted: Lean checks it.
import Derived.Test.YtdhlhbhclggheaaQx0
import Derived.Test.YtdhlhbhclggheaaQx5
import Derived.Test.YtdhlhbhclggheaaQx7
import Derived.Test.YtdhlhbhclggheaaQx8
import Derived.Test.YtdhlhbhclggheaaQx9
import Derived.Test.YtdhlhbhclggheaaQx10
import Derived.Test.YtdhlhbhclggheaaQd
namespace Go.Proofs.Ytdhlhbhclggheaa.Q
open Go.RowKit Go.Proofs.Ytdhlhbhclggheaa.P Go.Proofs.Ytdhlhbhclggheaa.D Go.Proofs.YtdhlhbhclggheaaW.PrintWords Go.Proofs.YtdhlhbhclggheaaW.PrintLast Go.Proofs.YtdhlhbhclggheaaW.PrintMore
open List (setIfInBounds_toArray set_cons_zero set_cons_succ)
attribute [local go_sem] max2_int min2_int max_two min_two max_three min_three max_four min_four   -- for this text's walks alone
set_option linter.unusedVariables false
set_option linter.unusedSimpArgs false

def camshaftref07_Stacks.T14 : Bool × List (List Nat × List Nat) := (true, [([], []), ([], []), ([0, 1], [0, 1]), ([2], [2]), ([3], [3]), ([4], [4]), ([4], [4]), ([5, 6, 4], [4, 5, 6]), ([7, 4], [4, 7]), ([8, 4], [4, 8]), ([9, 4], [4, 9]), ([10, 4, 4], [4, 10]), ([11], [11]), ([11], [11]), ([12, 13, 11], [11, 12, 13]), ([14, 11], [11, 14]), ([11], [11]), ([11], [11]), ([11], [11]), ([17, 18, 11], [11, 17, 18]), ([19, 11], [11, 19]), ([16, 20, 11], [11, 16, 20]), ([21, 11], [11, 21]), ([15, 22, 11], [11, 15, 22]), ([11, 23, 4], [4, 11, 23]), ([4, 24], [4, 24])])
def camshaftref07_Stacks.B14 : List Nat := [0, 0, 3, 7, 15, 31, 31, 127, 255, 511, 1023, 2047, 4095, 4095, 16383, 32767, 4095, 4095, 4095, 397311, 921599, 2035711, 4132863, 8388607, 16777215, 33554431]
theorem camshaftref07_Stacks.tab14 : rtab .any (opsOf Try.f10 14) = camshaftref07_Stacks.T14 := by kernel_rfl
theorem camshaftref07_Stacks.bits14 : waitsOk camshaftref07_Stacks.T14.2 camshaftref07_Stacks.B14 = true := by kernel_rfl
def camshaftref07_Stacks.T16 : Bool × List (List Nat × List Nat) := (true, [([], []), ([], []), ([0, 1], [0, 1]), ([2], [2]), ([3], [3]), ([], []), ([], []), ([5, 6], [5, 6]), ([7], [7]), ([8], [8]), ([9], [9]), ([4, 10], [4, 10]), ([11, 9, 0, 1, 2, 3, 4, 5, 6, 7, 8, 9, 10, 11], [11])])
def camshaftref07_Stacks.B16 : List Nat := [0, 0, 3, 7, 15, 0, 0, 96, 224, 480, 992, 2047, 4095]
theorem camshaftref07_Stacks.tab16 : rtab .any (opsOf Try.f10 16) = camshaftref07_Stacks.T16 := by kernel_rfl
theorem camshaftref07_Stacks.bits16 : waitsOk camshaftref07_Stacks.T16.2 camshaftref07_Stacks.B16 = true := by kernel_rfl
def camshaftref07_Stacks.T22 : Bool × List (List Nat × List Nat) := (true, [([], []), ([], []), ([0, 1], [0, 1]), ([2], [2]), ([], []), ([3, 4], [3, 4]), ([], []), ([], []), ([6, 7], [6, 7]), ([8], [8]), ([], []), ([9, 10], [9, 10]), ([5, 11], [5, 11]), ([12, 11, 0, 1, 2, 3, 4, 5, 6, 7, 8, 9, 10, 11, 12], [12])])
def camshaftref07_Stacks.B22 : List Nat := [0, 0, 3, 7, 0, 31, 0, 0, 192, 448, 0, 1984, 4095, 8191]
theorem camshaftref07_Stacks.tab22 : rtab .any (opsOf Try.f10 22) = camshaftref07_Stacks.T22 := by kernel_rfl
theorem camshaftref07_Stacks.bits22 : waitsOk camshaftref07_Stacks.T22.2 camshaftref07_Stacks.B22 = true := by kernel_rfl
def camshaftref07_Stacks.T29 : Bool × List (List Nat × List Nat) := (true, [([], []), ([], []), ([], []), ([1, 2], [1, 2]), ([3], [3]), ([], []), ([], []), ([], []), ([6, 7], [6, 7]), ([8], [8]), ([5, 9], [5, 9]), ([10], [10]), ([11], [11]), ([12], [12]), ([12], [12]), ([12], [12]), ([14, 15, 12], [12, 14, 15]), ([16, 12], [12, 16]), ([13, 17, 12], [12, 13, 17]), ([18, 12], [12, 18]), ([19, 12, 12], [12, 19]), ([20], [20]), ([20], [20]), ([20], [20]), ([22, 23, 20], [20, 22, 23]), ([24, 20], [20, 24]), ([21, 25, 20], [20, 21, 25]), ([26, 20], [20, 26]), ([20], [20]), ([27, 28, 20], [20, 27, 28]), ([20, 29, 12], [12, 20, 29]), ([12, 30], [12, 30]), ([0, 4, 0, 1, 2, 3, 4, 5, 6, 7, 8, 9, 10, 11, 12, 13, 14, 15, 16, 17, 18, 19, 20, 21, 22, 23, 24, 25, 26, 27, 28, 29, 30, 31], [0, 4]), ([32, 31, 20, 0, 1, 2, 3, 4, 5, 6, 7, 8, 9, 10, 11, 12, 13, 14, 15, 16, 17, 18, 19, 20, 21, 22, 23, 24, 25, 26, 27, 28, 29, 30, 31], [31, 32])])
def camshaftref07_Stacks.B29 : List Nat := [0, 0, 0, 6, 14, 0, 0, 0, 192, 448, 992, 2016, 4064, 8160, 8160, 8160, 57312, 122848, 262112, 524256, 1048544, 2097120, 2097120, 2097120, 14680032, 31457248, 67108832, 134217696, 2097120, 536870880, 1073741792, 2147483616, 4294967295, 8589934591]
theorem camshaftref07_Stacks.tab29 : rtab .any (opsOf Try.f10 29) = camshaftref07_Stacks.T29 := by kernel_rfl
theorem camshaftref07_Stacks.bits29 : waitsOk camshaftref07_Stacks.T29.2 camshaftref07_Stacks.B29 = true := by kernel_rfl
set_option maxHeartbeats 8000000 in
set_option maxRecDepth 100000 in
theorem camshaftref07_Stacks.calls (k : Nat) (A0 : Option Addr) (c0 : Nat) (l0 : List (S37)) (r1 : List ByteArray) (r2 : Int) (w : World) (hr0 : Kd.C k37 w A0 l0.length l0) (hc0 : l0.length ≤ c0) (h : camshaftref07_Stacks.f k l0 = some (r1, r2)) :
  Calls Try.prog 10 #[.slice A0 l0.length c0] w fun e w' => ∃ v0_ : Value, e = .returned (.tuple #[v0_, .int .i64 r2]) ∧ Kd.R Kd.string 9 w' w.heap.size (fun _ => True) v0_ r1 ∧ Below w.heap.size w w' := by
 have hu37 := Try.underlying37
 have HR0 := Aside0.mk hr0
 have HC0 := Aside0.mk hc0
 clear hr0 hc0
 have HB := Aside0.mk (Below.refl w.heap.size w)
 have H : ((camshaftref06_Whole.f k l0).bind fun t232 => (if t232 = 0 then ((camshaftref06_Match.f k l0).bind fun bt233 => (if 0 ≤ (l0.length : Int) then (if ((l0.length : Int) : Int).toNat ≤ 17592186044416 then (if ((l0.length : Int) : Int).toNat ≤ 281474976710656 then ((some (List.replicate ((l0.length : Int) : Int).toNat false : List Bool)).bind fun y240 => (if 0 < (y240.length : Int) then (camshaftref07_Stacks.l0 k l0 bt233.1 (List.replicate ((l0.length : Int) : Int).toNat (⟨#[]⟩ : ByteArray)) (y240.set (0 : Int).toNat true) (List.replicate ((l0.length : Int) : Int).toNat false) 0) else (none))) else (none)) else (none)) else (none))) else (some (([] : List ByteArray), t232)))) = some (r1, r2) := h
 clear h
 replace H := Option.bind_eq_some_iff.mp H
 obtain ⟨t232, A20, H⟩ := H
 replace H : (if t232 = 0 then ((camshaftref06_Match.f k l0).bind fun bt233 => (if 0 ≤ (l0.length : Int) then (if ((l0.length : Int) : Int).toNat ≤ 17592186044416 then (if ((l0.length : Int) : Int).toNat ≤ 281474976710656 then ((some (List.replicate ((l0.length : Int) : Int).toNat false : List Bool)).bind fun y240 => (if 0 < (y240.length : Int) then (camshaftref07_Stacks.l0 k l0 bt233.1 (List.replicate ((l0.length : Int) : Int).toNat (⟨#[]⟩ : ByteArray)) (y240.set (0 : Int).toNat true) (List.replicate ((l0.length : Int) : Int).toNat false) 0) else (none))) else (none)) else (none)) else (none))) else (some (([] : List ByteArray), t232))) = some (r1, r2) := H
 have A2 := Aside0.mk A20
 clear A20
 by_cases c3 : t232 = 0
 rotate_left
 ·rw [if_neg c3] at H
  have c3b0 : (t232 == 0) = false := beq_eq_false_iff_ne.mpr c3
  have c3b1 : (t232 != 0) = true := bne_iff_ne.mpr c3
  simp only [Option.some.injEq, Prod.mk.injEq] at H
  obtain ⟨rfl, rfl⟩ := H
  go_enter Try.func10, Try.ntmps10
  go_wp2_with (first | ((with_reducible refine gate_callee (f := 20) rfl ?_); refine goesL_ (some 17) rfl rfl Try.func20 (by kernel_rfl) rfl #[.slice A0 l0.length c0] rfl am_ ?_; (with_reducible refine (camshaftref06_Whole.calls k _ _ l0 t232 _ ?side1 ?side2 A2.out).mono ?_); (case side1 => repeat (first | exact HR0.out | (with_reducible refine Kd.C_alloc ?_ _) | (with_reducible refine Kd.C_drewN ?_ _) | (with_reducible refine Kd.C_drew ?_))); (case side2 => exact HC0.out); rintro e w130 ⟨rfl, hb⟩; refine ⟨_, rfl, ?_⟩; have n0_ := Aside0.mk (below_step ab_ hb); clear HB; have HB := n0_; clear n0_; (try clear hb); (try clear hb2); (try clear hk); (try clear hi)))
  go_ret2
  exact ⟨_, by first | rfl | (simp [errW_none, errW_some] <;> rfl) | (simp [*, errW_none, errW_some] <;> rfl), by first | exact Kd.R_nil _ _ _ _ _ | exact Kd.N_nil _ _ _ _ _ | exact Kd.V_nil _ _ _ _ _ | exact Kd.Q_nil _ _ _ _ _ | exact Kd.S_nil _ _ _ _ _, by repeat (first | (with_reducible first | exact HB.out | apply below_alloc | apply pw_below_drewN | apply below_drew1) | exact HB.out | exact Below.refl _ _)⟩
 rw [if_pos c3] at H
 have c3b0 : (t232 == 0) = true := beq_iff_eq.mpr c3
 have c3b1 : (t232 != 0) = false := bne_eq_false_iff_eq.mpr c3
 clear c3
 replace H := Option.bind_eq_some_iff.mp H
 obtain ⟨⟨t233, t234⟩, A40, H⟩ := H
 replace H : (if 0 ≤ (l0.length : Int) then (if ((l0.length : Int) : Int).toNat ≤ 17592186044416 then (if ((l0.length : Int) : Int).toNat ≤ 281474976710656 then ((some (List.replicate ((l0.length : Int) : Int).toNat false : List Bool)).bind fun y240 => (if 0 < (y240.length : Int) then (camshaftref07_Stacks.l0 k l0 t233 (List.replicate ((l0.length : Int) : Int).toNat (⟨#[]⟩ : ByteArray)) (y240.set (0 : Int).toNat true) (List.replicate ((l0.length : Int) : Int).toNat false) 0) else (none))) else (none)) else (none)) else (none)) = some (r1, r2) := H
 have A4 := Aside0.mk A40
 clear A40
 by_cases c5 : 0 ≤ (l0.length : Int)
 rotate_left
 ·rw [if_neg c5] at H
  exact absurd H (by simp)
 rw [if_pos c5] at H
 have c5b0 := eq_true c5
 have c5b1 : decide (0 ≤ (l0.length : Int)) = true := decide_eq_true c5
 clear c5
 by_cases c6 : ((l0.length : Int) : Int).toNat ≤ 17592186044416
 rotate_left
 ·rw [if_neg c6] at H
  exact absurd H (by simp)
 rw [if_pos c6] at H
 have c6b0 := eq_true c6
 have c6b1 : decide (((l0.length : Int) : Int).toNat ≤ 17592186044416) = true := decide_eq_true c6
 clear c6
 obtain ⟨y237, hy237⟩ : ∃ y_ : List ByteArray, y_ = (List.replicate ((l0.length : Int) : Int).toNat (⟨#[]⟩ : ByteArray)) := ⟨_, rfl⟩
 replace H : (if ((l0.length : Int) : Int).toNat ≤ 281474976710656 then ((some (List.replicate ((l0.length : Int) : Int).toNat false : List Bool)).bind fun y240 => (if 0 < (y240.length : Int) then (camshaftref07_Stacks.l0 k l0 t233 y237 (y240.set (0 : Int).toNat true) (List.replicate ((l0.length : Int) : Int).toNat false) 0) else (none))) else (none)) = some (r1, r2) := by first | (rw [hy237]; with_reducible exact H) | (have H2_ := (Option.bind_some _ _).symm.trans H; rw [hy237]; with_reducible exact H2_) | (have H2_ := (Option.bind_some _ _).symm.trans H; with_reducible exact H2_) | with_reducible exact H | (rw [hy237]; exact H) | exact H
 have Ny237 := Aside0.mk hy237
 clear hy237
 by_cases c7 : ((l0.length : Int) : Int).toNat ≤ 281474976710656
 rotate_left
 ·rw [if_neg c7] at H
  exact absurd H (by simp)
 rw [if_pos c7] at H
 have c7b0 := eq_true c7
 have c7b1 : decide (((l0.length : Int) : Int).toNat ≤ 281474976710656) = true := decide_eq_true c7
 clear c7
 obtain ⟨y240, hy240⟩ : ∃ y_ : List Bool, y_ = (List.replicate ((l0.length : Int) : Int).toNat false) := ⟨_, rfl⟩
 replace H : (if 0 < (y240.length : Int) then (camshaftref07_Stacks.l0 k l0 t233 y237 (y240.set (0 : Int).toNat true) (List.replicate ((l0.length : Int) : Int).toNat false) 0) else (none)) = some (r1, r2) := by first | (rw [hy240]; with_reducible exact H) | (have H2_ := (Option.bind_some _ _).symm.trans H; rw [hy240]; with_reducible exact H2_) | (have H2_ := (Option.bind_some _ _).symm.trans H; with_reducible exact H2_) | with_reducible exact H | (rw [hy240]; exact H) | exact H
 have Ny240 := Aside0.mk hy240
 clear hy240
 obtain ⟨y243, hy243⟩ : ∃ y_ : List Bool, y_ = (List.replicate ((l0.length : Int) : Int).toNat false) := ⟨_, rfl⟩
 replace H : (if 0 < (y240.length : Int) then (camshaftref07_Stacks.l0 k l0 t233 y237 (y240.set (0 : Int).toNat true) y243 0) else (none)) = some (r1, r2) := by first | (rw [hy243]; with_reducible exact H) | (have H2_ := (Option.bind_some _ _).symm.trans H; rw [hy243]; with_reducible exact H2_) | (have H2_ := (Option.bind_some _ _).symm.trans H; with_reducible exact H2_) | with_reducible exact H | (rw [hy243]; exact H) | exact H
 have Ny243 := Aside0.mk hy243
 clear hy243
 by_cases c8 : 0 < (y240.length : Int)
 rotate_left
 ·rw [if_neg c8] at H
  exact absurd H (by simp)
 rw [if_pos c8] at H
 have c8b0 : decide (0 < (y240.length : Int)) = true := decide_eq_true c8
 have c8b1 : decide (0 < y240.length) = true := decide_eq_true (by omega)
 clear c8
 obtain ⟨y246, hy246⟩ : ∃ y_ : List Bool, y_ = (y240.set (0 : Int).toNat true) := ⟨_, rfl⟩
 replace H : (camshaftref07_Stacks.l0 k l0 t233 y237 y246 y243 0) = some (r1, r2) := by first | (rw [hy246]; with_reducible exact H) | (have H2_ := (Option.bind_some _ _).symm.trans H; rw [hy246]; with_reducible exact H2_) | (have H2_ := (Option.bind_some _ _).symm.trans H; with_reducible exact H2_) | with_reducible exact H | (rw [hy246]; exact H) | exact H
 have Ny246 := Aside0.mk hy246
 clear hy246
 have H' := Aside0.mk H
 clear H
 go_enter Try.func10, Try.ntmps10
 go_wp2_with (first | ((with_reducible refine gate_callee (f := 20) rfl ?_); refine goesL_ (some 17) rfl rfl Try.func20 (by kernel_rfl) rfl #[.slice A0 l0.length c0] rfl am_ ?_; (with_reducible refine (camshaftref06_Whole.calls k _ _ l0 t232 _ ?side1 ?side2 A2.out).mono ?_); (case side1 => repeat (first | exact HR0.out | (with_reducible refine Kd.C_alloc ?_ _) | (with_reducible refine Kd.C_drewN ?_ _) | (with_reducible refine Kd.C_drew ?_))); (case side2 => exact HC0.out); rintro e w10 ⟨rfl, hb⟩; refine ⟨_, rfl, ?_⟩; have n0_ := Aside0.mk (below_step ab_ hb); clear HB; have HB := n0_; clear n0_; (try clear hb); (try clear hb2); (try clear hk); (try clear hi)) | ((with_reducible refine gate_callee (f := 21) rfl ?_); refine goesL_ (some 23) rfl rfl Try.func21 (by kernel_rfl) rfl #[.slice A0 l0.length c0] rfl am_ ?_; (with_reducible refine (camshaftref06_Match.calls k _ _ l0 t233 t234 _ ?side1 ?side2 A4.out).mono ?_); (case side1 => repeat (first | exact (Kd.C_below HR0.out HB.out) | (with_reducible refine Kd.C_alloc ?_ _) | (with_reducible refine Kd.C_drewN ?_ _) | (with_reducible refine Kd.C_drew ?_))); (case side2 => exact HC0.out); rintro e w11 ⟨v235, rfl, ho0, hb⟩; refine ⟨_, rfl, ?_⟩; have n0_ := Aside0.mk (Kd.R_lower ho0 (below_size ab_)); have n1_ := Aside0.mk (below_step ab_ hb); clear HB; have HO236 := n0_; have HB := n1_; clear n0_ n1_; (try clear hb); (try clear hb2); (try clear hk); (try clear hi); (try clear ho0)) | ((with_reducible refine gate_dst (N := 28) rfl ?_); refine Kd.R_make Kd.string _ 9 rfl (N := 28) rfl 24 _ _ rfl (l0.length : Int) rfl rfl Try.underlying24 (.string ⟨#[]⟩) 16 info9 rfl (by decide) (by omega) (⟨#[]⟩ : ByteArray) (ok := fun _ => True) (okp := fun _ => True) rfl (fun _ hk => hk) trivial (of_decide_eq_true as_) (Nat.le_trans (Nat.mul_le_mul_right _ (of_decide_eq_true as_ : (l0.length : Int).toNat ≤ 17592186044416)) (by omega)) (Below.refl _ _) (Nat.le_refl _) ?_; intro v238 w12 ho13 hb hg_ hnew_; clear hg_ hnew_; (first | rw [← Ny237.out] at ho13 | (simp only [Int.reduceToNat] at ho13; rw [← Ny237.out] at ho13)); have n0_ := Aside0.mk (Kd.R_below (by (with_reducible repeat (first | apply Kd.R_alloc | apply Kd.R_drewN | apply Kd.R_drew)); exact HO236.out) hb); have n1_ := Aside0.mk (Kd.R_lower ho13 (below_size ab_)); have n2_ := Aside0.mk (below_step ab_ hb); clear HO236; clear HB; have HO236 := n0_; have HO239 := n1_; have HB := n2_; clear n0_ n1_ n2_; clear hb ho13) | ((with_reducible refine gate_dst (N := 31) rfl ?_); refine Kd.R_make Kd.bool _ 4 rfl (N := 31) rfl 40 _ _ rfl (l0.length : Int) rfl rfl Try.underlying40 (.bool false) 1 info4 rfl (by decide) (by omega) false (ok := fun _ => True) (okp := fun _ => True) rfl (fun _ hk => hk) trivial (of_decide_eq_true as_) (Nat.le_trans (Nat.mul_le_mul_right _ (of_decide_eq_true as_ : (l0.length : Int).toNat ≤ 281474976710656)) (by omega)) (Below.refl _ _) (Nat.le_refl _) ?_; intro v241 w14 ho15 hb hg_ hnew_; clear hg_ hnew_; (first | rw [← Ny240.out] at ho15 | (simp only [Int.reduceToNat] at ho15; rw [← Ny240.out] at ho15)); have n0_ := Aside0.mk (Kd.R_below (by (with_reducible repeat (first | apply Kd.R_alloc | apply Kd.R_drewN | apply Kd.R_drew)); exact HO236.out) hb); have n1_ := Aside0.mk (Kd.R_below (by (with_reducible repeat (first | apply Kd.R_alloc | apply Kd.R_drewN | apply Kd.R_drew)); exact HO239.out) hb); have n2_ := Aside0.mk (Kd.R_lower ho15 (below_size ab_)); have n3_ := Aside0.mk (below_step ab_ hb); clear HO236; clear HO239; clear HB; have HO236 := n0_; have HO239 := n1_; have HO242 := n2_; have HB := n3_; clear n0_ n1_ n2_ n3_; clear hb ho15) | ((with_reducible refine gate_dst (N := 34) rfl ?_); refine Kd.R_make Kd.bool _ 4 rfl (N := 34) rfl 40 _ _ rfl (l0.length : Int) rfl rfl Try.underlying40 (.bool false) 1 info4 rfl (by decide) (by omega) false (ok := fun _ => True) (okp := fun _ => True) rfl (fun _ hk => hk) trivial (of_decide_eq_true as_) (Nat.le_trans (Nat.mul_le_mul_right _ (of_decide_eq_true as_ : (l0.length : Int).toNat ≤ 281474976710656)) (by omega)) (Below.refl _ _) (Nat.le_refl _) ?_; intro v244 w16 ho17 hb hg_ hnew_; clear hg_ hnew_; (first | rw [← Ny243.out] at ho17 | (simp only [Int.reduceToNat] at ho17; rw [← Ny243.out] at ho17)); have n0_ := Aside0.mk (Kd.R_below (by (with_reducible repeat (first | apply Kd.R_alloc | apply Kd.R_drewN | apply Kd.R_drew)); exact HO236.out) hb); have n1_ := Aside0.mk (Kd.R_below (by (with_reducible repeat (first | apply Kd.R_alloc | apply Kd.R_drewN | apply Kd.R_drew)); exact HO239.out) hb); have n2_ := Aside0.mk (Kd.R_elder' (by (with_reducible repeat (first | apply Kd.R_alloc | apply Kd.R_drewN | apply Kd.R_drew)); exact HO242.out) (Kd.R_base ho17) hb); have n3_ := Aside0.mk (Kd.R_lower (Kd.R_new' ho17 (Kd.R_lt (by (with_reducible repeat (first | apply Kd.R_alloc | apply Kd.R_drewN | apply Kd.R_drew)); exact HO242.out))) (below_size ab_)); have n4_ := Aside0.mk (below_step ab_ hb); clear HO236; clear HO239; clear HO242; clear HB; have HO236 := n0_; have HO239 := n1_; have HO242 := n2_; have HO245 := n3_; have HB := n4_; clear n0_ n1_ n2_ n3_ n4_; clear hb ho17; have p9 : 0 ≤ (0 : Int) := (by omega); have q9 : (0 : Int) < ((y240.length : Int) : Int) := of_decide_eq_true as_; have qi9 : (0 < y240.length) = True := eq_true (by omega); obtain ⟨go9, co9, eo9, gb9, gl9, cl9, HG9⟩ := Kd.R_form HO242.out (by omega); (first | cases eo9 | (injection eo9 with ea_ en_ ec_; (first | subst ea_ | (injection ea_ with ea_; subst ea_)); subst ec_; clear en_)); have GB9 := Aside0.mk gb9; have GG9 := Aside0.mk HG9; clear gb9 gl9 HG9; obtain ⟨hx9_0, hf9_0⟩ := Kd.R_celln false HO242.out (0 : Int) p9 q9; (try rw [show ((0 : Int)).toNat = 0 from rfl] at hx9_0); (try simp only [Nat.reduceMul, Nat.zero_mul, Nat.zero_add, Nat.reduceAdd] at hx9_0); (try rw [show ((0 : Int)).toNat = 0 from rfl] at hf9_0); (try simp only [Nat.reduceMul, Nat.zero_mul, Nat.zero_add, Nat.reduceAdd] at hf9_0); replace p9 := eq_true p9; replace q9 := eq_true q9; have n_ := Aside0.mk (Kd.R_mono (ok' := (fun k_ => some k_ ≠ (v244 : Value).ownBlock)) HO242.out (fun k_ hk => hk.2)); clear HO242; have HO242 := n_; clear n_; obtain ⟨hy18_, hz18_⟩ := Kd.R_celln false HO242.out (0 : Int) (by omega) (of_decide_eq_true as_); (try simp only [Int.reduceToNat, Int.toNat_zero, Int.toNat_ofNat, Nat.reduceMul, Nat.zero_mul, Nat.zero_add] at hy18_ hz18_); (try rw [show ((0 : Int)).toNat = 0 from rfl] at hy18_); (try rw [show ((0 : Int)).toNat = 0 from rfl] at hz18_); have HP18 := Kd.R_putg HO242.out (0 : Int) true) | ((with_reducible refine gate_store (t := 4) (p := 36) rfl ?_); refine store_event (t := 4) (p := 36) (v := ?vo_w19) (w1 := (w16.setCell ⟨go9, (0 : Int).toNat, none⟩ (.bool true))) ?hg ?ho ?hn ?hr ?_; (case ho => rfl); (case hg => rfl); (case hn => rfl); (case hr => first | (go_simp; done) | (go_simp; rfl)); intro w19 hw; have hg : w16.grownBy w19 (some go9) := (by rw [hw]; exact HP18.2); have hp_ : Kd.R Kd.bool 4 w19 w.heap.size (fun k_ => some k_ ≠ (v244 : Value).ownBlock) (.slice (some ⟨go9, 0, none⟩) y240.length co9) y246 := (by rw [hw, Ny246.out]; exact HP18.1); clear HP18; have n0_ := Aside0.mk (Kd.R_over' (v := (.slice (some ⟨go9, 0, none⟩) y240.length co9)) (by (with_reducible repeat (first | apply Kd.R_alloc | apply Kd.R_drewN | apply Kd.R_drew)); exact HO236.out) (Kd.R_typed HO242.out) (by decide) hg); have n1_ := Aside0.mk (Kd.R_over' (v := (.slice (some ⟨go9, 0, none⟩) y240.length co9)) (by (with_reducible repeat (first | apply Kd.R_alloc | apply Kd.R_drewN | apply Kd.R_drew)); exact HO239.out) (Kd.R_typed HO242.out) (by decide) hg); have n2_ := Aside0.mk (hp_); have n3_ := Aside0.mk (Kd.R_after (v := (.slice (some ⟨go9, 0, none⟩) y240.length co9)) (v1 := (.slice (some ⟨go9, 0, none⟩) y240.length co9)) (ok := (fun _ => True)) (by (with_reducible repeat (first | apply Kd.R_alloc | apply Kd.R_drewN | apply Kd.R_drew)); exact HO245.out) hg (.inl rfl)); have n4_ := Aside0.mk ((by rw [hw]; exact below_set (HB.out) GB9.out : Below w.heap.size w w19)); clear HO236; clear HO239; clear HO242; clear HO245; clear HB; have HO236 := n0_; have HO239 := n1_; have HO242 := n2_; have HO245 := n3_; have HB := n4_; clear n0_ n1_ n2_ n3_ n4_; clear hg hw hp_))
 go_loopg [10] k (fun kq v10 w' => ∃ (x7_1 : List ByteArray) (x8_1 : List Bool) (x9_1 : List Bool) (x10_1 : Int), v10 = .int .i64 x10_1 ∧ Aside0 (camshaftref07_Stacks.l0 kq l0 t233 x7_1 x8_1 x9_1 x10_1 = some (r1, r2)) ∧ Aside0 (kq ≤ k) ∧ Aside0 (Kd.R (Kd.int .i64) 3 w' w.heap.size (fun _ => True) v235 t233) ∧ Aside0 (Kd.R Kd.string 9 w' w.heap.size (fun _ => True) v238 x7_1) ∧ Aside0 (Kd.R Kd.bool 4 w' w.heap.size (fun k_ => some k_ ≠ (v244 : Value).ownBlock) (.slice (some ⟨go9, 0, none⟩) y240.length co9) x8_1) ∧ Aside0 (Kd.R Kd.bool 4 w' w.heap.size (fun k_ => some k_ ≠ ((.slice (some ⟨go9, 0, none⟩) y240.length co9) : Value).ownBlock) v244 x9_1) ∧ Aside0 (Below w.heap.size w w'))
 case atStart => exact ⟨(y237), (y246), (y243), (0), (by first | rfl | (simp; done) | (simp [*]; done)), H', ⟨Nat.le_refl _⟩, ⟨by (with_reducible repeat (first | apply Kd.R_alloc | apply Kd.R_drewN | apply Kd.R_drew)); exact HO236.out⟩, ⟨by (with_reducible repeat (first | apply Kd.R_alloc | apply Kd.R_drewN | apply Kd.R_drew)); exact HO239.out⟩, ⟨by (with_reducible repeat (first | apply Kd.R_alloc | apply Kd.R_drewN | apply Kd.R_drew)); exact HO242.out⟩, ⟨by (with_reducible repeat (first | apply Kd.R_alloc | apply Kd.R_drewN | apply Kd.R_drew)); exact Kd.R_mono HO245.out (fun _ hk => hk.2)⟩, ⟨by repeat (first | (with_reducible first | exact HB.out | apply below_alloc | apply pw_below_drewN | apply below_drew1) | exact HB.out)⟩⟩
 case round =>
  clear H'
  try clear c1
  try clear c2
  try clear p2
  try clear c3
  try clear c3b0
  try clear c3b1
  try clear c5
  try clear c5b0
  try clear c5b1
  try clear c6
  try clear c6b0
  try clear c6b1
  try clear c7
  try clear c7b0
  try clear c7b1
  try clear c8
  try clear c8b0
  try clear c8b1
  try clear p9
  try clear q9
  try clear hx9
  try clear qi9
  try clear hf9
  try clear c10
  try clear hx9_0
  try clear p9
  try clear q9
  obtain ⟨x7_1, x8_1, x9_1, x10_1, rfl, HA, HK1, HO_5, HO_7, HO_8, HO_9, HB⟩ := hrel
  have hl8_1 := (Kd.R_reads' HO_8.out).1
  rw [hl8_1] at HO_8
  (try simp only [hl8_1])
  (try simp only [hl8_1] at HO_5)
  (try simp only [hl8_1] at HO_7)
  (try simp only [hl8_1] at HO_9)
  cases gk with
  | zero => exact absurd HA.out (by simp [camshaftref07_Stacks.l0])
  | succ k1 =>
   have H := HA.out
   clear HA
   simp only [camshaftref07_Stacks.l0] at H
   by_cases c20 : x10_1 < (l0.length : Int)
   rotate_left
   ·rw [if_neg c20] at H
    have c20b0 : decide (x10_1 < (l0.length : Int)) = false := decide_eq_false c20
    clear c20
    simp only [Option.some.injEq, Prod.mk.injEq] at H
    obtain ⟨rfl, rfl⟩ := H
    go_wp2
    go_ret2
    exact ⟨_, by first | rfl | (simp [errW_none, errW_some] <;> rfl) | (simp [*, errW_none, errW_some] <;> rfl), by (with_reducible repeat (first | apply Kd.R_alloc | apply Kd.R_drewN | apply Kd.R_drew)); exact HO_7.out, by repeat (first | (with_reducible first | exact HB.out | apply below_alloc | apply pw_below_drewN | apply below_drew1) | exact HB.out | exact Below.refl _ _)⟩
   rw [if_pos c20] at H
   have c20b0 : decide (x10_1 < (l0.length : Int)) = true := decide_eq_true c20
   clear c20
   by_cases c21 : 0 ≤ x10_1
   rotate_left
   ·rw [if_neg c21] at H
    exact absurd H (by simp)
   rw [if_pos c21] at H
   have c21b0 : decide (0 ≤ x10_1) = true := decide_eq_true c21
   clear c21
   by_cases c22 : x10_1 < (x8_1.length : Int)
   rotate_left
   ·rw [if_neg c22] at H
    exact absurd H (by simp)
   rw [if_pos c22] at H
   have c22b0 : decide (x10_1 < (x8_1.length : Int)) = true := decide_eq_true c22
   clear c22
   obtain ⟨bq23, hbq23⟩ : ∃ b_ : Bool, b_ = (rdOf false x8_1 x10_1) := ⟨_, rfl⟩
   replace H : (if bq23 = true then (if x10_1 < (x9_1.length : Int) then (if rdOf false x9_1 x10_1 = true then (camshaftref07_Stacks.j1 k1 l0 t233 x7_1 x8_1 x9_1 x10_1 true) else (if ((rd_T37 l0 x10_1).f0) = 22 then (if x10_1 < (x7_1.length : Int) then (if x10_1 < (t233.length : Int) then (if 0 ≤ (rd t233 x10_1) then (if (rd t233 x10_1) < (x7_1.length : Int) then (camshaftref07_Stacks.j1 k1 l0 t233 x7_1 x8_1 x9_1 x10_1 ((rdOf ByteArray.empty x7_1 x10_1).toList != (rdOf ByteArray.empty x7_1 (rd t233 x10_1)).toList)) else (none)) else (none)) else (none)) else (none)) else (camshaftref07_Stacks.j1 k1 l0 t233 x7_1 x8_1 x9_1 x10_1 false))) else (none)) else (some (([] : List ByteArray), 8))) = some (r1, r2) := by rw [← hbq23] at H; exact H
   have Nbq23 := Aside0.mk hbq23
   clear hbq23
   by_cases c24 : bq23 = true
   rotate_left
   ·replace c24 := Bool.eq_false_iff.mpr c24
    subst c24
    have H1 : (some (([] : List ByteArray), 8)) = some (r1, r2) := by rw [if_neg (show ¬ (false = true) by decide)] at H; exact H
    clear H
    have H := H1
    clear H1
    simp only [Option.some.injEq, Prod.mk.injEq] at H
    obtain ⟨rfl, rfl⟩ := H
    have p247 : 0 ≤ (x10_1 : Int) := of_decide_eq_true as_
    have q247 : x10_1 < (x8_1.length : Int) := of_decide_eq_true as_
    obtain ⟨ad247, e247, hx247_0⟩ := Kd.at_bool (Kd.R_reads' HO_8.out).2.2 x10_1 p247 q247
    (try rw [← Nbq23.out] at hx247_0)
    obtain rfl : (⟨go9, 0, none⟩ : Addr) = ad247 := (by injection e247)
    (first | simp only [add_plain] at hx247_0 | simp only [add_at] at hx247_0 | simp only [Addr.add, Nat.zero_add] at hx247_0 | skip)
    replace p247 := eq_true p247
    replace q247 := eq_true q247
    go_wp2
    go_ret2
    exact ⟨_, by first | rfl | (simp [errW_none, errW_some] <;> rfl) | (simp [*, errW_none, errW_some] <;> rfl), by first | exact Kd.R_nil _ _ _ _ _ | exact Kd.N_nil _ _ _ _ _ | exact Kd.V_nil _ _ _ _ _ | exact Kd.Q_nil _ _ _ _ _ | exact Kd.S_nil _ _ _ _ _, by repeat (first | (with_reducible first | exact HB.out | apply below_alloc | apply pw_below_drewN | apply below_drew1) | exact HB.out | exact Below.refl _ _)⟩
   subst c24
   have H1 : (if x10_1 < (x9_1.length : Int) then (if rdOf false x9_1 x10_1 = true then (camshaftref07_Stacks.j1 k1 l0 t233 x7_1 x8_1 x9_1 x10_1 true) else (if ((rd_T37 l0 x10_1).f0) = 22 then (if x10_1 < (x7_1.length : Int) then (if x10_1 < (t233.length : Int) then (if 0 ≤ (rd t233 x10_1) then (if (rd t233 x10_1) < (x7_1.length : Int) then (camshaftref07_Stacks.j1 k1 l0 t233 x7_1 x8_1 x9_1 x10_1 ((rdOf ByteArray.empty x7_1 x10_1).toList != (rdOf ByteArray.empty x7_1 (rd t233 x10_1)).toList)) else (none)) else (none)) else (none)) else (none)) else (camshaftref07_Stacks.j1 k1 l0 t233 x7_1 x8_1 x9_1 x10_1 false))) else (none)) = some (r1, r2) := by rw [if_pos rfl] at H; exact H
   clear H
   have H := H1
   clear H1
   have HC25 := Aside0.mk H
   clear H
   have p247 : 0 ≤ (x10_1 : Int) := of_decide_eq_true as_
   have q247 : x10_1 < (x8_1.length : Int) := of_decide_eq_true as_
   obtain ⟨ad247, e247, hx247_0⟩ := Kd.at_bool (Kd.R_reads' HO_8.out).2.2 x10_1 p247 q247
   (try rw [← Nbq23.out] at hx247_0)
   obtain rfl : (⟨go9, 0, none⟩ : Addr) = ad247 := (by injection e247)
   (first | simp only [add_plain] at hx247_0 | simp only [add_at] at hx247_0 | simp only [Addr.add, Nat.zero_add] at hx247_0 | skip)
   replace p247 := eq_true p247
   replace q247 := eq_true q247
   go_upto_region 14 with (fail)
   go_cut [73] (fun v73 wc => ∃ (kq : Nat) (x73_24 : Bool), v73 = .bool x73_24 ∧ Aside0 (camshaftref07_Stacks.j1 kq l0 t233 x7_1 x8_1 x9_1 x10_1 x73_24 = some (r1, r2)) ∧ Aside0 (kq ≤ k1) ∧ Aside0 (Kd.R (Kd.int .i64) 3 wc w.heap.size (fun _ => True) v235 t233) ∧ Aside0 (Kd.R Kd.string 9 wc w.heap.size (fun _ => True) v238 x7_1) ∧ Aside0 (Kd.R Kd.bool 4 wc w.heap.size (fun k_ => some k_ ≠ (v244 : Value).ownBlock) (.slice (some ⟨go9, 0, none⟩) x8_1.length co9) x8_1) ∧ Aside0 (Kd.R Kd.bool 4 wc w.heap.size (fun k_ => some k_ ≠ ((.slice (some ⟨go9, 0, none⟩) x8_1.length co9) : Value).ownBlock) v244 x9_1) ∧ Aside0 (Below w.heap.size w wc))
   case first =>
    have H := HC25.out
    clear HC25
    by_cases c26 : x10_1 < (x9_1.length : Int)
    rotate_left
    ·rw [if_neg c26] at H
     exact absurd H (by simp)
    rw [if_pos c26] at H
    have c26b0 : decide (x10_1 < (x9_1.length : Int)) = true := decide_eq_true c26
    clear c26
    (first | rw [c26b0] | (simp only [i64_w, i32_w]; rw [c26b0]) | rw [c26b1] | skip)
    obtain ⟨bq27, hbq27⟩ : ∃ b_ : Bool, b_ = (rdOf false x9_1 x10_1) := ⟨_, rfl⟩
    replace H : (if bq27 = true then (camshaftref07_Stacks.j1 k1 l0 t233 x7_1 x8_1 x9_1 x10_1 true) else (if ((rd_T37 l0 x10_1).f0) = 22 then (if x10_1 < (x7_1.length : Int) then (if x10_1 < (t233.length : Int) then (if 0 ≤ (rd t233 x10_1) then (if (rd t233 x10_1) < (x7_1.length : Int) then (camshaftref07_Stacks.j1 k1 l0 t233 x7_1 x8_1 x9_1 x10_1 ((rdOf ByteArray.empty x7_1 x10_1).toList != (rdOf ByteArray.empty x7_1 (rd t233 x10_1)).toList)) else (none)) else (none)) else (none)) else (none)) else (camshaftref07_Stacks.j1 k1 l0 t233 x7_1 x8_1 x9_1 x10_1 false))) = some (r1, r2) := by rw [← hbq27] at H; exact H
    have Nbq27 := Aside0.mk hbq27
    clear hbq27
    by_cases c28 : bq27 = true
    ·subst c28
     have H1 : (camshaftref07_Stacks.j1 k1 l0 t233 x7_1 x8_1 x9_1 x10_1 true) = some (r1, r2) := by rw [if_pos rfl] at H; exact H
     clear H
     have H := H1
     clear H1
     have H' := Aside0.mk H
     clear H
     try go_wp2
     have n0_ := Aside0.mk (Kd.R_drew HO_5.out)
     have n1_ := Aside0.mk (Kd.R_drew HO_7.out)
     have n2_ := Aside0.mk (Kd.R_drew HO_8.out)
     have n3_ := Aside0.mk (Kd.R_drew HO_9.out)
     have n4_ := Aside0.mk (below_drew1 HB.out)
     clear HO_5
     clear HO_7
     clear HO_8
     clear HO_9
     clear HB
     have HO_5 := n0_
     have HO_7 := n1_
     have HO_8 := n2_
     have HO_9 := n3_
     have HB := n4_
     clear n0_ n1_ n2_ n3_ n4_
     obtain ⟨Ao30, co30, eo30⟩ := Kd.R_slice HO_9.out
     (first | subst eo30 | (injection eo30 with f1_ f2_ f3_; have f4_ := f1_.symm; have f5_ := f3_.symm; clear f1_ f2_ f3_; subst f4_; subst f5_))
     have p248 : 0 ≤ (x10_1 : Int) := of_decide_eq_true as_
     have q248 : x10_1 < (x9_1.length : Int) := of_decide_eq_true as_
     obtain ⟨ad248, e248, hx248_0⟩ := Kd.at_bool (Kd.R_reads' HO_9.out).2.2 x10_1 p248 q248
     (try rw [← Nbq23.out] at hx248_0)
     (try rw [← Nbq27.out] at hx248_0)
     cases e248
     replace p248 := eq_true p248
     replace q248 := eq_true q248
     refine start_ (n := 26) (S := fun w' => w'.cell? (ad248.add (x10_1).toNat) = some (.bool true)) (ds := []) #[Z,Z,Z,Z,Z,Z,Z,Z,Z,Z,Z,Z,Z,Z,Z,Z,Z,Z,Z,Z,Z,Z,Z,Z,Z,Z] (by kernel_rfl) rfl rfl (hx248_0) (fun hHeld => ?_); refine with_tabW camshaftref07_Stacks.tab14 camshaftref07_Stacks.bits14 (fun HT_ HW_ => ?_)
     generalize wr.drew = w29 at HO_5 HO_7 HO_8 HO_9 HB hx248_0 hHeld ⊢
     refine pure_ (i := 0) (N := some 48) (v := ?_) (a' := ?_) #[Y,Z,Z,Z,Z,Z,Z,Z,Z,Z,Z,Z,Z,Z,Z,Z,Z,Z,Z,Z,Z,Z,Z,Z,Z,Z] rfl rfl (any_of HT_.out (by kernel_rfl)) (fun _ _ _ h => h) (Or.inl ⟨by rfl, ?_⟩) ?_ ?_
     rotate_left
     ·intro w'
      go_simp
      with_reducible rfl
     rotate_left
     ·exact ac_
     refine pure_ (i := 1) (N := some 49) (v := ?_) (a' := ?_) #[Y,Y,Z,Z,Z,Z,Z,Z,Z,Z,Z,Z,Z,Z,Z,Z,Z,Z,Z,Z,Z,Z,Z,Z,Z,Z] rfl rfl (any_of HT_.out (by kernel_rfl)) (fun _ _ _ h => h) (Or.inl ⟨by rfl, ?_⟩) ?_ ?_
     rotate_left
     ·intro w'
      go_simp
      with_reducible rfl
     rotate_left
     ·exact ac_
     refine pure_ (i := 2) (N := some 50) (v := ?_) (a' := ?_) #[Y,Y,Y,Z,Z,Z,Z,Z,Z,Z,Z,Z,Z,Z,Z,Z,Z,Z,Z,Z,Z,Z,Z,Z,Z,Z] rfl rfl (any_of HT_.out (by kernel_rfl)) (fun _ _ _ h => h) (Or.inl ⟨by rfl, ?_⟩) ?_ ?_
     rotate_left
     ·intro w'
      go_simp
      with_reducible rfl
     rotate_left
     ·exact ac_
     refine take_ (i := 3) (N := some 51) (v := ?_) (a' := ?_) #[Y,Y,Y,Y,Z,Z,Z,Z,Z,Z,Z,Z,Z,Z,Z,Z,Z,Z,Z,Z,Z,Z,Z,Z,Z,Z] rfl rfl (take_ofW HT_.out HW_.out (by kernel_rfl)) (fun _ _ _ h => h) (Or.inl ⟨by rfl, ?_⟩) hHeld ?_ ?_
     rotate_left
     ·intro w' s0
      go_simp
      with_reducible rfl
     rotate_left
     ·exact ac_
     refine pure_ (i := 4) (N := some 52) (v := ?_) (a' := ?_) #[Y,Y,Y,Y,Y,Z,Z,Z,Z,Z,Z,Z,Z,Z,Z,Z,Z,Z,Z,Z,Z,Z,Z,Z,Z,Z] rfl rfl (any_of HT_.out (by kernel_rfl)) (fun _ _ _ h => h) (Or.inl ⟨by rfl, ?_⟩) ?_ ?_
     rotate_left
     ·intro w'
      go_simp
      with_reducible rfl
     rotate_left
     ·exact ac_
     refine pure_ (i := 5) (N := some 53) (v := undef) (a' := ?_) #[Y,Y,Y,Y,Y,Y,Z,Z,Z,Z,Z,Z,Z,Z,Z,Z,Z,Z,Z,Z,Z,Z,Z,Z,Z,Z] rfl rfl (any_of HT_.out (by kernel_rfl)) (fun _ _ _ h => h) (Or.inr ⟨by rfl, rfl⟩) ?_ ?_
     rotate_left
     ·exact ac_
     refine pure_ (i := 6) (N := some 54) (v := undef) (a' := ?_) #[Y,Y,Y,Y,Y,Y,Y,Z,Z,Z,Z,Z,Z,Z,Z,Z,Z,Z,Z,Z,Z,Z,Z,Z,Z,Z] rfl rfl (any_of HT_.out (by kernel_rfl)) (fun _ _ _ h => h) (Or.inr ⟨by rfl, rfl⟩) ?_ ?_
     rotate_left
     ·exact ac_
     refine pure_ (i := 7) (N := some 55) (v := undef) (a' := ?_) #[Y,Y,Y,Y,Y,Y,Y,Y,Z,Z,Z,Z,Z,Z,Z,Z,Z,Z,Z,Z,Z,Z,Z,Z,Z,Z] rfl rfl (any_of HT_.out (by kernel_rfl)) (fun _ _ _ h => h) (Or.inr ⟨by rfl, rfl⟩) ?_ ?_
     rotate_left
     ·exact ac_
     refine pure_ (i := 8) (N := some 56) (v := undef) (a' := ?_) #[Y,Y,Y,Y,Y,Y,Y,Y,Y,Z,Z,Z,Z,Z,Z,Z,Z,Z,Z,Z,Z,Z,Z,Z,Z,Z] rfl rfl (any_of HT_.out (by kernel_rfl)) (fun _ _ _ h => h) (Or.inr ⟨by rfl, rfl⟩) ?_ ?_
     rotate_left
     ·exact ac_
     refine pure_ (i := 9) (N := some 57) (v := undef) (a' := ?_) #[Y,Y,Y,Y,Y,Y,Y,Y,Y,Y,Z,Z,Z,Z,Z,Z,Z,Z,Z,Z,Z,Z,Z,Z,Z,Z] rfl rfl (any_of HT_.out (by kernel_rfl)) (fun _ _ _ h => h) (Or.inr ⟨by rfl, rfl⟩) ?_ ?_
     rotate_left
     ·exact ac_
     refine pure_ (i := 10) (N := some 58) (v := undef) (a' := ?_) #[Y,Y,Y,Y,Y,Y,Y,Y,Y,Y,Y,Z,Z,Z,Z,Z,Z,Z,Z,Z,Z,Z,Z,Z,Z,Z] rfl rfl (any_of HT_.out (by kernel_rfl)) (fun _ _ _ h => h) (Or.inr ⟨by rfl, rfl⟩) ?_ ?_
     rotate_left
     ·exact ac_
     refine pure_ (i := 11) (N := some 59) (v := undef) (a' := ?_) #[Y,Y,Y,Y,Y,Y,Y,Y,Y,Y,Y,Y,Z,Z,Z,Z,Z,Z,Z,Z,Z,Z,Z,Z,Z,Z] rfl rfl (any_of HT_.out (by kernel_rfl)) (fun _ _ _ h => h) (Or.inr ⟨by rfl, rfl⟩) ?_ ?_
     rotate_left
     ·exact ac_
     refine pure_ (i := 12) (N := some 60) (v := undef) (a' := ?_) #[Y,Y,Y,Y,Y,Y,Y,Y,Y,Y,Y,Y,Y,Z,Z,Z,Z,Z,Z,Z,Z,Z,Z,Z,Z,Z] rfl rfl (any_of HT_.out (by kernel_rfl)) (fun _ _ _ h => h) (Or.inr ⟨by rfl, rfl⟩) ?_ ?_
     rotate_left
     ·exact ac_
     refine pure_ (i := 13) (N := some 61) (v := undef) (a' := ?_) #[Y,Y,Y,Y,Y,Y,Y,Y,Y,Y,Y,Y,Y,Y,Z,Z,Z,Z,Z,Z,Z,Z,Z,Z,Z,Z] rfl rfl (any_of HT_.out (by kernel_rfl)) (fun _ _ _ h => h) (Or.inr ⟨by rfl, rfl⟩) ?_ ?_
     rotate_left
     ·exact ac_
     refine pure_ (i := 14) (N := some 62) (v := undef) (a' := ?_) #[Y,Y,Y,Y,Y,Y,Y,Y,Y,Y,Y,Y,Y,Y,Y,Z,Z,Z,Z,Z,Z,Z,Z,Z,Z,Z] rfl rfl (any_of HT_.out (by kernel_rfl)) (fun _ _ _ h => h) (Or.inr ⟨by rfl, rfl⟩) ?_ ?_
     rotate_left
     ·exact ac_
     refine pure_ (i := 15) (N := some 63) (v := undef) (a' := ?_) #[Y,Y,Y,Y,Y,Y,Y,Y,Y,Y,Y,Y,Y,Y,Y,Y,Z,Z,Z,Z,Z,Z,Z,Z,Z,Z] rfl rfl (any_of HT_.out (by kernel_rfl)) (fun _ _ _ h => h) (Or.inr ⟨by rfl, rfl⟩) ?_ ?_
     rotate_left
     ·exact ac_
     refine pure_ (i := 16) (N := some 64) (v := undef) (a' := ?_) #[Y,Y,Y,Y,Y,Y,Y,Y,Y,Y,Y,Y,Y,Y,Y,Y,Y,Z,Z,Z,Z,Z,Z,Z,Z,Z] rfl rfl (any_of HT_.out (by kernel_rfl)) (fun _ _ _ h => h) (Or.inr ⟨by rfl, rfl⟩) ?_ ?_
     rotate_left
     ·exact ac_
     refine pure_ (i := 17) (N := some 65) (v := undef) (a' := ?_) #[Y,Y,Y,Y,Y,Y,Y,Y,Y,Y,Y,Y,Y,Y,Y,Y,Y,Y,Z,Z,Z,Z,Z,Z,Z,Z] rfl rfl (any_of HT_.out (by kernel_rfl)) (fun _ _ _ h => h) (Or.inr ⟨by rfl, rfl⟩) ?_ ?_
     rotate_left
     ·exact ac_
     refine pure_ (i := 18) (N := some 66) (v := undef) (a' := ?_) #[Y,Y,Y,Y,Y,Y,Y,Y,Y,Y,Y,Y,Y,Y,Y,Y,Y,Y,Y,Z,Z,Z,Z,Z,Z,Z] rfl rfl (any_of HT_.out (by kernel_rfl)) (fun _ _ _ h => h) (Or.inr ⟨by rfl, rfl⟩) ?_ ?_
     rotate_left
     ·exact ac_
     refine pure_ (i := 19) (N := some 67) (v := undef) (a' := ?_) #[Y,Y,Y,Y,Y,Y,Y,Y,Y,Y,Y,Y,Y,Y,Y,Y,Y,Y,Y,Y,Z,Z,Z,Z,Z,Z] rfl rfl (any_of HT_.out (by kernel_rfl)) (fun _ _ _ h => h) (Or.inr ⟨by rfl, rfl⟩) ?_ ?_
     rotate_left
     ·exact ac_
     refine pure_ (i := 20) (N := some 68) (v := undef) (a' := ?_) #[Y,Y,Y,Y,Y,Y,Y,Y,Y,Y,Y,Y,Y,Y,Y,Y,Y,Y,Y,Y,Y,Z,Z,Z,Z,Z] rfl rfl (any_of HT_.out (by kernel_rfl)) (fun _ _ _ h => h) (Or.inr ⟨by rfl, rfl⟩) ?_ ?_
     rotate_left
     ·exact ac_
     refine pure_ (i := 21) (N := some 69) (v := undef) (a' := ?_) #[Y,Y,Y,Y,Y,Y,Y,Y,Y,Y,Y,Y,Y,Y,Y,Y,Y,Y,Y,Y,Y,Y,Z,Z,Z,Z] rfl rfl (any_of HT_.out (by kernel_rfl)) (fun _ _ _ h => h) (Or.inr ⟨by rfl, rfl⟩) ?_ ?_
     rotate_left
     ·exact ac_
     refine pure_ (i := 22) (N := some 70) (v := undef) (a' := ?_) #[Y,Y,Y,Y,Y,Y,Y,Y,Y,Y,Y,Y,Y,Y,Y,Y,Y,Y,Y,Y,Y,Y,Y,Z,Z,Z] rfl rfl (any_of HT_.out (by kernel_rfl)) (fun _ _ _ h => h) (Or.inr ⟨by rfl, rfl⟩) ?_ ?_
     rotate_left
     ·exact ac_
     refine pure_ (i := 23) (N := some 71) (v := undef) (a' := ?_) #[Y,Y,Y,Y,Y,Y,Y,Y,Y,Y,Y,Y,Y,Y,Y,Y,Y,Y,Y,Y,Y,Y,Y,Y,Z,Z] rfl rfl (any_of HT_.out (by kernel_rfl)) (fun _ _ _ h => h) (Or.inr ⟨by rfl, rfl⟩) ?_ ?_
     rotate_left
     ·exact ac_
     refine pure_ (i := 24) (N := some 72) (v := undef) (a' := ?_) #[Y,Y,Y,Y,Y,Y,Y,Y,Y,Y,Y,Y,Y,Y,Y,Y,Y,Y,Y,Y,Y,Y,Y,Y,Y,Z] rfl rfl (any_of HT_.out (by kernel_rfl)) (fun _ _ _ h => h) (Or.inr ⟨by rfl, rfl⟩) ?_ ?_
     rotate_left
     ·exact ac_
     refine pure_ (i := 25) (N := some 73) (v := ?_) (a' := ?_) #[Y,Y,Y,Y,Y,Y,Y,Y,Y,Y,Y,Y,Y,Y,Y,Y,Y,Y,Y,Y,Y,Y,Y,Y,Y,Y] rfl rfl (any_of HT_.out (by kernel_rfl)) (fun _ _ _ h => h) (Or.inl ⟨by rfl, ?_⟩) ?_ ?_
     rotate_left
     ·intro w'
      go_simp
      with_reducible rfl
     rotate_left
     ·exact ac_
     refine done_ (done_of HT_.out (by kernel_rfl)) ?_
     try go_wp2
     go_meet
     case rel => exact ⟨_, (true), (by first | rfl | (simp; done) | (simp [*]; done)), H', ⟨by have := HK1.out; first | omega | exact Nat.le_refl _⟩, ⟨by (try simp only [hl8_1]); (with_reducible repeat (first | apply Kd.R_alloc | apply Kd.R_drewN | apply Kd.R_drew)); exact HO_5.out⟩, ⟨by (try simp only [hl8_1]); (with_reducible repeat (first | apply Kd.R_alloc | apply Kd.R_drewN | apply Kd.R_drew)); exact HO_7.out⟩, ⟨by (try simp only [hl8_1]); (with_reducible repeat (first | apply Kd.R_alloc | apply Kd.R_drewN | apply Kd.R_drew)); exact HO_8.out⟩, ⟨by (try simp only [hl8_1]); (with_reducible repeat (first | apply Kd.R_alloc | apply Kd.R_drewN | apply Kd.R_drew)); exact HO_9.out⟩, ⟨by repeat (first | (with_reducible first | exact HB.out | apply below_alloc | apply pw_below_drewN | apply below_drew1) | exact HB.out | exact Below.refl _ _)⟩⟩
    replace c28 := Bool.eq_false_iff.mpr c28
    subst c28
    have H1 : (if ((rd_T37 l0 x10_1).f0) = 22 then (if x10_1 < (x7_1.length : Int) then (if x10_1 < (t233.length : Int) then (if 0 ≤ (rd t233 x10_1) then (if (rd t233 x10_1) < (x7_1.length : Int) then (camshaftref07_Stacks.j1 k1 l0 t233 x7_1 x8_1 x9_1 x10_1 ((rdOf ByteArray.empty x7_1 x10_1).toList != (rdOf ByteArray.empty x7_1 (rd t233 x10_1)).toList)) else (none)) else (none)) else (none)) else (none)) else (camshaftref07_Stacks.j1 k1 l0 t233 x7_1 x8_1 x9_1 x10_1 false)) = some (r1, r2) := by rw [if_neg (show ¬ (false = true) by decide)] at H; exact H
    clear H
    have H := H1
    clear H1
    by_cases c31 : ((rd_T37 l0 x10_1).f0) = 22
    rotate_left
    ·rw [if_neg c31] at H
     have c31b0 : (((rd_T37 l0 x10_1).f0) == 22) = false := beq_eq_false_iff_ne.mpr c31
     have c31b1 : (((rd_T37 l0 x10_1).f0) != 22) = true := bne_iff_ne.mpr c31
     have H' := Aside0.mk H
     clear H
     try go_wp2
     have n0_ := Aside0.mk (Kd.R_drew HO_5.out)
     have n1_ := Aside0.mk (Kd.R_drew HO_7.out)
     have n2_ := Aside0.mk (Kd.R_drew HO_8.out)
     have n3_ := Aside0.mk (Kd.R_drew HO_9.out)
     have n4_ := Aside0.mk (below_drew1 HB.out)
     clear HO_5
     clear HO_7
     clear HO_8
     clear HO_9
     clear HB
     have HO_5 := n0_
     have HO_7 := n1_
     have HO_8 := n2_
     have HO_9 := n3_
     have HB := n4_
     clear n0_ n1_ n2_ n3_ n4_
     obtain ⟨Ao41, co41, eo41⟩ := Kd.R_slice HO_9.out
     (first | subst eo41 | (injection eo41 with f1_ f2_ f3_; have f4_ := f1_.symm; have f5_ := f3_.symm; clear f1_ f2_ f3_; subst f4_; subst f5_))
     have p248 : 0 ≤ (x10_1 : Int) := of_decide_eq_true as_
     have q248 : x10_1 < (x9_1.length : Int) := of_decide_eq_true as_
     obtain ⟨ad248, e248, hx248_0⟩ := Kd.at_bool (Kd.R_reads' HO_9.out).2.2 x10_1 p248 q248
     (try rw [← Nbq23.out] at hx248_0)
     (try rw [← Nbq27.out] at hx248_0)
     cases e248
     replace p248 := eq_true p248
     replace q248 := eq_true q248
     have p249 : 0 ≤ (x10_1 : Int) := of_decide_eq_true as_
     have q249 : x10_1 < (l0.length : Int) := of_decide_eq_true as_
     obtain ⟨ad249, e249, hx249_0, hx249_1, hx249_2⟩ := at_T37 HR0.out x10_1 p249 q249
     have hw249_2 := hx249_2
     have hw249_1 := hx249_1
     have hw249_0 := hx249_0
     cases e249
     replace hx249_0 := (HB.out.cell (World.block_lt_of_cell? w _ hx249_0)).trans hx249_0
     replace hx249_1 := (HB.out.cell (World.block_lt_of_cell? w _ hx249_1)).trans hx249_1
     replace hx249_2 := (HB.out.cell (World.block_lt_of_cell? w _ hx249_2)).trans hx249_2
     replace p249 := eq_true p249
     replace q249 := eq_true q249
     refine start_ (n := 26) (S := fun w' => w'.cell? (ad248.add (x10_1).toNat) = some (.bool false) ∧ w'.cell? (ad249.add ((x10_1).toNat * 3)) = some (.int .i64 ((rd_T37 l0 x10_1).f0)) ∧ w'.cell? ⟨(ad249.add ((x10_1).toNat * 3)).block, (ad249.add ((x10_1).toNat * 3)).off + 1, none⟩ = some (.int .i64 ((rd_T37 l0 x10_1).f1)) ∧ w'.cell? ⟨(ad249.add ((x10_1).toNat * 3)).block, (ad249.add ((x10_1).toNat * 3)).off + 2, none⟩ = some (.int .i64 ((rd_T37 l0 x10_1).f2))) (ds := []) #[Z,Z,Z,Z,Z,Z,Z,Z,Z,Z,Z,Z,Z,Z,Z,Z,Z,Z,Z,Z,Z,Z,Z,Z,Z,Z] (by kernel_rfl) rfl rfl ⟨hx248_0, ((HB.out.cell (World.block_lt_of_cell? w _ hw249_0)).trans hw249_0), ((HB.out.cell (World.block_lt_of_cell? w _ hw249_1)).trans hw249_1), ((HB.out.cell (World.block_lt_of_cell? w _ hw249_2)).trans hw249_2)⟩ (fun hHeld => ?_); refine with_tabW camshaftref07_Stacks.tab14 camshaftref07_Stacks.bits14 (fun HT_ HW_ => ?_)
     generalize wr.drew = w40 at HO_5 HO_7 HO_8 HO_9 HB hx248_0 hx249_0 hx249_1 hx249_2 hHeld ⊢
     refine pure_ (i := 0) (N := some 48) (v := ?_) (a' := ?_) #[Y,Z,Z,Z,Z,Z,Z,Z,Z,Z,Z,Z,Z,Z,Z,Z,Z,Z,Z,Z,Z,Z,Z,Z,Z,Z] rfl rfl (any_of HT_.out (by kernel_rfl)) (fun _ _ _ h => h) (Or.inl ⟨by rfl, ?_⟩) ?_ ?_
     rotate_left
     ·intro w'
      go_simp
      with_reducible rfl
     rotate_left
     ·exact ac_
     refine pure_ (i := 1) (N := some 49) (v := ?_) (a' := ?_) #[Y,Y,Z,Z,Z,Z,Z,Z,Z,Z,Z,Z,Z,Z,Z,Z,Z,Z,Z,Z,Z,Z,Z,Z,Z,Z] rfl rfl (any_of HT_.out (by kernel_rfl)) (fun _ _ _ h => h) (Or.inl ⟨by rfl, ?_⟩) ?_ ?_
     rotate_left
     ·intro w'
      go_simp
      with_reducible rfl
     rotate_left
     ·exact ac_
     refine pure_ (i := 2) (N := some 50) (v := ?_) (a' := ?_) #[Y,Y,Y,Z,Z,Z,Z,Z,Z,Z,Z,Z,Z,Z,Z,Z,Z,Z,Z,Z,Z,Z,Z,Z,Z,Z] rfl rfl (any_of HT_.out (by kernel_rfl)) (fun _ _ _ h => h) (Or.inl ⟨by rfl, ?_⟩) ?_ ?_
     rotate_left
     ·intro w'
      go_simp
      with_reducible rfl
     rotate_left
     ·exact ac_
     refine take_ (i := 3) (N := some 51) (v := ?_) (a' := ?_) #[Y,Y,Y,Y,Z,Z,Z,Z,Z,Z,Z,Z,Z,Z,Z,Z,Z,Z,Z,Z,Z,Z,Z,Z,Z,Z] rfl rfl (take_ofW HT_.out HW_.out (by kernel_rfl)) (fun _ _ _ h => h) (Or.inl ⟨by rfl, ?_⟩) hHeld ?_ ?_
     rotate_left
     ·rintro w' ⟨s0, s1, s2, s3⟩
      go_simp
      with_reducible rfl
     rotate_left
     ·exact ac_
     refine pure_ (i := 4) (N := some 52) (v := ?_) (a' := ?_) #[Y,Y,Y,Y,Y,Z,Z,Z,Z,Z,Z,Z,Z,Z,Z,Z,Z,Z,Z,Z,Z,Z,Z,Z,Z,Z] rfl rfl (any_of HT_.out (by kernel_rfl)) (fun _ _ _ h => h) (Or.inl ⟨by rfl, ?_⟩) ?_ ?_
     rotate_left
     ·intro w'
      go_simp
      with_reducible rfl
     rotate_left
     ·exact ac_
     refine pure_ (i := 5) (N := some 53) (v := ?_) (a' := ?_) #[Y,Y,Y,Y,Y,Y,Z,Z,Z,Z,Z,Z,Z,Z,Z,Z,Z,Z,Z,Z,Z,Z,Z,Z,Z,Z] rfl rfl (any_of HT_.out (by kernel_rfl)) (fun _ _ _ h => h) (Or.inl ⟨by rfl, ?_⟩) ?_ ?_
     rotate_left
     ·intro w'
      go_simp
      with_reducible rfl
     rotate_left
     ·exact ac_
     refine pure_ (i := 6) (N := some 54) (v := ?_) (a' := ?_) #[Y,Y,Y,Y,Y,Y,Y,Z,Z,Z,Z,Z,Z,Z,Z,Z,Z,Z,Z,Z,Z,Z,Z,Z,Z,Z] rfl rfl (any_of HT_.out (by kernel_rfl)) (fun _ _ _ h => h) (Or.inl ⟨by rfl, ?_⟩) ?_ ?_
     rotate_left
     ·intro w'
      go_simp
      with_reducible rfl
     rotate_left
     ·exact ac_
     refine pure_ (i := 7) (N := some 55) (v := ?_) (a' := ?_) #[Y,Y,Y,Y,Y,Y,Y,Y,Z,Z,Z,Z,Z,Z,Z,Z,Z,Z,Z,Z,Z,Z,Z,Z,Z,Z] rfl rfl (any_of HT_.out (by kernel_rfl)) (fun _ _ _ h => h) (Or.inl ⟨by rfl, ?_⟩) ?_ ?_
     rotate_left
     ·intro w'
      go_simp
      with_reducible rfl
     rotate_left
     ·exact ac_
     refine pure_ (i := 8) (N := some 56) (v := ?_) (a' := ?_) #[Y,Y,Y,Y,Y,Y,Y,Y,Y,Z,Z,Z,Z,Z,Z,Z,Z,Z,Z,Z,Z,Z,Z,Z,Z,Z] rfl rfl (any_of HT_.out (by kernel_rfl)) (fun _ _ _ h => h) (Or.inl ⟨by rfl, ?_⟩) ?_ ?_
     rotate_left
     ·intro w'
      go_simp
      with_reducible rfl
     rotate_left
     ·exact ac_
     refine take_ (i := 9) (N := some 57) (v := ?_) (a' := ?_) #[Y,Y,Y,Y,Y,Y,Y,Y,Y,Y,Z,Z,Z,Z,Z,Z,Z,Z,Z,Z,Z,Z,Z,Z,Z,Z] rfl rfl (take_ofW HT_.out HW_.out (by kernel_rfl)) (fun _ _ _ h => h) (Or.inl ⟨by rfl, ?_⟩) hHeld ?_ ?_
     rotate_left
     ·rintro w' ⟨s0, s1, s2, s3⟩
      go_simp
      with_reducible rfl
     rotate_left
     ·exact ac_
     refine pure_ (i := 10) (N := some 58) (v := ?_) (a' := ?_) #[Y,Y,Y,Y,Y,Y,Y,Y,Y,Y,Y,Z,Z,Z,Z,Z,Z,Z,Z,Z,Z,Z,Z,Z,Z,Z] rfl rfl (any_of HT_.out (by kernel_rfl)) (fun _ _ _ h => h) (Or.inl ⟨by rfl, ?_⟩) ?_ ?_
     rotate_left
     ·intro w'
      go_simp
      with_reducible rfl
     rotate_left
     ·exact ac_
     refine pure_ (i := 11) (N := some 59) (v := ?_) (a' := ?_) #[Y,Y,Y,Y,Y,Y,Y,Y,Y,Y,Y,Y,Z,Z,Z,Z,Z,Z,Z,Z,Z,Z,Z,Z,Z,Z] rfl rfl (any_of HT_.out (by kernel_rfl)) (fun _ _ _ h => h) (Or.inl ⟨by rfl, ?_⟩) ?_ ?_
     rotate_left
     ·intro w'
      go_simp
      with_reducible rfl
     rotate_left
     ·exact ac_
     refine pure_ (i := 12) (N := some 60) (v := undef) (a' := ?_) #[Y,Y,Y,Y,Y,Y,Y,Y,Y,Y,Y,Y,Y,Z,Z,Z,Z,Z,Z,Z,Z,Z,Z,Z,Z,Z] rfl rfl (any_of HT_.out (by kernel_rfl)) (fun _ _ _ h => h) (Or.inr ⟨by rfl, rfl⟩) ?_ ?_
     rotate_left
     ·exact ac_
     refine pure_ (i := 13) (N := some 61) (v := undef) (a' := ?_) #[Y,Y,Y,Y,Y,Y,Y,Y,Y,Y,Y,Y,Y,Y,Z,Z,Z,Z,Z,Z,Z,Z,Z,Z,Z,Z] rfl rfl (any_of HT_.out (by kernel_rfl)) (fun _ _ _ h => h) (Or.inr ⟨by rfl, rfl⟩) ?_ ?_
     rotate_left
     ·exact ac_
     refine pure_ (i := 14) (N := some 62) (v := undef) (a' := ?_) #[Y,Y,Y,Y,Y,Y,Y,Y,Y,Y,Y,Y,Y,Y,Y,Z,Z,Z,Z,Z,Z,Z,Z,Z,Z,Z] rfl rfl (any_of HT_.out (by kernel_rfl)) (fun _ _ _ h => h) (Or.inr ⟨by rfl, rfl⟩) ?_ ?_
     rotate_left
     ·exact ac_
     refine pure_ (i := 15) (N := some 63) (v := undef) (a' := ?_) #[Y,Y,Y,Y,Y,Y,Y,Y,Y,Y,Y,Y,Y,Y,Y,Y,Z,Z,Z,Z,Z,Z,Z,Z,Z,Z] rfl rfl (any_of HT_.out (by kernel_rfl)) (fun _ _ _ h => h) (Or.inr ⟨by rfl, rfl⟩) ?_ ?_
     rotate_left
     ·exact ac_
     refine pure_ (i := 16) (N := some 64) (v := undef) (a' := ?_) #[Y,Y,Y,Y,Y,Y,Y,Y,Y,Y,Y,Y,Y,Y,Y,Y,Y,Z,Z,Z,Z,Z,Z,Z,Z,Z] rfl rfl (any_of HT_.out (by kernel_rfl)) (fun _ _ _ h => h) (Or.inr ⟨by rfl, rfl⟩) ?_ ?_
     rotate_left
     ·exact ac_
     refine pure_ (i := 17) (N := some 65) (v := undef) (a' := ?_) #[Y,Y,Y,Y,Y,Y,Y,Y,Y,Y,Y,Y,Y,Y,Y,Y,Y,Y,Z,Z,Z,Z,Z,Z,Z,Z] rfl rfl (any_of HT_.out (by kernel_rfl)) (fun _ _ _ h => h) (Or.inr ⟨by rfl, rfl⟩) ?_ ?_
     rotate_left
     ·exact ac_
     refine pure_ (i := 18) (N := some 66) (v := undef) (a' := ?_) #[Y,Y,Y,Y,Y,Y,Y,Y,Y,Y,Y,Y,Y,Y,Y,Y,Y,Y,Y,Z,Z,Z,Z,Z,Z,Z] rfl rfl (any_of HT_.out (by kernel_rfl)) (fun _ _ _ h => h) (Or.inr ⟨by rfl, rfl⟩) ?_ ?_
     rotate_left
     ·exact ac_
     refine pure_ (i := 19) (N := some 67) (v := undef) (a' := ?_) #[Y,Y,Y,Y,Y,Y,Y,Y,Y,Y,Y,Y,Y,Y,Y,Y,Y,Y,Y,Y,Z,Z,Z,Z,Z,Z] rfl rfl (any_of HT_.out (by kernel_rfl)) (fun _ _ _ h => h) (Or.inr ⟨by rfl, rfl⟩) ?_ ?_
     rotate_left
     ·exact ac_
     refine pure_ (i := 20) (N := some 68) (v := undef) (a' := ?_) #[Y,Y,Y,Y,Y,Y,Y,Y,Y,Y,Y,Y,Y,Y,Y,Y,Y,Y,Y,Y,Y,Z,Z,Z,Z,Z] rfl rfl (any_of HT_.out (by kernel_rfl)) (fun _ _ _ h => h) (Or.inr ⟨by rfl, rfl⟩) ?_ ?_
     rotate_left
     ·exact ac_
     refine pure_ (i := 21) (N := some 69) (v := undef) (a' := ?_) #[Y,Y,Y,Y,Y,Y,Y,Y,Y,Y,Y,Y,Y,Y,Y,Y,Y,Y,Y,Y,Y,Y,Z,Z,Z,Z] rfl rfl (any_of HT_.out (by kernel_rfl)) (fun _ _ _ h => h) (Or.inr ⟨by rfl, rfl⟩) ?_ ?_
     rotate_left
     ·exact ac_
     refine pure_ (i := 22) (N := some 70) (v := undef) (a' := ?_) #[Y,Y,Y,Y,Y,Y,Y,Y,Y,Y,Y,Y,Y,Y,Y,Y,Y,Y,Y,Y,Y,Y,Y,Z,Z,Z] rfl rfl (any_of HT_.out (by kernel_rfl)) (fun _ _ _ h => h) (Or.inr ⟨by rfl, rfl⟩) ?_ ?_
     rotate_left
     ·exact ac_
     refine pure_ (i := 23) (N := some 71) (v := undef) (a' := ?_) #[Y,Y,Y,Y,Y,Y,Y,Y,Y,Y,Y,Y,Y,Y,Y,Y,Y,Y,Y,Y,Y,Y,Y,Y,Z,Z] rfl rfl (any_of HT_.out (by kernel_rfl)) (fun _ _ _ h => h) (Or.inr ⟨by rfl, rfl⟩) ?_ ?_
     rotate_left
     ·exact ac_
     refine pure_ (i := 24) (N := some 72) (v := ?_) (a' := ?_) #[Y,Y,Y,Y,Y,Y,Y,Y,Y,Y,Y,Y,Y,Y,Y,Y,Y,Y,Y,Y,Y,Y,Y,Y,Y,Z] rfl rfl (any_of HT_.out (by kernel_rfl)) (fun _ _ _ h => h) (Or.inl ⟨by rfl, ?_⟩) ?_ ?_
     rotate_left
     ·intro w'
      go_simp
      with_reducible rfl
     rotate_left
     ·exact ac_
     refine pure_ (i := 25) (N := some 73) (v := ?_) (a' := ?_) #[Y,Y,Y,Y,Y,Y,Y,Y,Y,Y,Y,Y,Y,Y,Y,Y,Y,Y,Y,Y,Y,Y,Y,Y,Y,Y] rfl rfl (any_of HT_.out (by kernel_rfl)) (fun _ _ _ h => h) (Or.inl ⟨by rfl, ?_⟩) ?_ ?_
     rotate_left
     ·intro w'
      go_simp
      with_reducible rfl
     rotate_left
     ·exact ac_
     refine done_ (done_of HT_.out (by kernel_rfl)) ?_
     try go_wp2
     go_meet
     case rel => exact ⟨_, (false), (by first | rfl | (simp; done) | (simp [*]; done)), H', ⟨by have := HK1.out; first | omega | exact Nat.le_refl _⟩, ⟨by (try simp only [hl8_1]); (with_reducible repeat (first | apply Kd.R_alloc | apply Kd.R_drewN | apply Kd.R_drew)); exact HO_5.out⟩, ⟨by (try simp only [hl8_1]); (with_reducible repeat (first | apply Kd.R_alloc | apply Kd.R_drewN | apply Kd.R_drew)); exact HO_7.out⟩, ⟨by (try simp only [hl8_1]); (with_reducible repeat (first | apply Kd.R_alloc | apply Kd.R_drewN | apply Kd.R_drew)); exact HO_8.out⟩, ⟨by (try simp only [hl8_1]); (with_reducible repeat (first | apply Kd.R_alloc | apply Kd.R_drewN | apply Kd.R_drew)); exact HO_9.out⟩, ⟨by repeat (first | (with_reducible first | exact HB.out | apply below_alloc | apply pw_below_drewN | apply below_drew1) | exact HB.out | exact Below.refl _ _)⟩⟩
    rw [if_pos c31] at H
    have c31b0 : (((rd_T37 l0 x10_1).f0) == 22) = true := beq_iff_eq.mpr c31
    have c31b1 : (((rd_T37 l0 x10_1).f0) != 22) = false := bne_eq_false_iff_eq.mpr c31
    clear c31
    by_cases c32 : x10_1 < (x7_1.length : Int)
    rotate_left
    ·rw [if_neg c32] at H
     exact absurd H (by simp)
    rw [if_pos c32] at H
    have c32b0 : decide (x10_1 < (x7_1.length : Int)) = true := decide_eq_true c32
    clear c32
    by_cases c33 : x10_1 < (t233.length : Int)
    rotate_left
    ·rw [if_neg c33] at H
     exact absurd H (by simp)
    rw [if_pos c33] at H
    have c33b0 : decide (x10_1 < (t233.length : Int)) = true := decide_eq_true c33
    clear c33
    by_cases c34 : 0 ≤ (rd t233 x10_1)
    rotate_left
    ·rw [if_neg c34] at H
     exact absurd H (by simp)
    rw [if_pos c34] at H
    have c34b0 : decide (0 ≤ (rd t233 x10_1)) = true := decide_eq_true c34
    clear c34
    by_cases c35 : (rd t233 x10_1) < (x7_1.length : Int)
    rotate_left
    ·rw [if_neg c35] at H
     exact absurd H (by simp)
    rw [if_pos c35] at H
    have c35b0 : decide ((rd t233 x10_1) < (x7_1.length : Int)) = true := decide_eq_true c35
    clear c35
    have H' := Aside0.mk H
    clear H
    try go_wp2
    have n0_ := Aside0.mk (Kd.R_drew HO_5.out)
    have n1_ := Aside0.mk (Kd.R_drew HO_7.out)
    have n2_ := Aside0.mk (Kd.R_drew HO_8.out)
    have n3_ := Aside0.mk (Kd.R_drew HO_9.out)
    have n4_ := Aside0.mk (below_drew1 HB.out)
    clear HO_5
    clear HO_7
    clear HO_8
    clear HO_9
    clear HB
    have HO_5 := n0_
    have HO_7 := n1_
    have HO_8 := n2_
    have HO_9 := n3_
    have HB := n4_
    clear n0_ n1_ n2_ n3_ n4_
    obtain ⟨Ao37, co37, eo37⟩ := Kd.R_slice HO_9.out
    (first | subst eo37 | (injection eo37 with f1_ f2_ f3_; have f4_ := f1_.symm; have f5_ := f3_.symm; clear f1_ f2_ f3_; subst f4_; subst f5_))
    have p248 : 0 ≤ (x10_1 : Int) := of_decide_eq_true as_
    have q248 : x10_1 < (x9_1.length : Int) := of_decide_eq_true as_
    obtain ⟨ad248, e248, hx248_0⟩ := Kd.at_bool (Kd.R_reads' HO_9.out).2.2 x10_1 p248 q248
    (try rw [← Nbq23.out] at hx248_0)
    (try rw [← Nbq27.out] at hx248_0)
    cases e248
    replace p248 := eq_true p248
    replace q248 := eq_true q248
    have p249 : 0 ≤ (x10_1 : Int) := of_decide_eq_true as_
    have q249 : x10_1 < (l0.length : Int) := of_decide_eq_true as_
    obtain ⟨ad249, e249, hx249_0, hx249_1, hx249_2⟩ := at_T37 HR0.out x10_1 p249 q249
    have hw249_2 := hx249_2
    have hw249_1 := hx249_1
    have hw249_0 := hx249_0
    cases e249
    replace hx249_0 := (HB.out.cell (World.block_lt_of_cell? w _ hx249_0)).trans hx249_0
    replace hx249_1 := (HB.out.cell (World.block_lt_of_cell? w _ hx249_1)).trans hx249_1
    replace hx249_2 := (HB.out.cell (World.block_lt_of_cell? w _ hx249_2)).trans hx249_2
    replace p249 := eq_true p249
    replace q249 := eq_true q249
    obtain ⟨Ao38, co38, eo38⟩ := Kd.R_slice HO_7.out
    (first | subst eo38 | (injection eo38 with f1_ f2_ f3_; have f4_ := f1_.symm; have f5_ := f3_.symm; clear f1_ f2_ f3_; subst f4_; subst f5_))
    have p250 : 0 ≤ (x10_1 : Int) := of_decide_eq_true as_
    have q250 : x10_1 < (x7_1.length : Int) := of_decide_eq_true as_
    obtain ⟨ad250, e250, hx250_0⟩ := Kd.at_string (Kd.R_reads' HO_7.out).2.2 x10_1 p250 q250
    cases e250
    replace p250 := eq_true p250
    replace q250 := eq_true q250
    obtain ⟨Ao39, co39, eo39⟩ := Kd.R_slice HO_5.out
    (first | subst eo39 | (injection eo39 with f1_ f2_ f3_; have f4_ := f1_.symm; have f5_ := f3_.symm; clear f1_ f2_ f3_; subst f4_; subst f5_))
    have p251 : 0 ≤ (x10_1 : Int) := of_decide_eq_true as_
    have q251 : x10_1 < (t233.length : Int) := of_decide_eq_true as_
    obtain ⟨ad251, e251, hx251_0⟩ := Kd.at_int (Kd.R_reads' HO_5.out).2.2 x10_1 p251 q251
    cases e251
    replace p251 := eq_true p251
    replace q251 := eq_true q251
    have p252 : 0 ≤ ((rd t233 x10_1) : Int) := of_decide_eq_true as_
    have q252 : (rd t233 x10_1) < (x7_1.length : Int) := of_decide_eq_true as_
    obtain ⟨ad252, e252, hx252_0⟩ := Kd.at_string (Kd.R_reads' HO_7.out).2.2 (rd t233 x10_1) p252 q252
    obtain rfl : ad250 = ad252 := (by injection e252)
    replace p252 := eq_true p252
    replace q252 := eq_true q252
    refine start_ (n := 26) (S := fun w' => w'.cell? (ad248.add (x10_1).toNat) = some (.bool false) ∧ w'.cell? (ad249.add ((x10_1).toNat * 3)) = some (.int .i64 ((rd_T37 l0 x10_1).f0)) ∧ w'.cell? ⟨(ad249.add ((x10_1).toNat * 3)).block, (ad249.add ((x10_1).toNat * 3)).off + 1, none⟩ = some (.int .i64 ((rd_T37 l0 x10_1).f1)) ∧ w'.cell? ⟨(ad249.add ((x10_1).toNat * 3)).block, (ad249.add ((x10_1).toNat * 3)).off + 2, none⟩ = some (.int .i64 ((rd_T37 l0 x10_1).f2)) ∧ w'.cell? (ad250.add (x10_1).toNat) = some (.string (rdOf ByteArray.empty x7_1 x10_1)) ∧ w'.cell? (ad251.add (x10_1).toNat) = some (.int .i64 (rd t233 x10_1)) ∧ w'.cell? (ad250.add ((rd t233 x10_1)).toNat) = some (.string (rdOf ByteArray.empty x7_1 (rd t233 x10_1)))) (ds := []) #[Z,Z,Z,Z,Z,Z,Z,Z,Z,Z,Z,Z,Z,Z,Z,Z,Z,Z,Z,Z,Z,Z,Z,Z,Z,Z] (by kernel_rfl) rfl rfl ⟨hx248_0, ((HB.out.cell (World.block_lt_of_cell? w _ hw249_0)).trans hw249_0), ((HB.out.cell (World.block_lt_of_cell? w _ hw249_1)).trans hw249_1), ((HB.out.cell (World.block_lt_of_cell? w _ hw249_2)).trans hw249_2), hx250_0, hx251_0, hx252_0⟩ (fun hHeld => ?_); refine with_tabW camshaftref07_Stacks.tab14 camshaftref07_Stacks.bits14 (fun HT_ HW_ => ?_)
    generalize wr.drew = w36 at HO_5 HO_7 HO_8 HO_9 HB hx248_0 hx249_0 hx249_1 hx249_2 hx250_0 hx251_0 hx252_0 hHeld ⊢
    refine pure_ (i := 0) (N := some 48) (v := ?_) (a' := ?_) #[Y,Z,Z,Z,Z,Z,Z,Z,Z,Z,Z,Z,Z,Z,Z,Z,Z,Z,Z,Z,Z,Z,Z,Z,Z,Z] rfl rfl (any_of HT_.out (by kernel_rfl)) (fun _ _ _ h => h) (Or.inl ⟨by rfl, ?_⟩) ?_ ?_
    rotate_left
    ·intro w'
     go_simp
     with_reducible rfl
    rotate_left
    ·exact ac_
    refine pure_ (i := 1) (N := some 49) (v := ?_) (a' := ?_) #[Y,Y,Z,Z,Z,Z,Z,Z,Z,Z,Z,Z,Z,Z,Z,Z,Z,Z,Z,Z,Z,Z,Z,Z,Z,Z] rfl rfl (any_of HT_.out (by kernel_rfl)) (fun _ _ _ h => h) (Or.inl ⟨by rfl, ?_⟩) ?_ ?_
    rotate_left
    ·intro w'
     go_simp
     with_reducible rfl
    rotate_left
    ·exact ac_
    refine pure_ (i := 2) (N := some 50) (v := ?_) (a' := ?_) #[Y,Y,Y,Z,Z,Z,Z,Z,Z,Z,Z,Z,Z,Z,Z,Z,Z,Z,Z,Z,Z,Z,Z,Z,Z,Z] rfl rfl (any_of HT_.out (by kernel_rfl)) (fun _ _ _ h => h) (Or.inl ⟨by rfl, ?_⟩) ?_ ?_
    rotate_left
    ·intro w'
     go_simp
     with_reducible rfl
    rotate_left
    ·exact ac_
    refine take_ (i := 3) (N := some 51) (v := ?_) (a' := ?_) #[Y,Y,Y,Y,Z,Z,Z,Z,Z,Z,Z,Z,Z,Z,Z,Z,Z,Z,Z,Z,Z,Z,Z,Z,Z,Z] rfl rfl (take_ofW HT_.out HW_.out (by kernel_rfl)) (fun _ _ _ h => h) (Or.inl ⟨by rfl, ?_⟩) hHeld ?_ ?_
    rotate_left
    ·rintro w' ⟨s0, s1, s2, s3, s4, s5, s6⟩
     go_simp
     with_reducible rfl
    rotate_left
    ·exact ac_
    refine pure_ (i := 4) (N := some 52) (v := ?_) (a' := ?_) #[Y,Y,Y,Y,Y,Z,Z,Z,Z,Z,Z,Z,Z,Z,Z,Z,Z,Z,Z,Z,Z,Z,Z,Z,Z,Z] rfl rfl (any_of HT_.out (by kernel_rfl)) (fun _ _ _ h => h) (Or.inl ⟨by rfl, ?_⟩) ?_ ?_
    rotate_left
    ·intro w'
     go_simp
     with_reducible rfl
    rotate_left
    ·exact ac_
    refine pure_ (i := 5) (N := some 53) (v := ?_) (a' := ?_) #[Y,Y,Y,Y,Y,Y,Z,Z,Z,Z,Z,Z,Z,Z,Z,Z,Z,Z,Z,Z,Z,Z,Z,Z,Z,Z] rfl rfl (any_of HT_.out (by kernel_rfl)) (fun _ _ _ h => h) (Or.inl ⟨by rfl, ?_⟩) ?_ ?_
    rotate_left
    ·intro w'
     go_simp
     with_reducible rfl
    rotate_left
    ·exact ac_
    refine pure_ (i := 6) (N := some 54) (v := ?_) (a' := ?_) #[Y,Y,Y,Y,Y,Y,Y,Z,Z,Z,Z,Z,Z,Z,Z,Z,Z,Z,Z,Z,Z,Z,Z,Z,Z,Z] rfl rfl (any_of HT_.out (by kernel_rfl)) (fun _ _ _ h => h) (Or.inl ⟨by rfl, ?_⟩) ?_ ?_
    rotate_left
    ·intro w'
     go_simp
     with_reducible rfl
    rotate_left
    ·exact ac_
    refine pure_ (i := 7) (N := some 55) (v := ?_) (a' := ?_) #[Y,Y,Y,Y,Y,Y,Y,Y,Z,Z,Z,Z,Z,Z,Z,Z,Z,Z,Z,Z,Z,Z,Z,Z,Z,Z] rfl rfl (any_of HT_.out (by kernel_rfl)) (fun _ _ _ h => h) (Or.inl ⟨by rfl, ?_⟩) ?_ ?_
    rotate_left
    ·intro w'
     go_simp
     with_reducible rfl
    rotate_left
    ·exact ac_
    refine pure_ (i := 8) (N := some 56) (v := ?_) (a' := ?_) #[Y,Y,Y,Y,Y,Y,Y,Y,Y,Z,Z,Z,Z,Z,Z,Z,Z,Z,Z,Z,Z,Z,Z,Z,Z,Z] rfl rfl (any_of HT_.out (by kernel_rfl)) (fun _ _ _ h => h) (Or.inl ⟨by rfl, ?_⟩) ?_ ?_
    rotate_left
    ·intro w'
     go_simp
     with_reducible rfl
    rotate_left
    ·exact ac_
    refine take_ (i := 9) (N := some 57) (v := ?_) (a' := ?_) #[Y,Y,Y,Y,Y,Y,Y,Y,Y,Y,Z,Z,Z,Z,Z,Z,Z,Z,Z,Z,Z,Z,Z,Z,Z,Z] rfl rfl (take_ofW HT_.out HW_.out (by kernel_rfl)) (fun _ _ _ h => h) (Or.inl ⟨by rfl, ?_⟩) hHeld ?_ ?_
    rotate_left
    ·rintro w' ⟨s0, s1, s2, s3, s4, s5, s6⟩
     go_simp
     with_reducible rfl
    rotate_left
    ·exact ac_
    refine pure_ (i := 10) (N := some 58) (v := ?_) (a' := ?_) #[Y,Y,Y,Y,Y,Y,Y,Y,Y,Y,Y,Z,Z,Z,Z,Z,Z,Z,Z,Z,Z,Z,Z,Z,Z,Z] rfl rfl (any_of HT_.out (by kernel_rfl)) (fun _ _ _ h => h) (Or.inl ⟨by rfl, ?_⟩) ?_ ?_
    rotate_left
    ·intro w'
     go_simp
     with_reducible rfl
    rotate_left
    ·exact ac_
    refine pure_ (i := 11) (N := some 59) (v := ?_) (a' := ?_) #[Y,Y,Y,Y,Y,Y,Y,Y,Y,Y,Y,Y,Z,Z,Z,Z,Z,Z,Z,Z,Z,Z,Z,Z,Z,Z] rfl rfl (any_of HT_.out (by kernel_rfl)) (fun _ _ _ h => h) (Or.inl ⟨by rfl, ?_⟩) ?_ ?_
    rotate_left
    ·intro w'
     go_simp
     with_reducible rfl
    rotate_left
    ·exact ac_
    refine pure_ (i := 12) (N := some 60) (v := ?_) (a' := ?_) #[Y,Y,Y,Y,Y,Y,Y,Y,Y,Y,Y,Y,Y,Z,Z,Z,Z,Z,Z,Z,Z,Z,Z,Z,Z,Z] rfl rfl (any_of HT_.out (by kernel_rfl)) (fun _ _ _ h => h) (Or.inl ⟨by rfl, ?_⟩) ?_ ?_
    rotate_left
    ·intro w'
     go_simp
     with_reducible rfl
    rotate_left
    ·exact ac_
    refine pure_ (i := 13) (N := some 61) (v := ?_) (a' := ?_) #[Y,Y,Y,Y,Y,Y,Y,Y,Y,Y,Y,Y,Y,Y,Z,Z,Z,Z,Z,Z,Z,Z,Z,Z,Z,Z] rfl rfl (any_of HT_.out (by kernel_rfl)) (fun _ _ _ h => h) (Or.inl ⟨by rfl, ?_⟩) ?_ ?_
    rotate_left
    ·intro w'
     go_simp
     with_reducible rfl
    rotate_left
    ·exact ac_
    refine pure_ (i := 14) (N := some 62) (v := ?_) (a' := ?_) #[Y,Y,Y,Y,Y,Y,Y,Y,Y,Y,Y,Y,Y,Y,Y,Z,Z,Z,Z,Z,Z,Z,Z,Z,Z,Z] rfl rfl (any_of HT_.out (by kernel_rfl)) (fun _ _ _ h => h) (Or.inl ⟨by rfl, ?_⟩) ?_ ?_
    rotate_left
    ·intro w'
     go_simp
     with_reducible rfl
    rotate_left
    ·exact ac_
    refine pure_ (i := 16) (N := some 64) (v := ?_) (a' := ?_) #[Y,Y,Y,Y,Y,Y,Y,Y,Y,Y,Y,Y,Y,Y,Y,Z,Y,Z,Z,Z,Z,Z,Z,Z,Z,Z] rfl rfl (any_of HT_.out (by kernel_rfl)) (fun _ _ _ h => h) (Or.inl ⟨by rfl, ?_⟩) ?_ ?_
    rotate_left
    ·intro w'
     go_simp
     with_reducible rfl
    rotate_left
    ·exact ac_
    refine pure_ (i := 17) (N := some 65) (v := ?_) (a' := ?_) #[Y,Y,Y,Y,Y,Y,Y,Y,Y,Y,Y,Y,Y,Y,Y,Z,Y,Y,Z,Z,Z,Z,Z,Z,Z,Z] rfl rfl (any_of HT_.out (by kernel_rfl)) (fun _ _ _ h => h) (Or.inl ⟨by rfl, ?_⟩) ?_ ?_
    rotate_left
    ·intro w'
     go_simp
     with_reducible rfl
    rotate_left
    ·exact ac_
    refine pure_ (i := 18) (N := some 66) (v := ?_) (a' := ?_) #[Y,Y,Y,Y,Y,Y,Y,Y,Y,Y,Y,Y,Y,Y,Y,Z,Y,Y,Y,Z,Z,Z,Z,Z,Z,Z] rfl rfl (any_of HT_.out (by kernel_rfl)) (fun _ _ _ h => h) (Or.inl ⟨by rfl, ?_⟩) ?_ ?_
    rotate_left
    ·intro w'
     go_simp
     with_reducible rfl
    rotate_left
    ·exact ac_
    refine pure_ (i := 19) (N := some 67) (v := ?_) (a' := ?_) #[Y,Y,Y,Y,Y,Y,Y,Y,Y,Y,Y,Y,Y,Y,Y,Z,Y,Y,Y,Y,Z,Z,Z,Z,Z,Z] rfl rfl (any_of HT_.out (by kernel_rfl)) (fun _ _ _ h => h) (Or.inl ⟨by rfl, ?_⟩) ?_ ?_
    rotate_left
    ·intro w'
     go_simp
     with_reducible rfl
    rotate_left
    ·exact ac_
    refine take_ (i := 15) (N := some 63) (v := ?_) (a' := ?_) #[Y,Y,Y,Y,Y,Y,Y,Y,Y,Y,Y,Y,Y,Y,Y,Y,Y,Y,Y,Y,Z,Z,Z,Z,Z,Z] rfl rfl (take_ofW HT_.out HW_.out (by kernel_rfl)) (fun _ _ _ h => h) (Or.inl ⟨by rfl, ?_⟩) hHeld ?_ ?_
    rotate_left
    ·rintro w' ⟨s0, s1, s2, s3, s4, s5, s6⟩
     go_simp
     with_reducible rfl
    rotate_left
    ·exact ac_
    refine take_ (i := 20) (N := some 68) (v := ?_) (a' := ?_) #[Y,Y,Y,Y,Y,Y,Y,Y,Y,Y,Y,Y,Y,Y,Y,Y,Y,Y,Y,Y,Y,Z,Z,Z,Z,Z] rfl rfl (take_ofW HT_.out HW_.out (by kernel_rfl)) (fun _ _ _ h => h) (Or.inl ⟨by rfl, ?_⟩) hHeld ?_ ?_
    rotate_left
    ·rintro w' ⟨s0, s1, s2, s3, s4, s5, s6⟩
     go_simp
     with_reducible rfl
    rotate_left
    ·exact ac_
    refine pure_ (i := 21) (N := some 69) (v := ?_) (a' := ?_) #[Y,Y,Y,Y,Y,Y,Y,Y,Y,Y,Y,Y,Y,Y,Y,Y,Y,Y,Y,Y,Y,Y,Z,Z,Z,Z] rfl rfl (any_of HT_.out (by kernel_rfl)) (fun _ _ _ h => h) (Or.inl ⟨by rfl, ?_⟩) ?_ ?_
    rotate_left
    ·intro w'
     go_simp
     with_reducible rfl
    rotate_left
    ·exact ac_
    refine take_ (i := 22) (N := some 70) (v := ?_) (a' := ?_) #[Y,Y,Y,Y,Y,Y,Y,Y,Y,Y,Y,Y,Y,Y,Y,Y,Y,Y,Y,Y,Y,Y,Y,Z,Z,Z] rfl rfl (take_ofW HT_.out HW_.out (by kernel_rfl)) (fun _ _ _ h => h) (Or.inl ⟨by rfl, ?_⟩) hHeld ?_ ?_
    rotate_left
    ·rintro w' ⟨s0, s1, s2, s3, s4, s5, s6⟩
     go_simp
     with_reducible rfl
    rotate_left
    ·exact ac_
    refine pure_ (i := 23) (N := some 71) (v := ?_) (a' := ?_) #[Y,Y,Y,Y,Y,Y,Y,Y,Y,Y,Y,Y,Y,Y,Y,Y,Y,Y,Y,Y,Y,Y,Y,Y,Z,Z] rfl rfl (any_of HT_.out (by kernel_rfl)) (fun _ _ _ h => h) (Or.inl ⟨by rfl, ?_⟩) ?_ ?_
    rotate_left
    ·intro w'
     go_simp
     with_reducible rfl
    rotate_left
    ·exact ac_
    refine pure_ (i := 24) (N := some 72) (v := ?_) (a' := ?_) #[Y,Y,Y,Y,Y,Y,Y,Y,Y,Y,Y,Y,Y,Y,Y,Y,Y,Y,Y,Y,Y,Y,Y,Y,Y,Z] rfl rfl (any_of HT_.out (by kernel_rfl)) (fun _ _ _ h => h) (Or.inl ⟨by rfl, ?_⟩) ?_ ?_
    rotate_left
    ·intro w'
     go_simp
     with_reducible rfl
    rotate_left
    ·exact ac_
    refine pure_ (i := 25) (N := some 73) (v := ?_) (a' := ?_) #[Y,Y,Y,Y,Y,Y,Y,Y,Y,Y,Y,Y,Y,Y,Y,Y,Y,Y,Y,Y,Y,Y,Y,Y,Y,Y] rfl rfl (any_of HT_.out (by kernel_rfl)) (fun _ _ _ h => h) (Or.inl ⟨by rfl, ?_⟩) ?_ ?_
    rotate_left
    ·intro w'
     go_simp
     with_reducible rfl
    rotate_left
    ·exact ac_
    refine done_ (done_of HT_.out (by kernel_rfl)) ?_
    try go_wp2
    go_meet
    case rel => exact ⟨_, (((rdOf ByteArray.empty x7_1 x10_1).toList != (rdOf ByteArray.empty x7_1 (rd t233 x10_1)).toList)), (by first | rfl | (simp; done) | (simp [*]; done)), H', ⟨by have := HK1.out; first | omega | exact Nat.le_refl _⟩, ⟨by (try simp only [hl8_1]); (with_reducible repeat (first | apply Kd.R_alloc | apply Kd.R_drewN | apply Kd.R_drew)); exact HO_5.out⟩, ⟨by (try simp only [hl8_1]); (with_reducible repeat (first | apply Kd.R_alloc | apply Kd.R_drewN | apply Kd.R_drew)); exact HO_7.out⟩, ⟨by (try simp only [hl8_1]); (with_reducible repeat (first | apply Kd.R_alloc | apply Kd.R_drewN | apply Kd.R_drew)); exact HO_8.out⟩, ⟨by (try simp only [hl8_1]); (with_reducible repeat (first | apply Kd.R_alloc | apply Kd.R_drewN | apply Kd.R_drew)); exact HO_9.out⟩, ⟨by repeat (first | (with_reducible first | exact HB.out | apply below_alloc | apply pw_below_drewN | apply below_drew1) | exact HB.out | exact Below.refl _ _)⟩⟩
   case rest =>
    clear HC25
    try clear c2
    try clear p2
    try clear q2
    try clear hx2
    try clear c3
    try clear q23
    try clear p24
    try clear q24
    try clear hx24
    try clear p25
    try clear q25
    try clear hx25
    try clear c26
    try clear q27
    try clear c28
    try clear c31
    try clear c31b0
    try clear c31b1
    try clear c32
    try clear c32b0
    try clear c33
    try clear c33b0
    try clear c34
    try clear c34b0
    try clear c35
    try clear c35b0
    try clear hx248_0
    try clear hx249_0
    try clear hx249_1
    try clear hx249_2
    try clear hx250_0
    try clear hx251_0
    try clear hx252_0
    try clear p248
    try clear p249
    try clear p250
    try clear p251
    try clear p252
    try clear q248
    try clear q249
    try clear q250
    try clear q251
    try clear q252
    obtain ⟨kq, x73_24, rfl, HA, HJ24, HO_5, HO_7, HO_8, HO_9, HB⟩ := hcut
    cases kq with
    | zero => exact absurd HA.out (by simp [camshaftref07_Stacks.j1])
    | succ kj24 =>
     have H := HA.out
     clear HA
     simp only [camshaftref07_Stacks.j1] at H
     by_cases c42 : x73_24 = true
     ·subst c42
      have H1 : (some (([] : List ByteArray), 10)) = some (r1, r2) := by rw [if_pos rfl] at H; exact H
      clear H
      have H := H1
      clear H1
      simp only [Option.some.injEq, Prod.mk.injEq] at H
      obtain ⟨rfl, rfl⟩ := H
      go_wp2
      go_ret2
      exact ⟨_, by first | rfl | (simp [errW_none, errW_some] <;> rfl) | (simp [*, errW_none, errW_some] <;> rfl), by first | exact Kd.R_nil _ _ _ _ _ | exact Kd.N_nil _ _ _ _ _ | exact Kd.V_nil _ _ _ _ _ | exact Kd.Q_nil _ _ _ _ _ | exact Kd.S_nil _ _ _ _ _, by repeat (first | (with_reducible first | exact HB.out | apply below_alloc | apply pw_below_drewN | apply below_drew1) | exact HB.out | exact Below.refl _ _)⟩
     replace c42 := Bool.eq_false_iff.mpr c42
     subst c42
     have H1 : (if 0 ≤ x10_1 then (if x10_1 < (x7_1.length : Int) then (if x10_1 < (l0.length : Int) then ((camshaftref07_Takes.f kj24 ((rd_T37 l0 x10_1).f0) ((rd_T37 l0 x10_1).f1) ((rd_T37 l0 x10_1).f2)).bind fun t255 => (if (wrap64 (((rdOf ByteArray.empty x7_1 x10_1).size : Int) - (t255.size : Int))) < 0 then (some (([] : List ByteArray), 9)) else (if 0 ≤ (wrap64 (((rdOf ByteArray.empty x7_1 x10_1).size : Int) - (t255.size : Int))) then (if (wrap64 (((rdOf ByteArray.empty x7_1 x10_1).size : Int) - (t255.size : Int))) ≤ ((rdOf ByteArray.empty x7_1 x10_1).size : Int) then ((camshaftref07_Takes.f kj24 ((rd_T37 l0 x10_1).f0) ((rd_T37 l0 x10_1).f1) ((rd_T37 l0 x10_1).f2)).bind fun t258 => ((camshaftref07_fits.f kj24 ((rdOf ByteArray.empty x7_1 x10_1).extract ((wrap64 (((rdOf ByteArray.empty x7_1 x10_1).size : Int) - (t255.size : Int))) : Int).toNat (rdOf ByteArray.empty x7_1 x10_1).size) t258).bind fun t259 => (if t259 = true then ((camshaftref07_Gives.f kj24 ((rd_T37 l0 x10_1).f0) ((rd_T37 l0 x10_1).f1) ((rd_T37 l0 x10_1).f2) ((rdOf ByteArray.empty x7_1 x10_1).extract ((wrap64 (((rdOf ByteArray.empty x7_1 x10_1).size : Int) - (t255.size : Int))) : Int).toNat (rdOf ByteArray.empty x7_1 x10_1).size)).bind fun t262 => (if ((rdOf ByteArray.empty x7_1 x10_1).extract 0 ((wrap64 (((rdOf ByteArray.empty x7_1 x10_1).size : Int) - (t255.size : Int))) : Int).toNat).size + t262.size ≤ 9223372036854775807 then (if ((((rdOf ByteArray.empty x7_1 x10_1).extract 0 ((wrap64 (((rdOf ByteArray.empty x7_1 x10_1).size : Int) - (t255.size : Int))) : Int).toNat) ++ t262).size : Int) > 16 then (some (([] : List ByteArray), 9)) else ((camshaftref07_nexts.f l0 x10_1).bind fun t263 => (camshaftref07_Stacks.l1 kj24 l0 t233 x7_1 x8_1 x9_1 x10_1 (((rdOf ByteArray.empty x7_1 x10_1).extract 0 ((wrap64 (((rdOf ByteArray.empty x7_1 x10_1).size : Int) - (t255.size : Int))) : Int).toNat) ++ t262) t263 0))) else (none))) else (some (([] : List ByteArray), 10))))) else (none)) else (none)))) else (none)) else (none)) else (none)) = some (r1, r2) := by rw [if_neg (show ¬ (false = true) by decide)] at H; exact H
     clear H
     have H := H1
     clear H1
     by_cases c43 : 0 ≤ x10_1
     rotate_left
     ·rw [if_neg c43] at H
      exact absurd H (by simp)
     rw [if_pos c43] at H
     have c43b0 : decide (0 ≤ x10_1) = true := decide_eq_true c43
     clear c43
     by_cases c44 : x10_1 < (x7_1.length : Int)
     rotate_left
     ·rw [if_neg c44] at H
      exact absurd H (by simp)
     rw [if_pos c44] at H
     have c44b0 : decide (x10_1 < (x7_1.length : Int)) = true := decide_eq_true c44
     clear c44
     by_cases c45 : x10_1 < (l0.length : Int)
     rotate_left
     ·rw [if_neg c45] at H
      exact absurd H (by simp)
     rw [if_pos c45] at H
     have c45b0 : decide (x10_1 < (l0.length : Int)) = true := decide_eq_true c45
     clear c45
     replace H := Option.bind_eq_some_iff.mp H
     obtain ⟨t255, A460, H⟩ := H
     replace H : (if (wrap64 (((rdOf ByteArray.empty x7_1 x10_1).size : Int) - (t255.size : Int))) < 0 then (some (([] : List ByteArray), 9)) else (if 0 ≤ (wrap64 (((rdOf ByteArray.empty x7_1 x10_1).size : Int) - (t255.size : Int))) then (if (wrap64 (((rdOf ByteArray.empty x7_1 x10_1).size : Int) - (t255.size : Int))) ≤ ((rdOf ByteArray.empty x7_1 x10_1).size : Int) then ((camshaftref07_Takes.f kj24 ((rd_T37 l0 x10_1).f0) ((rd_T37 l0 x10_1).f1) ((rd_T37 l0 x10_1).f2)).bind fun t258 => ((camshaftref07_fits.f kj24 ((rdOf ByteArray.empty x7_1 x10_1).extract ((wrap64 (((rdOf ByteArray.empty x7_1 x10_1).size : Int) - (t255.size : Int))) : Int).toNat (rdOf ByteArray.empty x7_1 x10_1).size) t258).bind fun t259 => (if t259 = true then ((camshaftref07_Gives.f kj24 ((rd_T37 l0 x10_1).f0) ((rd_T37 l0 x10_1).f1) ((rd_T37 l0 x10_1).f2) ((rdOf ByteArray.empty x7_1 x10_1).extract ((wrap64 (((rdOf ByteArray.empty x7_1 x10_1).size : Int) - (t255.size : Int))) : Int).toNat (rdOf ByteArray.empty x7_1 x10_1).size)).bind fun t262 => (if ((rdOf ByteArray.empty x7_1 x10_1).extract 0 ((wrap64 (((rdOf ByteArray.empty x7_1 x10_1).size : Int) - (t255.size : Int))) : Int).toNat).size + t262.size ≤ 9223372036854775807 then (if ((((rdOf ByteArray.empty x7_1 x10_1).extract 0 ((wrap64 (((rdOf ByteArray.empty x7_1 x10_1).size : Int) - (t255.size : Int))) : Int).toNat) ++ t262).size : Int) > 16 then (some (([] : List ByteArray), 9)) else ((camshaftref07_nexts.f l0 x10_1).bind fun t263 => (camshaftref07_Stacks.l1 kj24 l0 t233 x7_1 x8_1 x9_1 x10_1 (((rdOf ByteArray.empty x7_1 x10_1).extract 0 ((wrap64 (((rdOf ByteArray.empty x7_1 x10_1).size : Int) - (t255.size : Int))) : Int).toNat) ++ t262) t263 0))) else (none))) else (some (([] : List ByteArray), 10))))) else (none)) else (none))) = some (r1, r2) := H
     have A46 := Aside0.mk A460
     clear A460
     by_cases c47 : (wrap64 (((rdOf ByteArray.empty x7_1 x10_1).size : Int) - (t255.size : Int))) < 0
     ·rw [if_pos c47] at H
      have c47b0 : decide ((wrap64 (((rdOf ByteArray.empty x7_1 x10_1).size : Int) - (t255.size : Int))) < 0) = true := decide_eq_true c47
      clear c47
      simp only [Option.some.injEq, Prod.mk.injEq] at H
      obtain ⟨rfl, rfl⟩ := H
      try go_wp2
      have n0_ := Aside0.mk (Kd.R_drew HO_5.out)
      have n1_ := Aside0.mk (Kd.R_drew HO_7.out)
      have n2_ := Aside0.mk (Kd.R_drew HO_8.out)
      have n3_ := Aside0.mk (Kd.R_drew HO_9.out)
      have n4_ := Aside0.mk (below_drew1 HB.out)
      clear HO_5
      clear HO_7
      clear HO_8
      clear HO_9
      clear HB
      have HO_5 := n0_
      have HO_7 := n1_
      have HO_8 := n2_
      have HO_9 := n3_
      have HB := n4_
      clear n0_ n1_ n2_ n3_ n4_
      obtain ⟨Ao49, co49, eo49⟩ := Kd.R_slice HO_7.out
      (first | subst eo49 | (injection eo49 with f1_ f2_ f3_; have f4_ := f1_.symm; have f5_ := f3_.symm; clear f1_ f2_ f3_; subst f4_; subst f5_))
      have p253 : 0 ≤ (x10_1 : Int) := of_decide_eq_true as_
      have q253 : x10_1 < (x7_1.length : Int) := of_decide_eq_true as_
      obtain ⟨ad253, e253, hx253_0⟩ := Kd.at_string (Kd.R_reads' HO_7.out).2.2 x10_1 p253 q253
      cases e253
      replace p253 := eq_true p253
      replace q253 := eq_true q253
      have p254 : 0 ≤ (x10_1 : Int) := of_decide_eq_true as_
      have q254 : x10_1 < (l0.length : Int) := of_decide_eq_true as_
      obtain ⟨ad254, e254, hx254_0, hx254_1, hx254_2⟩ := at_T37 HR0.out x10_1 p254 q254
      have hw254_2 := hx254_2
      have hw254_1 := hx254_1
      have hw254_0 := hx254_0
      cases e254
      replace hx254_0 := (HB.out.cell (World.block_lt_of_cell? w _ hx254_0)).trans hx254_0
      replace hx254_1 := (HB.out.cell (World.block_lt_of_cell? w _ hx254_1)).trans hx254_1
      replace hx254_2 := (HB.out.cell (World.block_lt_of_cell? w _ hx254_2)).trans hx254_2
      replace p254 := eq_true p254
      replace q254 := eq_true q254
      refine start_ (n := 13) (S := fun w' => w'.cell? (ad253.add (x10_1).toNat) = some (.string (rdOf ByteArray.empty x7_1 x10_1)) ∧ w'.cell? (ad254.add ((x10_1).toNat * 3)) = some (.int .i64 ((rd_T37 l0 x10_1).f0)) ∧ w'.cell? ⟨(ad254.add ((x10_1).toNat * 3)).block, (ad254.add ((x10_1).toNat * 3)).off + 1, none⟩ = some (.int .i64 ((rd_T37 l0 x10_1).f1)) ∧ w'.cell? ⟨(ad254.add ((x10_1).toNat * 3)).block, (ad254.add ((x10_1).toNat * 3)).off + 2, none⟩ = some (.int .i64 ((rd_T37 l0 x10_1).f2))) (ds := []) #[Z,Z,Z,Z,Z,Z,Z,Z,Z,Z,Z,Z,Z] (by kernel_rfl) rfl rfl ⟨hx253_0, ((HB.out.cell (World.block_lt_of_cell? w _ hw254_0)).trans hw254_0), ((HB.out.cell (World.block_lt_of_cell? w _ hw254_1)).trans hw254_1), ((HB.out.cell (World.block_lt_of_cell? w _ hw254_2)).trans hw254_2)⟩ (fun hHeld => ?_); refine with_tabW camshaftref07_Stacks.tab16 camshaftref07_Stacks.bits16 (fun HT_ HW_ => ?_)
      generalize wc.drew = w48 at HO_5 HO_7 HO_8 HO_9 HB hx253_0 hx254_0 hx254_1 hx254_2 hHeld ⊢
      refine pure_ (i := 0) (N := some 74) (v := ?_) (a' := ?_) #[Y,Z,Z,Z,Z,Z,Z,Z,Z,Z,Z,Z,Z] rfl rfl (any_of HT_.out (by kernel_rfl)) (fun _ _ _ h => h) (Or.inl ⟨by rfl, ?_⟩) ?_ ?_
      rotate_left
      ·intro w'
       go_simp
       with_reducible rfl
      rotate_left
      ·exact ac_
      refine pure_ (i := 1) (N := some 75) (v := ?_) (a' := ?_) #[Y,Y,Z,Z,Z,Z,Z,Z,Z,Z,Z,Z,Z] rfl rfl (any_of HT_.out (by kernel_rfl)) (fun _ _ _ h => h) (Or.inl ⟨by rfl, ?_⟩) ?_ ?_
      rotate_left
      ·intro w'
       go_simp
       with_reducible rfl
      rotate_left
      ·exact ac_
      refine pure_ (i := 2) (N := some 76) (v := ?_) (a' := ?_) #[Y,Y,Y,Z,Z,Z,Z,Z,Z,Z,Z,Z,Z] rfl rfl (any_of HT_.out (by kernel_rfl)) (fun _ _ _ h => h) (Or.inl ⟨by rfl, ?_⟩) ?_ ?_
      rotate_left
      ·intro w'
       go_simp
       with_reducible rfl
      rotate_left
      ·exact ac_
      refine pure_ (i := 5) (N := some 79) (v := ?_) (a' := ?_) #[Y,Y,Y,Z,Z,Y,Z,Z,Z,Z,Z,Z,Z] rfl rfl (any_of HT_.out (by kernel_rfl)) (fun _ _ _ h => h) (Or.inl ⟨by rfl, ?_⟩) ?_ ?_
      rotate_left
      ·intro w'
       go_simp
       with_reducible rfl
      rotate_left
      ·exact ac_
      refine pure_ (i := 6) (N := some 80) (v := ?_) (a' := ?_) #[Y,Y,Y,Z,Z,Y,Y,Z,Z,Z,Z,Z,Z] rfl rfl (any_of HT_.out (by kernel_rfl)) (fun _ _ _ h => h) (Or.inl ⟨by rfl, ?_⟩) ?_ ?_
      rotate_left
      ·intro w'
       go_simp
       with_reducible rfl
      rotate_left
      ·exact ac_
      refine pure_ (i := 7) (N := some 81) (v := ?_) (a' := ?_) #[Y,Y,Y,Z,Z,Y,Y,Y,Z,Z,Z,Z,Z] rfl rfl (any_of HT_.out (by kernel_rfl)) (fun _ _ _ h => h) (Or.inl ⟨by rfl, ?_⟩) ?_ ?_
      rotate_left
      ·intro w'
       go_simp
       with_reducible rfl
      rotate_left
      ·exact ac_
      refine take_ (i := 3) (N := some 77) (v := ?_) (a' := ?_) #[Y,Y,Y,Y,Z,Y,Y,Y,Z,Z,Z,Z,Z] rfl rfl (take_ofW HT_.out HW_.out (by kernel_rfl)) (fun _ _ _ h => h) (Or.inl ⟨by rfl, ?_⟩) hHeld ?_ ?_
      rotate_left
      ·rintro w' ⟨s0, s1, s2, s3⟩
       go_simp
       with_reducible rfl
      rotate_left
      ·exact ac_
      refine pure_ (i := 4) (N := some 78) (v := ?_) (a' := ?_) #[Y,Y,Y,Y,Y,Y,Y,Y,Z,Z,Z,Z,Z] rfl rfl (any_of HT_.out (by kernel_rfl)) (fun _ _ _ h => h) (Or.inl ⟨by rfl, ?_⟩) ?_ ?_
      rotate_left
      ·intro w'
       go_simp
       with_reducible rfl
      rotate_left
      ·exact ac_
      refine take_ (i := 8) (N := some 82) (v := ?_) (a' := ?_) #[Y,Y,Y,Y,Y,Y,Y,Y,Y,Z,Z,Z,Z] rfl rfl (take_ofW HT_.out HW_.out (by kernel_rfl)) (fun _ _ _ h => h) (Or.inl ⟨by rfl, ?_⟩) hHeld ?_ ?_
      rotate_left
      ·rintro w' ⟨s0, s1, s2, s3⟩
       go_simp
       with_reducible rfl
      rotate_left
      ·exact ac_
      refine one_ (i := 9) (N := some 83) #[Y,Y,Y,Y,Y,Y,Y,Y,Y,Y,Z,Z,Z] rfl rfl (one_of HT_.out (by kernel_rfl)) (by decide) (fun K hK => ?_)
      refine goes_ Try.func22 (by kernel_rfl) rfl #[.agg #[.int .i64 ((rd_T37 l0 x10_1).f0), .int .i64 ((rd_T37 l0 x10_1).f1), .int .i64 ((rd_T37 l0 x10_1).f2)]] (by rfl) rfl rfl am_ ?_
      with_reducible refine (camshaftref07_Takes.calls kj24 ((rd_T37 l0 x10_1).f0) ((rd_T37 l0 x10_1).f1) ((rd_T37 l0 x10_1).f2) t255 _ A46.out).mono ?_
      rintro e w50 ⟨rfl, hb⟩
      have HS0_ := (hb.cell (World.block_lt_of_cell? _ _ (hHeld.1))).trans (hHeld.1)
      refine ⟨_, rfl, ?_⟩
      have n0_ := Aside0.mk (Kd.R_below (by (with_reducible repeat (first | apply Kd.R_alloc | apply Kd.R_drewN | apply Kd.R_drew)); exact HO_5.out) hb)
      have n1_ := Aside0.mk (Kd.R_below (by (with_reducible repeat (first | apply Kd.R_alloc | apply Kd.R_drewN | apply Kd.R_drew)); exact HO_7.out) hb)
      have n2_ := Aside0.mk (Kd.R_below (by (with_reducible repeat (first | apply Kd.R_alloc | apply Kd.R_drewN | apply Kd.R_drew)); exact HO_8.out) hb)
      have n3_ := Aside0.mk (Kd.R_below (by (with_reducible repeat (first | apply Kd.R_alloc | apply Kd.R_drewN | apply Kd.R_drew)); exact HO_9.out) hb)
      first | (have n4_ := Aside0.mk (below_step (Below.refl w.heap.size w) hb)) | (have n4_ := Aside0.mk (below_step (below_drew (pw_below_drewN (Below.refl w.heap.size w) _)) hb)) | (have n4_ := Aside0.mk (below_step (pw_below_drewN (Below.refl w.heap.size w) _) hb)) | (have n4_ := Aside0.mk (below_step ab_ hb))
      clear HO_5
      clear HO_7
      clear HO_8
      clear HO_9
      clear HB
      have HO_5 := n0_
      have HO_7 := n1_
      have HO_8 := n2_
      have HO_9 := n3_
      have HB := n4_
      clear n0_ n1_ n2_ n3_ n4_
      (try clear hb)
      (try clear hb2)
      (try clear hk)
      (try clear hi)
      refine hK.out _ _ ⟨HS0_, ((HB.out.cell (World.block_lt_of_cell? w _ hw254_0)).trans hw254_0), ((HB.out.cell (World.block_lt_of_cell? w _ hw254_1)).trans hw254_1), ((HB.out.cell (World.block_lt_of_cell? w _ hw254_2)).trans hw254_2)⟩ (fun hHeld => ?_)
      clear hK K
      refine norm_ (a' := ?_) ?_ ?_
      rotate_left
      ·show Act.put _ (some 83) _ = _
       simp only [Act.put, setIfInBounds_toArray,set_cons_zero,set_cons_succ, i64_w, i32_w]
       rfl
      refine pure_ (i := 10) (N := some 84) (v := ?_) (a' := ?_) #[Y,Y,Y,Y,Y,Y,Y,Y,Y,Y,Y,Z,Z] rfl rfl (any_of HT_.out (by kernel_rfl)) (fun _ _ _ h => h) (Or.inl ⟨by rfl, ?_⟩) ?_ ?_
      rotate_left
      ·intro w'
       go_simp
       with_reducible rfl
      rotate_left
      ·exact ac_
      refine pure_ (i := 11) (N := some 85) (v := ?_) (a' := ?_) #[Y,Y,Y,Y,Y,Y,Y,Y,Y,Y,Y,Y,Z] rfl rfl (any_of HT_.out (by kernel_rfl)) (fun _ _ _ h => h) (Or.inl ⟨by rfl, ?_⟩) ?_ ?_
      rotate_left
      ·intro w'
       go_simp
       with_reducible rfl
      rotate_left
      ·exact ac_
      refine pure_ (i := 12) (N := some 11) (v := ?_) (a' := ?_) #[Y,Y,Y,Y,Y,Y,Y,Y,Y,Y,Y,Y,Y] rfl rfl (any_of HT_.out (by kernel_rfl)) (fun _ _ _ h => h) (Or.inl ⟨by rfl, ?_⟩) ?_ ?_
      rotate_left
      ·intro w'
       go_simp
       with_reducible rfl
      rotate_left
      ·exact ac_
      refine done_ (done_of HT_.out (by kernel_rfl)) ?_
      try go_wp2
      go_ret2
      exact ⟨_, by first | rfl | (simp [errW_none, errW_some] <;> rfl) | (simp [*, errW_none, errW_some] <;> rfl), by first | exact Kd.R_nil _ _ _ _ _ | exact Kd.N_nil _ _ _ _ _ | exact Kd.V_nil _ _ _ _ _ | exact Kd.Q_nil _ _ _ _ _ | exact Kd.S_nil _ _ _ _ _, by repeat (first | (with_reducible first | exact HB.out | apply below_alloc | apply pw_below_drewN | apply below_drew1) | exact HB.out | exact Below.refl _ _)⟩
     rw [if_neg c47] at H
     have c47b0 : decide ((wrap64 (((rdOf ByteArray.empty x7_1 x10_1).size : Int) - (t255.size : Int))) < 0) = false := decide_eq_false c47
     clear c47
     obtain ⟨ji51, hji51⟩ : ∃ j_ : Int, (wrap64 (((rdOf ByteArray.empty x7_1 x10_1).size : Int) - (t255.size : Int))) = j_ := ⟨_, rfl⟩
     replace H : (if 0 ≤ (ji51) then (if (ji51) ≤ ((rdOf ByteArray.empty x7_1 x10_1).size : Int) then ((camshaftref07_Takes.f kj24 ((rd_T37 l0 x10_1).f0) ((rd_T37 l0 x10_1).f1) ((rd_T37 l0 x10_1).f2)).bind fun t258 => ((camshaftref07_fits.f kj24 ((rdOf ByteArray.empty x7_1 x10_1).extract ((ji51) : Int).toNat (rdOf ByteArray.empty x7_1 x10_1).size) t258).bind fun t259 => (if t259 = true then ((camshaftref07_Gives.f kj24 ((rd_T37 l0 x10_1).f0) ((rd_T37 l0 x10_1).f1) ((rd_T37 l0 x10_1).f2) ((rdOf ByteArray.empty x7_1 x10_1).extract ((ji51) : Int).toNat (rdOf ByteArray.empty x7_1 x10_1).size)).bind fun t262 => (if ((rdOf ByteArray.empty x7_1 x10_1).extract 0 ((ji51) : Int).toNat).size + t262.size ≤ 9223372036854775807 then (if ((((rdOf ByteArray.empty x7_1 x10_1).extract 0 ((ji51) : Int).toNat) ++ t262).size : Int) > 16 then (some (([] : List ByteArray), 9)) else ((camshaftref07_nexts.f l0 x10_1).bind fun t263 => (camshaftref07_Stacks.l1 kj24 l0 t233 x7_1 x8_1 x9_1 x10_1 (((rdOf ByteArray.empty x7_1 x10_1).extract 0 ((ji51) : Int).toNat) ++ t262) t263 0))) else (none))) else (some (([] : List ByteArray), 10))))) else (none)) else (none)) = some (r1, r2) := by first | (rw [hji51] at H; exact H) | (simp only [hji51] at H ⊢; exact H)
     (try rw [hji51] at c47b0)
     (try rw [hji51] at A46)
     have hji51w : (IntKind.i64.wrap (((rdOf ByteArray.empty x7_1 x10_1).size : Int) - (t255.size : Int))) = ji51 := (i64_w _).trans hji51
     by_cases c52 : 0 ≤ (ji51)
     rotate_left
     ·rw [if_neg c52] at H
      exact absurd H (by simp)
     rw [if_pos c52] at H
     have c52b0 := eq_true c52
     have c52b1 : decide (0 ≤ (ji51)) = true := decide_eq_true c52
     clear c52
     by_cases c53 : (ji51) ≤ ((rdOf ByteArray.empty x7_1 x10_1).size : Int)
     rotate_left
     ·rw [if_neg c53] at H
      exact absurd H (by simp)
     rw [if_pos c53] at H
     have c53b0 := eq_true c53
     have c53b1 : decide ((ji51) ≤ ((rdOf ByteArray.empty x7_1 x10_1).size : Int)) = true := decide_eq_true c53
     clear c53
     replace H := Option.bind_eq_some_iff.mp H
     obtain ⟨t258, A540, H⟩ := H
     replace H : ((camshaftref07_fits.f kj24 ((rdOf ByteArray.empty x7_1 x10_1).extract ((ji51) : Int).toNat (rdOf ByteArray.empty x7_1 x10_1).size) t258).bind fun t259 => (if t259 = true then ((camshaftref07_Gives.f kj24 ((rd_T37 l0 x10_1).f0) ((rd_T37 l0 x10_1).f1) ((rd_T37 l0 x10_1).f2) ((rdOf ByteArray.empty x7_1 x10_1).extract ((ji51) : Int).toNat (rdOf ByteArray.empty x7_1 x10_1).size)).bind fun t262 => (if ((rdOf ByteArray.empty x7_1 x10_1).extract 0 ((ji51) : Int).toNat).size + t262.size ≤ 9223372036854775807 then (if ((((rdOf ByteArray.empty x7_1 x10_1).extract 0 ((ji51) : Int).toNat) ++ t262).size : Int) > 16 then (some (([] : List ByteArray), 9)) else ((camshaftref07_nexts.f l0 x10_1).bind fun t263 => (camshaftref07_Stacks.l1 kj24 l0 t233 x7_1 x8_1 x9_1 x10_1 (((rdOf ByteArray.empty x7_1 x10_1).extract 0 ((ji51) : Int).toNat) ++ t262) t263 0))) else (none))) else (some (([] : List ByteArray), 10)))) = some (r1, r2) := H
     have A54 := Aside0.mk A540
     clear A540
     replace H := Option.bind_eq_some_iff.mp H
     obtain ⟨t259, A550, H⟩ := H
     replace H : (if t259 = true then ((camshaftref07_Gives.f kj24 ((rd_T37 l0 x10_1).f0) ((rd_T37 l0 x10_1).f1) ((rd_T37 l0 x10_1).f2) ((rdOf ByteArray.empty x7_1 x10_1).extract ((ji51) : Int).toNat (rdOf ByteArray.empty x7_1 x10_1).size)).bind fun t262 => (if ((rdOf ByteArray.empty x7_1 x10_1).extract 0 ((ji51) : Int).toNat).size + t262.size ≤ 9223372036854775807 then (if ((((rdOf ByteArray.empty x7_1 x10_1).extract 0 ((ji51) : Int).toNat) ++ t262).size : Int) > 16 then (some (([] : List ByteArray), 9)) else ((camshaftref07_nexts.f l0 x10_1).bind fun t263 => (camshaftref07_Stacks.l1 kj24 l0 t233 x7_1 x8_1 x9_1 x10_1 (((rdOf ByteArray.empty x7_1 x10_1).extract 0 ((ji51) : Int).toNat) ++ t262) t263 0))) else (none))) else (some (([] : List ByteArray), 10))) = some (r1, r2) := H
     have A55 := Aside0.mk A550
     clear A550
     by_cases c56 : t259 = true
     rotate_left
     ·replace c56 := Bool.eq_false_iff.mpr c56
      subst c56
      have H1 : (some (([] : List ByteArray), 10)) = some (r1, r2) := by rw [if_neg (show ¬ (false = true) by decide)] at H; exact H
      clear H
      have H := H1
      clear H1
      simp only [Option.some.injEq, Prod.mk.injEq] at H
      obtain ⟨rfl, rfl⟩ := H
      try go_wp2
      have n0_ := Aside0.mk (Kd.R_drew HO_5.out)
      have n1_ := Aside0.mk (Kd.R_drew HO_7.out)
      have n2_ := Aside0.mk (Kd.R_drew HO_8.out)
      have n3_ := Aside0.mk (Kd.R_drew HO_9.out)
      have n4_ := Aside0.mk (below_drew1 HB.out)
      clear HO_5
      clear HO_7
      clear HO_8
      clear HO_9
      clear HB
      have HO_5 := n0_
      have HO_7 := n1_
      have HO_8 := n2_
      have HO_9 := n3_
      have HB := n4_
      clear n0_ n1_ n2_ n3_ n4_
      obtain ⟨Ao127, co127, eo127⟩ := Kd.R_slice HO_7.out
      (first | subst eo127 | (injection eo127 with f1_ f2_ f3_; have f4_ := f1_.symm; have f5_ := f3_.symm; clear f1_ f2_ f3_; subst f4_; subst f5_))
      have p253 : 0 ≤ (x10_1 : Int) := of_decide_eq_true as_
      have q253 : x10_1 < (x7_1.length : Int) := of_decide_eq_true as_
      obtain ⟨ad253, e253, hx253_0⟩ := Kd.at_string (Kd.R_reads' HO_7.out).2.2 x10_1 p253 q253
      cases e253
      replace p253 := eq_true p253
      replace q253 := eq_true q253
      have p254 : 0 ≤ (x10_1 : Int) := of_decide_eq_true as_
      have q254 : x10_1 < (l0.length : Int) := of_decide_eq_true as_
      obtain ⟨ad254, e254, hx254_0, hx254_1, hx254_2⟩ := at_T37 HR0.out x10_1 p254 q254
      have hw254_2 := hx254_2
      have hw254_1 := hx254_1
      have hw254_0 := hx254_0
      cases e254
      replace hx254_0 := (HB.out.cell (World.block_lt_of_cell? w _ hx254_0)).trans hx254_0
      replace hx254_1 := (HB.out.cell (World.block_lt_of_cell? w _ hx254_1)).trans hx254_1
      replace hx254_2 := (HB.out.cell (World.block_lt_of_cell? w _ hx254_2)).trans hx254_2
      replace p254 := eq_true p254
      replace q254 := eq_true q254
      refine start_ (n := 13) (S := fun w' => w'.cell? (ad253.add (x10_1).toNat) = some (.string (rdOf ByteArray.empty x7_1 x10_1)) ∧ w'.cell? (ad254.add ((x10_1).toNat * 3)) = some (.int .i64 ((rd_T37 l0 x10_1).f0)) ∧ w'.cell? ⟨(ad254.add ((x10_1).toNat * 3)).block, (ad254.add ((x10_1).toNat * 3)).off + 1, none⟩ = some (.int .i64 ((rd_T37 l0 x10_1).f1)) ∧ w'.cell? ⟨(ad254.add ((x10_1).toNat * 3)).block, (ad254.add ((x10_1).toNat * 3)).off + 2, none⟩ = some (.int .i64 ((rd_T37 l0 x10_1).f2))) (ds := []) #[Z,Z,Z,Z,Z,Z,Z,Z,Z,Z,Z,Z,Z] (by kernel_rfl) rfl rfl ⟨hx253_0, ((HB.out.cell (World.block_lt_of_cell? w _ hw254_0)).trans hw254_0), ((HB.out.cell (World.block_lt_of_cell? w _ hw254_1)).trans hw254_1), ((HB.out.cell (World.block_lt_of_cell? w _ hw254_2)).trans hw254_2)⟩ (fun hHeld => ?_); refine with_tabW camshaftref07_Stacks.tab16 camshaftref07_Stacks.bits16 (fun HT_ HW_ => ?_)
      generalize wc.drew = w126 at HO_5 HO_7 HO_8 HO_9 HB hx253_0 hx254_0 hx254_1 hx254_2 hHeld ⊢
      refine pure_ (i := 0) (N := some 74) (v := ?_) (a' := ?_) #[Y,Z,Z,Z,Z,Z,Z,Z,Z,Z,Z,Z,Z] rfl rfl (any_of HT_.out (by kernel_rfl)) (fun _ _ _ h => h) (Or.inl ⟨by rfl, ?_⟩) ?_ ?_
      rotate_left
      ·intro w'
       go_simp
       with_reducible rfl
      rotate_left
      ·exact ac_
      refine pure_ (i := 1) (N := some 75) (v := ?_) (a' := ?_) #[Y,Y,Z,Z,Z,Z,Z,Z,Z,Z,Z,Z,Z] rfl rfl (any_of HT_.out (by kernel_rfl)) (fun _ _ _ h => h) (Or.inl ⟨by rfl, ?_⟩) ?_ ?_
      rotate_left
      ·intro w'
       go_simp
       with_reducible rfl
      rotate_left
      ·exact ac_
      refine pure_ (i := 2) (N := some 76) (v := ?_) (a' := ?_) #[Y,Y,Y,Z,Z,Z,Z,Z,Z,Z,Z,Z,Z] rfl rfl (any_of HT_.out (by kernel_rfl)) (fun _ _ _ h => h) (Or.inl ⟨by rfl, ?_⟩) ?_ ?_
      rotate_left
      ·intro w'
       go_simp
       with_reducible rfl
      rotate_left
      ·exact ac_
      refine pure_ (i := 5) (N := some 79) (v := ?_) (a' := ?_) #[Y,Y,Y,Z,Z,Y,Z,Z,Z,Z,Z,Z,Z] rfl rfl (any_of HT_.out (by kernel_rfl)) (fun _ _ _ h => h) (Or.inl ⟨by rfl, ?_⟩) ?_ ?_
      rotate_left
      ·intro w'
       go_simp
       with_reducible rfl
      rotate_left
      ·exact ac_
      refine pure_ (i := 6) (N := some 80) (v := ?_) (a' := ?_) #[Y,Y,Y,Z,Z,Y,Y,Z,Z,Z,Z,Z,Z] rfl rfl (any_of HT_.out (by kernel_rfl)) (fun _ _ _ h => h) (Or.inl ⟨by rfl, ?_⟩) ?_ ?_
      rotate_left
      ·intro w'
       go_simp
       with_reducible rfl
      rotate_left
      ·exact ac_
      refine pure_ (i := 7) (N := some 81) (v := ?_) (a' := ?_) #[Y,Y,Y,Z,Z,Y,Y,Y,Z,Z,Z,Z,Z] rfl rfl (any_of HT_.out (by kernel_rfl)) (fun _ _ _ h => h) (Or.inl ⟨by rfl, ?_⟩) ?_ ?_
      rotate_left
      ·intro w'
       go_simp
       with_reducible rfl
      rotate_left
      ·exact ac_
      refine take_ (i := 3) (N := some 77) (v := ?_) (a' := ?_) #[Y,Y,Y,Y,Z,Y,Y,Y,Z,Z,Z,Z,Z] rfl rfl (take_ofW HT_.out HW_.out (by kernel_rfl)) (fun _ _ _ h => h) (Or.inl ⟨by rfl, ?_⟩) hHeld ?_ ?_
      rotate_left
      ·rintro w' ⟨s0, s1, s2, s3⟩
       go_simp
       with_reducible rfl
      rotate_left
      ·exact ac_
      refine pure_ (i := 4) (N := some 78) (v := ?_) (a' := ?_) #[Y,Y,Y,Y,Y,Y,Y,Y,Z,Z,Z,Z,Z] rfl rfl (any_of HT_.out (by kernel_rfl)) (fun _ _ _ h => h) (Or.inl ⟨by rfl, ?_⟩) ?_ ?_
      rotate_left
      ·intro w'
       go_simp
       with_reducible rfl
      rotate_left
      ·exact ac_
      refine take_ (i := 8) (N := some 82) (v := ?_) (a' := ?_) #[Y,Y,Y,Y,Y,Y,Y,Y,Y,Z,Z,Z,Z] rfl rfl (take_ofW HT_.out HW_.out (by kernel_rfl)) (fun _ _ _ h => h) (Or.inl ⟨by rfl, ?_⟩) hHeld ?_ ?_
      rotate_left
      ·rintro w' ⟨s0, s1, s2, s3⟩
       go_simp
       with_reducible rfl
      rotate_left
      ·exact ac_
      refine one_ (i := 9) (N := some 83) #[Y,Y,Y,Y,Y,Y,Y,Y,Y,Y,Z,Z,Z] rfl rfl (one_of HT_.out (by kernel_rfl)) (by decide) (fun K hK => ?_)
      refine goes_ Try.func22 (by kernel_rfl) rfl #[.agg #[.int .i64 ((rd_T37 l0 x10_1).f0), .int .i64 ((rd_T37 l0 x10_1).f1), .int .i64 ((rd_T37 l0 x10_1).f2)]] (by rfl) rfl rfl am_ ?_
      with_reducible refine (camshaftref07_Takes.calls kj24 ((rd_T37 l0 x10_1).f0) ((rd_T37 l0 x10_1).f1) ((rd_T37 l0 x10_1).f2) t255 _ A46.out).mono ?_
      rintro e w128 ⟨rfl, hb⟩
      have HS0_ := (hb.cell (World.block_lt_of_cell? _ _ (hHeld.1))).trans (hHeld.1)
      refine ⟨_, rfl, ?_⟩
      have n0_ := Aside0.mk (Kd.R_below (by (with_reducible repeat (first | apply Kd.R_alloc | apply Kd.R_drewN | apply Kd.R_drew)); exact HO_5.out) hb)
      have n1_ := Aside0.mk (Kd.R_below (by (with_reducible repeat (first | apply Kd.R_alloc | apply Kd.R_drewN | apply Kd.R_drew)); exact HO_7.out) hb)
      have n2_ := Aside0.mk (Kd.R_below (by (with_reducible repeat (first | apply Kd.R_alloc | apply Kd.R_drewN | apply Kd.R_drew)); exact HO_8.out) hb)
      have n3_ := Aside0.mk (Kd.R_below (by (with_reducible repeat (first | apply Kd.R_alloc | apply Kd.R_drewN | apply Kd.R_drew)); exact HO_9.out) hb)
      first | (have n4_ := Aside0.mk (below_step (Below.refl w.heap.size w) hb)) | (have n4_ := Aside0.mk (below_step (below_drew (pw_below_drewN (Below.refl w.heap.size w) _)) hb)) | (have n4_ := Aside0.mk (below_step (pw_below_drewN (Below.refl w.heap.size w) _) hb)) | (have n4_ := Aside0.mk (below_step ab_ hb))
      clear HO_5
      clear HO_7
      clear HO_8
      clear HO_9
      clear HB
      have HO_5 := n0_
      have HO_7 := n1_
      have HO_8 := n2_
      have HO_9 := n3_
      have HB := n4_
      clear n0_ n1_ n2_ n3_ n4_
      (try clear hb)
      (try clear hb2)
      (try clear hk)
      (try clear hi)
      refine hK.out _ _ ⟨HS0_, ((HB.out.cell (World.block_lt_of_cell? w _ hw254_0)).trans hw254_0), ((HB.out.cell (World.block_lt_of_cell? w _ hw254_1)).trans hw254_1), ((HB.out.cell (World.block_lt_of_cell? w _ hw254_2)).trans hw254_2)⟩ (fun hHeld => ?_)
      clear hK K
      refine norm_ (a' := ?_) ?_ ?_
      rotate_left
      ·show Act.put _ (some 83) _ = _
       simp only [Act.put, setIfInBounds_toArray,set_cons_zero,set_cons_succ, i64_w, i32_w]
       rfl
      refine pure_ (i := 10) (N := some 84) (v := ?_) (a' := ?_) #[Y,Y,Y,Y,Y,Y,Y,Y,Y,Y,Y,Z,Z] rfl rfl (any_of HT_.out (by kernel_rfl)) (fun _ _ _ h => h) (Or.inl ⟨by rfl, ?_⟩) ?_ ?_
      rotate_left
      ·intro w'
       go_simp
       with_reducible rfl
      rotate_left
      ·exact ac_
      refine pure_ (i := 11) (N := some 85) (v := ?_) (a' := ?_) #[Y,Y,Y,Y,Y,Y,Y,Y,Y,Y,Y,Y,Z] rfl rfl (any_of HT_.out (by kernel_rfl)) (fun _ _ _ h => h) (Or.inl ⟨by rfl, ?_⟩) ?_ ?_
      rotate_left
      ·intro w'
       go_simp
       with_reducible rfl
      rotate_left
      ·exact ac_
      refine pure_ (i := 12) (N := some 11) (v := ?_) (a' := ?_) #[Y,Y,Y,Y,Y,Y,Y,Y,Y,Y,Y,Y,Y] rfl rfl (any_of HT_.out (by kernel_rfl)) (fun _ _ _ h => h) (Or.inl ⟨by rfl, ?_⟩) ?_ ?_
      rotate_left
      ·intro w'
       go_simp
       with_reducible rfl
      rotate_left
      ·exact ac_
      refine done_ (done_of HT_.out (by kernel_rfl)) ?_
      have p256 : 0 ≤ (x10_1 : Int) := of_decide_eq_true as_
      have q256 : x10_1 < (x7_1.length : Int) := of_decide_eq_true as_
      obtain ⟨ad256, e256, hx256_0⟩ := Kd.at_string (Kd.R_reads' HO_7.out).2.2 x10_1 p256 q256
      obtain rfl : ad253 = ad256 := (by injection e256)
      replace p256 := eq_true p256
      replace q256 := eq_true q256
      have p257 : 0 ≤ (x10_1 : Int) := of_decide_eq_true as_
      have q257 : x10_1 < (l0.length : Int) := of_decide_eq_true as_
      obtain ⟨ad257, e257, hx257_0, hx257_1, hx257_2⟩ := at_T37 HR0.out x10_1 p257 q257
      obtain rfl : ad254 = ad257 := (by injection e257)
      replace hx257_0 := (HB.out.cell (World.block_lt_of_cell? w _ hx257_0)).trans hx257_0
      replace hx257_1 := (HB.out.cell (World.block_lt_of_cell? w _ hx257_1)).trans hx257_1
      replace hx257_2 := (HB.out.cell (World.block_lt_of_cell? w _ hx257_2)).trans hx257_2
      replace p257 := eq_true p257
      replace q257 := eq_true q257
      try go_wp2_with (first | ((with_reducible refine gate_callee (f := 22) rfl ?_); refine goesL_ (some 99) rfl rfl Try.func22 (by kernel_rfl) rfl #[.agg #[.int .i64 ((rd_T37 l0 x10_1).f0), .int .i64 ((rd_T37 l0 x10_1).f1), .int .i64 ((rd_T37 l0 x10_1).f2)]] rfl am_ ?_; (with_reducible refine (camshaftref07_Takes.calls kj24 ((rd_T37 l0 x10_1).f0) ((rd_T37 l0 x10_1).f1) ((rd_T37 l0 x10_1).f2) t258 _ A54.out).mono ?_); rintro e w129 ⟨rfl, hb⟩; refine ⟨_, rfl, ?_⟩; have n0_ := Aside0.mk (Kd.R_below (by (with_reducible repeat (first | apply Kd.R_alloc | apply Kd.R_drewN | apply Kd.R_drew)); exact HO_5.out) hb); have n1_ := Aside0.mk (Kd.R_below (by (with_reducible repeat (first | apply Kd.R_alloc | apply Kd.R_drewN | apply Kd.R_drew)); exact HO_7.out) hb); have n2_ := Aside0.mk (Kd.R_below (by (with_reducible repeat (first | apply Kd.R_alloc | apply Kd.R_drewN | apply Kd.R_drew)); exact HO_8.out) hb); have n3_ := Aside0.mk (Kd.R_below (by (with_reducible repeat (first | apply Kd.R_alloc | apply Kd.R_drewN | apply Kd.R_drew)); exact HO_9.out) hb); have n4_ := Aside0.mk (below_step ab_ hb); clear HO_5; clear HO_7; clear HO_8; clear HO_9; clear HB; have HO_5 := n0_; have HO_7 := n1_; have HO_8 := n2_; have HO_9 := n3_; have HB := n4_; clear n0_ n1_ n2_ n3_ n4_; (try clear hb); (try clear hb2); (try clear hk); (try clear hi)) | ((with_reducible refine gate_callee (f := 23) rfl ?_); refine goesL_ (some 100) rfl rfl Try.func23 (by kernel_rfl) rfl #[.string ((rdOf ByteArray.empty x7_1 x10_1).extract ((ji51) : Int).toNat (rdOf ByteArray.empty x7_1 x10_1).size), .string t258] rfl (by (try simp only [List.map_toArray, List.map_cons, List.map_nil]); first | done | (simp only [hji51]; rfl) | rfl | (simp only [List.length_drop, List.length_take]; rfl)) ?_; (with_reducible refine (camshaftref07_fits.calls kj24 ((rdOf ByteArray.empty x7_1 x10_1).extract ((ji51) : Int).toNat (rdOf ByteArray.empty x7_1 x10_1).size) t258 false _ A55.out).mono ?_); rintro e w' ⟨rfl, ⟨nd, rfl⟩⟩; refine ⟨_, rfl, ?_⟩))
      go_ret2
      exact ⟨_, by first | rfl | (simp [errW_none, errW_some] <;> rfl) | (simp only [← hji51]; first | rfl | (simp [errW_none, errW_some] <;> rfl)) | (simp [*, errW_none, errW_some] <;> rfl), by first | exact Kd.R_nil _ _ _ _ _ | exact Kd.N_nil _ _ _ _ _ | exact Kd.V_nil _ _ _ _ _ | exact Kd.Q_nil _ _ _ _ _ | exact Kd.S_nil _ _ _ _ _, by repeat (first | (with_reducible first | exact HB.out | apply below_alloc | apply pw_below_drewN | apply below_drew1) | exact HB.out | exact Below.refl _ _)⟩
     subst c56
     have H1 : ((camshaftref07_Gives.f kj24 ((rd_T37 l0 x10_1).f0) ((rd_T37 l0 x10_1).f1) ((rd_T37 l0 x10_1).f2) ((rdOf ByteArray.empty x7_1 x10_1).extract ((ji51) : Int).toNat (rdOf ByteArray.empty x7_1 x10_1).size)).bind fun t262 => (if ((rdOf ByteArray.empty x7_1 x10_1).extract 0 ((ji51) : Int).toNat).size + t262.size ≤ 9223372036854775807 then (if ((((rdOf ByteArray.empty x7_1 x10_1).extract 0 ((ji51) : Int).toNat) ++ t262).size : Int) > 16 then (some (([] : List ByteArray), 9)) else ((camshaftref07_nexts.f l0 x10_1).bind fun t263 => (camshaftref07_Stacks.l1 kj24 l0 t233 x7_1 x8_1 x9_1 x10_1 (((rdOf ByteArray.empty x7_1 x10_1).extract 0 ((ji51) : Int).toNat) ++ t262) t263 0))) else (none))) = some (r1, r2) := by rw [if_pos rfl] at H; exact H
     clear H
     have H := H1
     clear H1
     have c57b0 := eq_true (of_decide_eq_true as_ : 0 ≤ (ji51))
     have c58b0 := eq_true (of_decide_eq_true as_ : (ji51) ≤ ((rdOf ByteArray.empty x7_1 x10_1).size : Int))
     replace H := Option.bind_eq_some_iff.mp H
     obtain ⟨t262, A590, H⟩ := H
     replace H : (if ((rdOf ByteArray.empty x7_1 x10_1).extract 0 ((ji51) : Int).toNat).size + t262.size ≤ 9223372036854775807 then (if ((((rdOf ByteArray.empty x7_1 x10_1).extract 0 ((ji51) : Int).toNat) ++ t262).size : Int) > 16 then (some (([] : List ByteArray), 9)) else ((camshaftref07_nexts.f l0 x10_1).bind fun t263 => (camshaftref07_Stacks.l1 kj24 l0 t233 x7_1 x8_1 x9_1 x10_1 (((rdOf ByteArray.empty x7_1 x10_1).extract 0 ((ji51) : Int).toNat) ++ t262) t263 0))) else (none)) = some (r1, r2) := H
     have A59 := Aside0.mk A590
     clear A590
     by_cases c60 : ((rdOf ByteArray.empty x7_1 x10_1).extract 0 ((ji51) : Int).toNat).size + t262.size ≤ 9223372036854775807
     rotate_left
     ·rw [if_neg c60] at H
      exact absurd H (by simp)
     rw [if_pos c60] at H
     have c60b0 := eq_true c60
     have c60b1 : decide (((rdOf ByteArray.empty x7_1 x10_1).extract 0 ((ji51) : Int).toNat).size + t262.size ≤ 9223372036854775807) = true := decide_eq_true c60
     try have c60b2 : (9223372036854775807 < ((rdOf ByteArray.empty x7_1 x10_1).extract 0 ((ji51) : Int).toNat).size + t262.size) = False := eq_false (Nat.not_lt.2 c60)
     have c60x : ((rdOf ByteArray.empty x7_1 x10_1).extract 0 ((ji51) : Int).toNat).size = ((ji51) : Int).toNat := by have := of_eq_true c52b0; have := of_eq_true c53b0; rw [ByteArray.size_extract]; omega
     have c60n : (9223372036854775807 < ((ji51) : Int).toNat + t262.size) = False := eq_false (by have := of_eq_true c60b0; rw [c60x] at this; omega)
     clear c60x
     by_cases c61 : ((((rdOf ByteArray.empty x7_1 x10_1).extract 0 ((ji51) : Int).toNat) ++ t262).size : Int) > 16
     ·rw [if_pos c61] at H
      have c61b0 : decide (16 < ((((rdOf ByteArray.empty x7_1 x10_1).extract 0 ((ji51) : Int).toNat) ++ t262).size : Int)) = true := decide_eq_true c61
      have c61b1 : decide (16 < (((rdOf ByteArray.empty x7_1 x10_1).extract 0 ((ji51) : Int).toNat) ++ t262).size) = true := decide_eq_true (by omega)
      have c61s : ((rdOf ByteArray.empty x7_1 x10_1).extract 0 ((ji51) : Int).toNat ++ t262).size = ((ji51) : Int).toNat + t262.size := by have := of_eq_true c52b0; have := of_eq_true c53b0; rw [ByteArray.size_append, ByteArray.size_extract]; omega
      have c61q :  (16 < ((ji51) : Int).toNat + t262.size) := by have h61 := of_decide_eq_true c61b1; rw [c61s] at h61; exact h61
      have c61f1 : decide ((16 : Int) < (((ji51) : Int).toNat : Int) + (t262.size : Int)) = true := decide_eq_true (by omega)
      have c61f2 : decide (16 < ((ji51) : Int).toNat + t262.size) = true := decide_eq_true c61q
      have c61f3 : decide ((16 : Int) < ji51 + (t262.size : Int)) = true := decide_eq_true (by have h61 := of_eq_true c52b0; omega)
      have c61f4 : (16 < ((ji51) : Int).toNat + t262.size) = True := eq_true c61q
      have c61f5 : decide ((16 : Int) < max ji51 0 + (t262.size : Int)) = true := decide_eq_true (by have h61 := of_eq_true c52b0; omega)
      clear c61q c61s
      clear c61
      simp only [Option.some.injEq, Prod.mk.injEq] at H
      obtain ⟨rfl, rfl⟩ := H
      try go_wp2
      have n0_ := Aside0.mk (Kd.R_drew HO_5.out)
      have n1_ := Aside0.mk (Kd.R_drew HO_7.out)
      have n2_ := Aside0.mk (Kd.R_drew HO_8.out)
      have n3_ := Aside0.mk (Kd.R_drew HO_9.out)
      have n4_ := Aside0.mk (below_drew1 HB.out)
      clear HO_5
      clear HO_7
      clear HO_8
      clear HO_9
      clear HB
      have HO_5 := n0_
      have HO_7 := n1_
      have HO_8 := n2_
      have HO_9 := n3_
      have HB := n4_
      clear n0_ n1_ n2_ n3_ n4_
      obtain ⟨Ao63, co63, eo63⟩ := Kd.R_slice HO_7.out
      (first | subst eo63 | (injection eo63 with f1_ f2_ f3_; have f4_ := f1_.symm; have f5_ := f3_.symm; clear f1_ f2_ f3_; subst f4_; subst f5_))
      have p253 : 0 ≤ (x10_1 : Int) := of_decide_eq_true as_
      have q253 : x10_1 < (x7_1.length : Int) := of_decide_eq_true as_
      obtain ⟨ad253, e253, hx253_0⟩ := Kd.at_string (Kd.R_reads' HO_7.out).2.2 x10_1 p253 q253
      cases e253
      replace p253 := eq_true p253
      replace q253 := eq_true q253
      have p254 : 0 ≤ (x10_1 : Int) := of_decide_eq_true as_
      have q254 : x10_1 < (l0.length : Int) := of_decide_eq_true as_
      obtain ⟨ad254, e254, hx254_0, hx254_1, hx254_2⟩ := at_T37 HR0.out x10_1 p254 q254
      have hw254_2 := hx254_2
      have hw254_1 := hx254_1
      have hw254_0 := hx254_0
      cases e254
      replace hx254_0 := (HB.out.cell (World.block_lt_of_cell? w _ hx254_0)).trans hx254_0
      replace hx254_1 := (HB.out.cell (World.block_lt_of_cell? w _ hx254_1)).trans hx254_1
      replace hx254_2 := (HB.out.cell (World.block_lt_of_cell? w _ hx254_2)).trans hx254_2
      replace p254 := eq_true p254
      replace q254 := eq_true q254
      refine start_ (n := 13) (S := fun w' => w'.cell? (ad253.add (x10_1).toNat) = some (.string (rdOf ByteArray.empty x7_1 x10_1)) ∧ w'.cell? (ad254.add ((x10_1).toNat * 3)) = some (.int .i64 ((rd_T37 l0 x10_1).f0)) ∧ w'.cell? ⟨(ad254.add ((x10_1).toNat * 3)).block, (ad254.add ((x10_1).toNat * 3)).off + 1, none⟩ = some (.int .i64 ((rd_T37 l0 x10_1).f1)) ∧ w'.cell? ⟨(ad254.add ((x10_1).toNat * 3)).block, (ad254.add ((x10_1).toNat * 3)).off + 2, none⟩ = some (.int .i64 ((rd_T37 l0 x10_1).f2))) (ds := []) #[Z,Z,Z,Z,Z,Z,Z,Z,Z,Z,Z,Z,Z] (by kernel_rfl) rfl rfl ⟨hx253_0, ((HB.out.cell (World.block_lt_of_cell? w _ hw254_0)).trans hw254_0), ((HB.out.cell (World.block_lt_of_cell? w _ hw254_1)).trans hw254_1), ((HB.out.cell (World.block_lt_of_cell? w _ hw254_2)).trans hw254_2)⟩ (fun hHeld => ?_); refine with_tabW camshaftref07_Stacks.tab16 camshaftref07_Stacks.bits16 (fun HT_ HW_ => ?_)
      generalize wc.drew = w62 at HO_5 HO_7 HO_8 HO_9 HB hx253_0 hx254_0 hx254_1 hx254_2 hHeld ⊢
      refine pure_ (i := 0) (N := some 74) (v := ?_) (a' := ?_) #[Y,Z,Z,Z,Z,Z,Z,Z,Z,Z,Z,Z,Z] rfl rfl (any_of HT_.out (by kernel_rfl)) (fun _ _ _ h => h) (Or.inl ⟨by rfl, ?_⟩) ?_ ?_
      rotate_left
      ·intro w'
       go_simp
       with_reducible rfl
      rotate_left
      ·exact ac_
      refine pure_ (i := 1) (N := some 75) (v := ?_) (a' := ?_) #[Y,Y,Z,Z,Z,Z,Z,Z,Z,Z,Z,Z,Z] rfl rfl (any_of HT_.out (by kernel_rfl)) (fun _ _ _ h => h) (Or.inl ⟨by rfl, ?_⟩) ?_ ?_
      rotate_left
      ·intro w'
       go_simp
       with_reducible rfl
      rotate_left
      ·exact ac_
      refine pure_ (i := 2) (N := some 76) (v := ?_) (a' := ?_) #[Y,Y,Y,Z,Z,Z,Z,Z,Z,Z,Z,Z,Z] rfl rfl (any_of HT_.out (by kernel_rfl)) (fun _ _ _ h => h) (Or.inl ⟨by rfl, ?_⟩) ?_ ?_
      rotate_left
      ·intro w'
       go_simp
       with_reducible rfl
      rotate_left
      ·exact ac_
      refine pure_ (i := 5) (N := some 79) (v := ?_) (a' := ?_) #[Y,Y,Y,Z,Z,Y,Z,Z,Z,Z,Z,Z,Z] rfl rfl (any_of HT_.out (by kernel_rfl)) (fun _ _ _ h => h) (Or.inl ⟨by rfl, ?_⟩) ?_ ?_
      rotate_left
      ·intro w'
       go_simp
       with_reducible rfl
      rotate_left
      ·exact ac_
      refine pure_ (i := 6) (N := some 80) (v := ?_) (a' := ?_) #[Y,Y,Y,Z,Z,Y,Y,Z,Z,Z,Z,Z,Z] rfl rfl (any_of HT_.out (by kernel_rfl)) (fun _ _ _ h => h) (Or.inl ⟨by rfl, ?_⟩) ?_ ?_
      rotate_left
      ·intro w'
       go_simp
       with_reducible rfl
      rotate_left
      ·exact ac_
      refine pure_ (i := 7) (N := some 81) (v := ?_) (a' := ?_) #[Y,Y,Y,Z,Z,Y,Y,Y,Z,Z,Z,Z,Z] rfl rfl (any_of HT_.out (by kernel_rfl)) (fun _ _ _ h => h) (Or.inl ⟨by rfl, ?_⟩) ?_ ?_
      rotate_left
      ·intro w'
       go_simp
       with_reducible rfl
      rotate_left
      ·exact ac_
      refine take_ (i := 3) (N := some 77) (v := ?_) (a' := ?_) #[Y,Y,Y,Y,Z,Y,Y,Y,Z,Z,Z,Z,Z] rfl rfl (take_ofW HT_.out HW_.out (by kernel_rfl)) (fun _ _ _ h => h) (Or.inl ⟨by rfl, ?_⟩) hHeld ?_ ?_
      rotate_left
      ·rintro w' ⟨s0, s1, s2, s3⟩
       go_simp
       with_reducible rfl
      rotate_left
      ·exact ac_
      refine pure_ (i := 4) (N := some 78) (v := ?_) (a' := ?_) #[Y,Y,Y,Y,Y,Y,Y,Y,Z,Z,Z,Z,Z] rfl rfl (any_of HT_.out (by kernel_rfl)) (fun _ _ _ h => h) (Or.inl ⟨by rfl, ?_⟩) ?_ ?_
      rotate_left
      ·intro w'
       go_simp
       with_reducible rfl
      rotate_left
      ·exact ac_
      refine take_ (i := 8) (N := some 82) (v := ?_) (a' := ?_) #[Y,Y,Y,Y,Y,Y,Y,Y,Y,Z,Z,Z,Z] rfl rfl (take_ofW HT_.out HW_.out (by kernel_rfl)) (fun _ _ _ h => h) (Or.inl ⟨by rfl, ?_⟩) hHeld ?_ ?_
      rotate_left
      ·rintro w' ⟨s0, s1, s2, s3⟩
       go_simp
       with_reducible rfl
      rotate_left
      ·exact ac_
      refine one_ (i := 9) (N := some 83) #[Y,Y,Y,Y,Y,Y,Y,Y,Y,Y,Z,Z,Z] rfl rfl (one_of HT_.out (by kernel_rfl)) (by decide) (fun K hK => ?_)
      refine goes_ Try.func22 (by kernel_rfl) rfl #[.agg #[.int .i64 ((rd_T37 l0 x10_1).f0), .int .i64 ((rd_T37 l0 x10_1).f1), .int .i64 ((rd_T37 l0 x10_1).f2)]] (by rfl) rfl rfl am_ ?_
      with_reducible refine (camshaftref07_Takes.calls kj24 ((rd_T37 l0 x10_1).f0) ((rd_T37 l0 x10_1).f1) ((rd_T37 l0 x10_1).f2) t255 _ A46.out).mono ?_
      rintro e w64 ⟨rfl, hb⟩
      have HS0_ := (hb.cell (World.block_lt_of_cell? _ _ (hHeld.1))).trans (hHeld.1)
      refine ⟨_, rfl, ?_⟩
      have n0_ := Aside0.mk (Kd.R_below (by (with_reducible repeat (first | apply Kd.R_alloc | apply Kd.R_drewN | apply Kd.R_drew)); exact HO_5.out) hb)
      have n1_ := Aside0.mk (Kd.R_below (by (with_reducible repeat (first | apply Kd.R_alloc | apply Kd.R_drewN | apply Kd.R_drew)); exact HO_7.out) hb)
      have n2_ := Aside0.mk (Kd.R_below (by (with_reducible repeat (first | apply Kd.R_alloc | apply Kd.R_drewN | apply Kd.R_drew)); exact HO_8.out) hb)
      have n3_ := Aside0.mk (Kd.R_below (by (with_reducible repeat (first | apply Kd.R_alloc | apply Kd.R_drewN | apply Kd.R_drew)); exact HO_9.out) hb)
      first | (have n4_ := Aside0.mk (below_step (Below.refl w.heap.size w) hb)) | (have n4_ := Aside0.mk (below_step (below_drew (pw_below_drewN (Below.refl w.heap.size w) _)) hb)) | (have n4_ := Aside0.mk (below_step (pw_below_drewN (Below.refl w.heap.size w) _) hb)) | (have n4_ := Aside0.mk (below_step ab_ hb))
      clear HO_5
      clear HO_7
      clear HO_8
      clear HO_9
      clear HB
      have HO_5 := n0_
      have HO_7 := n1_
      have HO_8 := n2_
      have HO_9 := n3_
      have HB := n4_
      clear n0_ n1_ n2_ n3_ n4_
      (try clear hb)
      (try clear hb2)
      (try clear hk)
      (try clear hi)
      refine hK.out _ _ ⟨HS0_, ((HB.out.cell (World.block_lt_of_cell? w _ hw254_0)).trans hw254_0), ((HB.out.cell (World.block_lt_of_cell? w _ hw254_1)).trans hw254_1), ((HB.out.cell (World.block_lt_of_cell? w _ hw254_2)).trans hw254_2)⟩ (fun hHeld => ?_)
      clear hK K
      refine norm_ (a' := ?_) ?_ ?_
      rotate_left
      ·show Act.put _ (some 83) _ = _
       simp only [Act.put, setIfInBounds_toArray,set_cons_zero,set_cons_succ, i64_w, i32_w]
       rfl
      refine pure_ (i := 10) (N := some 84) (v := ?_) (a' := ?_) #[Y,Y,Y,Y,Y,Y,Y,Y,Y,Y,Y,Z,Z] rfl rfl (any_of HT_.out (by kernel_rfl)) (fun _ _ _ h => h) (Or.inl ⟨by rfl, ?_⟩) ?_ ?_
      rotate_left
      ·intro w'
       go_simp
       with_reducible rfl
      rotate_left
      ·exact ac_
      refine pure_ (i := 11) (N := some 85) (v := ?_) (a' := ?_) #[Y,Y,Y,Y,Y,Y,Y,Y,Y,Y,Y,Y,Z] rfl rfl (any_of HT_.out (by kernel_rfl)) (fun _ _ _ h => h) (Or.inl ⟨by rfl, ?_⟩) ?_ ?_
      rotate_left
      ·intro w'
       go_simp
       with_reducible rfl
      rotate_left
      ·exact ac_
      refine pure_ (i := 12) (N := some 11) (v := ?_) (a' := ?_) #[Y,Y,Y,Y,Y,Y,Y,Y,Y,Y,Y,Y,Y] rfl rfl (any_of HT_.out (by kernel_rfl)) (fun _ _ _ h => h) (Or.inl ⟨by rfl, ?_⟩) ?_ ?_
      rotate_left
      ·intro w'
       go_simp
       with_reducible rfl
      rotate_left
      ·exact ac_
      refine done_ (done_of HT_.out (by kernel_rfl)) ?_
      have p256 : 0 ≤ (x10_1 : Int) := of_decide_eq_true as_
      have q256 : x10_1 < (x7_1.length : Int) := of_decide_eq_true as_
      obtain ⟨ad256, e256, hx256_0⟩ := Kd.at_string (Kd.R_reads' HO_7.out).2.2 x10_1 p256 q256
      obtain rfl : ad253 = ad256 := (by injection e256)
      replace p256 := eq_true p256
      replace q256 := eq_true q256
      have p257 : 0 ≤ (x10_1 : Int) := of_decide_eq_true as_
      have q257 : x10_1 < (l0.length : Int) := of_decide_eq_true as_
      obtain ⟨ad257, e257, hx257_0, hx257_1, hx257_2⟩ := at_T37 HR0.out x10_1 p257 q257
      obtain rfl : ad254 = ad257 := (by injection e257)
      replace hx257_0 := (HB.out.cell (World.block_lt_of_cell? w _ hx257_0)).trans hx257_0
      replace hx257_1 := (HB.out.cell (World.block_lt_of_cell? w _ hx257_1)).trans hx257_1
      replace hx257_2 := (HB.out.cell (World.block_lt_of_cell? w _ hx257_2)).trans hx257_2
      replace p257 := eq_true p257
      replace q257 := eq_true q257
      try go_wp2_with (first | ((with_reducible refine gate_callee (f := 22) rfl ?_); refine goesL_ (some 99) rfl rfl Try.func22 (by kernel_rfl) rfl #[.agg #[.int .i64 ((rd_T37 l0 x10_1).f0), .int .i64 ((rd_T37 l0 x10_1).f1), .int .i64 ((rd_T37 l0 x10_1).f2)]] rfl am_ ?_; (with_reducible refine (camshaftref07_Takes.calls kj24 ((rd_T37 l0 x10_1).f0) ((rd_T37 l0 x10_1).f1) ((rd_T37 l0 x10_1).f2) t258 _ A54.out).mono ?_); rintro e w65 ⟨rfl, hb⟩; refine ⟨_, rfl, ?_⟩; have n0_ := Aside0.mk (Kd.R_below (by (with_reducible repeat (first | apply Kd.R_alloc | apply Kd.R_drewN | apply Kd.R_drew)); exact HO_5.out) hb); have n1_ := Aside0.mk (Kd.R_below (by (with_reducible repeat (first | apply Kd.R_alloc | apply Kd.R_drewN | apply Kd.R_drew)); exact HO_7.out) hb); have n2_ := Aside0.mk (Kd.R_below (by (with_reducible repeat (first | apply Kd.R_alloc | apply Kd.R_drewN | apply Kd.R_drew)); exact HO_8.out) hb); have n3_ := Aside0.mk (Kd.R_below (by (with_reducible repeat (first | apply Kd.R_alloc | apply Kd.R_drewN | apply Kd.R_drew)); exact HO_9.out) hb); have n4_ := Aside0.mk (below_step ab_ hb); clear HO_5; clear HO_7; clear HO_8; clear HO_9; clear HB; have HO_5 := n0_; have HO_7 := n1_; have HO_8 := n2_; have HO_9 := n3_; have HB := n4_; clear n0_ n1_ n2_ n3_ n4_; (try clear hb); (try clear hb2); (try clear hk); (try clear hi)) | ((with_reducible refine gate_callee (f := 23) rfl ?_); refine goesL_ (some 100) rfl rfl Try.func23 (by kernel_rfl) rfl #[.string ((rdOf ByteArray.empty x7_1 x10_1).extract ((ji51) : Int).toNat (rdOf ByteArray.empty x7_1 x10_1).size), .string t258] rfl (by (try simp only [List.map_toArray, List.map_cons, List.map_nil]); first | done | (simp only [hji51]; rfl) | rfl | (simp only [List.length_drop, List.length_take]; rfl)) ?_; (with_reducible refine (camshaftref07_fits.calls kj24 ((rdOf ByteArray.empty x7_1 x10_1).extract ((ji51) : Int).toNat (rdOf ByteArray.empty x7_1 x10_1).size) t258 true _ A55.out).mono ?_); rintro e w' ⟨rfl, ⟨nd, rfl⟩⟩; refine ⟨_, rfl, ?_⟩))
      (try (rw [drewN_self w65]; generalize hq_ : World.drewN w65 _ = w65; have n0_ : Aside0 (Kd.R (Kd.int .i64) 3 w65 w.heap.size (fun _ => True) v235 t233) := ⟨by rw [← hq_]; exact (by (with_reducible repeat (first | apply Kd.R_alloc | apply Kd.R_drewN | apply Kd.R_drew)); exact HO_5.out)⟩; have n1_ : Aside0 (Kd.R Kd.string 9 w65 w.heap.size (fun _ => True) (.slice (some ad253) x7_1.length co63) x7_1) := ⟨by rw [← hq_]; exact (by (with_reducible repeat (first | apply Kd.R_alloc | apply Kd.R_drewN | apply Kd.R_drew)); exact HO_7.out)⟩; have n2_ : Aside0 (Kd.R Kd.bool 4 w65 w.heap.size (fun k_ => some k_ ≠ (v244 : Value).ownBlock) (.slice (some ⟨go9, 0, none⟩) x8_1.length co9) x8_1) := ⟨by rw [← hq_]; exact (by (with_reducible repeat (first | apply Kd.R_alloc | apply Kd.R_drewN | apply Kd.R_drew)); exact HO_8.out)⟩; have n3_ : Aside0 (Kd.R Kd.bool 4 w65 w.heap.size (fun k_ => some k_ ≠ (.slice (some ⟨go9, 0, none⟩) x8_1.length co9 : Value).ownBlock) v244 x9_1) := ⟨by rw [← hq_]; exact (by (with_reducible repeat (first | apply Kd.R_alloc | apply Kd.R_drewN | apply Kd.R_drew)); exact HO_9.out)⟩; have n4_ : Aside0 (Below w.heap.size w w65) := ⟨by rw [← hq_]; exact ab_⟩; clear HO_5 HO_7 HO_8 HO_9 HB hq_; have HO_5 := n0_; have HO_7 := n1_; have HO_8 := n2_; have HO_9 := n3_; have HB := n4_; clear n0_ n1_ n2_ n3_ n4_))
      have n0_ := Aside0.mk (Kd.R_drew HO_5.out)
      have n1_ := Aside0.mk (Kd.R_drew HO_7.out)
      have n2_ := Aside0.mk (Kd.R_drew HO_8.out)
      have n3_ := Aside0.mk (Kd.R_drew HO_9.out)
      have n4_ := Aside0.mk (below_drew1 HB.out)
      clear HO_5
      clear HO_7
      clear HO_8
      clear HO_9
      clear HB
      have HO_5 := n0_
      have HO_7 := n1_
      have HO_8 := n2_
      have HO_9 := n3_
      have HB := n4_
      clear n0_ n1_ n2_ n3_ n4_
      have p260 : 0 ≤ (x10_1 : Int) := of_decide_eq_true as_
      have q260 : x10_1 < (x7_1.length : Int) := of_decide_eq_true as_
      obtain ⟨ad260, e260, hx260_0⟩ := Kd.at_string (Kd.R_reads' HO_7.out).2.2 x10_1 p260 q260
      obtain rfl : ad253 = ad260 := (by injection e260)
      replace p260 := eq_true p260
      replace q260 := eq_true q260
      have p261 : 0 ≤ (x10_1 : Int) := of_decide_eq_true as_
      have q261 : x10_1 < (l0.length : Int) := of_decide_eq_true as_
      obtain ⟨ad261, e261, hx261_0, hx261_1, hx261_2⟩ := at_T37 HR0.out x10_1 p261 q261
      have hw261_2 := hx261_2
      have hw261_1 := hx261_1
      have hw261_0 := hx261_0
      obtain rfl : ad254 = ad261 := (by injection e261)
      replace hx261_0 := (HB.out.cell (World.block_lt_of_cell? w _ hx261_0)).trans hx261_0
      replace hx261_1 := (HB.out.cell (World.block_lt_of_cell? w _ hx261_1)).trans hx261_1
      replace hx261_2 := (HB.out.cell (World.block_lt_of_cell? w _ hx261_2)).trans hx261_2
      replace p261 := eq_true p261
      replace q261 := eq_true q261
      refine start_ (n := 14) (S := fun w' => w'.cell? (ad253.add (x10_1).toNat) = some (.string (rdOf ByteArray.empty x7_1 x10_1)) ∧ w'.cell? (ad254.add ((x10_1).toNat * 3)) = some (.int .i64 ((rd_T37 l0 x10_1).f0)) ∧ w'.cell? ⟨(ad254.add ((x10_1).toNat * 3)).block, (ad254.add ((x10_1).toNat * 3)).off + 1, none⟩ = some (.int .i64 ((rd_T37 l0 x10_1).f1)) ∧ w'.cell? ⟨(ad254.add ((x10_1).toNat * 3)).block, (ad254.add ((x10_1).toNat * 3)).off + 2, none⟩ = some (.int .i64 ((rd_T37 l0 x10_1).f2))) (ds := []) #[Z,Z,Z,Z,Z,Z,Z,Z,Z,Z,Z,Z,Z,Z] (by kernel_rfl) rfl rfl ⟨hx260_0, ((HB.out.cell (World.block_lt_of_cell? w _ hw261_0)).trans hw261_0), ((HB.out.cell (World.block_lt_of_cell? w _ hw261_1)).trans hw261_1), ((HB.out.cell (World.block_lt_of_cell? w _ hw261_2)).trans hw261_2)⟩ (fun hHeld => ?_); refine with_tabW camshaftref07_Stacks.tab22 camshaftref07_Stacks.bits22 (fun HT_ HW_ => ?_)
      generalize w65.drew = w66 at HO_5 HO_7 HO_8 HO_9 HB hx260_0 hx261_0 hx261_1 hx261_2 hHeld ⊢
      refine pure_ (i := 0) (N := some 102) (v := ?_) (a' := ?_) #[Y,Z,Z,Z,Z,Z,Z,Z,Z,Z,Z,Z,Z,Z] rfl rfl (any_of HT_.out (by kernel_rfl)) (fun _ _ _ h => h) (Or.inl ⟨by rfl, ?_⟩) ?_ ?_
      rotate_left
      ·intro w'
       go_simp
       with_reducible rfl
      rotate_left
      ·exact ac_
      refine pure_ (i := 1) (N := some 103) (v := ?_) (a' := ?_) #[Y,Y,Z,Z,Z,Z,Z,Z,Z,Z,Z,Z,Z,Z] rfl rfl (any_of HT_.out (by kernel_rfl)) (fun _ _ _ h => h) (Or.inl ⟨by rfl, ?_⟩) ?_ ?_
      rotate_left
      ·intro w'
       go_simp
       with_reducible rfl
      rotate_left
      ·exact ac_
      refine pure_ (i := 2) (N := some 104) (v := ?_) (a' := ?_) #[Y,Y,Y,Z,Z,Z,Z,Z,Z,Z,Z,Z,Z,Z] rfl rfl (any_of HT_.out (by kernel_rfl)) (fun _ _ _ h => h) (Or.inl ⟨by rfl, ?_⟩) ?_ ?_
      rotate_left
      ·intro w'
       go_simp
       with_reducible rfl
      rotate_left
      ·exact ac_
      refine pure_ (i := 4) (N := some 106) (v := ?_) (a' := ?_) #[Y,Y,Y,Z,Y,Z,Z,Z,Z,Z,Z,Z,Z,Z] rfl rfl (any_of HT_.out (by kernel_rfl)) (fun _ _ _ h => h) (Or.inl ⟨by rfl, ?_⟩) ?_ ?_
      rotate_left
      ·intro w'
       go_simp
       with_reducible rfl
      rotate_left
      ·exact ac_
      refine pure_ (i := 6) (N := some 108) (v := ?_) (a' := ?_) #[Y,Y,Y,Z,Y,Z,Y,Z,Z,Z,Z,Z,Z,Z] rfl rfl (any_of HT_.out (by kernel_rfl)) (fun _ _ _ h => h) (Or.inl ⟨by rfl, ?_⟩) ?_ ?_
      rotate_left
      ·intro w'
       go_simp
       with_reducible rfl
      rotate_left
      ·exact ac_
      refine pure_ (i := 7) (N := some 109) (v := ?_) (a' := ?_) #[Y,Y,Y,Z,Y,Z,Y,Y,Z,Z,Z,Z,Z,Z] rfl rfl (any_of HT_.out (by kernel_rfl)) (fun _ _ _ h => h) (Or.inl ⟨by rfl, ?_⟩) ?_ ?_
      rotate_left
      ·intro w'
       go_simp
       with_reducible rfl
      rotate_left
      ·exact ac_
      refine pure_ (i := 8) (N := some 110) (v := ?_) (a' := ?_) #[Y,Y,Y,Z,Y,Z,Y,Y,Y,Z,Z,Z,Z,Z] rfl rfl (any_of HT_.out (by kernel_rfl)) (fun _ _ _ h => h) (Or.inl ⟨by rfl, ?_⟩) ?_ ?_
      rotate_left
      ·intro w'
       go_simp
       with_reducible rfl
      rotate_left
      ·exact ac_
      refine pure_ (i := 10) (N := some 112) (v := ?_) (a' := ?_) #[Y,Y,Y,Z,Y,Z,Y,Y,Y,Z,Y,Z,Z,Z] rfl rfl (any_of HT_.out (by kernel_rfl)) (fun _ _ _ h => h) (Or.inl ⟨by rfl, ?_⟩) ?_ ?_
      rotate_left
      ·intro w'
       go_simp
       with_reducible rfl
      rotate_left
      ·exact ac_
      refine take_ (i := 3) (N := some 105) (v := ?_) (a' := ?_) #[Y,Y,Y,Y,Y,Z,Y,Y,Y,Z,Y,Z,Z,Z] rfl rfl (take_ofW HT_.out HW_.out (by kernel_rfl)) (fun _ _ _ h => h) (Or.inl ⟨by rfl, ?_⟩) hHeld ?_ ?_
      rotate_left
      ·rintro w' ⟨s0, s1, s2, s3⟩
       go_simp
       with_reducible rfl
      rotate_left
      ·exact ac_
      refine pure_ (i := 5) (N := some 107) (v := ?_) (a' := ?_) #[Y,Y,Y,Y,Y,Y,Y,Y,Y,Z,Y,Z,Z,Z] rfl rfl (any_of HT_.out (by kernel_rfl)) (fun _ _ _ h => h) (Or.inl ⟨by rfl, ?_⟩) ?_ ?_
      rotate_left
      ·intro w'
       go_simp
       with_reducible rfl
      rotate_left
      ·exact ac_
      refine take_ (i := 9) (N := some 111) (v := ?_) (a' := ?_) #[Y,Y,Y,Y,Y,Y,Y,Y,Y,Y,Y,Z,Z,Z] rfl rfl (take_ofW HT_.out HW_.out (by kernel_rfl)) (fun _ _ _ h => h) (Or.inl ⟨by rfl, ?_⟩) hHeld ?_ ?_
      rotate_left
      ·rintro w' ⟨s0, s1, s2, s3⟩
       go_simp
       with_reducible rfl
      rotate_left
      ·exact ac_
      refine one_ (i := 11) (N := some 113) #[Y,Y,Y,Y,Y,Y,Y,Y,Y,Y,Y,Y,Z,Z] rfl rfl (one_of HT_.out (by kernel_rfl)) (by decide) (fun K hK => ?_)
      refine goes_ Try.func24 (by kernel_rfl) rfl #[.agg #[.int .i64 ((rd_T37 l0 x10_1).f0), .int .i64 ((rd_T37 l0 x10_1).f1), .int .i64 ((rd_T37 l0 x10_1).f2)], .string ((rdOf ByteArray.empty x7_1 x10_1).extract ((ji51) : Int).toNat (rdOf ByteArray.empty x7_1 x10_1).size)] (by rfl) rfl rfl (by (try simp only [List.map_toArray, List.map_cons, List.map_nil]); first | done | (simp only [hji51]; rfl) | rfl | (simp only [List.length_drop, List.length_take]; rfl)) ?_
      with_reducible refine (camshaftref07_Gives.calls kj24 ((rd_T37 l0 x10_1).f0) ((rd_T37 l0 x10_1).f1) ((rd_T37 l0 x10_1).f2) ((rdOf ByteArray.empty x7_1 x10_1).extract ((ji51) : Int).toNat (rdOf ByteArray.empty x7_1 x10_1).size) t262 _ A59.out).mono ?_
      rintro e w67 ⟨rfl, hb⟩
      have HS0_ := (hb.cell (World.block_lt_of_cell? _ _ (hHeld.1))).trans (hHeld.1)
      refine ⟨_, rfl, ?_⟩
      have n0_ := Aside0.mk (Kd.R_below (by (with_reducible repeat (first | apply Kd.R_alloc | apply Kd.R_drewN | apply Kd.R_drew)); exact HO_5.out) hb)
      have n1_ := Aside0.mk (Kd.R_below (by (with_reducible repeat (first | apply Kd.R_alloc | apply Kd.R_drewN | apply Kd.R_drew)); exact HO_7.out) hb)
      have n2_ := Aside0.mk (Kd.R_below (by (with_reducible repeat (first | apply Kd.R_alloc | apply Kd.R_drewN | apply Kd.R_drew)); exact HO_8.out) hb)
      have n3_ := Aside0.mk (Kd.R_below (by (with_reducible repeat (first | apply Kd.R_alloc | apply Kd.R_drewN | apply Kd.R_drew)); exact HO_9.out) hb)
      first | (have n4_ := Aside0.mk (below_step (Below.refl w.heap.size w) hb)) | (have n4_ := Aside0.mk (below_step (below_drew (pw_below_drewN (Below.refl w.heap.size w) _)) hb)) | (have n4_ := Aside0.mk (below_step (pw_below_drewN (Below.refl w.heap.size w) _) hb)) | (have n4_ := Aside0.mk (below_step ab_ hb))
      clear HO_5
      clear HO_7
      clear HO_8
      clear HO_9
      clear HB
      have HO_5 := n0_
      have HO_7 := n1_
      have HO_8 := n2_
      have HO_9 := n3_
      have HB := n4_
      clear n0_ n1_ n2_ n3_ n4_
      (try clear hb)
      (try clear hb2)
      (try clear hk)
      (try clear hi)
      refine hK.out _ _ ⟨HS0_, ((HB.out.cell (World.block_lt_of_cell? w _ hw261_0)).trans hw261_0), ((HB.out.cell (World.block_lt_of_cell? w _ hw261_1)).trans hw261_1), ((HB.out.cell (World.block_lt_of_cell? w _ hw261_2)).trans hw261_2)⟩ (fun hHeld => ?_)
      clear hK K
      refine norm_ (a' := ?_) ?_ ?_
      rotate_left
      ·show Act.put _ (some 113) _ = _
       simp only [Act.put, setIfInBounds_toArray,set_cons_zero,set_cons_succ, i64_w, i32_w]
       rfl
      refine pure_ (i := 12) (N := some 114) (v := ?_) (a' := ?_) #[Y,Y,Y,Y,Y,Y,Y,Y,Y,Y,Y,Y,Y,Z] rfl rfl (any_of HT_.out (by kernel_rfl)) (fun _ _ _ h => h) (Or.inl ⟨by rfl, ?_⟩) ?_ ?_
      rotate_left
      ·intro w'
       go_simp
       with_reducible rfl
      rotate_left
      ·exact ac_
      refine pure_ (i := 13) (N := some 13) (v := ?_) (a' := ?_) #[Y,Y,Y,Y,Y,Y,Y,Y,Y,Y,Y,Y,Y,Y] rfl rfl (any_of HT_.out (by kernel_rfl)) (fun _ _ _ h => h) (Or.inl ⟨by rfl, ?_⟩) ?_ ?_
      rotate_left
      ·intro w'
       go_simp
       with_reducible rfl
      rotate_left
      ·exact ac_
      refine done_ (done_of HT_.out (by kernel_rfl)) ?_
      try go_wp2
      go_ret2
      exact ⟨_, by first | rfl | (simp [errW_none, errW_some] <;> rfl) | (simp only [← hji51]; first | rfl | (simp [errW_none, errW_some] <;> rfl)) | (simp [*, errW_none, errW_some] <;> rfl), by first | exact Kd.R_nil _ _ _ _ _ | exact Kd.N_nil _ _ _ _ _ | exact Kd.V_nil _ _ _ _ _ | exact Kd.Q_nil _ _ _ _ _ | exact Kd.S_nil _ _ _ _ _, by repeat (first | (with_reducible first | exact HB.out | apply below_alloc | apply pw_below_drewN | apply below_drew1) | exact HB.out | exact Below.refl _ _)⟩
     rw [if_neg c61] at H
     have c61b0 : decide (16 < ((((rdOf ByteArray.empty x7_1 x10_1).extract 0 ((ji51) : Int).toNat) ++ t262).size : Int)) = false := decide_eq_false c61
     have c61b1 : decide (16 < (((rdOf ByteArray.empty x7_1 x10_1).extract 0 ((ji51) : Int).toNat) ++ t262).size) = false := decide_eq_false (by omega)
     have c61s : ((rdOf ByteArray.empty x7_1 x10_1).extract 0 ((ji51) : Int).toNat ++ t262).size = ((ji51) : Int).toNat + t262.size := by have := of_eq_true c52b0; have := of_eq_true c53b0; rw [ByteArray.size_append, ByteArray.size_extract]; omega
     have c61q : ¬ (16 < ((ji51) : Int).toNat + t262.size) := by have h61 := of_decide_eq_false c61b1; rw [c61s] at h61; exact h61
     have c61f1 : decide ((16 : Int) < (((ji51) : Int).toNat : Int) + (t262.size : Int)) = false := decide_eq_false (by omega)
     have c61f2 : decide (16 < ((ji51) : Int).toNat + t262.size) = false := decide_eq_false c61q
     have c61f3 : decide ((16 : Int) < ji51 + (t262.size : Int)) = false := decide_eq_false (by have h61 := of_eq_true c52b0; omega)
     have c61f4 : (16 < ((ji51) : Int).toNat + t262.size) = False := eq_false c61q
     have c61f5 : decide ((16 : Int) < max ji51 0 + (t262.size : Int)) = false := decide_eq_false (by have h61 := of_eq_true c52b0; omega)
     clear c61q c61s
     clear c61
     replace H := Option.bind_eq_some_iff.mp H
     obtain ⟨t263, A680, H⟩ := H
     replace H : (camshaftref07_Stacks.l1 kj24 l0 t233 x7_1 x8_1 x9_1 x10_1 (((rdOf ByteArray.empty x7_1 x10_1).extract 0 ((ji51) : Int).toNat) ++ t262) t263 0) = some (r1, r2) := H
     have A68 := Aside0.mk A680
     clear A680
     have H' := Aside0.mk H
     clear H
     try go_wp2
     have n0_ := Aside0.mk (Kd.R_drew HO_5.out)
     have n1_ := Aside0.mk (Kd.R_drew HO_7.out)
     have n2_ := Aside0.mk (Kd.R_drew HO_8.out)
     have n3_ := Aside0.mk (Kd.R_drew HO_9.out)
     have n4_ := Aside0.mk (below_drew1 HB.out)
     clear HO_5
     clear HO_7
     clear HO_8
     clear HO_9
     clear HB
     have HO_5 := n0_
     have HO_7 := n1_
     have HO_8 := n2_
     have HO_9 := n3_
     have HB := n4_
     clear n0_ n1_ n2_ n3_ n4_
     obtain ⟨Ao70, co70, eo70⟩ := Kd.R_slice HO_7.out
     (first | subst eo70 | (injection eo70 with f1_ f2_ f3_; have f4_ := f1_.symm; have f5_ := f3_.symm; clear f1_ f2_ f3_; subst f4_; subst f5_))
     have p253 : 0 ≤ (x10_1 : Int) := of_decide_eq_true as_
     have q253 : x10_1 < (x7_1.length : Int) := of_decide_eq_true as_
     obtain ⟨ad253, e253, hx253_0⟩ := Kd.at_string (Kd.R_reads' HO_7.out).2.2 x10_1 p253 q253
     cases e253
     replace p253 := eq_true p253
     replace q253 := eq_true q253
     have p254 : 0 ≤ (x10_1 : Int) := of_decide_eq_true as_
     have q254 : x10_1 < (l0.length : Int) := of_decide_eq_true as_
     obtain ⟨ad254, e254, hx254_0, hx254_1, hx254_2⟩ := at_T37 HR0.out x10_1 p254 q254
     have hw254_2 := hx254_2
     have hw254_1 := hx254_1
     have hw254_0 := hx254_0
     cases e254
     replace hx254_0 := (HB.out.cell (World.block_lt_of_cell? w _ hx254_0)).trans hx254_0
     replace hx254_1 := (HB.out.cell (World.block_lt_of_cell? w _ hx254_1)).trans hx254_1
     replace hx254_2 := (HB.out.cell (World.block_lt_of_cell? w _ hx254_2)).trans hx254_2
     replace p254 := eq_true p254
     replace q254 := eq_true q254
     refine start_ (n := 13) (S := fun w' => w'.cell? (ad253.add (x10_1).toNat) = some (.string (rdOf ByteArray.empty x7_1 x10_1)) ∧ w'.cell? (ad254.add ((x10_1).toNat * 3)) = some (.int .i64 ((rd_T37 l0 x10_1).f0)) ∧ w'.cell? ⟨(ad254.add ((x10_1).toNat * 3)).block, (ad254.add ((x10_1).toNat * 3)).off + 1, none⟩ = some (.int .i64 ((rd_T37 l0 x10_1).f1)) ∧ w'.cell? ⟨(ad254.add ((x10_1).toNat * 3)).block, (ad254.add ((x10_1).toNat * 3)).off + 2, none⟩ = some (.int .i64 ((rd_T37 l0 x10_1).f2))) (ds := []) #[Z,Z,Z,Z,Z,Z,Z,Z,Z,Z,Z,Z,Z] (by kernel_rfl) rfl rfl ⟨hx253_0, ((HB.out.cell (World.block_lt_of_cell? w _ hw254_0)).trans hw254_0), ((HB.out.cell (World.block_lt_of_cell? w _ hw254_1)).trans hw254_1), ((HB.out.cell (World.block_lt_of_cell? w _ hw254_2)).trans hw254_2)⟩ (fun hHeld => ?_); refine with_tabW camshaftref07_Stacks.tab16 camshaftref07_Stacks.bits16 (fun HT_ HW_ => ?_)
     generalize wc.drew = w69 at HO_5 HO_7 HO_8 HO_9 HB hx253_0 hx254_0 hx254_1 hx254_2 hHeld ⊢
     refine pure_ (i := 0) (N := some 74) (v := ?_) (a' := ?_) #[Y,Z,Z,Z,Z,Z,Z,Z,Z,Z,Z,Z,Z] rfl rfl (any_of HT_.out (by kernel_rfl)) (fun _ _ _ h => h) (Or.inl ⟨by rfl, ?_⟩) ?_ ?_
     rotate_left
     ·intro w'
      go_simp
      with_reducible rfl
     rotate_left
     ·exact ac_
     refine pure_ (i := 1) (N := some 75) (v := ?_) (a' := ?_) #[Y,Y,Z,Z,Z,Z,Z,Z,Z,Z,Z,Z,Z] rfl rfl (any_of HT_.out (by kernel_rfl)) (fun _ _ _ h => h) (Or.inl ⟨by rfl, ?_⟩) ?_ ?_
     rotate_left
     ·intro w'
      go_simp
      with_reducible rfl
     rotate_left
     ·exact ac_
     refine pure_ (i := 2) (N := some 76) (v := ?_) (a' := ?_) #[Y,Y,Y,Z,Z,Z,Z,Z,Z,Z,Z,Z,Z] rfl rfl (any_of HT_.out (by kernel_rfl)) (fun _ _ _ h => h) (Or.inl ⟨by rfl, ?_⟩) ?_ ?_
     rotate_left
     ·intro w'
      go_simp
      with_reducible rfl
     rotate_left
     ·exact ac_
     refine pure_ (i := 5) (N := some 79) (v := ?_) (a' := ?_) #[Y,Y,Y,Z,Z,Y,Z,Z,Z,Z,Z,Z,Z] rfl rfl (any_of HT_.out (by kernel_rfl)) (fun _ _ _ h => h) (Or.inl ⟨by rfl, ?_⟩) ?_ ?_
     rotate_left
     ·intro w'
      go_simp
      with_reducible rfl
     rotate_left
     ·exact ac_
     refine pure_ (i := 6) (N := some 80) (v := ?_) (a' := ?_) #[Y,Y,Y,Z,Z,Y,Y,Z,Z,Z,Z,Z,Z] rfl rfl (any_of HT_.out (by kernel_rfl)) (fun _ _ _ h => h) (Or.inl ⟨by rfl, ?_⟩) ?_ ?_
     rotate_left
     ·intro w'
      go_simp
      with_reducible rfl
     rotate_left
     ·exact ac_
     refine pure_ (i := 7) (N := some 81) (v := ?_) (a' := ?_) #[Y,Y,Y,Z,Z,Y,Y,Y,Z,Z,Z,Z,Z] rfl rfl (any_of HT_.out (by kernel_rfl)) (fun _ _ _ h => h) (Or.inl ⟨by rfl, ?_⟩) ?_ ?_
     rotate_left
     ·intro w'
      go_simp
      with_reducible rfl
     rotate_left
     ·exact ac_
     refine take_ (i := 3) (N := some 77) (v := ?_) (a' := ?_) #[Y,Y,Y,Y,Z,Y,Y,Y,Z,Z,Z,Z,Z] rfl rfl (take_ofW HT_.out HW_.out (by kernel_rfl)) (fun _ _ _ h => h) (Or.inl ⟨by rfl, ?_⟩) hHeld ?_ ?_
     rotate_left
     ·rintro w' ⟨s0, s1, s2, s3⟩
      go_simp
      with_reducible rfl
     rotate_left
     ·exact ac_
     refine pure_ (i := 4) (N := some 78) (v := ?_) (a' := ?_) #[Y,Y,Y,Y,Y,Y,Y,Y,Z,Z,Z,Z,Z] rfl rfl (any_of HT_.out (by kernel_rfl)) (fun _ _ _ h => h) (Or.inl ⟨by rfl, ?_⟩) ?_ ?_
     rotate_left
     ·intro w'
      go_simp
      with_reducible rfl
     rotate_left
     ·exact ac_
     refine take_ (i := 8) (N := some 82) (v := ?_) (a' := ?_) #[Y,Y,Y,Y,Y,Y,Y,Y,Y,Z,Z,Z,Z] rfl rfl (take_ofW HT_.out HW_.out (by kernel_rfl)) (fun _ _ _ h => h) (Or.inl ⟨by rfl, ?_⟩) hHeld ?_ ?_
     rotate_left
     ·rintro w' ⟨s0, s1, s2, s3⟩
      go_simp
      with_reducible rfl
     rotate_left
     ·exact ac_
     refine one_ (i := 9) (N := some 83) #[Y,Y,Y,Y,Y,Y,Y,Y,Y,Y,Z,Z,Z] rfl rfl (one_of HT_.out (by kernel_rfl)) (by decide) (fun K hK => ?_)
     refine goes_ Try.func22 (by kernel_rfl) rfl #[.agg #[.int .i64 ((rd_T37 l0 x10_1).f0), .int .i64 ((rd_T37 l0 x10_1).f1), .int .i64 ((rd_T37 l0 x10_1).f2)]] (by rfl) rfl rfl am_ ?_
     with_reducible refine (camshaftref07_Takes.calls kj24 ((rd_T37 l0 x10_1).f0) ((rd_T37 l0 x10_1).f1) ((rd_T37 l0 x10_1).f2) t255 _ A46.out).mono ?_
     rintro e w71 ⟨rfl, hb⟩
     have HS0_ := (hb.cell (World.block_lt_of_cell? _ _ (hHeld.1))).trans (hHeld.1)
     refine ⟨_, rfl, ?_⟩
     have n0_ := Aside0.mk (Kd.R_below (by (with_reducible repeat (first | apply Kd.R_alloc | apply Kd.R_drewN | apply Kd.R_drew)); exact HO_5.out) hb)
     have n1_ := Aside0.mk (Kd.R_below (by (with_reducible repeat (first | apply Kd.R_alloc | apply Kd.R_drewN | apply Kd.R_drew)); exact HO_7.out) hb)
     have n2_ := Aside0.mk (Kd.R_below (by (with_reducible repeat (first | apply Kd.R_alloc | apply Kd.R_drewN | apply Kd.R_drew)); exact HO_8.out) hb)
     have n3_ := Aside0.mk (Kd.R_below (by (with_reducible repeat (first | apply Kd.R_alloc | apply Kd.R_drewN | apply Kd.R_drew)); exact HO_9.out) hb)
     first | (have n4_ := Aside0.mk (below_step (Below.refl w.heap.size w) hb)) | (have n4_ := Aside0.mk (below_step (below_drew (pw_below_drewN (Below.refl w.heap.size w) _)) hb)) | (have n4_ := Aside0.mk (below_step (pw_below_drewN (Below.refl w.heap.size w) _) hb)) | (have n4_ := Aside0.mk (below_step ab_ hb))
     clear HO_5
     clear HO_7
     clear HO_8
     clear HO_9
     clear HB
     have HO_5 := n0_
     have HO_7 := n1_
     have HO_8 := n2_
     have HO_9 := n3_
     have HB := n4_
     clear n0_ n1_ n2_ n3_ n4_
     (try clear hb)
     (try clear hb2)
     (try clear hk)
     (try clear hi)
     refine hK.out _ _ ⟨HS0_, ((HB.out.cell (World.block_lt_of_cell? w _ hw254_0)).trans hw254_0), ((HB.out.cell (World.block_lt_of_cell? w _ hw254_1)).trans hw254_1), ((HB.out.cell (World.block_lt_of_cell? w _ hw254_2)).trans hw254_2)⟩ (fun hHeld => ?_)
     clear hK K
     refine norm_ (a' := ?_) ?_ ?_
     rotate_left
     ·show Act.put _ (some 83) _ = _
      simp only [Act.put, setIfInBounds_toArray,set_cons_zero,set_cons_succ, i64_w, i32_w]
      rfl
     refine pure_ (i := 10) (N := some 84) (v := ?_) (a' := ?_) #[Y,Y,Y,Y,Y,Y,Y,Y,Y,Y,Y,Z,Z] rfl rfl (any_of HT_.out (by kernel_rfl)) (fun _ _ _ h => h) (Or.inl ⟨by rfl, ?_⟩) ?_ ?_
     rotate_left
     ·intro w'
      go_simp
      with_reducible rfl
     rotate_left
     ·exact ac_
     refine pure_ (i := 11) (N := some 85) (v := ?_) (a' := ?_) #[Y,Y,Y,Y,Y,Y,Y,Y,Y,Y,Y,Y,Z] rfl rfl (any_of HT_.out (by kernel_rfl)) (fun _ _ _ h => h) (Or.inl ⟨by rfl, ?_⟩) ?_ ?_
     rotate_left
     ·intro w'
      go_simp
      with_reducible rfl
     rotate_left
     ·exact ac_
     refine pure_ (i := 12) (N := some 11) (v := ?_) (a' := ?_) #[Y,Y,Y,Y,Y,Y,Y,Y,Y,Y,Y,Y,Y] rfl rfl (any_of HT_.out (by kernel_rfl)) (fun _ _ _ h => h) (Or.inl ⟨by rfl, ?_⟩) ?_ ?_
     rotate_left
     ·intro w'
      go_simp
      with_reducible rfl
     rotate_left
     ·exact ac_
     refine done_ (done_of HT_.out (by kernel_rfl)) ?_
     have p256 : 0 ≤ (x10_1 : Int) := of_decide_eq_true as_
     have q256 : x10_1 < (x7_1.length : Int) := of_decide_eq_true as_
     obtain ⟨ad256, e256, hx256_0⟩ := Kd.at_string (Kd.R_reads' HO_7.out).2.2 x10_1 p256 q256
     obtain rfl : ad253 = ad256 := (by injection e256)
     replace p256 := eq_true p256
     replace q256 := eq_true q256
     have p257 : 0 ≤ (x10_1 : Int) := of_decide_eq_true as_
     have q257 : x10_1 < (l0.length : Int) := of_decide_eq_true as_
     obtain ⟨ad257, e257, hx257_0, hx257_1, hx257_2⟩ := at_T37 HR0.out x10_1 p257 q257
     obtain rfl : ad254 = ad257 := (by injection e257)
     replace hx257_0 := (HB.out.cell (World.block_lt_of_cell? w _ hx257_0)).trans hx257_0
     replace hx257_1 := (HB.out.cell (World.block_lt_of_cell? w _ hx257_1)).trans hx257_1
     replace hx257_2 := (HB.out.cell (World.block_lt_of_cell? w _ hx257_2)).trans hx257_2
     replace p257 := eq_true p257
     replace q257 := eq_true q257
     try go_wp2_with (first | ((with_reducible refine gate_callee (f := 22) rfl ?_); refine goesL_ (some 99) rfl rfl Try.func22 (by kernel_rfl) rfl #[.agg #[.int .i64 ((rd_T37 l0 x10_1).f0), .int .i64 ((rd_T37 l0 x10_1).f1), .int .i64 ((rd_T37 l0 x10_1).f2)]] rfl am_ ?_; (with_reducible refine (camshaftref07_Takes.calls kj24 ((rd_T37 l0 x10_1).f0) ((rd_T37 l0 x10_1).f1) ((rd_T37 l0 x10_1).f2) t258 _ A54.out).mono ?_); rintro e w72 ⟨rfl, hb⟩; refine ⟨_, rfl, ?_⟩; have n0_ := Aside0.mk (Kd.R_below (by (with_reducible repeat (first | apply Kd.R_alloc | apply Kd.R_drewN | apply Kd.R_drew)); exact HO_5.out) hb); have n1_ := Aside0.mk (Kd.R_below (by (with_reducible repeat (first | apply Kd.R_alloc | apply Kd.R_drewN | apply Kd.R_drew)); exact HO_7.out) hb); have n2_ := Aside0.mk (Kd.R_below (by (with_reducible repeat (first | apply Kd.R_alloc | apply Kd.R_drewN | apply Kd.R_drew)); exact HO_8.out) hb); have n3_ := Aside0.mk (Kd.R_below (by (with_reducible repeat (first | apply Kd.R_alloc | apply Kd.R_drewN | apply Kd.R_drew)); exact HO_9.out) hb); have n4_ := Aside0.mk (below_step ab_ hb); clear HO_5; clear HO_7; clear HO_8; clear HO_9; clear HB; have HO_5 := n0_; have HO_7 := n1_; have HO_8 := n2_; have HO_9 := n3_; have HB := n4_; clear n0_ n1_ n2_ n3_ n4_; (try clear hb); (try clear hb2); (try clear hk); (try clear hi)) | ((with_reducible refine gate_callee (f := 23) rfl ?_); refine goesL_ (some 100) rfl rfl Try.func23 (by kernel_rfl) rfl #[.string ((rdOf ByteArray.empty x7_1 x10_1).extract ((ji51) : Int).toNat (rdOf ByteArray.empty x7_1 x10_1).size), .string t258] rfl (by (try simp only [List.map_toArray, List.map_cons, List.map_nil]); first | done | (simp only [hji51]; rfl) | rfl | (simp only [List.length_drop, List.length_take]; rfl)) ?_; (with_reducible refine (camshaftref07_fits.calls kj24 ((rdOf ByteArray.empty x7_1 x10_1).extract ((ji51) : Int).toNat (rdOf ByteArray.empty x7_1 x10_1).size) t258 true _ A55.out).mono ?_); rintro e w' ⟨rfl, ⟨nd, rfl⟩⟩; refine ⟨_, rfl, ?_⟩))
     (try (rw [drewN_self w72]; generalize hq_ : World.drewN w72 _ = w72; have n0_ : Aside0 (Kd.R (Kd.int .i64) 3 w72 w.heap.size (fun _ => True) v235 t233) := ⟨by rw [← hq_]; exact (by (with_reducible repeat (first | apply Kd.R_alloc | apply Kd.R_drewN | apply Kd.R_drew)); exact HO_5.out)⟩; have n1_ : Aside0 (Kd.R Kd.string 9 w72 w.heap.size (fun _ => True) (.slice (some ad253) x7_1.length co70) x7_1) := ⟨by rw [← hq_]; exact (by (with_reducible repeat (first | apply Kd.R_alloc | apply Kd.R_drewN | apply Kd.R_drew)); exact HO_7.out)⟩; have n2_ : Aside0 (Kd.R Kd.bool 4 w72 w.heap.size (fun k_ => some k_ ≠ (v244 : Value).ownBlock) (.slice (some ⟨go9, 0, none⟩) x8_1.length co9) x8_1) := ⟨by rw [← hq_]; exact (by (with_reducible repeat (first | apply Kd.R_alloc | apply Kd.R_drewN | apply Kd.R_drew)); exact HO_8.out)⟩; have n3_ : Aside0 (Kd.R Kd.bool 4 w72 w.heap.size (fun k_ => some k_ ≠ (.slice (some ⟨go9, 0, none⟩) x8_1.length co9 : Value).ownBlock) v244 x9_1) := ⟨by rw [← hq_]; exact (by (with_reducible repeat (first | apply Kd.R_alloc | apply Kd.R_drewN | apply Kd.R_drew)); exact HO_9.out)⟩; have n4_ : Aside0 (Below w.heap.size w w72) := ⟨by rw [← hq_]; exact ab_⟩; clear HO_5 HO_7 HO_8 HO_9 HB hq_; have HO_5 := n0_; have HO_7 := n1_; have HO_8 := n2_; have HO_9 := n3_; have HB := n4_; clear n0_ n1_ n2_ n3_ n4_))
     have n0_ := Aside0.mk (Kd.R_drew HO_5.out)
     have n1_ := Aside0.mk (Kd.R_drew HO_7.out)
     have n2_ := Aside0.mk (Kd.R_drew HO_8.out)
     have n3_ := Aside0.mk (Kd.R_drew HO_9.out)
     have n4_ := Aside0.mk (below_drew1 HB.out)
     clear HO_5
     clear HO_7
     clear HO_8
     clear HO_9
     clear HB
     have HO_5 := n0_
     have HO_7 := n1_
     have HO_8 := n2_
     have HO_9 := n3_
     have HB := n4_
     clear n0_ n1_ n2_ n3_ n4_
     have p260 : 0 ≤ (x10_1 : Int) := of_decide_eq_true as_
     have q260 : x10_1 < (x7_1.length : Int) := of_decide_eq_true as_
     obtain ⟨ad260, e260, hx260_0⟩ := Kd.at_string (Kd.R_reads' HO_7.out).2.2 x10_1 p260 q260
     obtain rfl : ad253 = ad260 := (by injection e260)
     replace p260 := eq_true p260
     replace q260 := eq_true q260
     have p261 : 0 ≤ (x10_1 : Int) := of_decide_eq_true as_
     have q261 : x10_1 < (l0.length : Int) := of_decide_eq_true as_
     obtain ⟨ad261, e261, hx261_0, hx261_1, hx261_2⟩ := at_T37 HR0.out x10_1 p261 q261
     have hw261_2 := hx261_2
     have hw261_1 := hx261_1
     have hw261_0 := hx261_0
     obtain rfl : ad254 = ad261 := (by injection e261)
     replace hx261_0 := (HB.out.cell (World.block_lt_of_cell? w _ hx261_0)).trans hx261_0
     replace hx261_1 := (HB.out.cell (World.block_lt_of_cell? w _ hx261_1)).trans hx261_1
     replace hx261_2 := (HB.out.cell (World.block_lt_of_cell? w _ hx261_2)).trans hx261_2
     replace p261 := eq_true p261
     replace q261 := eq_true q261
     refine start_ (n := 14) (S := fun w' => w'.cell? (ad253.add (x10_1).toNat) = some (.string (rdOf ByteArray.empty x7_1 x10_1)) ∧ w'.cell? (ad254.add ((x10_1).toNat * 3)) = some (.int .i64 ((rd_T37 l0 x10_1).f0)) ∧ w'.cell? ⟨(ad254.add ((x10_1).toNat * 3)).block, (ad254.add ((x10_1).toNat * 3)).off + 1, none⟩ = some (.int .i64 ((rd_T37 l0 x10_1).f1)) ∧ w'.cell? ⟨(ad254.add ((x10_1).toNat * 3)).block, (ad254.add ((x10_1).toNat * 3)).off + 2, none⟩ = some (.int .i64 ((rd_T37 l0 x10_1).f2))) (ds := []) #[Z,Z,Z,Z,Z,Z,Z,Z,Z,Z,Z,Z,Z,Z] (by kernel_rfl) rfl rfl ⟨hx260_0, ((HB.out.cell (World.block_lt_of_cell? w _ hw261_0)).trans hw261_0), ((HB.out.cell (World.block_lt_of_cell? w _ hw261_1)).trans hw261_1), ((HB.out.cell (World.block_lt_of_cell? w _ hw261_2)).trans hw261_2)⟩ (fun hHeld => ?_); refine with_tabW camshaftref07_Stacks.tab22 camshaftref07_Stacks.bits22 (fun HT_ HW_ => ?_)
     generalize w72.drew = w73 at HO_5 HO_7 HO_8 HO_9 HB hx260_0 hx261_0 hx261_1 hx261_2 hHeld ⊢
     refine pure_ (i := 0) (N := some 102) (v := ?_) (a' := ?_) #[Y,Z,Z,Z,Z,Z,Z,Z,Z,Z,Z,Z,Z,Z] rfl rfl (any_of HT_.out (by kernel_rfl)) (fun _ _ _ h => h) (Or.inl ⟨by rfl, ?_⟩) ?_ ?_
     rotate_left
     ·intro w'
      go_simp
      with_reducible rfl
     rotate_left
     ·exact ac_
     refine pure_ (i := 1) (N := some 103) (v := ?_) (a' := ?_) #[Y,Y,Z,Z,Z,Z,Z,Z,Z,Z,Z,Z,Z,Z] rfl rfl (any_of HT_.out (by kernel_rfl)) (fun _ _ _ h => h) (Or.inl ⟨by rfl, ?_⟩) ?_ ?_
     rotate_left
     ·intro w'
      go_simp
      with_reducible rfl
     rotate_left
     ·exact ac_
     refine pure_ (i := 2) (N := some 104) (v := ?_) (a' := ?_) #[Y,Y,Y,Z,Z,Z,Z,Z,Z,Z,Z,Z,Z,Z] rfl rfl (any_of HT_.out (by kernel_rfl)) (fun _ _ _ h => h) (Or.inl ⟨by rfl, ?_⟩) ?_ ?_
     rotate_left
     ·intro w'
      go_simp
      with_reducible rfl
     rotate_left
     ·exact ac_
     refine pure_ (i := 4) (N := some 106) (v := ?_) (a' := ?_) #[Y,Y,Y,Z,Y,Z,Z,Z,Z,Z,Z,Z,Z,Z] rfl rfl (any_of HT_.out (by kernel_rfl)) (fun _ _ _ h => h) (Or.inl ⟨by rfl, ?_⟩) ?_ ?_
     rotate_left
     ·intro w'
      go_simp
      with_reducible rfl
     rotate_left
     ·exact ac_
     refine pure_ (i := 6) (N := some 108) (v := ?_) (a' := ?_) #[Y,Y,Y,Z,Y,Z,Y,Z,Z,Z,Z,Z,Z,Z] rfl rfl (any_of HT_.out (by kernel_rfl)) (fun _ _ _ h => h) (Or.inl ⟨by rfl, ?_⟩) ?_ ?_
     rotate_left
     ·intro w'
      go_simp
      with_reducible rfl
     rotate_left
     ·exact ac_
     refine pure_ (i := 7) (N := some 109) (v := ?_) (a' := ?_) #[Y,Y,Y,Z,Y,Z,Y,Y,Z,Z,Z,Z,Z,Z] rfl rfl (any_of HT_.out (by kernel_rfl)) (fun _ _ _ h => h) (Or.inl ⟨by rfl, ?_⟩) ?_ ?_
     rotate_left
     ·intro w'
      go_simp
      with_reducible rfl
     rotate_left
     ·exact ac_
     refine pure_ (i := 8) (N := some 110) (v := ?_) (a' := ?_) #[Y,Y,Y,Z,Y,Z,Y,Y,Y,Z,Z,Z,Z,Z] rfl rfl (any_of HT_.out (by kernel_rfl)) (fun _ _ _ h => h) (Or.inl ⟨by rfl, ?_⟩) ?_ ?_
     rotate_left
     ·intro w'
      go_simp
      with_reducible rfl
     rotate_left
     ·exact ac_
     refine pure_ (i := 10) (N := some 112) (v := ?_) (a' := ?_) #[Y,Y,Y,Z,Y,Z,Y,Y,Y,Z,Y,Z,Z,Z] rfl rfl (any_of HT_.out (by kernel_rfl)) (fun _ _ _ h => h) (Or.inl ⟨by rfl, ?_⟩) ?_ ?_
     rotate_left
     ·intro w'
      go_simp
      with_reducible rfl
     rotate_left
     ·exact ac_
     refine take_ (i := 3) (N := some 105) (v := ?_) (a' := ?_) #[Y,Y,Y,Y,Y,Z,Y,Y,Y,Z,Y,Z,Z,Z] rfl rfl (take_ofW HT_.out HW_.out (by kernel_rfl)) (fun _ _ _ h => h) (Or.inl ⟨by rfl, ?_⟩) hHeld ?_ ?_
     rotate_left
     ·rintro w' ⟨s0, s1, s2, s3⟩
      go_simp
      with_reducible rfl
     rotate_left
     ·exact ac_
     refine pure_ (i := 5) (N := some 107) (v := ?_) (a' := ?_) #[Y,Y,Y,Y,Y,Y,Y,Y,Y,Z,Y,Z,Z,Z] rfl rfl (any_of HT_.out (by kernel_rfl)) (fun _ _ _ h => h) (Or.inl ⟨by rfl, ?_⟩) ?_ ?_
     rotate_left
     ·intro w'
      go_simp
      with_reducible rfl
     rotate_left
     ·exact ac_
     refine take_ (i := 9) (N := some 111) (v := ?_) (a' := ?_) #[Y,Y,Y,Y,Y,Y,Y,Y,Y,Y,Y,Z,Z,Z] rfl rfl (take_ofW HT_.out HW_.out (by kernel_rfl)) (fun _ _ _ h => h) (Or.inl ⟨by rfl, ?_⟩) hHeld ?_ ?_
     rotate_left
     ·rintro w' ⟨s0, s1, s2, s3⟩
      go_simp
      with_reducible rfl
     rotate_left
     ·exact ac_
     refine one_ (i := 11) (N := some 113) #[Y,Y,Y,Y,Y,Y,Y,Y,Y,Y,Y,Y,Z,Z] rfl rfl (one_of HT_.out (by kernel_rfl)) (by decide) (fun K hK => ?_)
     refine goes_ Try.func24 (by kernel_rfl) rfl #[.agg #[.int .i64 ((rd_T37 l0 x10_1).f0), .int .i64 ((rd_T37 l0 x10_1).f1), .int .i64 ((rd_T37 l0 x10_1).f2)], .string ((rdOf ByteArray.empty x7_1 x10_1).extract ((ji51) : Int).toNat (rdOf ByteArray.empty x7_1 x10_1).size)] (by rfl) rfl rfl (by (try simp only [List.map_toArray, List.map_cons, List.map_nil]); first | done | (simp only [hji51]; rfl) | rfl | (simp only [List.length_drop, List.length_take]; rfl)) ?_
     with_reducible refine (camshaftref07_Gives.calls kj24 ((rd_T37 l0 x10_1).f0) ((rd_T37 l0 x10_1).f1) ((rd_T37 l0 x10_1).f2) ((rdOf ByteArray.empty x7_1 x10_1).extract ((ji51) : Int).toNat (rdOf ByteArray.empty x7_1 x10_1).size) t262 _ A59.out).mono ?_
     rintro e w74 ⟨rfl, hb⟩
     have HS0_ := (hb.cell (World.block_lt_of_cell? _ _ (hHeld.1))).trans (hHeld.1)
     refine ⟨_, rfl, ?_⟩
     have n0_ := Aside0.mk (Kd.R_below (by (with_reducible repeat (first | apply Kd.R_alloc | apply Kd.R_drewN | apply Kd.R_drew)); exact HO_5.out) hb)
     have n1_ := Aside0.mk (Kd.R_below (by (with_reducible repeat (first | apply Kd.R_alloc | apply Kd.R_drewN | apply Kd.R_drew)); exact HO_7.out) hb)
     have n2_ := Aside0.mk (Kd.R_below (by (with_reducible repeat (first | apply Kd.R_alloc | apply Kd.R_drewN | apply Kd.R_drew)); exact HO_8.out) hb)
     have n3_ := Aside0.mk (Kd.R_below (by (with_reducible repeat (first | apply Kd.R_alloc | apply Kd.R_drewN | apply Kd.R_drew)); exact HO_9.out) hb)
     first | (have n4_ := Aside0.mk (below_step (Below.refl w.heap.size w) hb)) | (have n4_ := Aside0.mk (below_step (below_drew (pw_below_drewN (Below.refl w.heap.size w) _)) hb)) | (have n4_ := Aside0.mk (below_step (pw_below_drewN (Below.refl w.heap.size w) _) hb)) | (have n4_ := Aside0.mk (below_step ab_ hb))
     clear HO_5
     clear HO_7
     clear HO_8
     clear HO_9
     clear HB
     have HO_5 := n0_
     have HO_7 := n1_
     have HO_8 := n2_
     have HO_9 := n3_
     have HB := n4_
     clear n0_ n1_ n2_ n3_ n4_
     (try clear hb)
     (try clear hb2)
     (try clear hk)
     (try clear hi)
     refine hK.out _ _ ⟨HS0_, ((HB.out.cell (World.block_lt_of_cell? w _ hw261_0)).trans hw261_0), ((HB.out.cell (World.block_lt_of_cell? w _ hw261_1)).trans hw261_1), ((HB.out.cell (World.block_lt_of_cell? w _ hw261_2)).trans hw261_2)⟩ (fun hHeld => ?_)
     clear hK K
     refine norm_ (a' := ?_) ?_ ?_
     rotate_left
     ·show Act.put _ (some 113) _ = _
      simp only [Act.put, setIfInBounds_toArray,set_cons_zero,set_cons_succ, i64_w, i32_w]
      rfl
     refine pure_ (i := 12) (N := some 114) (v := ?_) (a' := ?_) #[Y,Y,Y,Y,Y,Y,Y,Y,Y,Y,Y,Y,Y,Z] rfl rfl (any_of HT_.out (by kernel_rfl)) (fun _ _ _ h => h) (Or.inl ⟨by rfl, ?_⟩) ?_ ?_
     rotate_left
     ·intro w'
      go_simp
      with_reducible rfl
     rotate_left
     ·exact ac_
     refine pure_ (i := 13) (N := some 13) (v := ?_) (a' := ?_) #[Y,Y,Y,Y,Y,Y,Y,Y,Y,Y,Y,Y,Y,Y] rfl rfl (any_of HT_.out (by kernel_rfl)) (fun _ _ _ h => h) (Or.inl ⟨by rfl, ?_⟩) ?_ ?_
     rotate_left
     ·intro w'
      go_simp
      with_reducible rfl
     rotate_left
     ·exact ac_
     refine done_ (done_of HT_.out (by kernel_rfl)) ?_
     try go_wp2_with (first | ((with_reducible refine gate_callee (f := 25) rfl ?_); refine goesL_ (some 120) rfl rfl Try.func25 (by kernel_rfl) rfl #[.slice (some ad254) l0.length c0, .int .i64 x10_1] rfl am_ ?_; (with_reducible refine (camshaftref07_nexts.calls _ _ l0 x10_1 t263 _ ?side1 ?side2 A68.out).mono ?_); (case side1 => repeat (first | exact (Kd.C_below HR0.out HB.out) | (with_reducible refine Kd.C_alloc ?_ _) | (with_reducible refine Kd.C_drewN ?_ _) | (with_reducible refine Kd.C_drew ?_))); (case side2 => exact HC0.out); rintro e w75 ⟨v264, rfl, ho0, hb⟩; refine ⟨_, rfl, ?_⟩; have n0_ := Aside0.mk (Kd.R_elder' (by (with_reducible repeat (first | apply Kd.R_alloc | apply Kd.R_drewN | apply Kd.R_drew)); exact HO_5.out) (Kd.R_base ho0) hb); have n1_ := Aside0.mk (Kd.R_below (by (with_reducible repeat (first | apply Kd.R_alloc | apply Kd.R_drewN | apply Kd.R_drew)); exact HO_7.out) hb); have n2_ := Aside0.mk (Kd.R_below (by (with_reducible repeat (first | apply Kd.R_alloc | apply Kd.R_drewN | apply Kd.R_drew)); exact HO_8.out) hb); have n3_ := Aside0.mk (Kd.R_below (by (with_reducible repeat (first | apply Kd.R_alloc | apply Kd.R_drewN | apply Kd.R_drew)); exact HO_9.out) hb); have n4_ := Aside0.mk (Kd.R_lower (Kd.R_new' ho0 (Kd.R_lt (by (with_reducible repeat (first | apply Kd.R_alloc | apply Kd.R_drewN | apply Kd.R_drew)); exact HO_5.out))) (below_size ab_)); have n5_ := Aside0.mk (below_step ab_ hb); clear HO_5; clear HO_7; clear HO_8; clear HO_9; clear HB; have HO_5 := n0_; have HO_7 := n1_; have HO_8 := n2_; have HO_9 := n3_; have HO265 := n4_; have HB := n5_; clear n0_ n1_ n2_ n3_ n4_ n5_; (try clear hb); (try clear hb2); (try clear hk); (try clear hi); (try clear ho0)))
     go_loopg [15] kj24 (fun kq v15 w' => ∃ (x7_3 : List ByteArray) (x8_3 : List Bool) (x9_3 : List Bool) (x15_3 : Int), v15 = .int .i64 x15_3 ∧ Aside0 (camshaftref07_Stacks.l1 kq l0 t233 x7_3 x8_3 x9_3 x10_1 (((rdOf ByteArray.empty x7_1 x10_1).extract 0 ((ji51) : Int).toNat) ++ t262) t263 x15_3 = some (r1, r2)) ∧ Aside0 (kq ≤ kj24) ∧ Aside0 (Kd.R (Kd.int .i64) 3 w' w.heap.size (fun k_ => some k_ ≠ (v264 : Value).ownBlock) v235 t233) ∧ Aside0 (Kd.R Kd.string 9 w' w.heap.size (fun _ => True) (.slice (some ad253) x7_1.length co70) x7_3) ∧ Aside0 (Kd.R Kd.bool 4 w' w.heap.size (fun k_ => some k_ ≠ (v244 : Value).ownBlock) (.slice (some ⟨go9, 0, none⟩) x8_1.length co9) x8_3) ∧ Aside0 (Kd.R Kd.bool 4 w' w.heap.size (fun k_ => some k_ ≠ ((.slice (some ⟨go9, 0, none⟩) x8_1.length co9) : Value).ownBlock) v244 x9_3) ∧ Aside0 (Kd.R (Kd.int .i64) 3 w' w.heap.size (fun k_ => some k_ ≠ (v235 : Value).ownBlock) v264 t263) ∧ Aside0 (Below w.heap.size w w'))
     case atStart => exact ⟨(x7_1), (x8_1), (x9_1), (0), (by first | rfl | (simp; done) | (simp [*]; done)), H', ⟨Nat.le_refl _⟩, ⟨by (try simp only [hl8_1]); (with_reducible repeat (first | apply Kd.R_alloc | apply Kd.R_drewN | apply Kd.R_drew)); exact Kd.R_mono HO_5.out (fun _ hk => hk.2)⟩, ⟨by (try simp only [hl8_1]); (with_reducible repeat (first | apply Kd.R_alloc | apply Kd.R_drewN | apply Kd.R_drew)); exact HO_7.out⟩, ⟨by (try simp only [hl8_1]); (with_reducible repeat (first | apply Kd.R_alloc | apply Kd.R_drewN | apply Kd.R_drew)); exact HO_8.out⟩, ⟨by (try simp only [hl8_1]); (with_reducible repeat (first | apply Kd.R_alloc | apply Kd.R_drewN | apply Kd.R_drew)); exact HO_9.out⟩, ⟨by (try simp only [hl8_1]); (with_reducible repeat (first | apply Kd.R_alloc | apply Kd.R_drewN | apply Kd.R_drew)); exact Kd.R_mono HO265.out (fun _ hk => hk.2)⟩, ⟨by repeat (first | (with_reducible first | exact HB.out | apply below_alloc | apply pw_below_drewN | apply below_drew1) | exact HB.out)⟩⟩
     case round =>
      clear H'
      try clear c2
      try clear p2
      try clear q2
      try clear hx2
      try clear c6
      try clear c22
      try clear c23
      try clear c24
      try clear c25
      try clear p25
      try clear q25
      try clear hx25
      try clear p26
      try clear q26
      try clear hx26
      try clear c61
      try clear c61b0
      try clear c61b1
      try clear hx253_0
      try clear hx254_0
      try clear hx254_1
      try clear hx254_2
      try clear hx256_0
      try clear hx257_0
      try clear hx257_1
      try clear hx257_2
      try clear hx260_0
      try clear hx261_0
      try clear hx261_1
      try clear hx261_2
      try clear p253
      try clear p254
      try clear p256
      try clear p257
      try clear p260
      try clear p261
      try clear q253
      try clear q254
      try clear q256
      try clear q257
      try clear q260
      try clear q261
      obtain ⟨x7_3, x8_3, x9_3, x15_3, rfl, HA, HK3, HO_5, HO_7, HO_8, HO_9, HO_14, HB⟩ := hrel
      have hl7_3 := (Kd.R_reads' HO_7.out).1
      rw [hl7_3] at HO_7
      (try simp only [hl7_3])
      (try simp only [hl7_3] at HO_5)
      (try simp only [hl7_3] at HO_8)
      (try simp only [hl7_3] at HO_9)
      (try simp only [hl7_3] at HO_14)
      have hl8_3 := (Kd.R_reads' HO_8.out).1
      rw [hl8_3] at HO_8
      (try simp only [hl8_3])
      (try simp only [hl8_3] at HO_5)
      (try simp only [hl8_3] at HO_7)
      (try simp only [hl8_3] at HO_9)
      (try simp only [hl8_3] at HO_14)
      cases gk with
      | zero => exact absurd HA.out (by simp [camshaftref07_Stacks.l1])
      | succ k3 =>
       have H := HA.out
       clear HA
       simp only [camshaftref07_Stacks.l1] at H
       by_cases c76 : x15_3 < (t263.length : Int)
       rotate_left
       ·rw [if_neg c76] at H
        have c76b0 : decide (x15_3 < (t263.length : Int)) = false := decide_eq_false c76
        clear c76
        have H' := Aside0.mk H
        clear H
        obtain ⟨Ao125, co125, eo125⟩ := Kd.R_slice HO_14.out
        subst eo125
        go_wp2
        (try simp only [← hl8_1, ← hl7_3, ← hl8_3])
        go_roundg k3
        case measure => have := HK1.out; have := HJ24.out; have := HK3.out; omega
        case rel => exact ⟨(x7_3), (x8_3), (x9_3), (wrap64 (x10_1 + 1)), (by first | rfl | (simp; done) | (simp [*]; done)), H', ⟨by have := HK1.out; have := HJ24.out; have := HK3.out; omega⟩, ⟨by (try simp only [hl8_1]); (try simp only [hl7_3]); (try simp only [hl8_3]); (with_reducible repeat (first | apply Kd.R_alloc | apply Kd.R_drewN | apply Kd.R_drew)); exact Kd.R_mono HO_5.out (fun _ hk => trivial)⟩, ⟨by (try simp only [hl8_1]); (try simp only [hl7_3]); (try simp only [hl8_3]); (with_reducible repeat (first | apply Kd.R_alloc | apply Kd.R_drewN | apply Kd.R_drew)); exact HO_7.out⟩, ⟨by (try simp only [hl8_1]); (try simp only [hl7_3]); (try simp only [hl8_3]); (with_reducible repeat (first | apply Kd.R_alloc | apply Kd.R_drewN | apply Kd.R_drew)); exact HO_8.out⟩, ⟨by (try simp only [hl8_1]); (try simp only [hl7_3]); (try simp only [hl8_3]); (with_reducible repeat (first | apply Kd.R_alloc | apply Kd.R_drewN | apply Kd.R_drew)); exact HO_9.out⟩, ⟨by repeat (first | (with_reducible first | exact HB.out | apply below_alloc | apply pw_below_drewN | apply below_drew1) | exact HB.out | exact Below.refl _ _)⟩⟩
       rw [if_pos c76] at H
       have c76b0 : decide (x15_3 < (t263.length : Int)) = true := decide_eq_true c76
       clear c76
       by_cases c77 : 0 ≤ x15_3
       rotate_left
       ·rw [if_neg c77] at H
        exact absurd H (by simp)
       rw [if_pos c77] at H
       have c77b0 : decide (0 ≤ x15_3) = true := decide_eq_true c77
       clear c77
       by_cases c78 : 0 ≤ (rd t263 x15_3)
       rotate_left
       ·rw [if_neg c78] at H
        exact absurd H (by simp)
       rw [if_pos c78] at H
       have c78b0 : decide (0 ≤ (rd t263 x15_3)) = true := decide_eq_true c78
       clear c78
       by_cases c79 : (rd t263 x15_3) < (x9_3.length : Int)
       rotate_left
       ·rw [if_neg c79] at H
        exact absurd H (by simp)
       rw [if_pos c79] at H
       have c79b0 : decide ((rd t263 x15_3) < (x9_3.length : Int)) = true := decide_eq_true c79
       clear c79
       obtain ⟨bq80, hbq80⟩ : ∃ b_ : Bool, b_ = (rdOf false x9_3 (rd t263 x15_3)) := ⟨_, rfl⟩
       replace H : (if bq80 = true then (if (rd t263 x15_3) < (x8_3.length : Int) then (if (rd t263 x15_3) < (x7_3.length : Int) then (camshaftref07_Stacks.l1 k3 l0 t233 (x7_3.set ((rd t263 x15_3) : Int).toNat (((rdOf ByteArray.empty x7_1 x10_1).extract 0 ((ji51) : Int).toNat) ++ t262)) (x8_3.set ((rd t263 x15_3) : Int).toNat true) (x9_3.set ((rd t263 x15_3) : Int).toNat true) x10_1 (((rdOf ByteArray.empty x7_1 x10_1).extract 0 ((ji51) : Int).toNat) ++ t262) t263 (wrap64 (x15_3 + 1))) else (none)) else (none)) else (if (rd t263 x15_3) < (x8_3.length : Int) then (if rdOf false x8_3 (rd t263 x15_3) = true then (if (rd t263 x15_3) < (x7_3.length : Int) then (camshaftref07_Stacks.l1 k3 l0 t233 (x7_3.set ((rd t263 x15_3) : Int).toNat (((rdOf ByteArray.empty x7_1 x10_1).extract 0 ((ji51) : Int).toNat) ++ t262)) (x8_3.set ((rd t263 x15_3) : Int).toNat true) (x9_3.set ((rd t263 x15_3) : Int).toNat ((rdOf ByteArray.empty x7_3 (rd t263 x15_3)).toList != (((rdOf ByteArray.empty x7_1 x10_1).extract 0 ((ji51) : Int).toNat) ++ t262).toList)) x10_1 (((rdOf ByteArray.empty x7_1 x10_1).extract 0 ((ji51) : Int).toNat) ++ t262) t263 (wrap64 (x15_3 + 1))) else (none)) else (if (rd t263 x15_3) < (x7_3.length : Int) then (camshaftref07_Stacks.l1 k3 l0 t233 (x7_3.set ((rd t263 x15_3) : Int).toNat (((rdOf ByteArray.empty x7_1 x10_1).extract 0 ((ji51) : Int).toNat) ++ t262)) (x8_3.set ((rd t263 x15_3) : Int).toNat true) (x9_3.set ((rd t263 x15_3) : Int).toNat false) x10_1 (((rdOf ByteArray.empty x7_1 x10_1).extract 0 ((ji51) : Int).toNat) ++ t262) t263 (wrap64 (x15_3 + 1))) else (none))) else (none))) = some (r1, r2) := by rw [← hbq80] at H; exact H
       have Nbq80 := Aside0.mk hbq80
       clear hbq80
       by_cases c81 : bq80 = true
       ·subst c81
        have H1 : (if (rd t263 x15_3) < (x8_3.length : Int) then (if (rd t263 x15_3) < (x7_3.length : Int) then (camshaftref07_Stacks.l1 k3 l0 t233 (x7_3.set ((rd t263 x15_3) : Int).toNat (((rdOf ByteArray.empty x7_1 x10_1).extract 0 ((ji51) : Int).toNat) ++ t262)) (x8_3.set ((rd t263 x15_3) : Int).toNat true) (x9_3.set ((rd t263 x15_3) : Int).toNat true) x10_1 (((rdOf ByteArray.empty x7_1 x10_1).extract 0 ((ji51) : Int).toNat) ++ t262) t263 (wrap64 (x15_3 + 1))) else (none)) else (none)) = some (r1, r2) := by rw [if_pos rfl] at H; exact H
        clear H
        have H := H1
        clear H1
        obtain ⟨y269, hy269⟩ : ∃ y_ : List Bool, y_ = (x9_3.set ((rd t263 x15_3) : Int).toNat true) := ⟨_, rfl⟩
        replace H : (if (rd t263 x15_3) < (x8_3.length : Int) then (if (rd t263 x15_3) < (x7_3.length : Int) then (camshaftref07_Stacks.l1 k3 l0 t233 (x7_3.set ((rd t263 x15_3) : Int).toNat (((rdOf ByteArray.empty x7_1 x10_1).extract 0 ((ji51) : Int).toNat) ++ t262)) (x8_3.set ((rd t263 x15_3) : Int).toNat true) y269 x10_1 (((rdOf ByteArray.empty x7_1 x10_1).extract 0 ((ji51) : Int).toNat) ++ t262) t263 (wrap64 (x15_3 + 1))) else (none)) else (none)) = some (r1, r2) := by first | (rw [hy269]; with_reducible exact H) | (have H2_ := (Option.bind_some _ _).symm.trans H; rw [hy269]; with_reducible exact H2_) | (have H2_ := (Option.bind_some _ _).symm.trans H; with_reducible exact H2_) | with_reducible exact H | (rw [hy269]; exact H) | exact H
        have Ny269 := Aside0.mk hy269
        clear hy269
        by_cases c83 : (rd t263 x15_3) < (x8_3.length : Int)
        rotate_left
        ·rw [if_neg c83] at H
         exact absurd H (by simp)
        rw [if_pos c83] at H
        have c83b0 : decide ((rd t263 x15_3) < (x8_3.length : Int)) = true := decide_eq_true c83
        clear c83
        obtain ⟨y271, hy271⟩ : ∃ y_ : List Bool, y_ = (x8_3.set ((rd t263 x15_3) : Int).toNat true) := ⟨_, rfl⟩
        replace H : (if (rd t263 x15_3) < (x7_3.length : Int) then (camshaftref07_Stacks.l1 k3 l0 t233 (x7_3.set ((rd t263 x15_3) : Int).toNat (((rdOf ByteArray.empty x7_1 x10_1).extract 0 ((ji51) : Int).toNat) ++ t262)) y271 y269 x10_1 (((rdOf ByteArray.empty x7_1 x10_1).extract 0 ((ji51) : Int).toNat) ++ t262) t263 (wrap64 (x15_3 + 1))) else (none)) = some (r1, r2) := by first | (rw [hy271]; with_reducible exact H) | (have H2_ := (Option.bind_some _ _).symm.trans H; rw [hy271]; with_reducible exact H2_) | (have H2_ := (Option.bind_some _ _).symm.trans H; with_reducible exact H2_) | with_reducible exact H | (rw [hy271]; exact H) | exact H
        have Ny271 := Aside0.mk hy271
        clear hy271
        by_cases c85 : (rd t263 x15_3) < (x7_3.length : Int)
        rotate_left
        ·rw [if_neg c85] at H
         exact absurd H (by simp)
        rw [if_pos c85] at H
        have c85b0 : decide ((rd t263 x15_3) < (x7_3.length : Int)) = true := decide_eq_true c85
        clear c85
        obtain ⟨y273, hy273⟩ : ∃ y_ : List ByteArray, y_ = (x7_3.set ((rd t263 x15_3) : Int).toNat (((rdOf ByteArray.empty x7_1 x10_1).extract 0 ((ji51) : Int).toNat) ++ t262)) := ⟨_, rfl⟩
        replace H : (camshaftref07_Stacks.l1 k3 l0 t233 y273 y271 y269 x10_1 (((rdOf ByteArray.empty x7_1 x10_1).extract 0 ((ji51) : Int).toNat) ++ t262) t263 (wrap64 (x15_3 + 1))) = some (r1, r2) := by first | (rw [hy273]; with_reducible exact H) | (have H2_ := (Option.bind_some _ _).symm.trans H; rw [hy273]; with_reducible exact H2_) | (have H2_ := (Option.bind_some _ _).symm.trans H; with_reducible exact H2_) | with_reducible exact H | (rw [hy273]; exact H) | exact H
        have Ny273 := Aside0.mk hy273
        clear hy273
        have H' := Aside0.mk H
        clear H
        obtain ⟨Ao87, co87, eo87⟩ := Kd.R_slice HO_14.out
        subst eo87
        try go_wp2
        have n0_ := Aside0.mk (Kd.R_drew HO_5.out)
        have n1_ := Aside0.mk (Kd.R_drew HO_7.out)
        have n2_ := Aside0.mk (Kd.R_drew HO_8.out)
        have n3_ := Aside0.mk (Kd.R_drew HO_9.out)
        have n4_ := Aside0.mk (Kd.R_drew HO_14.out)
        have n5_ := Aside0.mk (below_drew1 HB.out)
        clear HO_5
        clear HO_7
        clear HO_8
        clear HO_9
        clear HO_14
        clear HB
        have HO_5 := n0_
        have HO_7 := n1_
        have HO_8 := n2_
        have HO_9 := n3_
        have HO_14 := n4_
        have HB := n5_
        clear n0_ n1_ n2_ n3_ n4_ n5_
        have p266 : 0 ≤ (x15_3 : Int) := of_decide_eq_true as_
        have q266 : x15_3 < (t263.length : Int) := of_decide_eq_true as_
        obtain ⟨ad266, e266, hx266_0⟩ := Kd.at_int (Kd.R_reads' HO_14.out).2.2 x15_3 p266 q266
        cases e266
        replace p266 := eq_true p266
        replace q266 := eq_true q266
        have p267 : 0 ≤ (x15_3 : Int) := of_decide_eq_true as_
        have q267 : x15_3 < (t263.length : Int) := of_decide_eq_true as_
        obtain ⟨ad267, e267, hx267_0⟩ := Kd.at_int (Kd.R_reads' HO_14.out).2.2 x15_3 p267 q267
        obtain rfl : ad266 = ad267 := (by injection e267)
        replace p267 := eq_true p267
        replace q267 := eq_true q267
        obtain ⟨Ao89, co89, eo89⟩ := Kd.R_slice HO_9.out
        (first | subst eo89 | (injection eo89 with f1_ f2_ f3_; have f4_ := f1_.symm; have f5_ := f3_.symm; clear f1_ f2_ f3_; subst f4_; subst f5_))
        have p268 : 0 ≤ ((rd t263 x15_3) : Int) := of_decide_eq_true as_
        have q268 : (rd t263 x15_3) < (x9_3.length : Int) := of_decide_eq_true as_
        obtain ⟨ad268, e268, hx268_0⟩ := Kd.at_bool (Kd.R_reads' HO_9.out).2.2 (rd t263 x15_3) p268 q268
        (try rw [← Nbq23.out] at hx268_0)
        (try rw [← Nbq80.out] at hx268_0)
        cases e268
        replace p268 := eq_true p268
        replace q268 := eq_true q268
        have p82 : 0 ≤ ((rd t263 x15_3) : Int) := of_decide_eq_true as_
        have q82 : ((rd t263 x15_3) : Int) < ((x9_3.length : Int) : Int) := of_decide_eq_true as_
        obtain ⟨go82, co82, eo82, gb82, gl82, cl82, HG82⟩ := Kd.R_form HO_9.out (by omega)
        (first | cases eo82 | (injection eo82 with ea_ en_ ec_; (first | subst ea_ | (injection ea_ with ea_; subst ea_)); subst ec_; clear en_))
        have GB82 := Aside0.mk gb82
        have GG82 := Aside0.mk HG82
        clear gb82 gl82 HG82
        (first | simp only [add_plain] at hx268_0 | skip)
        obtain ⟨hx82_0, hf82_0⟩ := Kd.R_celln false HO_9.out ((rd t263 x15_3) : Int) p82 q82
        replace p82 := eq_true p82
        replace q82 := eq_true q82
        have HP90 := Kd.R_putn HO_9.out ((rd t263 x15_3) : Int) true
        rw [← Ny269.out] at HP90
        have HQ90 := Aside0.mk HP90
        clear HP90
        refine start_ (n := 34) (S := fun w' => w'.cell? (ad266.add (x15_3).toNat) = some (.int .i64 (rd t263 x15_3)) ∧ w'.cell? (ad266.add (x15_3).toNat) = some (.int .i64 (rd t263 x15_3)) ∧ w'.cell? ⟨go82, ((rd t263 x15_3)).toNat, none⟩ = some (.bool true)) (ds := [33]) #[Z,Z,Z,Z,Z,Z,Z,Z,Z,Z,Z,Z,Z,Z,Z,Z,Z,Z,Z,Z,Z,Z,Z,Z,Z,Z,Z,Z,Z,Z,Z,Z,Z,Z] (by kernel_rfl) rfl rfl ⟨hx266_0, hx267_0, hx268_0⟩ (fun hHeld => ?_); refine with_tabW camshaftref07_Stacks.tab29 camshaftref07_Stacks.bits29 (fun HT_ HW_ => ?_)
        generalize wr.drew = w88 at HO_5 HO_7 HO_8 HO_9 HO_14 HB GG82 HQ90 hf82_0 hx266_0 hx267_0 hx268_0 hx82_0 hHeld ⊢
        refine pure_ (i := 0) (N := some 127) (v := ?_) (a' := ?_) #[Y,Z,Z,Z,Z,Z,Z,Z,Z,Z,Z,Z,Z,Z,Z,Z,Z,Z,Z,Z,Z,Z,Z,Z,Z,Z,Z,Z,Z,Z,Z,Z,Z,Z] rfl rfl (any_of HT_.out (by kernel_rfl)) (fun _ _ _ h => h) (Or.inl ⟨by rfl, ?_⟩) ?_ ?_
        rotate_left
        ·intro w'
         go_simp
         with_reducible rfl
        rotate_left
        ·exact ac_
        refine pure_ (i := 1) (N := some 128) (v := ?_) (a' := ?_) #[Y,Y,Z,Z,Z,Z,Z,Z,Z,Z,Z,Z,Z,Z,Z,Z,Z,Z,Z,Z,Z,Z,Z,Z,Z,Z,Z,Z,Z,Z,Z,Z,Z,Z] rfl rfl (any_of HT_.out (by kernel_rfl)) (fun _ _ _ h => h) (Or.inl ⟨by rfl, ?_⟩) ?_ ?_
        rotate_left
        ·intro w'
         go_simp
         with_reducible rfl
        rotate_left
        ·exact ac_
        refine pure_ (i := 2) (N := some 129) (v := ?_) (a' := ?_) #[Y,Y,Y,Z,Z,Z,Z,Z,Z,Z,Z,Z,Z,Z,Z,Z,Z,Z,Z,Z,Z,Z,Z,Z,Z,Z,Z,Z,Z,Z,Z,Z,Z,Z] rfl rfl (any_of HT_.out (by kernel_rfl)) (fun _ _ _ h => h) (Or.inl ⟨by rfl, ?_⟩) ?_ ?_
        rotate_left
        ·intro w'
         go_simp
         with_reducible rfl
        rotate_left
        ·exact ac_
        refine pure_ (i := 3) (N := some 130) (v := ?_) (a' := ?_) #[Y,Y,Y,Y,Z,Z,Z,Z,Z,Z,Z,Z,Z,Z,Z,Z,Z,Z,Z,Z,Z,Z,Z,Z,Z,Z,Z,Z,Z,Z,Z,Z,Z,Z] rfl rfl (any_of HT_.out (by kernel_rfl)) (fun _ _ _ h => h) (Or.inl ⟨by rfl, ?_⟩) ?_ ?_
        rotate_left
        ·intro w'
         go_simp
         with_reducible rfl
        rotate_left
        ·exact ac_
        refine pure_ (i := 5) (N := some 132) (v := ?_) (a' := ?_) #[Y,Y,Y,Y,Z,Y,Z,Z,Z,Z,Z,Z,Z,Z,Z,Z,Z,Z,Z,Z,Z,Z,Z,Z,Z,Z,Z,Z,Z,Z,Z,Z,Z,Z] rfl rfl (any_of HT_.out (by kernel_rfl)) (fun _ _ _ h => h) (Or.inl ⟨by rfl, ?_⟩) ?_ ?_
        rotate_left
        ·intro w'
         go_simp
         with_reducible rfl
        rotate_left
        ·exact ac_
        refine pure_ (i := 6) (N := some 133) (v := ?_) (a' := ?_) #[Y,Y,Y,Y,Z,Y,Y,Z,Z,Z,Z,Z,Z,Z,Z,Z,Z,Z,Z,Z,Z,Z,Z,Z,Z,Z,Z,Z,Z,Z,Z,Z,Z,Z] rfl rfl (any_of HT_.out (by kernel_rfl)) (fun _ _ _ h => h) (Or.inl ⟨by rfl, ?_⟩) ?_ ?_
        rotate_left
        ·intro w'
         go_simp
         with_reducible rfl
        rotate_left
        ·exact ac_
        refine pure_ (i := 7) (N := some 134) (v := ?_) (a' := ?_) #[Y,Y,Y,Y,Z,Y,Y,Y,Z,Z,Z,Z,Z,Z,Z,Z,Z,Z,Z,Z,Z,Z,Z,Z,Z,Z,Z,Z,Z,Z,Z,Z,Z,Z] rfl rfl (any_of HT_.out (by kernel_rfl)) (fun _ _ _ h => h) (Or.inl ⟨by rfl, ?_⟩) ?_ ?_
        rotate_left
        ·intro w'
         go_simp
         with_reducible rfl
        rotate_left
        ·exact ac_
        refine pure_ (i := 8) (N := some 135) (v := ?_) (a' := ?_) #[Y,Y,Y,Y,Z,Y,Y,Y,Y,Z,Z,Z,Z,Z,Z,Z,Z,Z,Z,Z,Z,Z,Z,Z,Z,Z,Z,Z,Z,Z,Z,Z,Z,Z] rfl rfl (any_of HT_.out (by kernel_rfl)) (fun _ _ _ h => h) (Or.inl ⟨by rfl, ?_⟩) ?_ ?_
        rotate_left
        ·intro w'
         go_simp
         with_reducible rfl
        rotate_left
        ·exact ac_
        refine take_ (i := 4) (N := some 131) (v := ?_) (a' := ?_) #[Y,Y,Y,Y,Y,Y,Y,Y,Y,Z,Z,Z,Z,Z,Z,Z,Z,Z,Z,Z,Z,Z,Z,Z,Z,Z,Z,Z,Z,Z,Z,Z,Z,Z] rfl rfl (take_ofW HT_.out HW_.out (by kernel_rfl)) (fun _ _ _ h => h) (Or.inl ⟨by rfl, ?_⟩) hHeld ?_ ?_
        rotate_left
        ·rintro w' ⟨s0, s1, s2⟩
         go_simp
         with_reducible rfl
        rotate_left
        ·exact ac_
        refine take_ (i := 9) (N := some 136) (v := ?_) (a' := ?_) #[Y,Y,Y,Y,Y,Y,Y,Y,Y,Y,Z,Z,Z,Z,Z,Z,Z,Z,Z,Z,Z,Z,Z,Z,Z,Z,Z,Z,Z,Z,Z,Z,Z,Z] rfl rfl (take_ofW HT_.out HW_.out (by kernel_rfl)) (fun _ _ _ h => h) (Or.inl ⟨by rfl, ?_⟩) hHeld ?_ ?_
        rotate_left
        ·rintro w' ⟨s0, s1, s2⟩
         go_simp
         with_reducible rfl
        rotate_left
        ·exact ac_
        refine pure_ (i := 10) (N := some 137) (v := ?_) (a' := ?_) #[Y,Y,Y,Y,Y,Y,Y,Y,Y,Y,Y,Z,Z,Z,Z,Z,Z,Z,Z,Z,Z,Z,Z,Z,Z,Z,Z,Z,Z,Z,Z,Z,Z,Z] rfl rfl (any_of HT_.out (by kernel_rfl)) (fun _ _ _ h => h) (Or.inl ⟨by rfl, ?_⟩) ?_ ?_
        rotate_left
        ·intro w'
         go_simp
         with_reducible rfl
        rotate_left
        ·exact ac_
        refine take_ (i := 11) (N := some 138) (v := ?_) (a' := ?_) #[Y,Y,Y,Y,Y,Y,Y,Y,Y,Y,Y,Y,Z,Z,Z,Z,Z,Z,Z,Z,Z,Z,Z,Z,Z,Z,Z,Z,Z,Z,Z,Z,Z,Z] rfl rfl (take_ofW HT_.out HW_.out (by kernel_rfl)) (fun _ _ _ h => h) (Or.inl ⟨by rfl, ?_⟩) hHeld ?_ ?_
        rotate_left
        ·rintro w' ⟨s0, s1, s2⟩
         go_simp
         with_reducible rfl
        rotate_left
        ·exact ac_
        refine pure_ (i := 12) (N := some 139) (v := ?_) (a' := ?_) #[Y,Y,Y,Y,Y,Y,Y,Y,Y,Y,Y,Y,Y,Z,Z,Z,Z,Z,Z,Z,Z,Z,Z,Z,Z,Z,Z,Z,Z,Z,Z,Z,Z,Z] rfl rfl (any_of HT_.out (by kernel_rfl)) (fun _ _ _ h => h) (Or.inl ⟨by rfl, ?_⟩) ?_ ?_
        rotate_left
        ·intro w'
         go_simp
         with_reducible rfl
        rotate_left
        ·exact ac_
        refine pure_ (i := 13) (N := some 140) (v := undef) (a' := ?_) #[Y,Y,Y,Y,Y,Y,Y,Y,Y,Y,Y,Y,Y,Y,Z,Z,Z,Z,Z,Z,Z,Z,Z,Z,Z,Z,Z,Z,Z,Z,Z,Z,Z,Z] rfl rfl (any_of HT_.out (by kernel_rfl)) (fun _ _ _ h => h) (Or.inr ⟨by rfl, rfl⟩) ?_ ?_
        rotate_left
        ·exact ac_
        refine pure_ (i := 14) (N := some 141) (v := undef) (a' := ?_) #[Y,Y,Y,Y,Y,Y,Y,Y,Y,Y,Y,Y,Y,Y,Y,Z,Z,Z,Z,Z,Z,Z,Z,Z,Z,Z,Z,Z,Z,Z,Z,Z,Z,Z] rfl rfl (any_of HT_.out (by kernel_rfl)) (fun _ _ _ h => h) (Or.inr ⟨by rfl, rfl⟩) ?_ ?_
        rotate_left
        ·exact ac_
        refine pure_ (i := 15) (N := some 142) (v := undef) (a' := ?_) #[Y,Y,Y,Y,Y,Y,Y,Y,Y,Y,Y,Y,Y,Y,Y,Y,Z,Z,Z,Z,Z,Z,Z,Z,Z,Z,Z,Z,Z,Z,Z,Z,Z,Z] rfl rfl (any_of HT_.out (by kernel_rfl)) (fun _ _ _ h => h) (Or.inr ⟨by rfl, rfl⟩) ?_ ?_
        rotate_left
        ·exact ac_
        refine pure_ (i := 16) (N := some 143) (v := undef) (a' := ?_) #[Y,Y,Y,Y,Y,Y,Y,Y,Y,Y,Y,Y,Y,Y,Y,Y,Y,Z,Z,Z,Z,Z,Z,Z,Z,Z,Z,Z,Z,Z,Z,Z,Z,Z] rfl rfl (any_of HT_.out (by kernel_rfl)) (fun _ _ _ h => h) (Or.inr ⟨by rfl, rfl⟩) ?_ ?_
        rotate_left
        ·exact ac_
        refine pure_ (i := 17) (N := some 144) (v := undef) (a' := ?_) #[Y,Y,Y,Y,Y,Y,Y,Y,Y,Y,Y,Y,Y,Y,Y,Y,Y,Y,Z,Z,Z,Z,Z,Z,Z,Z,Z,Z,Z,Z,Z,Z,Z,Z] rfl rfl (any_of HT_.out (by kernel_rfl)) (fun _ _ _ h => h) (Or.inr ⟨by rfl, rfl⟩) ?_ ?_
        rotate_left
        ·exact ac_
        refine pure_ (i := 18) (N := some 145) (v := undef) (a' := ?_) #[Y,Y,Y,Y,Y,Y,Y,Y,Y,Y,Y,Y,Y,Y,Y,Y,Y,Y,Y,Z,Z,Z,Z,Z,Z,Z,Z,Z,Z,Z,Z,Z,Z,Z] rfl rfl (any_of HT_.out (by kernel_rfl)) (fun _ _ _ h => h) (Or.inr ⟨by rfl, rfl⟩) ?_ ?_
        rotate_left
        ·exact ac_
        refine pure_ (i := 19) (N := some 146) (v := undef) (a' := ?_) #[Y,Y,Y,Y,Y,Y,Y,Y,Y,Y,Y,Y,Y,Y,Y,Y,Y,Y,Y,Y,Z,Z,Z,Z,Z,Z,Z,Z,Z,Z,Z,Z,Z,Z] rfl rfl (any_of HT_.out (by kernel_rfl)) (fun _ _ _ h => h) (Or.inr ⟨by rfl, rfl⟩) ?_ ?_
        rotate_left
        ·exact ac_
        refine pure_ (i := 20) (N := some 147) (v := undef) (a' := ?_) #[Y,Y,Y,Y,Y,Y,Y,Y,Y,Y,Y,Y,Y,Y,Y,Y,Y,Y,Y,Y,Y,Z,Z,Z,Z,Z,Z,Z,Z,Z,Z,Z,Z,Z] rfl rfl (any_of HT_.out (by kernel_rfl)) (fun _ _ _ h => h) (Or.inr ⟨by rfl, rfl⟩) ?_ ?_
        rotate_left
        ·exact ac_
        refine pure_ (i := 21) (N := some 148) (v := undef) (a' := ?_) #[Y,Y,Y,Y,Y,Y,Y,Y,Y,Y,Y,Y,Y,Y,Y,Y,Y,Y,Y,Y,Y,Y,Z,Z,Z,Z,Z,Z,Z,Z,Z,Z,Z,Z] rfl rfl (any_of HT_.out (by kernel_rfl)) (fun _ _ _ h => h) (Or.inr ⟨by rfl, rfl⟩) ?_ ?_
        rotate_left
        ·exact ac_
        refine pure_ (i := 22) (N := some 149) (v := undef) (a' := ?_) #[Y,Y,Y,Y,Y,Y,Y,Y,Y,Y,Y,Y,Y,Y,Y,Y,Y,Y,Y,Y,Y,Y,Y,Z,Z,Z,Z,Z,Z,Z,Z,Z,Z,Z] rfl rfl (any_of HT_.out (by kernel_rfl)) (fun _ _ _ h => h) (Or.inr ⟨by rfl, rfl⟩) ?_ ?_
        rotate_left
        ·exact ac_
        refine pure_ (i := 23) (N := some 150) (v := undef) (a' := ?_) #[Y,Y,Y,Y,Y,Y,Y,Y,Y,Y,Y,Y,Y,Y,Y,Y,Y,Y,Y,Y,Y,Y,Y,Y,Z,Z,Z,Z,Z,Z,Z,Z,Z,Z] rfl rfl (any_of HT_.out (by kernel_rfl)) (fun _ _ _ h => h) (Or.inr ⟨by rfl, rfl⟩) ?_ ?_
        rotate_left
        ·exact ac_
        refine pure_ (i := 24) (N := some 151) (v := undef) (a' := ?_) #[Y,Y,Y,Y,Y,Y,Y,Y,Y,Y,Y,Y,Y,Y,Y,Y,Y,Y,Y,Y,Y,Y,Y,Y,Y,Z,Z,Z,Z,Z,Z,Z,Z,Z] rfl rfl (any_of HT_.out (by kernel_rfl)) (fun _ _ _ h => h) (Or.inr ⟨by rfl, rfl⟩) ?_ ?_
        rotate_left
        ·exact ac_
        refine pure_ (i := 25) (N := some 152) (v := undef) (a' := ?_) #[Y,Y,Y,Y,Y,Y,Y,Y,Y,Y,Y,Y,Y,Y,Y,Y,Y,Y,Y,Y,Y,Y,Y,Y,Y,Y,Z,Z,Z,Z,Z,Z,Z,Z] rfl rfl (any_of HT_.out (by kernel_rfl)) (fun _ _ _ h => h) (Or.inr ⟨by rfl, rfl⟩) ?_ ?_
        rotate_left
        ·exact ac_
        refine pure_ (i := 26) (N := some 153) (v := undef) (a' := ?_) #[Y,Y,Y,Y,Y,Y,Y,Y,Y,Y,Y,Y,Y,Y,Y,Y,Y,Y,Y,Y,Y,Y,Y,Y,Y,Y,Y,Z,Z,Z,Z,Z,Z,Z] rfl rfl (any_of HT_.out (by kernel_rfl)) (fun _ _ _ h => h) (Or.inr ⟨by rfl, rfl⟩) ?_ ?_
        rotate_left
        ·exact ac_
        refine pure_ (i := 27) (N := some 154) (v := undef) (a' := ?_) #[Y,Y,Y,Y,Y,Y,Y,Y,Y,Y,Y,Y,Y,Y,Y,Y,Y,Y,Y,Y,Y,Y,Y,Y,Y,Y,Y,Y,Z,Z,Z,Z,Z,Z] rfl rfl (any_of HT_.out (by kernel_rfl)) (fun _ _ _ h => h) (Or.inr ⟨by rfl, rfl⟩) ?_ ?_
        rotate_left
        ·exact ac_
        refine pure_ (i := 28) (N := some 155) (v := undef) (a' := ?_) #[Y,Y,Y,Y,Y,Y,Y,Y,Y,Y,Y,Y,Y,Y,Y,Y,Y,Y,Y,Y,Y,Y,Y,Y,Y,Y,Y,Y,Y,Z,Z,Z,Z,Z] rfl rfl (any_of HT_.out (by kernel_rfl)) (fun _ _ _ h => h) (Or.inr ⟨by rfl, rfl⟩) ?_ ?_
        rotate_left
        ·exact ac_
        refine pure_ (i := 29) (N := some 156) (v := undef) (a' := ?_) #[Y,Y,Y,Y,Y,Y,Y,Y,Y,Y,Y,Y,Y,Y,Y,Y,Y,Y,Y,Y,Y,Y,Y,Y,Y,Y,Y,Y,Y,Y,Z,Z,Z,Z] rfl rfl (any_of HT_.out (by kernel_rfl)) (fun _ _ _ h => h) (Or.inr ⟨by rfl, rfl⟩) ?_ ?_
        rotate_left
        ·exact ac_
        refine pure_ (i := 30) (N := some 157) (v := undef) (a' := ?_) #[Y,Y,Y,Y,Y,Y,Y,Y,Y,Y,Y,Y,Y,Y,Y,Y,Y,Y,Y,Y,Y,Y,Y,Y,Y,Y,Y,Y,Y,Y,Y,Z,Z,Z] rfl rfl (any_of HT_.out (by kernel_rfl)) (fun _ _ _ h => h) (Or.inr ⟨by rfl, rfl⟩) ?_ ?_
        rotate_left
        ·exact ac_
        refine pure_ (i := 31) (N := some 158) (v := ?_) (a' := ?_) #[Y,Y,Y,Y,Y,Y,Y,Y,Y,Y,Y,Y,Y,Y,Y,Y,Y,Y,Y,Y,Y,Y,Y,Y,Y,Y,Y,Y,Y,Y,Y,Y,Z,Z] rfl rfl (any_of HT_.out (by kernel_rfl)) (fun _ _ _ h => h) (Or.inl ⟨by rfl, ?_⟩) ?_ ?_
        rotate_left
        ·intro w'
         go_simp
         with_reducible rfl
        rotate_left
        ·exact ac_
        refine pure_ (i := 32) (N := some 159) (v := ?_) (a' := ?_) #[Y,Y,Y,Y,Y,Y,Y,Y,Y,Y,Y,Y,Y,Y,Y,Y,Y,Y,Y,Y,Y,Y,Y,Y,Y,Y,Y,Y,Y,Y,Y,Y,Y,Z] rfl rfl (any_of HT_.out (by kernel_rfl)) (fun _ _ _ h => h) (Or.inl ⟨by rfl, ?_⟩) ?_ ?_
        rotate_left
        ·intro w'
         go_simp
         with_reducible rfl
        rotate_left
        ·exact ac_
        refine last_ (i := 33) (N := none) #[Y,Y,Y,Y,Y,Y,Y,Y,Y,Y,Y,Y,Y,Y,Y,Y,Y,Y,Y,Y,Y,Y,Y,Y,Y,Y,Y,Y,Y,Y,Y,Y,Y,Y] rfl rfl (one_of HT_.out (by kernel_rfl)) (by decide) (fun K hK => ?_)
        refine skip_ (w1 := ?_) (by rfl) rfl ?_ ?_
        rotate_left
        ·go_simp
         rfl
        refine hK.out _ _ ?_
        clear hK K
        refine done_ (done_of HT_.out (by kernel_rfl)) ?_
        have n0_ : Aside0 (Kd.R (Kd.int .i64) 3 (w88.setCell ⟨go82, ((rd t263 x15_3) : Int).toNat, none⟩ (.bool true)) w.heap.size (fun k_ => some k_ ≠ (.slice (some ad266) t263.length co87 : Value).ownBlock) v235 t233) := ⟨by (with_reducible repeat (first | apply Kd.R_alloc | apply Kd.R_drewN | apply Kd.R_drew)); exact Kd.R_mono (Kd.R_far (p := ⟨go82, ((rd t263 x15_3) : Int).toNat, none⟩) (Kd.R_types HO_5.out GG82.out (by decide)) (fun _ hk => hk.2) (.bool true)) (fun _ hk => hk.1)⟩
        have n1_ : Aside0 (Kd.R Kd.string 9 (w88.setCell ⟨go82, ((rd t263 x15_3) : Int).toNat, none⟩ (.bool true)) w.heap.size (fun _ => True) (.slice (some ad253) x7_3.length co70) x7_3) := ⟨by (with_reducible repeat (first | apply Kd.R_alloc | apply Kd.R_drewN | apply Kd.R_drew)); exact Kd.R_mono (Kd.R_far (p := ⟨go82, ((rd t263 x15_3) : Int).toNat, none⟩) (Kd.R_types HO_7.out GG82.out (by decide)) (fun _ hk => hk.2) (.bool true)) (fun _ hk => trivial)⟩
        have n2_ : Aside0 (Kd.R Kd.bool 4 (w88.setCell ⟨go82, ((rd t263 x15_3) : Int).toNat, none⟩ (.bool true)) w.heap.size (fun k_ => some k_ ≠ (.slice (some ⟨go82, 0, none⟩) x9_3.length co89 : Value).ownBlock) (.slice (some ⟨go9, 0, none⟩) x8_3.length co9) x8_3) := ⟨by (with_reducible repeat (first | apply Kd.R_alloc | apply Kd.R_drewN | apply Kd.R_drew)); exact Kd.R_mono (Kd.R_far (p := ⟨go82, ((rd t263 x15_3) : Int).toNat, none⟩) (Kd.R_mono HO_8.out (fun k_ hk => (⟨hk, fun e_ => hk (by rw [e_]; rfl)⟩ : _ ∧ k_ ≠ go82))) (fun _ hk => hk.2) (.bool true)) (fun _ hk => hk.1)⟩
        have n3_ : Aside0 (Kd.R Kd.bool 4 (w88.setCell ⟨go82, ((rd t263 x15_3) : Int).toNat, none⟩ (.bool true)) w.heap.size (fun k_ => some k_ ≠ (.slice (some ⟨go9, 0, none⟩) x8_3.length co9 : Value).ownBlock) (.slice (some ⟨go82, 0, none⟩) x9_3.length co89) y269) := ⟨by (with_reducible repeat (first | apply Kd.R_alloc | apply Kd.R_drewN | apply Kd.R_drew)); exact HQ90.out⟩
        have n4_ : Aside0 (Kd.R (Kd.int .i64) 3 (w88.setCell ⟨go82, ((rd t263 x15_3) : Int).toNat, none⟩ (.bool true)) w.heap.size (fun k_ => some k_ ≠ (v235 : Value).ownBlock) (.slice (some ad266) t263.length co87) t263) := ⟨by (with_reducible repeat (first | apply Kd.R_alloc | apply Kd.R_drewN | apply Kd.R_drew)); exact Kd.R_mono (Kd.R_far (p := ⟨go82, ((rd t263 x15_3) : Int).toNat, none⟩) (Kd.R_types HO_14.out GG82.out (by decide)) (fun _ hk => hk.2) (.bool true)) (fun _ hk => hk.1)⟩
        have n5_ : Aside0 (Below w.heap.size w (w88.setCell ⟨go82, ((rd t263 x15_3) : Int).toNat, none⟩ (.bool true))) := ⟨by repeat (first | (with_reducible first | exact HB.out | apply below_alloc | apply pw_below_drewN | apply below_drew1 | refine below_set ?_ GB82.out) | exact HB.out)⟩
        (try clear HO_5)
        (try clear HO_7)
        (try clear HO_8)
        (try clear HO_9)
        (try clear HO_14)
        (try clear HB)
        generalize (w88.setCell ⟨go82, ((rd t263 x15_3) : Int).toNat, none⟩ (.bool true)) = w91 at n0_ n1_ n2_ n3_ n4_ n5_ ⊢
        have HO_5 := n0_
        have HO_7 := n1_
        have HO_8 := n2_
        have HO_9 := n3_
        have HO_14 := n4_
        have HB := n5_
        clear n0_ n1_ n2_ n3_ n4_ n5_
        have p270 : 0 ≤ (x15_3 : Int) := of_decide_eq_true as_
        have q270 : x15_3 < (t263.length : Int) := of_decide_eq_true as_
        obtain ⟨ad270, e270, hx270_0⟩ := Kd.at_int (Kd.R_reads' HO_14.out).2.2 x15_3 p270 q270
        obtain rfl : ad266 = ad270 := (by injection e270)
        replace p270 := eq_true p270
        replace q270 := eq_true q270
        have p84 : 0 ≤ ((rd t263 x15_3) : Int) := of_decide_eq_true as_
        have q84 : ((rd t263 x15_3) : Int) < ((x8_3.length : Int) : Int) := of_decide_eq_true as_
        obtain ⟨hx84_0, hf84_0⟩ := Kd.R_celln false HO_8.out ((rd t263 x15_3) : Int) p84 q84
        replace p84 := eq_true p84
        replace q84 := eq_true q84
        obtain ⟨hy92_, hz92_⟩ := Kd.R_celln false HO_8.out ((rd t263 x15_3) : Int) (of_decide_eq_true as_) (of_decide_eq_true as_)
        have HP92 := Kd.R_putg HO_8.out ((rd t263 x15_3) : Int) true
        try go_wp2_with (first | ((with_reducible refine gate_store (t := 4) (p := 165) rfl ?_); refine store_event (t := 4) (p := 165) (v := ?vo_w93) (w1 := (w91.setCell ⟨go9, ((rd t263 x15_3) : Int).toNat, none⟩ (.bool true))) ?hg ?ho ?hn ?hr ?_; (case ho => rfl); (case hg => rfl); (case hn => rfl); (case hr => first | (go_simp; done) | (go_simp; rfl)); intro w93 hw; have hg : w91.grownBy w93 (some go9) := (by rw [hw]; exact HP92.2); have hp_ : Kd.R Kd.bool 4 w93 w.heap.size (fun k_ => some k_ ≠ (.slice (some ⟨go82, 0, none⟩) x9_3.length co89 : Value).ownBlock) (.slice (some ⟨go9, 0, none⟩) x8_3.length co9) y271 := (by rw [hw, Ny271.out]; exact HP92.1); clear HP92; have n0_ := Aside0.mk (Kd.R_over' (v := (.slice (some ⟨go9, 0, none⟩) x8_3.length co9)) (by (with_reducible repeat (first | apply Kd.R_alloc | apply Kd.R_drewN | apply Kd.R_drew)); exact HO_5.out) (Kd.R_typed HO_8.out) (by decide) hg); have n1_ := Aside0.mk (Kd.R_over' (v := (.slice (some ⟨go9, 0, none⟩) x8_3.length co9)) (by (with_reducible repeat (first | apply Kd.R_alloc | apply Kd.R_drewN | apply Kd.R_drew)); exact HO_7.out) (Kd.R_typed HO_8.out) (by decide) hg); have n2_ := Aside0.mk (hp_); have n3_ := Aside0.mk (Kd.R_after (v := (.slice (some ⟨go9, 0, none⟩) x8_3.length co9)) (v1 := (.slice (some ⟨go9, 0, none⟩) x8_3.length co9)) (ok := (fun _ => True)) (by (with_reducible repeat (first | apply Kd.R_alloc | apply Kd.R_drewN | apply Kd.R_drew)); exact Kd.R_mono HO_9.out (fun _ hk => ⟨trivial, hk⟩)) hg (.inl rfl)); have n4_ := Aside0.mk (Kd.R_over' (v := (.slice (some ⟨go9, 0, none⟩) x8_3.length co9)) (by (with_reducible repeat (first | apply Kd.R_alloc | apply Kd.R_drewN | apply Kd.R_drew)); exact HO_14.out) (Kd.R_typed HO_8.out) (by decide) hg); have n5_ := Aside0.mk ((by rw [hw]; exact below_set (HB.out) GB9.out : Below w.heap.size w w93)); clear HO_5; clear HO_7; clear HO_8; clear HO_9; clear HO_14; clear HB; have HO_5 := n0_; have HO_7 := n1_; have HO_8 := n2_; have HO_9 := n3_; have HO_14 := n4_; have HB := n5_; clear n0_ n1_ n2_ n3_ n4_ n5_; clear hg hw hp_; have p272 : 0 ≤ (x15_3 : Int) := of_decide_eq_true as_; have q272 : x15_3 < (t263.length : Int) := of_decide_eq_true as_; obtain ⟨ad272, e272, hx272_0⟩ := Kd.at_int (Kd.R_reads' HO_14.out).2.2 x15_3 p272 q272; obtain rfl : ad266 = ad272 := (by injection e272); replace p272 := eq_true p272; replace q272 := eq_true q272; have p86 : 0 ≤ ((rd t263 x15_3) : Int) := of_decide_eq_true as_; have q86 : ((rd t263 x15_3) : Int) < ((x7_3.length : Int) : Int) := of_decide_eq_true as_; obtain ⟨go86, co86, eo86, gb86, gl86, cl86, HG86⟩ := Kd.R_form HO_7.out (by omega); (first | cases eo86 | (injection eo86 with ea_ en_ ec_; (first | subst ea_ | (injection ea_ with ea_; subst ea_)); subst ec_; clear en_)); have GB86 := Aside0.mk gb86; have GG86 := Aside0.mk HG86; clear gb86 gl86 HG86; (first | simp only [add_plain] at hx253_0 | skip); (first | simp only [add_plain] at hx256_0 | skip); (first | simp only [add_plain] at hx260_0 | skip); obtain ⟨hx86_0, hf86_0⟩ := Kd.R_celln (⟨#[]⟩ : ByteArray) HO_7.out ((rd t263 x15_3) : Int) p86 q86; replace p86 := eq_true p86; replace q86 := eq_true q86; obtain ⟨hy94_, hz94_⟩ := Kd.R_celln (⟨#[]⟩ : ByteArray) HO_7.out ((rd t263 x15_3) : Int) (of_decide_eq_true as_) (of_decide_eq_true as_); have HP94 := Kd.R_putg HO_7.out ((rd t263 x15_3) : Int) (((rdOf ByteArray.empty x7_1 x10_1).extract 0 ((ji51) : Int).toNat) ++ t262)) | ((with_reducible refine gate_store (t := 9) (p := 172) rfl ?_); refine store_event (t := 9) (p := 172) (v := ?vo_w95) (w1 := (w93.setCell ⟨go86, ((rd t263 x15_3) : Int).toNat, none⟩ (.string (((rdOf ByteArray.empty x7_1 x10_1).extract 0 ((ji51) : Int).toNat) ++ t262)))) ?hg ?ho ?hn ?hr ?_; (case ho => rfl); (case hg => rfl); (case hn => rfl); (case hr => first | (go_simp; done) | (go_simp; rfl)); intro w95 hw; have hg : w93.grownBy w95 (some go86) := (by rw [hw]; exact HP94.2); have hp_ : Kd.R Kd.string 9 w95 w.heap.size (fun _ => True) (.slice (some ⟨go86, 0, none⟩) x7_3.length co70) y273 := (by rw [hw, Ny273.out]; exact HP94.1); clear HP94; have n0_ := Aside0.mk (Kd.R_over' (v := (.slice (some ⟨go86, 0, none⟩) x7_3.length co70)) (by (with_reducible repeat (first | apply Kd.R_alloc | apply Kd.R_drewN | apply Kd.R_drew)); exact HO_5.out) (Kd.R_typed HO_7.out) (by decide) hg); have n1_ := Aside0.mk (hp_); have n2_ := Aside0.mk (Kd.R_over' (v := (.slice (some ⟨go86, 0, none⟩) x7_3.length co70)) (by (with_reducible repeat (first | apply Kd.R_alloc | apply Kd.R_drewN | apply Kd.R_drew)); exact HO_8.out) (Kd.R_typed HO_7.out) (by decide) hg); have n3_ := Aside0.mk (Kd.R_over' (v := (.slice (some ⟨go86, 0, none⟩) x7_3.length co70)) (by (with_reducible repeat (first | apply Kd.R_alloc | apply Kd.R_drewN | apply Kd.R_drew)); exact HO_9.out) (Kd.R_typed HO_7.out) (by decide) hg); have n4_ := Aside0.mk (Kd.R_over' (v := (.slice (some ⟨go86, 0, none⟩) x7_3.length co70)) (by (with_reducible repeat (first | apply Kd.R_alloc | apply Kd.R_drewN | apply Kd.R_drew)); exact HO_14.out) (Kd.R_typed HO_7.out) (by decide) hg); have n5_ := Aside0.mk ((by rw [hw]; exact below_set (HB.out) GB86.out : Below w.heap.size w w95)); clear HO_5; clear HO_7; clear HO_8; clear HO_9; clear HO_14; clear HB; have HO_5 := n0_; have HO_7 := n1_; have HO_8 := n2_; have HO_9 := n3_; have HO_14 := n4_; have HB := n5_; clear n0_ n1_ n2_ n3_ n4_ n5_; clear hg hw hp_))
        (try simp only [← hl7_3, ← hl8_3])
        (try simp only [show ({ block := go86, off := x10_1.toNat } : Addr) = (⟨go86, 0, none⟩ : Addr).add x10_1.toNat from by simp [Addr.add]])
        go_roundg k3
        case measure => have := HK1.out; have := HJ24.out; have := HK3.out; omega
        case rel => exact ⟨(y273), (y271), (y269), (wrap64 (x15_3 + 1)), (by first | rfl | (simp; done) | (simp [*]; done)), H', ⟨by have := HK1.out; have := HJ24.out; have := HK3.out; omega⟩, ⟨by (try simp only [hl8_1]); (try simp only [hl7_3]); (try simp only [hl8_3]); (with_reducible repeat (first | apply Kd.R_alloc | apply Kd.R_drewN | apply Kd.R_drew)); exact HO_5.out⟩, ⟨by (try simp only [hl8_1]); (try simp only [hl7_3]); (try simp only [hl8_3]); (with_reducible repeat (first | apply Kd.R_alloc | apply Kd.R_drewN | apply Kd.R_drew)); exact HO_7.out⟩, ⟨by (try simp only [hl8_1]); (try simp only [hl7_3]); (try simp only [hl8_3]); (with_reducible repeat (first | apply Kd.R_alloc | apply Kd.R_drewN | apply Kd.R_drew)); exact HO_8.out⟩, ⟨by (try simp only [hl8_1]); (try simp only [hl7_3]); (try simp only [hl8_3]); (with_reducible repeat (first | apply Kd.R_alloc | apply Kd.R_drewN | apply Kd.R_drew)); exact Kd.R_mono HO_9.out (fun _ hk => hk.2)⟩, ⟨by (try simp only [hl8_1]); (try simp only [hl7_3]); (try simp only [hl8_3]); (with_reducible repeat (first | apply Kd.R_alloc | apply Kd.R_drewN | apply Kd.R_drew)); exact HO_14.out⟩, ⟨by repeat (first | (with_reducible first | exact HB.out | apply below_alloc | apply pw_below_drewN | apply below_drew1) | exact HB.out | exact Below.refl _ _)⟩⟩
       replace c81 := Bool.eq_false_iff.mpr c81
       subst c81
       have H1 : (if (rd t263 x15_3) < (x8_3.length : Int) then (if rdOf false x8_3 (rd t263 x15_3) = true then (if (rd t263 x15_3) < (x7_3.length : Int) then (camshaftref07_Stacks.l1 k3 l0 t233 (x7_3.set ((rd t263 x15_3) : Int).toNat (((rdOf ByteArray.empty x7_1 x10_1).extract 0 ((ji51) : Int).toNat) ++ t262)) (x8_3.set ((rd t263 x15_3) : Int).toNat true) (x9_3.set ((rd t263 x15_3) : Int).toNat ((rdOf ByteArray.empty x7_3 (rd t263 x15_3)).toList != (((rdOf ByteArray.empty x7_1 x10_1).extract 0 ((ji51) : Int).toNat) ++ t262).toList)) x10_1 (((rdOf ByteArray.empty x7_1 x10_1).extract 0 ((ji51) : Int).toNat) ++ t262) t263 (wrap64 (x15_3 + 1))) else (none)) else (if (rd t263 x15_3) < (x7_3.length : Int) then (camshaftref07_Stacks.l1 k3 l0 t233 (x7_3.set ((rd t263 x15_3) : Int).toNat (((rdOf ByteArray.empty x7_1 x10_1).extract 0 ((ji51) : Int).toNat) ++ t262)) (x8_3.set ((rd t263 x15_3) : Int).toNat true) (x9_3.set ((rd t263 x15_3) : Int).toNat false) x10_1 (((rdOf ByteArray.empty x7_1 x10_1).extract 0 ((ji51) : Int).toNat) ++ t262) t263 (wrap64 (x15_3 + 1))) else (none))) else (none)) = some (r1, r2) := by rw [if_neg (show ¬ (false = true) by decide)] at H; exact H
       clear H
       have H := H1
       clear H1
       by_cases c96 : (rd t263 x15_3) < (x8_3.length : Int)
       rotate_left
       ·rw [if_neg c96] at H
        exact absurd H (by simp)
       rw [if_pos c96] at H
       have c96b0 : decide ((rd t263 x15_3) < (x8_3.length : Int)) = true := decide_eq_true c96
       clear c96
       obtain ⟨bq97, hbq97⟩ : ∃ b_ : Bool, b_ = (rdOf false x8_3 (rd t263 x15_3)) := ⟨_, rfl⟩
       replace H : (if bq97 = true then (if (rd t263 x15_3) < (x7_3.length : Int) then (camshaftref07_Stacks.l1 k3 l0 t233 (x7_3.set ((rd t263 x15_3) : Int).toNat (((rdOf ByteArray.empty x7_1 x10_1).extract 0 ((ji51) : Int).toNat) ++ t262)) (x8_3.set ((rd t263 x15_3) : Int).toNat true) (x9_3.set ((rd t263 x15_3) : Int).toNat ((rdOf ByteArray.empty x7_3 (rd t263 x15_3)).toList != (((rdOf ByteArray.empty x7_1 x10_1).extract 0 ((ji51) : Int).toNat) ++ t262).toList)) x10_1 (((rdOf ByteArray.empty x7_1 x10_1).extract 0 ((ji51) : Int).toNat) ++ t262) t263 (wrap64 (x15_3 + 1))) else (none)) else (if (rd t263 x15_3) < (x7_3.length : Int) then (camshaftref07_Stacks.l1 k3 l0 t233 (x7_3.set ((rd t263 x15_3) : Int).toNat (((rdOf ByteArray.empty x7_1 x10_1).extract 0 ((ji51) : Int).toNat) ++ t262)) (x8_3.set ((rd t263 x15_3) : Int).toNat true) (x9_3.set ((rd t263 x15_3) : Int).toNat false) x10_1 (((rdOf ByteArray.empty x7_1 x10_1).extract 0 ((ji51) : Int).toNat) ++ t262) t263 (wrap64 (x15_3 + 1))) else (none))) = some (r1, r2) := by rw [← hbq97] at H; exact H
       have Nbq97 := Aside0.mk hbq97
       clear hbq97
       by_cases c98 : bq97 = true
       rotate_left
       ·replace c98 := Bool.eq_false_iff.mpr c98
        subst c98
        have H1 : (if (rd t263 x15_3) < (x7_3.length : Int) then (camshaftref07_Stacks.l1 k3 l0 t233 (x7_3.set ((rd t263 x15_3) : Int).toNat (((rdOf ByteArray.empty x7_1 x10_1).extract 0 ((ji51) : Int).toNat) ++ t262)) (x8_3.set ((rd t263 x15_3) : Int).toNat true) (x9_3.set ((rd t263 x15_3) : Int).toNat false) x10_1 (((rdOf ByteArray.empty x7_1 x10_1).extract 0 ((ji51) : Int).toNat) ++ t262) t263 (wrap64 (x15_3 + 1))) else (none)) = some (r1, r2) := by rw [if_neg (show ¬ (false = true) by decide)] at H; exact H
        clear H
        have H := H1
        clear H1
        obtain ⟨y283, hy283⟩ : ∃ y_ : List Bool, y_ = (x9_3.set ((rd t263 x15_3) : Int).toNat false) := ⟨_, rfl⟩
        replace H : (if (rd t263 x15_3) < (x7_3.length : Int) then (camshaftref07_Stacks.l1 k3 l0 t233 (x7_3.set ((rd t263 x15_3) : Int).toNat (((rdOf ByteArray.empty x7_1 x10_1).extract 0 ((ji51) : Int).toNat) ++ t262)) (x8_3.set ((rd t263 x15_3) : Int).toNat true) y283 x10_1 (((rdOf ByteArray.empty x7_1 x10_1).extract 0 ((ji51) : Int).toNat) ++ t262) t263 (wrap64 (x15_3 + 1))) else (none)) = some (r1, r2) := by first | (rw [hy283]; with_reducible exact H) | (have H2_ := (Option.bind_some _ _).symm.trans H; rw [hy283]; with_reducible exact H2_) | (have H2_ := (Option.bind_some _ _).symm.trans H; with_reducible exact H2_) | with_reducible exact H | (rw [hy283]; exact H) | exact H
        have Ny283 := Aside0.mk hy283
        clear hy283
        obtain ⟨y285, hy285⟩ : ∃ y_ : List Bool, y_ = (x8_3.set ((rd t263 x15_3) : Int).toNat true) := ⟨_, rfl⟩
        replace H : (if (rd t263 x15_3) < (x7_3.length : Int) then (camshaftref07_Stacks.l1 k3 l0 t233 (x7_3.set ((rd t263 x15_3) : Int).toNat (((rdOf ByteArray.empty x7_1 x10_1).extract 0 ((ji51) : Int).toNat) ++ t262)) y285 y283 x10_1 (((rdOf ByteArray.empty x7_1 x10_1).extract 0 ((ji51) : Int).toNat) ++ t262) t263 (wrap64 (x15_3 + 1))) else (none)) = some (r1, r2) := by first | (rw [hy285]; with_reducible exact H) | (have H2_ := (Option.bind_some _ _).symm.trans H; rw [hy285]; with_reducible exact H2_) | (have H2_ := (Option.bind_some _ _).symm.trans H; with_reducible exact H2_) | with_reducible exact H | (rw [hy285]; exact H) | exact H
        have Ny285 := Aside0.mk hy285
        clear hy285
        by_cases c114 : (rd t263 x15_3) < (x7_3.length : Int)
        rotate_left
        ·rw [if_neg c114] at H
         exact absurd H (by simp)
        rw [if_pos c114] at H
        have c114b0 : decide ((rd t263 x15_3) < (x7_3.length : Int)) = true := decide_eq_true c114
        clear c114
        obtain ⟨y287, hy287⟩ : ∃ y_ : List ByteArray, y_ = (x7_3.set ((rd t263 x15_3) : Int).toNat (((rdOf ByteArray.empty x7_1 x10_1).extract 0 ((ji51) : Int).toNat) ++ t262)) := ⟨_, rfl⟩
        replace H : (camshaftref07_Stacks.l1 k3 l0 t233 y287 y285 y283 x10_1 (((rdOf ByteArray.empty x7_1 x10_1).extract 0 ((ji51) : Int).toNat) ++ t262) t263 (wrap64 (x15_3 + 1))) = some (r1, r2) := by first | (rw [hy287]; with_reducible exact H) | (have H2_ := (Option.bind_some _ _).symm.trans H; rw [hy287]; with_reducible exact H2_) | (have H2_ := (Option.bind_some _ _).symm.trans H; with_reducible exact H2_) | with_reducible exact H | (rw [hy287]; exact H) | exact H
        have Ny287 := Aside0.mk hy287
        clear hy287
        have H' := Aside0.mk H
        clear H
        obtain ⟨Ao116, co116, eo116⟩ := Kd.R_slice HO_14.out
        subst eo116
        try go_wp2
        have n0_ := Aside0.mk (Kd.R_drew HO_5.out)
        have n1_ := Aside0.mk (Kd.R_drew HO_7.out)
        have n2_ := Aside0.mk (Kd.R_drew HO_8.out)
        have n3_ := Aside0.mk (Kd.R_drew HO_9.out)
        have n4_ := Aside0.mk (Kd.R_drew HO_14.out)
        have n5_ := Aside0.mk (below_drew1 HB.out)
        clear HO_5
        clear HO_7
        clear HO_8
        clear HO_9
        clear HO_14
        clear HB
        have HO_5 := n0_
        have HO_7 := n1_
        have HO_8 := n2_
        have HO_9 := n3_
        have HO_14 := n4_
        have HB := n5_
        clear n0_ n1_ n2_ n3_ n4_ n5_
        have p266 : 0 ≤ (x15_3 : Int) := of_decide_eq_true as_
        have q266 : x15_3 < (t263.length : Int) := of_decide_eq_true as_
        obtain ⟨ad266, e266, hx266_0⟩ := Kd.at_int (Kd.R_reads' HO_14.out).2.2 x15_3 p266 q266
        cases e266
        replace p266 := eq_true p266
        replace q266 := eq_true q266
        have p267 : 0 ≤ (x15_3 : Int) := of_decide_eq_true as_
        have q267 : x15_3 < (t263.length : Int) := of_decide_eq_true as_
        obtain ⟨ad267, e267, hx267_0⟩ := Kd.at_int (Kd.R_reads' HO_14.out).2.2 x15_3 p267 q267
        obtain rfl : ad266 = ad267 := (by injection e267)
        replace p267 := eq_true p267
        replace q267 := eq_true q267
        obtain ⟨Ao118, co118, eo118⟩ := Kd.R_slice HO_9.out
        (first | subst eo118 | (injection eo118 with f1_ f2_ f3_; have f4_ := f1_.symm; have f5_ := f3_.symm; clear f1_ f2_ f3_; subst f4_; subst f5_))
        have p268 : 0 ≤ ((rd t263 x15_3) : Int) := of_decide_eq_true as_
        have q268 : (rd t263 x15_3) < (x9_3.length : Int) := of_decide_eq_true as_
        obtain ⟨ad268, e268, hx268_0⟩ := Kd.at_bool (Kd.R_reads' HO_9.out).2.2 (rd t263 x15_3) p268 q268
        (try rw [← Nbq23.out] at hx268_0)
        (try rw [← Nbq80.out] at hx268_0)
        (try rw [← Nbq97.out] at hx268_0)
        cases e268
        replace p268 := eq_true p268
        replace q268 := eq_true q268
        have p274 : 0 ≤ (x15_3 : Int) := of_decide_eq_true as_
        have q274 : x15_3 < (t263.length : Int) := of_decide_eq_true as_
        obtain ⟨ad274, e274, hx274_0⟩ := Kd.at_int (Kd.R_reads' HO_14.out).2.2 x15_3 p274 q274
        obtain rfl : ad266 = ad274 := (by injection e274)
        replace p274 := eq_true p274
        replace q274 := eq_true q274
        have p275 : 0 ≤ ((rd t263 x15_3) : Int) := of_decide_eq_true as_
        have q275 : (rd t263 x15_3) < (x8_3.length : Int) := of_decide_eq_true as_
        obtain ⟨ad275, e275, hx275_0⟩ := Kd.at_bool (Kd.R_reads' HO_8.out).2.2 (rd t263 x15_3) p275 q275
        (try rw [← Nbq23.out] at hx275_0)
        (try rw [← Nbq80.out] at hx275_0)
        (try rw [← Nbq97.out] at hx275_0)
        obtain rfl : (⟨go9, 0, none⟩ : Addr) = ad275 := (by injection e275)
        (first | simp only [add_plain] at hx275_0 | simp only [add_at] at hx275_0 | simp only [Addr.add, Nat.zero_add] at hx275_0 | skip)
        replace p275 := eq_true p275
        replace q275 := eq_true q275
        have p112 : 0 ≤ ((rd t263 x15_3) : Int) := of_decide_eq_true as_
        have q112 : ((rd t263 x15_3) : Int) < ((x9_3.length : Int) : Int) := of_decide_eq_true as_
        obtain ⟨go112, co112, eo112, gb112, gl112, cl112, HG112⟩ := Kd.R_form HO_9.out (by omega)
        (first | cases eo112 | (injection eo112 with ea_ en_ ec_; (first | subst ea_ | (injection ea_ with ea_; subst ea_)); subst ec_; clear en_))
        have GB112 := Aside0.mk gb112
        have GG112 := Aside0.mk HG112
        clear gb112 gl112 HG112
        (first | simp only [add_plain] at hx268_0 | skip)
        obtain ⟨hx112_0, hf112_0⟩ := Kd.R_celln false HO_9.out ((rd t263 x15_3) : Int) p112 q112
        replace p112 := eq_true p112
        replace q112 := eq_true q112
        have HP119 := Kd.R_putn HO_9.out ((rd t263 x15_3) : Int) false
        rw [← Ny283.out] at HP119
        have HQ119 := Aside0.mk HP119
        clear HP119
        refine start_ (n := 34) (S := fun w' => w'.cell? (ad266.add (x15_3).toNat) = some (.int .i64 (rd t263 x15_3)) ∧ w'.cell? (ad266.add (x15_3).toNat) = some (.int .i64 (rd t263 x15_3)) ∧ w'.cell? ⟨go112, ((rd t263 x15_3)).toNat, none⟩ = some (.bool false) ∧ w'.cell? (ad266.add (x15_3).toNat) = some (.int .i64 (rd t263 x15_3)) ∧ w'.cell? ⟨go9, ((rd t263 x15_3)).toNat, none⟩ = some (.bool false)) (ds := [33]) #[Z,Z,Z,Z,Z,Z,Z,Z,Z,Z,Z,Z,Z,Z,Z,Z,Z,Z,Z,Z,Z,Z,Z,Z,Z,Z,Z,Z,Z,Z,Z,Z,Z,Z] (by kernel_rfl) rfl rfl ⟨hx266_0, hx267_0, hx268_0, hx274_0, hx275_0⟩ (fun hHeld => ?_); refine with_tabW camshaftref07_Stacks.tab29 camshaftref07_Stacks.bits29 (fun HT_ HW_ => ?_)
        generalize wr.drew = w117 at HO_5 HO_7 HO_8 HO_9 HO_14 HB GG112 HQ119 hf112_0 hx112_0 hx266_0 hx267_0 hx268_0 hx274_0 hx275_0 hHeld ⊢
        refine pure_ (i := 0) (N := some 127) (v := ?_) (a' := ?_) #[Y,Z,Z,Z,Z,Z,Z,Z,Z,Z,Z,Z,Z,Z,Z,Z,Z,Z,Z,Z,Z,Z,Z,Z,Z,Z,Z,Z,Z,Z,Z,Z,Z,Z] rfl rfl (any_of HT_.out (by kernel_rfl)) (fun _ _ _ h => h) (Or.inl ⟨by rfl, ?_⟩) ?_ ?_
        rotate_left
        ·intro w'
         go_simp
         with_reducible rfl
        rotate_left
        ·exact ac_
        refine pure_ (i := 1) (N := some 128) (v := ?_) (a' := ?_) #[Y,Y,Z,Z,Z,Z,Z,Z,Z,Z,Z,Z,Z,Z,Z,Z,Z,Z,Z,Z,Z,Z,Z,Z,Z,Z,Z,Z,Z,Z,Z,Z,Z,Z] rfl rfl (any_of HT_.out (by kernel_rfl)) (fun _ _ _ h => h) (Or.inl ⟨by rfl, ?_⟩) ?_ ?_
        rotate_left
        ·intro w'
         go_simp
         with_reducible rfl
        rotate_left
        ·exact ac_
        refine pure_ (i := 2) (N := some 129) (v := ?_) (a' := ?_) #[Y,Y,Y,Z,Z,Z,Z,Z,Z,Z,Z,Z,Z,Z,Z,Z,Z,Z,Z,Z,Z,Z,Z,Z,Z,Z,Z,Z,Z,Z,Z,Z,Z,Z] rfl rfl (any_of HT_.out (by kernel_rfl)) (fun _ _ _ h => h) (Or.inl ⟨by rfl, ?_⟩) ?_ ?_
        rotate_left
        ·intro w'
         go_simp
         with_reducible rfl
        rotate_left
        ·exact ac_
        refine pure_ (i := 3) (N := some 130) (v := ?_) (a' := ?_) #[Y,Y,Y,Y,Z,Z,Z,Z,Z,Z,Z,Z,Z,Z,Z,Z,Z,Z,Z,Z,Z,Z,Z,Z,Z,Z,Z,Z,Z,Z,Z,Z,Z,Z] rfl rfl (any_of HT_.out (by kernel_rfl)) (fun _ _ _ h => h) (Or.inl ⟨by rfl, ?_⟩) ?_ ?_
        rotate_left
        ·intro w'
         go_simp
         with_reducible rfl
        rotate_left
        ·exact ac_
        refine pure_ (i := 5) (N := some 132) (v := ?_) (a' := ?_) #[Y,Y,Y,Y,Z,Y,Z,Z,Z,Z,Z,Z,Z,Z,Z,Z,Z,Z,Z,Z,Z,Z,Z,Z,Z,Z,Z,Z,Z,Z,Z,Z,Z,Z] rfl rfl (any_of HT_.out (by kernel_rfl)) (fun _ _ _ h => h) (Or.inl ⟨by rfl, ?_⟩) ?_ ?_
        rotate_left
        ·intro w'
         go_simp
         with_reducible rfl
        rotate_left
        ·exact ac_
        refine pure_ (i := 6) (N := some 133) (v := ?_) (a' := ?_) #[Y,Y,Y,Y,Z,Y,Y,Z,Z,Z,Z,Z,Z,Z,Z,Z,Z,Z,Z,Z,Z,Z,Z,Z,Z,Z,Z,Z,Z,Z,Z,Z,Z,Z] rfl rfl (any_of HT_.out (by kernel_rfl)) (fun _ _ _ h => h) (Or.inl ⟨by rfl, ?_⟩) ?_ ?_
        rotate_left
        ·intro w'
         go_simp
         with_reducible rfl
        rotate_left
        ·exact ac_
        refine pure_ (i := 7) (N := some 134) (v := ?_) (a' := ?_) #[Y,Y,Y,Y,Z,Y,Y,Y,Z,Z,Z,Z,Z,Z,Z,Z,Z,Z,Z,Z,Z,Z,Z,Z,Z,Z,Z,Z,Z,Z,Z,Z,Z,Z] rfl rfl (any_of HT_.out (by kernel_rfl)) (fun _ _ _ h => h) (Or.inl ⟨by rfl, ?_⟩) ?_ ?_
        rotate_left
        ·intro w'
         go_simp
         with_reducible rfl
        rotate_left
        ·exact ac_
        refine pure_ (i := 8) (N := some 135) (v := ?_) (a' := ?_) #[Y,Y,Y,Y,Z,Y,Y,Y,Y,Z,Z,Z,Z,Z,Z,Z,Z,Z,Z,Z,Z,Z,Z,Z,Z,Z,Z,Z,Z,Z,Z,Z,Z,Z] rfl rfl (any_of HT_.out (by kernel_rfl)) (fun _ _ _ h => h) (Or.inl ⟨by rfl, ?_⟩) ?_ ?_
        rotate_left
        ·intro w'
         go_simp
         with_reducible rfl
        rotate_left
        ·exact ac_
        refine take_ (i := 4) (N := some 131) (v := ?_) (a' := ?_) #[Y,Y,Y,Y,Y,Y,Y,Y,Y,Z,Z,Z,Z,Z,Z,Z,Z,Z,Z,Z,Z,Z,Z,Z,Z,Z,Z,Z,Z,Z,Z,Z,Z,Z] rfl rfl (take_ofW HT_.out HW_.out (by kernel_rfl)) (fun _ _ _ h => h) (Or.inl ⟨by rfl, ?_⟩) hHeld ?_ ?_
        rotate_left
        ·rintro w' ⟨s0, s1, s2, s3, s4⟩
         go_simp
         with_reducible rfl
        rotate_left
        ·exact ac_
        refine take_ (i := 9) (N := some 136) (v := ?_) (a' := ?_) #[Y,Y,Y,Y,Y,Y,Y,Y,Y,Y,Z,Z,Z,Z,Z,Z,Z,Z,Z,Z,Z,Z,Z,Z,Z,Z,Z,Z,Z,Z,Z,Z,Z,Z] rfl rfl (take_ofW HT_.out HW_.out (by kernel_rfl)) (fun _ _ _ h => h) (Or.inl ⟨by rfl, ?_⟩) hHeld ?_ ?_
        rotate_left
        ·rintro w' ⟨s0, s1, s2, s3, s4⟩
         go_simp
         with_reducible rfl
        rotate_left
        ·exact ac_
        refine pure_ (i := 10) (N := some 137) (v := ?_) (a' := ?_) #[Y,Y,Y,Y,Y,Y,Y,Y,Y,Y,Y,Z,Z,Z,Z,Z,Z,Z,Z,Z,Z,Z,Z,Z,Z,Z,Z,Z,Z,Z,Z,Z,Z,Z] rfl rfl (any_of HT_.out (by kernel_rfl)) (fun _ _ _ h => h) (Or.inl ⟨by rfl, ?_⟩) ?_ ?_
        rotate_left
        ·intro w'
         go_simp
         with_reducible rfl
        rotate_left
        ·exact ac_
        refine take_ (i := 11) (N := some 138) (v := ?_) (a' := ?_) #[Y,Y,Y,Y,Y,Y,Y,Y,Y,Y,Y,Y,Z,Z,Z,Z,Z,Z,Z,Z,Z,Z,Z,Z,Z,Z,Z,Z,Z,Z,Z,Z,Z,Z] rfl rfl (take_ofW HT_.out HW_.out (by kernel_rfl)) (fun _ _ _ h => h) (Or.inl ⟨by rfl, ?_⟩) hHeld ?_ ?_
        rotate_left
        ·rintro w' ⟨s0, s1, s2, s3, s4⟩
         go_simp
         with_reducible rfl
        rotate_left
        ·exact ac_
        refine pure_ (i := 12) (N := some 139) (v := ?_) (a' := ?_) #[Y,Y,Y,Y,Y,Y,Y,Y,Y,Y,Y,Y,Y,Z,Z,Z,Z,Z,Z,Z,Z,Z,Z,Z,Z,Z,Z,Z,Z,Z,Z,Z,Z,Z] rfl rfl (any_of HT_.out (by kernel_rfl)) (fun _ _ _ h => h) (Or.inl ⟨by rfl, ?_⟩) ?_ ?_
        rotate_left
        ·intro w'
         go_simp
         with_reducible rfl
        rotate_left
        ·exact ac_
        refine pure_ (i := 13) (N := some 140) (v := ?_) (a' := ?_) #[Y,Y,Y,Y,Y,Y,Y,Y,Y,Y,Y,Y,Y,Y,Z,Z,Z,Z,Z,Z,Z,Z,Z,Z,Z,Z,Z,Z,Z,Z,Z,Z,Z,Z] rfl rfl (any_of HT_.out (by kernel_rfl)) (fun _ _ _ h => h) (Or.inl ⟨by rfl, ?_⟩) ?_ ?_
        rotate_left
        ·intro w'
         go_simp
         with_reducible rfl
        rotate_left
        ·exact ac_
        refine pure_ (i := 14) (N := some 141) (v := ?_) (a' := ?_) #[Y,Y,Y,Y,Y,Y,Y,Y,Y,Y,Y,Y,Y,Y,Y,Z,Z,Z,Z,Z,Z,Z,Z,Z,Z,Z,Z,Z,Z,Z,Z,Z,Z,Z] rfl rfl (any_of HT_.out (by kernel_rfl)) (fun _ _ _ h => h) (Or.inl ⟨by rfl, ?_⟩) ?_ ?_
        rotate_left
        ·intro w'
         go_simp
         with_reducible rfl
        rotate_left
        ·exact ac_
        refine pure_ (i := 15) (N := some 142) (v := ?_) (a' := ?_) #[Y,Y,Y,Y,Y,Y,Y,Y,Y,Y,Y,Y,Y,Y,Y,Y,Z,Z,Z,Z,Z,Z,Z,Z,Z,Z,Z,Z,Z,Z,Z,Z,Z,Z] rfl rfl (any_of HT_.out (by kernel_rfl)) (fun _ _ _ h => h) (Or.inl ⟨by rfl, ?_⟩) ?_ ?_
        rotate_left
        ·intro w'
         go_simp
         with_reducible rfl
        rotate_left
        ·exact ac_
        refine pure_ (i := 16) (N := some 143) (v := ?_) (a' := ?_) #[Y,Y,Y,Y,Y,Y,Y,Y,Y,Y,Y,Y,Y,Y,Y,Y,Y,Z,Z,Z,Z,Z,Z,Z,Z,Z,Z,Z,Z,Z,Z,Z,Z,Z] rfl rfl (any_of HT_.out (by kernel_rfl)) (fun _ _ _ h => h) (Or.inl ⟨by rfl, ?_⟩) ?_ ?_
        rotate_left
        ·intro w'
         go_simp
         with_reducible rfl
        rotate_left
        ·exact ac_
        refine take_ (i := 17) (N := some 144) (v := ?_) (a' := ?_) #[Y,Y,Y,Y,Y,Y,Y,Y,Y,Y,Y,Y,Y,Y,Y,Y,Y,Y,Z,Z,Z,Z,Z,Z,Z,Z,Z,Z,Z,Z,Z,Z,Z,Z] rfl rfl (take_ofW HT_.out HW_.out (by kernel_rfl)) (fun _ _ _ h => h) (Or.inl ⟨by rfl, ?_⟩) hHeld ?_ ?_
        rotate_left
        ·rintro w' ⟨s0, s1, s2, s3, s4⟩
         go_simp
         with_reducible rfl
        rotate_left
        ·exact ac_
        refine pure_ (i := 18) (N := some 145) (v := ?_) (a' := ?_) #[Y,Y,Y,Y,Y,Y,Y,Y,Y,Y,Y,Y,Y,Y,Y,Y,Y,Y,Y,Z,Z,Z,Z,Z,Z,Z,Z,Z,Z,Z,Z,Z,Z,Z] rfl rfl (any_of HT_.out (by kernel_rfl)) (fun _ _ _ h => h) (Or.inl ⟨by rfl, ?_⟩) ?_ ?_
        rotate_left
        ·intro w'
         go_simp
         with_reducible rfl
        rotate_left
        ·exact ac_
        refine take_ (i := 19) (N := some 146) (v := ?_) (a' := ?_) #[Y,Y,Y,Y,Y,Y,Y,Y,Y,Y,Y,Y,Y,Y,Y,Y,Y,Y,Y,Y,Z,Z,Z,Z,Z,Z,Z,Z,Z,Z,Z,Z,Z,Z] rfl rfl (take_ofW HT_.out HW_.out (by kernel_rfl)) (fun _ _ _ h => h) (Or.inl ⟨by rfl, ?_⟩) hHeld ?_ ?_
        rotate_left
        ·rintro w' ⟨s0, s1, s2, s3, s4⟩
         go_simp
         with_reducible rfl
        rotate_left
        ·exact ac_
        refine pure_ (i := 20) (N := some 147) (v := ?_) (a' := ?_) #[Y,Y,Y,Y,Y,Y,Y,Y,Y,Y,Y,Y,Y,Y,Y,Y,Y,Y,Y,Y,Y,Z,Z,Z,Z,Z,Z,Z,Z,Z,Z,Z,Z,Z] rfl rfl (any_of HT_.out (by kernel_rfl)) (fun _ _ _ h => h) (Or.inl ⟨by rfl, ?_⟩) ?_ ?_
        rotate_left
        ·intro w'
         go_simp
         with_reducible rfl
        rotate_left
        ·exact ac_
        refine pure_ (i := 21) (N := some 148) (v := undef) (a' := ?_) #[Y,Y,Y,Y,Y,Y,Y,Y,Y,Y,Y,Y,Y,Y,Y,Y,Y,Y,Y,Y,Y,Y,Z,Z,Z,Z,Z,Z,Z,Z,Z,Z,Z,Z] rfl rfl (any_of HT_.out (by kernel_rfl)) (fun _ _ _ h => h) (Or.inr ⟨by rfl, rfl⟩) ?_ ?_
        rotate_left
        ·exact ac_
        refine pure_ (i := 22) (N := some 149) (v := undef) (a' := ?_) #[Y,Y,Y,Y,Y,Y,Y,Y,Y,Y,Y,Y,Y,Y,Y,Y,Y,Y,Y,Y,Y,Y,Y,Z,Z,Z,Z,Z,Z,Z,Z,Z,Z,Z] rfl rfl (any_of HT_.out (by kernel_rfl)) (fun _ _ _ h => h) (Or.inr ⟨by rfl, rfl⟩) ?_ ?_
        rotate_left
        ·exact ac_
        refine pure_ (i := 23) (N := some 150) (v := undef) (a' := ?_) #[Y,Y,Y,Y,Y,Y,Y,Y,Y,Y,Y,Y,Y,Y,Y,Y,Y,Y,Y,Y,Y,Y,Y,Y,Z,Z,Z,Z,Z,Z,Z,Z,Z,Z] rfl rfl (any_of HT_.out (by kernel_rfl)) (fun _ _ _ h => h) (Or.inr ⟨by rfl, rfl⟩) ?_ ?_
        rotate_left
        ·exact ac_
        refine pure_ (i := 24) (N := some 151) (v := undef) (a' := ?_) #[Y,Y,Y,Y,Y,Y,Y,Y,Y,Y,Y,Y,Y,Y,Y,Y,Y,Y,Y,Y,Y,Y,Y,Y,Y,Z,Z,Z,Z,Z,Z,Z,Z,Z] rfl rfl (any_of HT_.out (by kernel_rfl)) (fun _ _ _ h => h) (Or.inr ⟨by rfl, rfl⟩) ?_ ?_
        rotate_left
        ·exact ac_
        refine pure_ (i := 25) (N := some 152) (v := undef) (a' := ?_) #[Y,Y,Y,Y,Y,Y,Y,Y,Y,Y,Y,Y,Y,Y,Y,Y,Y,Y,Y,Y,Y,Y,Y,Y,Y,Y,Z,Z,Z,Z,Z,Z,Z,Z] rfl rfl (any_of HT_.out (by kernel_rfl)) (fun _ _ _ h => h) (Or.inr ⟨by rfl, rfl⟩) ?_ ?_
        rotate_left
        ·exact ac_
        refine pure_ (i := 26) (N := some 153) (v := undef) (a' := ?_) #[Y,Y,Y,Y,Y,Y,Y,Y,Y,Y,Y,Y,Y,Y,Y,Y,Y,Y,Y,Y,Y,Y,Y,Y,Y,Y,Y,Z,Z,Z,Z,Z,Z,Z] rfl rfl (any_of HT_.out (by kernel_rfl)) (fun _ _ _ h => h) (Or.inr ⟨by rfl, rfl⟩) ?_ ?_
        rotate_left
        ·exact ac_
        refine pure_ (i := 27) (N := some 154) (v := undef) (a' := ?_) #[Y,Y,Y,Y,Y,Y,Y,Y,Y,Y,Y,Y,Y,Y,Y,Y,Y,Y,Y,Y,Y,Y,Y,Y,Y,Y,Y,Y,Z,Z,Z,Z,Z,Z] rfl rfl (any_of HT_.out (by kernel_rfl)) (fun _ _ _ h => h) (Or.inr ⟨by rfl, rfl⟩) ?_ ?_
        rotate_left
        ·exact ac_
        refine pure_ (i := 28) (N := some 155) (v := undef) (a' := ?_) #[Y,Y,Y,Y,Y,Y,Y,Y,Y,Y,Y,Y,Y,Y,Y,Y,Y,Y,Y,Y,Y,Y,Y,Y,Y,Y,Y,Y,Y,Z,Z,Z,Z,Z] rfl rfl (any_of HT_.out (by kernel_rfl)) (fun _ _ _ h => h) (Or.inr ⟨by rfl, rfl⟩) ?_ ?_
        rotate_left
        ·exact ac_
        refine pure_ (i := 29) (N := some 156) (v := undef) (a' := ?_) #[Y,Y,Y,Y,Y,Y,Y,Y,Y,Y,Y,Y,Y,Y,Y,Y,Y,Y,Y,Y,Y,Y,Y,Y,Y,Y,Y,Y,Y,Y,Z,Z,Z,Z] rfl rfl (any_of HT_.out (by kernel_rfl)) (fun _ _ _ h => h) (Or.inr ⟨by rfl, rfl⟩) ?_ ?_
        rotate_left
        ·exact ac_
        refine pure_ (i := 30) (N := some 157) (v := ?_) (a' := ?_) #[Y,Y,Y,Y,Y,Y,Y,Y,Y,Y,Y,Y,Y,Y,Y,Y,Y,Y,Y,Y,Y,Y,Y,Y,Y,Y,Y,Y,Y,Y,Y,Z,Z,Z] rfl rfl (any_of HT_.out (by kernel_rfl)) (fun _ _ _ h => h) (Or.inl ⟨by rfl, ?_⟩) ?_ ?_
        rotate_left
        ·intro w'
         go_simp
         with_reducible rfl
        rotate_left
        ·exact ac_
        refine pure_ (i := 31) (N := some 158) (v := ?_) (a' := ?_) #[Y,Y,Y,Y,Y,Y,Y,Y,Y,Y,Y,Y,Y,Y,Y,Y,Y,Y,Y,Y,Y,Y,Y,Y,Y,Y,Y,Y,Y,Y,Y,Y,Z,Z] rfl rfl (any_of HT_.out (by kernel_rfl)) (fun _ _ _ h => h) (Or.inl ⟨by rfl, ?_⟩) ?_ ?_
        rotate_left
        ·intro w'
         go_simp
         with_reducible rfl
        rotate_left
        ·exact ac_
        refine pure_ (i := 32) (N := some 159) (v := ?_) (a' := ?_) #[Y,Y,Y,Y,Y,Y,Y,Y,Y,Y,Y,Y,Y,Y,Y,Y,Y,Y,Y,Y,Y,Y,Y,Y,Y,Y,Y,Y,Y,Y,Y,Y,Y,Z] rfl rfl (any_of HT_.out (by kernel_rfl)) (fun _ _ _ h => h) (Or.inl ⟨by rfl, ?_⟩) ?_ ?_
        rotate_left
        ·intro w'
         go_simp
         with_reducible rfl
        rotate_left
        ·exact ac_
        refine last_ (i := 33) (N := none) #[Y,Y,Y,Y,Y,Y,Y,Y,Y,Y,Y,Y,Y,Y,Y,Y,Y,Y,Y,Y,Y,Y,Y,Y,Y,Y,Y,Y,Y,Y,Y,Y,Y,Y] rfl rfl (one_of HT_.out (by kernel_rfl)) (by decide) (fun K hK => ?_)
        refine skip_ (w1 := ?_) (by rfl) rfl ?_ ?_
        rotate_left
        ·go_simp
         rfl
        refine hK.out _ _ ?_
        clear hK K
        refine done_ (done_of HT_.out (by kernel_rfl)) ?_
        have n0_ : Aside0 (Kd.R (Kd.int .i64) 3 (w117.setCell ⟨go112, ((rd t263 x15_3) : Int).toNat, none⟩ (.bool false)) w.heap.size (fun k_ => some k_ ≠ (.slice (some ad266) t263.length co116 : Value).ownBlock) v235 t233) := ⟨by (with_reducible repeat (first | apply Kd.R_alloc | apply Kd.R_drewN | apply Kd.R_drew)); exact Kd.R_mono (Kd.R_far (p := ⟨go112, ((rd t263 x15_3) : Int).toNat, none⟩) (Kd.R_types HO_5.out GG112.out (by decide)) (fun _ hk => hk.2) (.bool false)) (fun _ hk => hk.1)⟩
        have n1_ : Aside0 (Kd.R Kd.string 9 (w117.setCell ⟨go112, ((rd t263 x15_3) : Int).toNat, none⟩ (.bool false)) w.heap.size (fun _ => True) (.slice (some ad253) x7_3.length co70) x7_3) := ⟨by (with_reducible repeat (first | apply Kd.R_alloc | apply Kd.R_drewN | apply Kd.R_drew)); exact Kd.R_mono (Kd.R_far (p := ⟨go112, ((rd t263 x15_3) : Int).toNat, none⟩) (Kd.R_types HO_7.out GG112.out (by decide)) (fun _ hk => hk.2) (.bool false)) (fun _ hk => trivial)⟩
        have n2_ : Aside0 (Kd.R Kd.bool 4 (w117.setCell ⟨go112, ((rd t263 x15_3) : Int).toNat, none⟩ (.bool false)) w.heap.size (fun k_ => some k_ ≠ (.slice (some ⟨go112, 0, none⟩) x9_3.length co118 : Value).ownBlock) (.slice (some ⟨go9, 0, none⟩) x8_3.length co9) x8_3) := ⟨by (with_reducible repeat (first | apply Kd.R_alloc | apply Kd.R_drewN | apply Kd.R_drew)); exact Kd.R_mono (Kd.R_far (p := ⟨go112, ((rd t263 x15_3) : Int).toNat, none⟩) (Kd.R_mono HO_8.out (fun k_ hk => (⟨hk, fun e_ => hk (by rw [e_]; rfl)⟩ : _ ∧ k_ ≠ go112))) (fun _ hk => hk.2) (.bool false)) (fun _ hk => hk.1)⟩
        have n3_ : Aside0 (Kd.R Kd.bool 4 (w117.setCell ⟨go112, ((rd t263 x15_3) : Int).toNat, none⟩ (.bool false)) w.heap.size (fun k_ => some k_ ≠ (.slice (some ⟨go9, 0, none⟩) x8_3.length co9 : Value).ownBlock) (.slice (some ⟨go112, 0, none⟩) x9_3.length co118) y283) := ⟨by (with_reducible repeat (first | apply Kd.R_alloc | apply Kd.R_drewN | apply Kd.R_drew)); exact HQ119.out⟩
        have n4_ : Aside0 (Kd.R (Kd.int .i64) 3 (w117.setCell ⟨go112, ((rd t263 x15_3) : Int).toNat, none⟩ (.bool false)) w.heap.size (fun k_ => some k_ ≠ (v235 : Value).ownBlock) (.slice (some ad266) t263.length co116) t263) := ⟨by (with_reducible repeat (first | apply Kd.R_alloc | apply Kd.R_drewN | apply Kd.R_drew)); exact Kd.R_mono (Kd.R_far (p := ⟨go112, ((rd t263 x15_3) : Int).toNat, none⟩) (Kd.R_types HO_14.out GG112.out (by decide)) (fun _ hk => hk.2) (.bool false)) (fun _ hk => hk.1)⟩
        have n5_ : Aside0 (Below w.heap.size w (w117.setCell ⟨go112, ((rd t263 x15_3) : Int).toNat, none⟩ (.bool false))) := ⟨by repeat (first | (with_reducible first | exact HB.out | apply below_alloc | apply pw_below_drewN | apply below_drew1 | refine below_set ?_ GB112.out) | exact HB.out)⟩
        (try clear HO_5)
        (try clear HO_7)
        (try clear HO_8)
        (try clear HO_9)
        (try clear HO_14)
        (try clear HB)
        generalize (w117.setCell ⟨go112, ((rd t263 x15_3) : Int).toNat, none⟩ (.bool false)) = w120 at n0_ n1_ n2_ n3_ n4_ n5_ ⊢
        have HO_5 := n0_
        have HO_7 := n1_
        have HO_8 := n2_
        have HO_9 := n3_
        have HO_14 := n4_
        have HB := n5_
        clear n0_ n1_ n2_ n3_ n4_ n5_
        have p284 : 0 ≤ (x15_3 : Int) := of_decide_eq_true as_
        have q284 : x15_3 < (t263.length : Int) := of_decide_eq_true as_
        obtain ⟨ad284, e284, hx284_0⟩ := Kd.at_int (Kd.R_reads' HO_14.out).2.2 x15_3 p284 q284
        obtain rfl : ad266 = ad284 := (by injection e284)
        replace p284 := eq_true p284
        replace q284 := eq_true q284
        have p113 : 0 ≤ ((rd t263 x15_3) : Int) := of_decide_eq_true as_
        have q113 : ((rd t263 x15_3) : Int) < ((x8_3.length : Int) : Int) := of_decide_eq_true as_
        obtain ⟨hx113_0, hf113_0⟩ := Kd.R_celln false HO_8.out ((rd t263 x15_3) : Int) p113 q113
        replace p113 := eq_true p113
        replace q113 := eq_true q113
        obtain ⟨hy121_, hz121_⟩ := Kd.R_celln false HO_8.out ((rd t263 x15_3) : Int) (of_decide_eq_true as_) (of_decide_eq_true as_)
        have HP121 := Kd.R_putg HO_8.out ((rd t263 x15_3) : Int) true
        try go_wp2_with (first | ((with_reducible refine gate_store (t := 4) (p := 165) rfl ?_); refine store_event (t := 4) (p := 165) (v := ?vo_w122) (w1 := (w120.setCell ⟨go9, ((rd t263 x15_3) : Int).toNat, none⟩ (.bool true))) ?hg ?ho ?hn ?hr ?_; (case ho => rfl); (case hg => rfl); (case hn => rfl); (case hr => first | (go_simp; done) | (go_simp; rfl)); intro w122 hw; have hg : w120.grownBy w122 (some go9) := (by rw [hw]; exact HP121.2); have hp_ : Kd.R Kd.bool 4 w122 w.heap.size (fun k_ => some k_ ≠ (.slice (some ⟨go112, 0, none⟩) x9_3.length co118 : Value).ownBlock) (.slice (some ⟨go9, 0, none⟩) x8_3.length co9) y285 := (by rw [hw, Ny285.out]; exact HP121.1); clear HP121; have n0_ := Aside0.mk (Kd.R_over' (v := (.slice (some ⟨go9, 0, none⟩) x8_3.length co9)) (by (with_reducible repeat (first | apply Kd.R_alloc | apply Kd.R_drewN | apply Kd.R_drew)); exact HO_5.out) (Kd.R_typed HO_8.out) (by decide) hg); have n1_ := Aside0.mk (Kd.R_over' (v := (.slice (some ⟨go9, 0, none⟩) x8_3.length co9)) (by (with_reducible repeat (first | apply Kd.R_alloc | apply Kd.R_drewN | apply Kd.R_drew)); exact HO_7.out) (Kd.R_typed HO_8.out) (by decide) hg); have n2_ := Aside0.mk (hp_); have n3_ := Aside0.mk (Kd.R_after (v := (.slice (some ⟨go9, 0, none⟩) x8_3.length co9)) (v1 := (.slice (some ⟨go9, 0, none⟩) x8_3.length co9)) (ok := (fun _ => True)) (by (with_reducible repeat (first | apply Kd.R_alloc | apply Kd.R_drewN | apply Kd.R_drew)); exact Kd.R_mono HO_9.out (fun _ hk => ⟨trivial, hk⟩)) hg (.inl rfl)); have n4_ := Aside0.mk (Kd.R_over' (v := (.slice (some ⟨go9, 0, none⟩) x8_3.length co9)) (by (with_reducible repeat (first | apply Kd.R_alloc | apply Kd.R_drewN | apply Kd.R_drew)); exact HO_14.out) (Kd.R_typed HO_8.out) (by decide) hg); have n5_ := Aside0.mk ((by rw [hw]; exact below_set (HB.out) GB9.out : Below w.heap.size w w122)); clear HO_5; clear HO_7; clear HO_8; clear HO_9; clear HO_14; clear HB; have HO_5 := n0_; have HO_7 := n1_; have HO_8 := n2_; have HO_9 := n3_; have HO_14 := n4_; have HB := n5_; clear n0_ n1_ n2_ n3_ n4_ n5_; clear hg hw hp_; have p286 : 0 ≤ (x15_3 : Int) := of_decide_eq_true as_; have q286 : x15_3 < (t263.length : Int) := of_decide_eq_true as_; obtain ⟨ad286, e286, hx286_0⟩ := Kd.at_int (Kd.R_reads' HO_14.out).2.2 x15_3 p286 q286; obtain rfl : ad266 = ad286 := (by injection e286); replace p286 := eq_true p286; replace q286 := eq_true q286; have p115 : 0 ≤ ((rd t263 x15_3) : Int) := of_decide_eq_true as_; have q115 : ((rd t263 x15_3) : Int) < ((x7_3.length : Int) : Int) := of_decide_eq_true as_; obtain ⟨go115, co115, eo115, gb115, gl115, cl115, HG115⟩ := Kd.R_form HO_7.out (by omega); (first | cases eo115 | (injection eo115 with ea_ en_ ec_; (first | subst ea_ | (injection ea_ with ea_; subst ea_)); subst ec_; clear en_)); have GB115 := Aside0.mk gb115; have GG115 := Aside0.mk HG115; clear gb115 gl115 HG115; obtain ⟨hx115_0, hf115_0⟩ := Kd.R_celln (⟨#[]⟩ : ByteArray) HO_7.out ((rd t263 x15_3) : Int) p115 q115; replace p115 := eq_true p115; replace q115 := eq_true q115; obtain ⟨hy123_, hz123_⟩ := Kd.R_celln (⟨#[]⟩ : ByteArray) HO_7.out ((rd t263 x15_3) : Int) (of_decide_eq_true as_) (of_decide_eq_true as_); have HP123 := Kd.R_putg HO_7.out ((rd t263 x15_3) : Int) (((rdOf ByteArray.empty x7_1 x10_1).extract 0 ((ji51) : Int).toNat) ++ t262)) | ((with_reducible refine gate_store (t := 9) (p := 172) rfl ?_); refine store_event (t := 9) (p := 172) (v := ?vo_w124) (w1 := (w122.setCell ⟨go115, ((rd t263 x15_3) : Int).toNat, none⟩ (.string (((rdOf ByteArray.empty x7_1 x10_1).extract 0 ((ji51) : Int).toNat) ++ t262)))) ?hg ?ho ?hn ?hr ?_; (case ho => rfl); (case hg => rfl); (case hn => rfl); (case hr => first | (go_simp; done) | (go_simp; rfl)); intro w124 hw; have hg : w122.grownBy w124 (some go115) := (by rw [hw]; exact HP123.2); have hp_ : Kd.R Kd.string 9 w124 w.heap.size (fun _ => True) (.slice (some ⟨go115, 0, none⟩) x7_3.length co70) y287 := (by rw [hw, Ny287.out]; exact HP123.1); clear HP123; have n0_ := Aside0.mk (Kd.R_over' (v := (.slice (some ⟨go115, 0, none⟩) x7_3.length co70)) (by (with_reducible repeat (first | apply Kd.R_alloc | apply Kd.R_drewN | apply Kd.R_drew)); exact HO_5.out) (Kd.R_typed HO_7.out) (by decide) hg); have n1_ := Aside0.mk (hp_); have n2_ := Aside0.mk (Kd.R_over' (v := (.slice (some ⟨go115, 0, none⟩) x7_3.length co70)) (by (with_reducible repeat (first | apply Kd.R_alloc | apply Kd.R_drewN | apply Kd.R_drew)); exact HO_8.out) (Kd.R_typed HO_7.out) (by decide) hg); have n3_ := Aside0.mk (Kd.R_over' (v := (.slice (some ⟨go115, 0, none⟩) x7_3.length co70)) (by (with_reducible repeat (first | apply Kd.R_alloc | apply Kd.R_drewN | apply Kd.R_drew)); exact HO_9.out) (Kd.R_typed HO_7.out) (by decide) hg); have n4_ := Aside0.mk (Kd.R_over' (v := (.slice (some ⟨go115, 0, none⟩) x7_3.length co70)) (by (with_reducible repeat (first | apply Kd.R_alloc | apply Kd.R_drewN | apply Kd.R_drew)); exact HO_14.out) (Kd.R_typed HO_7.out) (by decide) hg); have n5_ := Aside0.mk ((by rw [hw]; exact below_set (HB.out) GB115.out : Below w.heap.size w w124)); clear HO_5; clear HO_7; clear HO_8; clear HO_9; clear HO_14; clear HB; have HO_5 := n0_; have HO_7 := n1_; have HO_8 := n2_; have HO_9 := n3_; have HO_14 := n4_; have HB := n5_; clear n0_ n1_ n2_ n3_ n4_ n5_; clear hg hw hp_))
        (try simp only [← hl7_3, ← hl8_3])
        (try simp only [show ({ block := go115, off := x10_1.toNat } : Addr) = (⟨go115, 0, none⟩ : Addr).add x10_1.toNat from by simp [Addr.add]])
        go_roundg k3
        case measure => have := HK1.out; have := HJ24.out; have := HK3.out; omega
        case rel => exact ⟨(y287), (y285), (y283), (wrap64 (x15_3 + 1)), (by first | rfl | (simp; done) | (simp [*]; done)), H', ⟨by have := HK1.out; have := HJ24.out; have := HK3.out; omega⟩, ⟨by (try simp only [hl8_1]); (try simp only [hl7_3]); (try simp only [hl8_3]); (with_reducible repeat (first | apply Kd.R_alloc | apply Kd.R_drewN | apply Kd.R_drew)); exact HO_5.out⟩, ⟨by (try simp only [hl8_1]); (try simp only [hl7_3]); (try simp only [hl8_3]); (with_reducible repeat (first | apply Kd.R_alloc | apply Kd.R_drewN | apply Kd.R_drew)); exact HO_7.out⟩, ⟨by (try simp only [hl8_1]); (try simp only [hl7_3]); (try simp only [hl8_3]); (with_reducible repeat (first | apply Kd.R_alloc | apply Kd.R_drewN | apply Kd.R_drew)); exact HO_8.out⟩, ⟨by (try simp only [hl8_1]); (try simp only [hl7_3]); (try simp only [hl8_3]); (with_reducible repeat (first | apply Kd.R_alloc | apply Kd.R_drewN | apply Kd.R_drew)); exact Kd.R_mono HO_9.out (fun _ hk => hk.2)⟩, ⟨by (try simp only [hl8_1]); (try simp only [hl7_3]); (try simp only [hl8_3]); (with_reducible repeat (first | apply Kd.R_alloc | apply Kd.R_drewN | apply Kd.R_drew)); exact HO_14.out⟩, ⟨by repeat (first | (with_reducible first | exact HB.out | apply below_alloc | apply pw_below_drewN | apply below_drew1) | exact HB.out | exact Below.refl _ _)⟩⟩
       subst c98
       have H1 : (if (rd t263 x15_3) < (x7_3.length : Int) then (camshaftref07_Stacks.l1 k3 l0 t233 (x7_3.set ((rd t263 x15_3) : Int).toNat (((rdOf ByteArray.empty x7_1 x10_1).extract 0 ((ji51) : Int).toNat) ++ t262)) (x8_3.set ((rd t263 x15_3) : Int).toNat true) (x9_3.set ((rd t263 x15_3) : Int).toNat ((rdOf ByteArray.empty x7_3 (rd t263 x15_3)).toList != (((rdOf ByteArray.empty x7_1 x10_1).extract 0 ((ji51) : Int).toNat) ++ t262).toList)) x10_1 (((rdOf ByteArray.empty x7_1 x10_1).extract 0 ((ji51) : Int).toNat) ++ t262) t263 (wrap64 (x15_3 + 1))) else (none)) = some (r1, r2) := by rw [if_pos rfl] at H; exact H
       clear H
       have H := H1
       clear H1
       by_cases c99 : (rd t263 x15_3) < (x7_3.length : Int)
       rotate_left
       ·rw [if_neg c99] at H
        exact absurd H (by simp)
       rw [if_pos c99] at H
       have c99b0 : decide ((rd t263 x15_3) < (x7_3.length : Int)) = true := decide_eq_true c99
       clear c99
       obtain ⟨y278, hy278⟩ : ∃ y_ : List Bool, y_ = (x9_3.set ((rd t263 x15_3) : Int).toNat ((rdOf ByteArray.empty x7_3 (rd t263 x15_3)).toList != (((rdOf ByteArray.empty x7_1 x10_1).extract 0 ((ji51) : Int).toNat) ++ t262).toList)) := ⟨_, rfl⟩
       replace H : (camshaftref07_Stacks.l1 k3 l0 t233 (x7_3.set ((rd t263 x15_3) : Int).toNat (((rdOf ByteArray.empty x7_1 x10_1).extract 0 ((ji51) : Int).toNat) ++ t262)) (x8_3.set ((rd t263 x15_3) : Int).toNat true) y278 x10_1 (((rdOf ByteArray.empty x7_1 x10_1).extract 0 ((ji51) : Int).toNat) ++ t262) t263 (wrap64 (x15_3 + 1))) = some (r1, r2) := by first | (rw [hy278]; with_reducible exact H) | (have H2_ := (Option.bind_some _ _).symm.trans H; rw [hy278]; with_reducible exact H2_) | (have H2_ := (Option.bind_some _ _).symm.trans H; with_reducible exact H2_) | with_reducible exact H | (rw [hy278]; exact H) | exact H
       have Ny278 := Aside0.mk hy278
       clear hy278
       obtain ⟨y280, hy280⟩ : ∃ y_ : List Bool, y_ = (x8_3.set ((rd t263 x15_3) : Int).toNat true) := ⟨_, rfl⟩
       replace H : (camshaftref07_Stacks.l1 k3 l0 t233 (x7_3.set ((rd t263 x15_3) : Int).toNat (((rdOf ByteArray.empty x7_1 x10_1).extract 0 ((ji51) : Int).toNat) ++ t262)) y280 y278 x10_1 (((rdOf ByteArray.empty x7_1 x10_1).extract 0 ((ji51) : Int).toNat) ++ t262) t263 (wrap64 (x15_3 + 1))) = some (r1, r2) := by first | (rw [hy280]; with_reducible exact H) | (have H2_ := (Option.bind_some _ _).symm.trans H; rw [hy280]; with_reducible exact H2_) | (have H2_ := (Option.bind_some _ _).symm.trans H; with_reducible exact H2_) | with_reducible exact H | (rw [hy280]; exact H) | exact H
       have Ny280 := Aside0.mk hy280
       clear hy280
       obtain ⟨y282, hy282⟩ : ∃ y_ : List ByteArray, y_ = (x7_3.set ((rd t263 x15_3) : Int).toNat (((rdOf ByteArray.empty x7_1 x10_1).extract 0 ((ji51) : Int).toNat) ++ t262)) := ⟨_, rfl⟩
       replace H : (camshaftref07_Stacks.l1 k3 l0 t233 y282 y280 y278 x10_1 (((rdOf ByteArray.empty x7_1 x10_1).extract 0 ((ji51) : Int).toNat) ++ t262) t263 (wrap64 (x15_3 + 1))) = some (r1, r2) := by first | (rw [hy282]; with_reducible exact H) | (have H2_ := (Option.bind_some _ _).symm.trans H; rw [hy282]; with_reducible exact H2_) | (have H2_ := (Option.bind_some _ _).symm.trans H; with_reducible exact H2_) | with_reducible exact H | (rw [hy282]; exact H) | exact H
       have Ny282 := Aside0.mk hy282
       clear hy282
       have H' := Aside0.mk H
       clear H
       obtain ⟨Ao103, co103, eo103⟩ := Kd.R_slice HO_14.out
       subst eo103
       try go_wp2
       have n0_ := Aside0.mk (Kd.R_drew HO_5.out)
       have n1_ := Aside0.mk (Kd.R_drew HO_7.out)
       have n2_ := Aside0.mk (Kd.R_drew HO_8.out)
       have n3_ := Aside0.mk (Kd.R_drew HO_9.out)
       have n4_ := Aside0.mk (Kd.R_drew HO_14.out)
       have n5_ := Aside0.mk (below_drew1 HB.out)
       clear HO_5
       clear HO_7
       clear HO_8
       clear HO_9
       clear HO_14
       clear HB
       have HO_5 := n0_
       have HO_7 := n1_
       have HO_8 := n2_
       have HO_9 := n3_
       have HO_14 := n4_
       have HB := n5_
       clear n0_ n1_ n2_ n3_ n4_ n5_
       have p266 : 0 ≤ (x15_3 : Int) := of_decide_eq_true as_
       have q266 : x15_3 < (t263.length : Int) := of_decide_eq_true as_
       obtain ⟨ad266, e266, hx266_0⟩ := Kd.at_int (Kd.R_reads' HO_14.out).2.2 x15_3 p266 q266
       cases e266
       replace p266 := eq_true p266
       replace q266 := eq_true q266
       have p267 : 0 ≤ (x15_3 : Int) := of_decide_eq_true as_
       have q267 : x15_3 < (t263.length : Int) := of_decide_eq_true as_
       obtain ⟨ad267, e267, hx267_0⟩ := Kd.at_int (Kd.R_reads' HO_14.out).2.2 x15_3 p267 q267
       obtain rfl : ad266 = ad267 := (by injection e267)
       replace p267 := eq_true p267
       replace q267 := eq_true q267
       obtain ⟨Ao105, co105, eo105⟩ := Kd.R_slice HO_9.out
       (first | subst eo105 | (injection eo105 with f1_ f2_ f3_; have f4_ := f1_.symm; have f5_ := f3_.symm; clear f1_ f2_ f3_; subst f4_; subst f5_))
       have p268 : 0 ≤ ((rd t263 x15_3) : Int) := of_decide_eq_true as_
       have q268 : (rd t263 x15_3) < (x9_3.length : Int) := of_decide_eq_true as_
       obtain ⟨ad268, e268, hx268_0⟩ := Kd.at_bool (Kd.R_reads' HO_9.out).2.2 (rd t263 x15_3) p268 q268
       (try rw [← Nbq23.out] at hx268_0)
       (try rw [← Nbq80.out] at hx268_0)
       (try rw [← Nbq97.out] at hx268_0)
       cases e268
       replace p268 := eq_true p268
       replace q268 := eq_true q268
       have p274 : 0 ≤ (x15_3 : Int) := of_decide_eq_true as_
       have q274 : x15_3 < (t263.length : Int) := of_decide_eq_true as_
       obtain ⟨ad274, e274, hx274_0⟩ := Kd.at_int (Kd.R_reads' HO_14.out).2.2 x15_3 p274 q274
       obtain rfl : ad266 = ad274 := (by injection e274)
       replace p274 := eq_true p274
       replace q274 := eq_true q274
       have p275 : 0 ≤ ((rd t263 x15_3) : Int) := of_decide_eq_true as_
       have q275 : (rd t263 x15_3) < (x8_3.length : Int) := of_decide_eq_true as_
       obtain ⟨ad275, e275, hx275_0⟩ := Kd.at_bool (Kd.R_reads' HO_8.out).2.2 (rd t263 x15_3) p275 q275
       (try rw [← Nbq23.out] at hx275_0)
       (try rw [← Nbq80.out] at hx275_0)
       (try rw [← Nbq97.out] at hx275_0)
       obtain rfl : (⟨go9, 0, none⟩ : Addr) = ad275 := (by injection e275)
       (first | simp only [add_plain] at hx275_0 | simp only [add_at] at hx275_0 | simp only [Addr.add, Nat.zero_add] at hx275_0 | skip)
       replace p275 := eq_true p275
       replace q275 := eq_true q275
       have p276 : 0 ≤ (x15_3 : Int) := of_decide_eq_true as_
       have q276 : x15_3 < (t263.length : Int) := of_decide_eq_true as_
       obtain ⟨ad276, e276, hx276_0⟩ := Kd.at_int (Kd.R_reads' HO_14.out).2.2 x15_3 p276 q276
       obtain rfl : ad266 = ad276 := (by injection e276)
       replace p276 := eq_true p276
       replace q276 := eq_true q276
       have p277 : 0 ≤ ((rd t263 x15_3) : Int) := of_decide_eq_true as_
       have q277 : (rd t263 x15_3) < (x7_3.length : Int) := of_decide_eq_true as_
       obtain ⟨ad277, e277, hx277_0⟩ := Kd.at_string (Kd.R_reads' HO_7.out).2.2 (rd t263 x15_3) p277 q277
       obtain rfl : ad253 = ad277 := (by injection e277)
       replace p277 := eq_true p277
       replace q277 := eq_true q277
       have p100 : 0 ≤ ((rd t263 x15_3) : Int) := of_decide_eq_true as_
       have q100 : ((rd t263 x15_3) : Int) < ((x9_3.length : Int) : Int) := of_decide_eq_true as_
       obtain ⟨go100, co100, eo100, gb100, gl100, cl100, HG100⟩ := Kd.R_form HO_9.out (by omega)
       (first | cases eo100 | (injection eo100 with ea_ en_ ec_; (first | subst ea_ | (injection ea_ with ea_; subst ea_)); subst ec_; clear en_))
       have GB100 := Aside0.mk gb100
       have GG100 := Aside0.mk HG100
       clear gb100 gl100 HG100
       (first | simp only [add_plain] at hx268_0 | skip)
       obtain ⟨hx100_0, hf100_0⟩ := Kd.R_celln false HO_9.out ((rd t263 x15_3) : Int) p100 q100
       replace p100 := eq_true p100
       replace q100 := eq_true q100
       have HP106 := Kd.R_putn HO_9.out ((rd t263 x15_3) : Int) ((rdOf ByteArray.empty x7_3 (rd t263 x15_3)).toList != (((rdOf ByteArray.empty x7_1 x10_1).extract 0 ((ji51) : Int).toNat) ++ t262).toList)
       rw [← Ny278.out] at HP106
       have HQ106 := Aside0.mk HP106
       clear HP106
       refine start_ (n := 34) (S := fun w' => w'.cell? (ad266.add (x15_3).toNat) = some (.int .i64 (rd t263 x15_3)) ∧ w'.cell? (ad266.add (x15_3).toNat) = some (.int .i64 (rd t263 x15_3)) ∧ w'.cell? ⟨go100, ((rd t263 x15_3)).toNat, none⟩ = some (.bool false) ∧ w'.cell? (ad266.add (x15_3).toNat) = some (.int .i64 (rd t263 x15_3)) ∧ w'.cell? ⟨go9, ((rd t263 x15_3)).toNat, none⟩ = some (.bool true) ∧ w'.cell? (ad266.add (x15_3).toNat) = some (.int .i64 (rd t263 x15_3)) ∧ w'.cell? (ad253.add ((rd t263 x15_3)).toNat) = some (.string (rdOf ByteArray.empty x7_3 (rd t263 x15_3)))) (ds := [33]) #[Z,Z,Z,Z,Z,Z,Z,Z,Z,Z,Z,Z,Z,Z,Z,Z,Z,Z,Z,Z,Z,Z,Z,Z,Z,Z,Z,Z,Z,Z,Z,Z,Z,Z] (by kernel_rfl) rfl rfl ⟨hx266_0, hx267_0, hx268_0, hx274_0, hx275_0, hx276_0, hx277_0⟩ (fun hHeld => ?_); refine with_tabW camshaftref07_Stacks.tab29 camshaftref07_Stacks.bits29 (fun HT_ HW_ => ?_)
       generalize wr.drew = w104 at HO_5 HO_7 HO_8 HO_9 HO_14 HB GG100 HQ106 hf100_0 hx100_0 hx266_0 hx267_0 hx268_0 hx274_0 hx275_0 hx276_0 hx277_0 hHeld ⊢
       refine pure_ (i := 0) (N := some 127) (v := ?_) (a' := ?_) #[Y,Z,Z,Z,Z,Z,Z,Z,Z,Z,Z,Z,Z,Z,Z,Z,Z,Z,Z,Z,Z,Z,Z,Z,Z,Z,Z,Z,Z,Z,Z,Z,Z,Z] rfl rfl (any_of HT_.out (by kernel_rfl)) (fun _ _ _ h => h) (Or.inl ⟨by rfl, ?_⟩) ?_ ?_
       rotate_left
       ·intro w'
        go_simp
        with_reducible rfl
       rotate_left
       ·exact ac_
       refine pure_ (i := 1) (N := some 128) (v := ?_) (a' := ?_) #[Y,Y,Z,Z,Z,Z,Z,Z,Z,Z,Z,Z,Z,Z,Z,Z,Z,Z,Z,Z,Z,Z,Z,Z,Z,Z,Z,Z,Z,Z,Z,Z,Z,Z] rfl rfl (any_of HT_.out (by kernel_rfl)) (fun _ _ _ h => h) (Or.inl ⟨by rfl, ?_⟩) ?_ ?_
       rotate_left
       ·intro w'
        go_simp
        with_reducible rfl
       rotate_left
       ·exact ac_
       refine pure_ (i := 2) (N := some 129) (v := ?_) (a' := ?_) #[Y,Y,Y,Z,Z,Z,Z,Z,Z,Z,Z,Z,Z,Z,Z,Z,Z,Z,Z,Z,Z,Z,Z,Z,Z,Z,Z,Z,Z,Z,Z,Z,Z,Z] rfl rfl (any_of HT_.out (by kernel_rfl)) (fun _ _ _ h => h) (Or.inl ⟨by rfl, ?_⟩) ?_ ?_
       rotate_left
       ·intro w'
        go_simp
        with_reducible rfl
       rotate_left
       ·exact ac_
       refine pure_ (i := 3) (N := some 130) (v := ?_) (a' := ?_) #[Y,Y,Y,Y,Z,Z,Z,Z,Z,Z,Z,Z,Z,Z,Z,Z,Z,Z,Z,Z,Z,Z,Z,Z,Z,Z,Z,Z,Z,Z,Z,Z,Z,Z] rfl rfl (any_of HT_.out (by kernel_rfl)) (fun _ _ _ h => h) (Or.inl ⟨by rfl, ?_⟩) ?_ ?_
       rotate_left
       ·intro w'
        go_simp
        with_reducible rfl
       rotate_left
       ·exact ac_
       refine pure_ (i := 5) (N := some 132) (v := ?_) (a' := ?_) #[Y,Y,Y,Y,Z,Y,Z,Z,Z,Z,Z,Z,Z,Z,Z,Z,Z,Z,Z,Z,Z,Z,Z,Z,Z,Z,Z,Z,Z,Z,Z,Z,Z,Z] rfl rfl (any_of HT_.out (by kernel_rfl)) (fun _ _ _ h => h) (Or.inl ⟨by rfl, ?_⟩) ?_ ?_
       rotate_left
       ·intro w'
        go_simp
        with_reducible rfl
       rotate_left
       ·exact ac_
       refine pure_ (i := 6) (N := some 133) (v := ?_) (a' := ?_) #[Y,Y,Y,Y,Z,Y,Y,Z,Z,Z,Z,Z,Z,Z,Z,Z,Z,Z,Z,Z,Z,Z,Z,Z,Z,Z,Z,Z,Z,Z,Z,Z,Z,Z] rfl rfl (any_of HT_.out (by kernel_rfl)) (fun _ _ _ h => h) (Or.inl ⟨by rfl, ?_⟩) ?_ ?_
       rotate_left
       ·intro w'
        go_simp
        with_reducible rfl
       rotate_left
       ·exact ac_
       refine pure_ (i := 7) (N := some 134) (v := ?_) (a' := ?_) #[Y,Y,Y,Y,Z,Y,Y,Y,Z,Z,Z,Z,Z,Z,Z,Z,Z,Z,Z,Z,Z,Z,Z,Z,Z,Z,Z,Z,Z,Z,Z,Z,Z,Z] rfl rfl (any_of HT_.out (by kernel_rfl)) (fun _ _ _ h => h) (Or.inl ⟨by rfl, ?_⟩) ?_ ?_
       rotate_left
       ·intro w'
        go_simp
        with_reducible rfl
       rotate_left
       ·exact ac_
       refine pure_ (i := 8) (N := some 135) (v := ?_) (a' := ?_) #[Y,Y,Y,Y,Z,Y,Y,Y,Y,Z,Z,Z,Z,Z,Z,Z,Z,Z,Z,Z,Z,Z,Z,Z,Z,Z,Z,Z,Z,Z,Z,Z,Z,Z] rfl rfl (any_of HT_.out (by kernel_rfl)) (fun _ _ _ h => h) (Or.inl ⟨by rfl, ?_⟩) ?_ ?_
       rotate_left
       ·intro w'
        go_simp
        with_reducible rfl
       rotate_left
       ·exact ac_
       refine take_ (i := 4) (N := some 131) (v := ?_) (a' := ?_) #[Y,Y,Y,Y,Y,Y,Y,Y,Y,Z,Z,Z,Z,Z,Z,Z,Z,Z,Z,Z,Z,Z,Z,Z,Z,Z,Z,Z,Z,Z,Z,Z,Z,Z] rfl rfl (take_ofW HT_.out HW_.out (by kernel_rfl)) (fun _ _ _ h => h) (Or.inl ⟨by rfl, ?_⟩) hHeld ?_ ?_
       rotate_left
       ·rintro w' ⟨s0, s1, s2, s3, s4, s5, s6⟩
        go_simp
        with_reducible rfl
       rotate_left
       ·exact ac_
       refine take_ (i := 9) (N := some 136) (v := ?_) (a' := ?_) #[Y,Y,Y,Y,Y,Y,Y,Y,Y,Y,Z,Z,Z,Z,Z,Z,Z,Z,Z,Z,Z,Z,Z,Z,Z,Z,Z,Z,Z,Z,Z,Z,Z,Z] rfl rfl (take_ofW HT_.out HW_.out (by kernel_rfl)) (fun _ _ _ h => h) (Or.inl ⟨by rfl, ?_⟩) hHeld ?_ ?_
       rotate_left
       ·rintro w' ⟨s0, s1, s2, s3, s4, s5, s6⟩
        go_simp
        with_reducible rfl
       rotate_left
       ·exact ac_
       refine pure_ (i := 10) (N := some 137) (v := ?_) (a' := ?_) #[Y,Y,Y,Y,Y,Y,Y,Y,Y,Y,Y,Z,Z,Z,Z,Z,Z,Z,Z,Z,Z,Z,Z,Z,Z,Z,Z,Z,Z,Z,Z,Z,Z,Z] rfl rfl (any_of HT_.out (by kernel_rfl)) (fun _ _ _ h => h) (Or.inl ⟨by rfl, ?_⟩) ?_ ?_
       rotate_left
       ·intro w'
        go_simp
        with_reducible rfl
       rotate_left
       ·exact ac_
       refine take_ (i := 11) (N := some 138) (v := ?_) (a' := ?_) #[Y,Y,Y,Y,Y,Y,Y,Y,Y,Y,Y,Y,Z,Z,Z,Z,Z,Z,Z,Z,Z,Z,Z,Z,Z,Z,Z,Z,Z,Z,Z,Z,Z,Z] rfl rfl (take_ofW HT_.out HW_.out (by kernel_rfl)) (fun _ _ _ h => h) (Or.inl ⟨by rfl, ?_⟩) hHeld ?_ ?_
       rotate_left
       ·rintro w' ⟨s0, s1, s2, s3, s4, s5, s6⟩
        go_simp
        with_reducible rfl
       rotate_left
       ·exact ac_
       refine pure_ (i := 12) (N := some 139) (v := ?_) (a' := ?_) #[Y,Y,Y,Y,Y,Y,Y,Y,Y,Y,Y,Y,Y,Z,Z,Z,Z,Z,Z,Z,Z,Z,Z,Z,Z,Z,Z,Z,Z,Z,Z,Z,Z,Z] rfl rfl (any_of HT_.out (by kernel_rfl)) (fun _ _ _ h => h) (Or.inl ⟨by rfl, ?_⟩) ?_ ?_
       rotate_left
       ·intro w'
        go_simp
        with_reducible rfl
       rotate_left
       ·exact ac_
       refine pure_ (i := 13) (N := some 140) (v := ?_) (a' := ?_) #[Y,Y,Y,Y,Y,Y,Y,Y,Y,Y,Y,Y,Y,Y,Z,Z,Z,Z,Z,Z,Z,Z,Z,Z,Z,Z,Z,Z,Z,Z,Z,Z,Z,Z] rfl rfl (any_of HT_.out (by kernel_rfl)) (fun _ _ _ h => h) (Or.inl ⟨by rfl, ?_⟩) ?_ ?_
       rotate_left
       ·intro w'
        go_simp
        with_reducible rfl
       rotate_left
       ·exact ac_
       refine pure_ (i := 14) (N := some 141) (v := ?_) (a' := ?_) #[Y,Y,Y,Y,Y,Y,Y,Y,Y,Y,Y,Y,Y,Y,Y,Z,Z,Z,Z,Z,Z,Z,Z,Z,Z,Z,Z,Z,Z,Z,Z,Z,Z,Z] rfl rfl (any_of HT_.out (by kernel_rfl)) (fun _ _ _ h => h) (Or.inl ⟨by rfl, ?_⟩) ?_ ?_
       rotate_left
       ·intro w'
        go_simp
        with_reducible rfl
       rotate_left
       ·exact ac_
       refine pure_ (i := 15) (N := some 142) (v := ?_) (a' := ?_) #[Y,Y,Y,Y,Y,Y,Y,Y,Y,Y,Y,Y,Y,Y,Y,Y,Z,Z,Z,Z,Z,Z,Z,Z,Z,Z,Z,Z,Z,Z,Z,Z,Z,Z] rfl rfl (any_of HT_.out (by kernel_rfl)) (fun _ _ _ h => h) (Or.inl ⟨by rfl, ?_⟩) ?_ ?_
       rotate_left
       ·intro w'
        go_simp
        with_reducible rfl
       rotate_left
       ·exact ac_
       refine pure_ (i := 16) (N := some 143) (v := ?_) (a' := ?_) #[Y,Y,Y,Y,Y,Y,Y,Y,Y,Y,Y,Y,Y,Y,Y,Y,Y,Z,Z,Z,Z,Z,Z,Z,Z,Z,Z,Z,Z,Z,Z,Z,Z,Z] rfl rfl (any_of HT_.out (by kernel_rfl)) (fun _ _ _ h => h) (Or.inl ⟨by rfl, ?_⟩) ?_ ?_
       rotate_left
       ·intro w'
        go_simp
        with_reducible rfl
       rotate_left
       ·exact ac_
       refine take_ (i := 17) (N := some 144) (v := ?_) (a' := ?_) #[Y,Y,Y,Y,Y,Y,Y,Y,Y,Y,Y,Y,Y,Y,Y,Y,Y,Y,Z,Z,Z,Z,Z,Z,Z,Z,Z,Z,Z,Z,Z,Z,Z,Z] rfl rfl (take_ofW HT_.out HW_.out (by kernel_rfl)) (fun _ _ _ h => h) (Or.inl ⟨by rfl, ?_⟩) hHeld ?_ ?_
       rotate_left
       ·rintro w' ⟨s0, s1, s2, s3, s4, s5, s6⟩
        go_simp
        with_reducible rfl
       rotate_left
       ·exact ac_
       refine pure_ (i := 18) (N := some 145) (v := ?_) (a' := ?_) #[Y,Y,Y,Y,Y,Y,Y,Y,Y,Y,Y,Y,Y,Y,Y,Y,Y,Y,Y,Z,Z,Z,Z,Z,Z,Z,Z,Z,Z,Z,Z,Z,Z,Z] rfl rfl (any_of HT_.out (by kernel_rfl)) (fun _ _ _ h => h) (Or.inl ⟨by rfl, ?_⟩) ?_ ?_
       rotate_left
       ·intro w'
        go_simp
        with_reducible rfl
       rotate_left
       ·exact ac_
       refine take_ (i := 19) (N := some 146) (v := ?_) (a' := ?_) #[Y,Y,Y,Y,Y,Y,Y,Y,Y,Y,Y,Y,Y,Y,Y,Y,Y,Y,Y,Y,Z,Z,Z,Z,Z,Z,Z,Z,Z,Z,Z,Z,Z,Z] rfl rfl (take_ofW HT_.out HW_.out (by kernel_rfl)) (fun _ _ _ h => h) (Or.inl ⟨by rfl, ?_⟩) hHeld ?_ ?_
       rotate_left
       ·rintro w' ⟨s0, s1, s2, s3, s4, s5, s6⟩
        go_simp
        with_reducible rfl
       rotate_left
       ·exact ac_
       refine pure_ (i := 20) (N := some 147) (v := ?_) (a' := ?_) #[Y,Y,Y,Y,Y,Y,Y,Y,Y,Y,Y,Y,Y,Y,Y,Y,Y,Y,Y,Y,Y,Z,Z,Z,Z,Z,Z,Z,Z,Z,Z,Z,Z,Z] rfl rfl (any_of HT_.out (by kernel_rfl)) (fun _ _ _ h => h) (Or.inl ⟨by rfl, ?_⟩) ?_ ?_
       rotate_left
       ·intro w'
        go_simp
        with_reducible rfl
       rotate_left
       ·exact ac_
       refine pure_ (i := 21) (N := some 148) (v := ?_) (a' := ?_) #[Y,Y,Y,Y,Y,Y,Y,Y,Y,Y,Y,Y,Y,Y,Y,Y,Y,Y,Y,Y,Y,Y,Z,Z,Z,Z,Z,Z,Z,Z,Z,Z,Z,Z] rfl rfl (any_of HT_.out (by kernel_rfl)) (fun _ _ _ h => h) (Or.inl ⟨by rfl, ?_⟩) ?_ ?_
       rotate_left
       ·intro w'
        go_simp
        with_reducible rfl
       rotate_left
       ·exact ac_
       refine pure_ (i := 22) (N := some 149) (v := ?_) (a' := ?_) #[Y,Y,Y,Y,Y,Y,Y,Y,Y,Y,Y,Y,Y,Y,Y,Y,Y,Y,Y,Y,Y,Y,Y,Z,Z,Z,Z,Z,Z,Z,Z,Z,Z,Z] rfl rfl (any_of HT_.out (by kernel_rfl)) (fun _ _ _ h => h) (Or.inl ⟨by rfl, ?_⟩) ?_ ?_
       rotate_left
       ·intro w'
        go_simp
        with_reducible rfl
       rotate_left
       ·exact ac_
       refine pure_ (i := 23) (N := some 150) (v := ?_) (a' := ?_) #[Y,Y,Y,Y,Y,Y,Y,Y,Y,Y,Y,Y,Y,Y,Y,Y,Y,Y,Y,Y,Y,Y,Y,Y,Z,Z,Z,Z,Z,Z,Z,Z,Z,Z] rfl rfl (any_of HT_.out (by kernel_rfl)) (fun _ _ _ h => h) (Or.inl ⟨by rfl, ?_⟩) ?_ ?_
       rotate_left
       ·intro w'
        go_simp
        with_reducible rfl
       rotate_left
       ·exact ac_
       refine pure_ (i := 24) (N := some 151) (v := ?_) (a' := ?_) #[Y,Y,Y,Y,Y,Y,Y,Y,Y,Y,Y,Y,Y,Y,Y,Y,Y,Y,Y,Y,Y,Y,Y,Y,Y,Z,Z,Z,Z,Z,Z,Z,Z,Z] rfl rfl (any_of HT_.out (by kernel_rfl)) (fun _ _ _ h => h) (Or.inl ⟨by rfl, ?_⟩) ?_ ?_
       rotate_left
       ·intro w'
        go_simp
        with_reducible rfl
       rotate_left
       ·exact ac_
       refine pure_ (i := 28) (N := some 155) (v := ?_) (a' := ?_) #[Y,Y,Y,Y,Y,Y,Y,Y,Y,Y,Y,Y,Y,Y,Y,Y,Y,Y,Y,Y,Y,Y,Y,Y,Y,Z,Z,Z,Y,Z,Z,Z,Z,Z] rfl rfl (any_of HT_.out (by kernel_rfl)) (fun _ _ _ h => h) (Or.inl ⟨by rfl, ?_⟩) ?_ ?_
       rotate_left
       ·intro w'
        go_simp
        with_reducible rfl
       rotate_left
       ·exact ac_
       refine take_ (i := 25) (N := some 152) (v := ?_) (a' := ?_) #[Y,Y,Y,Y,Y,Y,Y,Y,Y,Y,Y,Y,Y,Y,Y,Y,Y,Y,Y,Y,Y,Y,Y,Y,Y,Y,Z,Z,Y,Z,Z,Z,Z,Z] rfl rfl (take_ofW HT_.out HW_.out (by kernel_rfl)) (fun _ _ _ h => h) (Or.inl ⟨by rfl, ?_⟩) hHeld ?_ ?_
       rotate_left
       ·rintro w' ⟨s0, s1, s2, s3, s4, s5, s6⟩
        go_simp
        with_reducible rfl
       rotate_left
       ·exact ac_
       refine pure_ (i := 26) (N := some 153) (v := ?_) (a' := ?_) #[Y,Y,Y,Y,Y,Y,Y,Y,Y,Y,Y,Y,Y,Y,Y,Y,Y,Y,Y,Y,Y,Y,Y,Y,Y,Y,Y,Z,Y,Z,Z,Z,Z,Z] rfl rfl (any_of HT_.out (by kernel_rfl)) (fun _ _ _ h => h) (Or.inl ⟨by rfl, ?_⟩) ?_ ?_
       rotate_left
       ·intro w'
        go_simp
        with_reducible rfl
       rotate_left
       ·exact ac_
       refine take_ (i := 27) (N := some 154) (v := ?_) (a' := ?_) #[Y,Y,Y,Y,Y,Y,Y,Y,Y,Y,Y,Y,Y,Y,Y,Y,Y,Y,Y,Y,Y,Y,Y,Y,Y,Y,Y,Y,Y,Z,Z,Z,Z,Z] rfl rfl (take_ofW HT_.out HW_.out (by kernel_rfl)) (fun _ _ _ h => h) (Or.inl ⟨by rfl, ?_⟩) hHeld ?_ ?_
       rotate_left
       ·rintro w' ⟨s0, s1, s2, s3, s4, s5, s6⟩
        go_simp
        with_reducible rfl
       rotate_left
       ·exact ac_
       refine pure_ (i := 29) (N := some 156) (v := ?_) (a' := ?_) #[Y,Y,Y,Y,Y,Y,Y,Y,Y,Y,Y,Y,Y,Y,Y,Y,Y,Y,Y,Y,Y,Y,Y,Y,Y,Y,Y,Y,Y,Y,Z,Z,Z,Z] rfl rfl (any_of HT_.out (by kernel_rfl)) (fun _ _ _ h => h) (Or.inl ⟨by rfl, ?_⟩) ?_ ?_
       rotate_left
       ·intro w'
        go_simp
        with_reducible rfl
       rotate_left
       ·exact ac_
       refine pure_ (i := 30) (N := some 157) (v := ?_) (a' := ?_) #[Y,Y,Y,Y,Y,Y,Y,Y,Y,Y,Y,Y,Y,Y,Y,Y,Y,Y,Y,Y,Y,Y,Y,Y,Y,Y,Y,Y,Y,Y,Y,Z,Z,Z] rfl rfl (any_of HT_.out (by kernel_rfl)) (fun _ _ _ h => h) (Or.inl ⟨by rfl, ?_⟩) ?_ ?_
       rotate_left
       ·intro w'
        go_simp
        with_reducible rfl
       rotate_left
       ·exact ac_
       refine pure_ (i := 31) (N := some 158) (v := ?_) (a' := ?_) #[Y,Y,Y,Y,Y,Y,Y,Y,Y,Y,Y,Y,Y,Y,Y,Y,Y,Y,Y,Y,Y,Y,Y,Y,Y,Y,Y,Y,Y,Y,Y,Y,Z,Z] rfl rfl (any_of HT_.out (by kernel_rfl)) (fun _ _ _ h => h) (Or.inl ⟨by rfl, ?_⟩) ?_ ?_
       rotate_left
       ·intro w'
        go_simp
        with_reducible rfl
       rotate_left
       ·exact ac_
       refine pure_ (i := 32) (N := some 159) (v := ?_) (a' := ?_) #[Y,Y,Y,Y,Y,Y,Y,Y,Y,Y,Y,Y,Y,Y,Y,Y,Y,Y,Y,Y,Y,Y,Y,Y,Y,Y,Y,Y,Y,Y,Y,Y,Y,Z] rfl rfl (any_of HT_.out (by kernel_rfl)) (fun _ _ _ h => h) (Or.inl ⟨by rfl, ?_⟩) ?_ ?_
       rotate_left
       ·intro w'
        go_simp
        with_reducible rfl
       rotate_left
       ·exact ac_
       refine last_ (i := 33) (N := none) #[Y,Y,Y,Y,Y,Y,Y,Y,Y,Y,Y,Y,Y,Y,Y,Y,Y,Y,Y,Y,Y,Y,Y,Y,Y,Y,Y,Y,Y,Y,Y,Y,Y,Y] rfl rfl (one_of HT_.out (by kernel_rfl)) (by decide) (fun K hK => ?_)
       refine skip_ (w1 := ?_) (by rfl) rfl ?_ ?_
       rotate_left
       ·go_simp
        rfl
       refine hK.out _ _ ?_
       clear hK K
       refine done_ (done_of HT_.out (by kernel_rfl)) ?_
       have n0_ : Aside0 (Kd.R (Kd.int .i64) 3 (w104.setCell ⟨go100, ((rd t263 x15_3) : Int).toNat, none⟩ (.bool ((rdOf ByteArray.empty x7_3 (rd t263 x15_3)).toList != (((rdOf ByteArray.empty x7_1 x10_1).extract 0 ((ji51) : Int).toNat) ++ t262).toList))) w.heap.size (fun k_ => some k_ ≠ (.slice (some ad266) t263.length co103 : Value).ownBlock) v235 t233) := ⟨by (with_reducible repeat (first | apply Kd.R_alloc | apply Kd.R_drewN | apply Kd.R_drew)); exact Kd.R_mono (Kd.R_far (p := ⟨go100, ((rd t263 x15_3) : Int).toNat, none⟩) (Kd.R_types HO_5.out GG100.out (by decide)) (fun _ hk => hk.2) (.bool ((rdOf ByteArray.empty x7_3 (rd t263 x15_3)).toList != (((rdOf ByteArray.empty x7_1 x10_1).extract 0 ((ji51) : Int).toNat) ++ t262).toList))) (fun _ hk => hk.1)⟩
       have n1_ : Aside0 (Kd.R Kd.string 9 (w104.setCell ⟨go100, ((rd t263 x15_3) : Int).toNat, none⟩ (.bool ((rdOf ByteArray.empty x7_3 (rd t263 x15_3)).toList != (((rdOf ByteArray.empty x7_1 x10_1).extract 0 ((ji51) : Int).toNat) ++ t262).toList))) w.heap.size (fun _ => True) (.slice (some ad253) x7_3.length co70) x7_3) := ⟨by (with_reducible repeat (first | apply Kd.R_alloc | apply Kd.R_drewN | apply Kd.R_drew)); exact Kd.R_mono (Kd.R_far (p := ⟨go100, ((rd t263 x15_3) : Int).toNat, none⟩) (Kd.R_types HO_7.out GG100.out (by decide)) (fun _ hk => hk.2) (.bool ((rdOf ByteArray.empty x7_3 (rd t263 x15_3)).toList != (((rdOf ByteArray.empty x7_1 x10_1).extract 0 ((ji51) : Int).toNat) ++ t262).toList))) (fun _ hk => trivial)⟩
       have n2_ : Aside0 (Kd.R Kd.bool 4 (w104.setCell ⟨go100, ((rd t263 x15_3) : Int).toNat, none⟩ (.bool ((rdOf ByteArray.empty x7_3 (rd t263 x15_3)).toList != (((rdOf ByteArray.empty x7_1 x10_1).extract 0 ((ji51) : Int).toNat) ++ t262).toList))) w.heap.size (fun k_ => some k_ ≠ (.slice (some ⟨go100, 0, none⟩) x9_3.length co105 : Value).ownBlock) (.slice (some ⟨go9, 0, none⟩) x8_3.length co9) x8_3) := ⟨by (with_reducible repeat (first | apply Kd.R_alloc | apply Kd.R_drewN | apply Kd.R_drew)); exact Kd.R_mono (Kd.R_far (p := ⟨go100, ((rd t263 x15_3) : Int).toNat, none⟩) (Kd.R_mono HO_8.out (fun k_ hk => (⟨hk, fun e_ => hk (by rw [e_]; rfl)⟩ : _ ∧ k_ ≠ go100))) (fun _ hk => hk.2) (.bool ((rdOf ByteArray.empty x7_3 (rd t263 x15_3)).toList != (((rdOf ByteArray.empty x7_1 x10_1).extract 0 ((ji51) : Int).toNat) ++ t262).toList))) (fun _ hk => hk.1)⟩
       have n3_ : Aside0 (Kd.R Kd.bool 4 (w104.setCell ⟨go100, ((rd t263 x15_3) : Int).toNat, none⟩ (.bool ((rdOf ByteArray.empty x7_3 (rd t263 x15_3)).toList != (((rdOf ByteArray.empty x7_1 x10_1).extract 0 ((ji51) : Int).toNat) ++ t262).toList))) w.heap.size (fun k_ => some k_ ≠ (.slice (some ⟨go9, 0, none⟩) x8_3.length co9 : Value).ownBlock) (.slice (some ⟨go100, 0, none⟩) x9_3.length co105) y278) := ⟨by (with_reducible repeat (first | apply Kd.R_alloc | apply Kd.R_drewN | apply Kd.R_drew)); exact HQ106.out⟩
       have n4_ : Aside0 (Kd.R (Kd.int .i64) 3 (w104.setCell ⟨go100, ((rd t263 x15_3) : Int).toNat, none⟩ (.bool ((rdOf ByteArray.empty x7_3 (rd t263 x15_3)).toList != (((rdOf ByteArray.empty x7_1 x10_1).extract 0 ((ji51) : Int).toNat) ++ t262).toList))) w.heap.size (fun k_ => some k_ ≠ (v235 : Value).ownBlock) (.slice (some ad266) t263.length co103) t263) := ⟨by (with_reducible repeat (first | apply Kd.R_alloc | apply Kd.R_drewN | apply Kd.R_drew)); exact Kd.R_mono (Kd.R_far (p := ⟨go100, ((rd t263 x15_3) : Int).toNat, none⟩) (Kd.R_types HO_14.out GG100.out (by decide)) (fun _ hk => hk.2) (.bool ((rdOf ByteArray.empty x7_3 (rd t263 x15_3)).toList != (((rdOf ByteArray.empty x7_1 x10_1).extract 0 ((ji51) : Int).toNat) ++ t262).toList))) (fun _ hk => hk.1)⟩
       have n5_ : Aside0 (Below w.heap.size w (w104.setCell ⟨go100, ((rd t263 x15_3) : Int).toNat, none⟩ (.bool ((rdOf ByteArray.empty x7_3 (rd t263 x15_3)).toList != (((rdOf ByteArray.empty x7_1 x10_1).extract 0 ((ji51) : Int).toNat) ++ t262).toList)))) := ⟨by repeat (first | (with_reducible first | exact HB.out | apply below_alloc | apply pw_below_drewN | apply below_drew1 | refine below_set ?_ GB100.out) | exact HB.out)⟩
       (try clear HO_5)
       (try clear HO_7)
       (try clear HO_8)
       (try clear HO_9)
       (try clear HO_14)
       (try clear HB)
       (try simp only [show ∀ a b : List UInt8, (!(a == b)) = (a != b) from fun _ _ => rfl])
       generalize (w104.setCell ⟨go100, ((rd t263 x15_3) : Int).toNat, none⟩ (.bool ((rdOf ByteArray.empty x7_3 (rd t263 x15_3)).toList != (((rdOf ByteArray.empty x7_1 x10_1).extract 0 ((ji51) : Int).toNat) ++ t262).toList))) = w107 at n0_ n1_ n2_ n3_ n4_ n5_ ⊢
       have HO_5 := n0_
       have HO_7 := n1_
       have HO_8 := n2_
       have HO_9 := n3_
       have HO_14 := n4_
       have HB := n5_
       clear n0_ n1_ n2_ n3_ n4_ n5_
       have p279 : 0 ≤ (x15_3 : Int) := of_decide_eq_true as_
       have q279 : x15_3 < (t263.length : Int) := of_decide_eq_true as_
       obtain ⟨ad279, e279, hx279_0⟩ := Kd.at_int (Kd.R_reads' HO_14.out).2.2 x15_3 p279 q279
       obtain rfl : ad266 = ad279 := (by injection e279)
       replace p279 := eq_true p279
       replace q279 := eq_true q279
       have p101 : 0 ≤ ((rd t263 x15_3) : Int) := of_decide_eq_true as_
       have q101 : ((rd t263 x15_3) : Int) < ((x8_3.length : Int) : Int) := of_decide_eq_true as_
       obtain ⟨hx101_0, hf101_0⟩ := Kd.R_celln false HO_8.out ((rd t263 x15_3) : Int) p101 q101
       replace p101 := eq_true p101
       replace q101 := eq_true q101
       obtain ⟨hy108_, hz108_⟩ := Kd.R_celln false HO_8.out ((rd t263 x15_3) : Int) (of_decide_eq_true as_) (of_decide_eq_true as_)
       have HP108 := Kd.R_putg HO_8.out ((rd t263 x15_3) : Int) true
       try go_wp2_with (first | ((with_reducible refine gate_store (t := 4) (p := 165) rfl ?_); refine store_event (t := 4) (p := 165) (v := ?vo_w109) (w1 := (w107.setCell ⟨go9, ((rd t263 x15_3) : Int).toNat, none⟩ (.bool true))) ?hg ?ho ?hn ?hr ?_; (case ho => rfl); (case hg => rfl); (case hn => rfl); (case hr => first | (go_simp; done) | (go_simp; rfl)); intro w109 hw; have hg : w107.grownBy w109 (some go9) := (by rw [hw]; exact HP108.2); have hp_ : Kd.R Kd.bool 4 w109 w.heap.size (fun k_ => some k_ ≠ (.slice (some ⟨go100, 0, none⟩) x9_3.length co105 : Value).ownBlock) (.slice (some ⟨go9, 0, none⟩) x8_3.length co9) y280 := (by rw [hw, Ny280.out]; exact HP108.1); clear HP108; have n0_ := Aside0.mk (Kd.R_over' (v := (.slice (some ⟨go9, 0, none⟩) x8_3.length co9)) (by (with_reducible repeat (first | apply Kd.R_alloc | apply Kd.R_drewN | apply Kd.R_drew)); exact HO_5.out) (Kd.R_typed HO_8.out) (by decide) hg); have n1_ := Aside0.mk (Kd.R_over' (v := (.slice (some ⟨go9, 0, none⟩) x8_3.length co9)) (by (with_reducible repeat (first | apply Kd.R_alloc | apply Kd.R_drewN | apply Kd.R_drew)); exact HO_7.out) (Kd.R_typed HO_8.out) (by decide) hg); have n2_ := Aside0.mk (hp_); have n3_ := Aside0.mk (Kd.R_after (v := (.slice (some ⟨go9, 0, none⟩) x8_3.length co9)) (v1 := (.slice (some ⟨go9, 0, none⟩) x8_3.length co9)) (ok := (fun _ => True)) (by (with_reducible repeat (first | apply Kd.R_alloc | apply Kd.R_drewN | apply Kd.R_drew)); exact Kd.R_mono HO_9.out (fun _ hk => ⟨trivial, hk⟩)) hg (.inl rfl)); have n4_ := Aside0.mk (Kd.R_over' (v := (.slice (some ⟨go9, 0, none⟩) x8_3.length co9)) (by (with_reducible repeat (first | apply Kd.R_alloc | apply Kd.R_drewN | apply Kd.R_drew)); exact HO_14.out) (Kd.R_typed HO_8.out) (by decide) hg); have n5_ := Aside0.mk ((by rw [hw]; exact below_set (HB.out) GB9.out : Below w.heap.size w w109)); clear HO_5; clear HO_7; clear HO_8; clear HO_9; clear HO_14; clear HB; have HO_5 := n0_; have HO_7 := n1_; have HO_8 := n2_; have HO_9 := n3_; have HO_14 := n4_; have HB := n5_; clear n0_ n1_ n2_ n3_ n4_ n5_; clear hg hw hp_; have p281 : 0 ≤ (x15_3 : Int) := of_decide_eq_true as_; have q281 : x15_3 < (t263.length : Int) := of_decide_eq_true as_; obtain ⟨ad281, e281, hx281_0⟩ := Kd.at_int (Kd.R_reads' HO_14.out).2.2 x15_3 p281 q281; obtain rfl : ad266 = ad281 := (by injection e281); replace p281 := eq_true p281; replace q281 := eq_true q281; have p102 : 0 ≤ ((rd t263 x15_3) : Int) := of_decide_eq_true as_; have q102 : ((rd t263 x15_3) : Int) < ((x7_3.length : Int) : Int) := of_decide_eq_true as_; obtain ⟨go102, co102, eo102, gb102, gl102, cl102, HG102⟩ := Kd.R_form HO_7.out (by omega); (first | cases eo102 | (injection eo102 with ea_ en_ ec_; (first | subst ea_ | (injection ea_ with ea_; subst ea_)); subst ec_; clear en_)); have GB102 := Aside0.mk gb102; have GG102 := Aside0.mk HG102; clear gb102 gl102 HG102; (first | simp only [add_plain] at hx277_0 | skip); obtain ⟨hx102_0, hf102_0⟩ := Kd.R_celln (⟨#[]⟩ : ByteArray) HO_7.out ((rd t263 x15_3) : Int) p102 q102; replace p102 := eq_true p102; replace q102 := eq_true q102; obtain ⟨hy110_, hz110_⟩ := Kd.R_celln (⟨#[]⟩ : ByteArray) HO_7.out ((rd t263 x15_3) : Int) (of_decide_eq_true as_) (of_decide_eq_true as_); have HP110 := Kd.R_putg HO_7.out ((rd t263 x15_3) : Int) (((rdOf ByteArray.empty x7_1 x10_1).extract 0 ((ji51) : Int).toNat) ++ t262)) | ((with_reducible refine gate_store (t := 9) (p := 172) rfl ?_); refine store_event (t := 9) (p := 172) (v := ?vo_w111) (w1 := (w109.setCell ⟨go102, ((rd t263 x15_3) : Int).toNat, none⟩ (.string (((rdOf ByteArray.empty x7_1 x10_1).extract 0 ((ji51) : Int).toNat) ++ t262)))) ?hg ?ho ?hn ?hr ?_; (case ho => rfl); (case hg => rfl); (case hn => rfl); (case hr => first | (go_simp; done) | (go_simp; rfl)); intro w111 hw; have hg : w109.grownBy w111 (some go102) := (by rw [hw]; exact HP110.2); have hp_ : Kd.R Kd.string 9 w111 w.heap.size (fun _ => True) (.slice (some ⟨go102, 0, none⟩) x7_3.length co70) y282 := (by rw [hw, Ny282.out]; exact HP110.1); clear HP110; have n0_ := Aside0.mk (Kd.R_over' (v := (.slice (some ⟨go102, 0, none⟩) x7_3.length co70)) (by (with_reducible repeat (first | apply Kd.R_alloc | apply Kd.R_drewN | apply Kd.R_drew)); exact HO_5.out) (Kd.R_typed HO_7.out) (by decide) hg); have n1_ := Aside0.mk (hp_); have n2_ := Aside0.mk (Kd.R_over' (v := (.slice (some ⟨go102, 0, none⟩) x7_3.length co70)) (by (with_reducible repeat (first | apply Kd.R_alloc | apply Kd.R_drewN | apply Kd.R_drew)); exact HO_8.out) (Kd.R_typed HO_7.out) (by decide) hg); have n3_ := Aside0.mk (Kd.R_over' (v := (.slice (some ⟨go102, 0, none⟩) x7_3.length co70)) (by (with_reducible repeat (first | apply Kd.R_alloc | apply Kd.R_drewN | apply Kd.R_drew)); exact HO_9.out) (Kd.R_typed HO_7.out) (by decide) hg); have n4_ := Aside0.mk (Kd.R_over' (v := (.slice (some ⟨go102, 0, none⟩) x7_3.length co70)) (by (with_reducible repeat (first | apply Kd.R_alloc | apply Kd.R_drewN | apply Kd.R_drew)); exact HO_14.out) (Kd.R_typed HO_7.out) (by decide) hg); have n5_ := Aside0.mk ((by rw [hw]; exact below_set (HB.out) GB102.out : Below w.heap.size w w111)); clear HO_5; clear HO_7; clear HO_8; clear HO_9; clear HO_14; clear HB; have HO_5 := n0_; have HO_7 := n1_; have HO_8 := n2_; have HO_9 := n3_; have HO_14 := n4_; have HB := n5_; clear n0_ n1_ n2_ n3_ n4_ n5_; clear hg hw hp_))
       (try simp only [← hl7_3, ← hl8_3])
       (try simp only [show ({ block := go102, off := x10_1.toNat } : Addr) = (⟨go102, 0, none⟩ : Addr).add x10_1.toNat from by simp [Addr.add]])
       go_roundg k3
       case measure => have := HK1.out; have := HJ24.out; have := HK3.out; omega
       case rel => exact ⟨(y282), (y280), (y278), (wrap64 (x15_3 + 1)), (by first | rfl | (simp; done) | (simp [*]; done)), H', ⟨by have := HK1.out; have := HJ24.out; have := HK3.out; omega⟩, ⟨by (try simp only [hl8_1]); (try simp only [hl7_3]); (try simp only [hl8_3]); (with_reducible repeat (first | apply Kd.R_alloc | apply Kd.R_drewN | apply Kd.R_drew)); exact HO_5.out⟩, ⟨by (try simp only [hl8_1]); (try simp only [hl7_3]); (try simp only [hl8_3]); (with_reducible repeat (first | apply Kd.R_alloc | apply Kd.R_drewN | apply Kd.R_drew)); exact HO_7.out⟩, ⟨by (try simp only [hl8_1]); (try simp only [hl7_3]); (try simp only [hl8_3]); (with_reducible repeat (first | apply Kd.R_alloc | apply Kd.R_drewN | apply Kd.R_drew)); exact HO_8.out⟩, ⟨by (try simp only [hl8_1]); (try simp only [hl7_3]); (try simp only [hl8_3]); (with_reducible repeat (first | apply Kd.R_alloc | apply Kd.R_drewN | apply Kd.R_drew)); exact Kd.R_mono HO_9.out (fun _ hk => hk.2)⟩, ⟨by (try simp only [hl8_1]); (try simp only [hl7_3]); (try simp only [hl8_3]); (with_reducible repeat (first | apply Kd.R_alloc | apply Kd.R_drewN | apply Kd.R_drew)); exact HO_14.out⟩, ⟨by repeat (first | (with_reducible first | exact HB.out | apply below_alloc | apply pw_below_drewN | apply below_drew1) | exact HB.out | exact Below.refl _ _)⟩⟩

end Go.Proofs.Ytdhlhbhclggheaa.Q
