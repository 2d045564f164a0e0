-- Written by a program of this session (wip/tools: patched print) for this claim. Not trusted: Lean checks it.
import Derived.Test.YtdhlhbhclggheaaQx0
namespace Go.Proofs.Ytdhlhbhclggheaa.Q
open Go.RowKit Go.Proofs.Ytdhlhbhclggheaa.P Go.Proofs.Ytdhlhbhclggheaa.D Go.Proofs.YtdhlhbhclggheaaW.PrintWords Go.Proofs.YtdhlhbhclggheaaW.PrintLast Go.Proofs.YtdhlhbhclggheaaW.PrintMore
attribute [local go_sem] max2_int min2_int max_two min_two max_three min_three max_four min_four   -- for this text's walks alone
set_option linter.unusedVariables false
set_option linter.unusedSimpArgs false

/-! ### camshaftref04_Name: function 45 -/
def camshaftref04_Name.f (a0 : Int) : Option (ByteArray) := if a0 < 1 then (some (⟨#[]⟩ : ByteArray)) else (if a0 > 25 then (some (⟨#[]⟩ : ByteArray)) else ((some (([(⟨#[80, 85, 83, 72]⟩ : ByteArray), (⟨#[68, 82, 79, 80]⟩ : ByteArray), (⟨#[68, 85, 80]⟩ : ByteArray), (⟨#[83, 87, 65, 80]⟩ : ByteArray), (⟨#[84, 87, 79]⟩ : ByteArray), (⟨#[78, 69, 71]⟩ : ByteArray), (⟨#[78, 79, 84]⟩ : ByteArray), (⟨#[66, 79, 84, 72]⟩ : ByteArray), (⟨#[69, 73, 84, 72, 69, 82]⟩ : ByteArray), (⟨#[67, 65, 83, 84]⟩ : ByteArray), (⟨#[76, 79, 65, 68, 76]⟩ : ByteArray), (⟨#[83, 84, 79, 82, 69, 76]⟩ : ByteArray), (⟨#[76, 79, 65, 68, 82]⟩ : ByteArray), (⟨#[83, 84, 79, 82, 69, 82]⟩ : ByteArray), (⟨#[73, 78]⟩ : ByteArray), (⟨#[79, 85, 84]⟩ : ByteArray), (⟨#[71, 69, 84]⟩ : ByteArray), (⟨#[80, 85, 84]⟩ : ByteArray), (⟨#[74, 85, 77, 80]⟩ : ByteArray), (⟨#[66, 82, 65, 78, 67, 72]⟩ : ByteArray), (⟨#[76, 79, 79, 80]⟩ : ByteArray), (⟨#[78, 69, 88, 84]⟩ : ByteArray), (⟨#[76, 79, 67, 75]⟩ : ByteArray), (⟨#[85, 78, 76, 79, 67, 75]⟩ : ByteArray), (⟨#[69, 78, 68]⟩ : ByteArray)] : List ByteArray) : List ByteArray)).bind fun y149 => (if 0 ≤ (wrap64 (a0 - 1)) then (if (wrap64 (a0 - 1)) < (y149.length : Int) then (some (rdOf ByteArray.empty y149 (wrap64 (a0 - 1)))) else (none)) else (none))))
set_option maxHeartbeats 8000000 in
set_option maxRecDepth 100000 in
theorem camshaftref04_Name.calls (a0 : Int) (r : ByteArray) (w : World) (h : camshaftref04_Name.f a0 = some r) :
  Calls Try.prog 45 #[.int .i64 a0] w fun e w' => e = .returned (.string r) ∧ Below w.heap.size w w' := by
 have HB := Aside0.mk (Below.refl w.heap.size w)
 have H : (if a0 < 1 then (some (⟨#[]⟩ : ByteArray)) else (if a0 > 25 then (some (⟨#[]⟩ : ByteArray)) else ((some (([(⟨#[80, 85, 83, 72]⟩ : ByteArray), (⟨#[68, 82, 79, 80]⟩ : ByteArray), (⟨#[68, 85, 80]⟩ : ByteArray), (⟨#[83, 87, 65, 80]⟩ : ByteArray), (⟨#[84, 87, 79]⟩ : ByteArray), (⟨#[78, 69, 71]⟩ : ByteArray), (⟨#[78, 79, 84]⟩ : ByteArray), (⟨#[66, 79, 84, 72]⟩ : ByteArray), (⟨#[69, 73, 84, 72, 69, 82]⟩ : ByteArray), (⟨#[67, 65, 83, 84]⟩ : ByteArray), (⟨#[76, 79, 65, 68, 76]⟩ : ByteArray), (⟨#[83, 84, 79, 82, 69, 76]⟩ : ByteArray), (⟨#[76, 79, 65, 68, 82]⟩ : ByteArray), (⟨#[83, 84, 79, 82, 69, 82]⟩ : ByteArray), (⟨#[73, 78]⟩ : ByteArray), (⟨#[79, 85, 84]⟩ : ByteArray), (⟨#[71, 69, 84]⟩ : ByteArray), (⟨#[80, 85, 84]⟩ : ByteArray), (⟨#[74, 85, 77, 80]⟩ : ByteArray), (⟨#[66, 82, 65, 78, 67, 72]⟩ : ByteArray), (⟨#[76, 79, 79, 80]⟩ : ByteArray), (⟨#[78, 69, 88, 84]⟩ : ByteArray), (⟨#[76, 79, 67, 75]⟩ : ByteArray), (⟨#[85, 78, 76, 79, 67, 75]⟩ : ByteArray), (⟨#[69, 78, 68]⟩ : ByteArray)] : List ByteArray) : List ByteArray)).bind fun y149 => (if 0 ≤ (wrap64 (a0 - 1)) then (if (wrap64 (a0 - 1)) < (y149.length : Int) then (some (rdOf ByteArray.empty y149 (wrap64 (a0 - 1)))) else (none)) else (none))))) = some r := h
 clear h
 by_cases c2 : a0 < 1
 ·rw [if_pos c2] at H
  have c2b0 : decide (a0 < 1) = true := decide_eq_true c2
  clear c2
  obtain rfl := Option.some.inj H
  go_enter Try.func45, Try.ntmps45
  go_wp2
  go_ret
  exact ⟨by first | rfl | (simp [errW_none, errW_some] <;> rfl) | (simp [*, errW_none, errW_some] <;> rfl), by repeat (first | (with_reducible first | exact HB.out | apply below_alloc | apply pw_below_drewN | apply below_drew1) | exact HB.out | exact Below.refl _ _)⟩
 rw [if_neg c2] at H
 have c2b0 : decide (a0 < 1) = false := decide_eq_false c2
 clear c2
 by_cases c3 : a0 > 25
 ·rw [if_pos c3] at H
  have c3b0 : decide (25 < a0) = true := decide_eq_true c3
  clear c3
  obtain rfl := Option.some.inj H
  go_enter Try.func45, Try.ntmps45
  go_wp2
  go_ret
  exact ⟨by first | rfl | (simp [errW_none, errW_some] <;> rfl) | (simp [*, errW_none, errW_some] <;> rfl), by repeat (first | (with_reducible first | exact HB.out | apply below_alloc | apply pw_below_drewN | apply below_drew1) | exact HB.out | exact Below.refl _ _)⟩
 rw [if_neg c3] at H
 have c3b0 : decide (25 < a0) = false := decide_eq_false c3
 clear c3
 obtain ⟨y149, hy149⟩ : ∃ y_ : List ByteArray, y_ = (([(⟨#[80, 85, 83, 72]⟩ : ByteArray), (⟨#[68, 82, 79, 80]⟩ : ByteArray), (⟨#[68, 85, 80]⟩ : ByteArray), (⟨#[83, 87, 65, 80]⟩ : ByteArray), (⟨#[84, 87, 79]⟩ : ByteArray), (⟨#[78, 69, 71]⟩ : ByteArray), (⟨#[78, 79, 84]⟩ : ByteArray), (⟨#[66, 79, 84, 72]⟩ : ByteArray), (⟨#[69, 73, 84, 72, 69, 82]⟩ : ByteArray), (⟨#[67, 65, 83, 84]⟩ : ByteArray), (⟨#[76, 79, 65, 68, 76]⟩ : ByteArray), (⟨#[83, 84, 79, 82, 69, 76]⟩ : ByteArray), (⟨#[76, 79, 65, 68, 82]⟩ : ByteArray), (⟨#[83, 84, 79, 82, 69, 82]⟩ : ByteArray), (⟨#[73, 78]⟩ : ByteArray), (⟨#[79, 85, 84]⟩ : ByteArray), (⟨#[71, 69, 84]⟩ : ByteArray), (⟨#[80, 85, 84]⟩ : ByteArray), (⟨#[74, 85, 77, 80]⟩ : ByteArray), (⟨#[66, 82, 65, 78, 67, 72]⟩ : ByteArray), (⟨#[76, 79, 79, 80]⟩ : ByteArray), (⟨#[78, 69, 88, 84]⟩ : ByteArray), (⟨#[76, 79, 67, 75]⟩ : ByteArray), (⟨#[85, 78, 76, 79, 67, 75]⟩ : ByteArray), (⟨#[69, 78, 68]⟩ : ByteArray)] : List ByteArray)) := ⟨_, rfl⟩
 replace H : (if 0 ≤ (wrap64 (a0 - 1)) then (if (wrap64 (a0 - 1)) < (y149.length : Int) then (some (rdOf ByteArray.empty y149 (wrap64 (a0 - 1)))) else (none)) else (none)) = some r := by first | (rw [hy149]; with_reducible exact H) | (have H2_ := (Option.bind_some _ _).symm.trans H; rw [hy149]; with_reducible exact H2_) | (have H2_ := (Option.bind_some _ _).symm.trans H; with_reducible exact H2_) | with_reducible exact H | (rw [hy149]; exact H) | exact H
 have Ny149 := Aside0.mk hy149
 clear hy149
 obtain ⟨ji4, hji4⟩ : ∃ j_ : Int, (wrap64 (a0 - 1)) = j_ := ⟨_, rfl⟩
 replace H : (if 0 ≤ (ji4) then (if (ji4) < (y149.length : Int) then (some (rdOf ByteArray.empty y149 (ji4))) else (none)) else (none)) = some r := by first | (rw [hji4] at H; exact H) | (simp only [hji4] at H ⊢; exact H)
 have hji4w : (IntKind.i64.wrap (a0 - 1)) = ji4 := (i64_w _).trans hji4
 by_cases c5 : 0 ≤ (ji4)
 rotate_left
 ·rw [if_neg c5] at H
  exact absurd H (by simp)
 rw [if_pos c5] at H
 have c5b0 : decide (0 ≤ (ji4)) = true := decide_eq_true c5
 clear c5
 by_cases c6 : (ji4) < (y149.length : Int)
 rotate_left
 ·rw [if_neg c6] at H
  exact absurd H (by simp)
 rw [if_pos c6] at H
 have c6b0 : decide ((ji4) < (y149.length : Int)) = true := decide_eq_true c6
 clear c6
 obtain rfl := Option.some.inj H
 go_enter Try.func45, Try.ntmps45
 go_wp2_with (first | ((with_reducible refine gate_dst (N := 9) rfl ?_); refine Kd.R_lit Kd.string _ 9 ?hg (N := 9) ?hd (xs := ([(⟨#[80, 85, 83, 72]⟩ : ByteArray), (⟨#[68, 82, 79, 80]⟩ : ByteArray), (⟨#[68, 85, 80]⟩ : ByteArray), (⟨#[83, 87, 65, 80]⟩ : ByteArray), (⟨#[84, 87, 79]⟩ : ByteArray), (⟨#[78, 69, 71]⟩ : ByteArray), (⟨#[78, 79, 84]⟩ : ByteArray), (⟨#[66, 79, 84, 72]⟩ : ByteArray), (⟨#[69, 73, 84, 72, 69, 82]⟩ : ByteArray), (⟨#[67, 65, 83, 84]⟩ : ByteArray), (⟨#[76, 79, 65, 68, 76]⟩ : ByteArray), (⟨#[83, 84, 79, 82, 69, 76]⟩ : ByteArray), (⟨#[76, 79, 65, 68, 82]⟩ : ByteArray), (⟨#[83, 84, 79, 82, 69, 82]⟩ : ByteArray), (⟨#[73, 78]⟩ : ByteArray), (⟨#[79, 85, 84]⟩ : ByteArray), (⟨#[71, 69, 84]⟩ : ByteArray), (⟨#[80, 85, 84]⟩ : ByteArray), (⟨#[74, 85, 77, 80]⟩ : ByteArray), (⟨#[66, 82, 65, 78, 67, 72]⟩ : ByteArray), (⟨#[76, 79, 79, 80]⟩ : ByteArray), (⟨#[78, 69, 88, 84]⟩ : ByteArray), (⟨#[76, 79, 67, 75]⟩ : ByteArray), (⟨#[85, 78, 76, 79, 67, 75]⟩ : ByteArray), (⟨#[69, 78, 68]⟩ : ByteArray)] : List ByteArray)) (inner := [.string (⟨#[80, 85, 83, 72]⟩ : ByteArray), .string (⟨#[68, 82, 79, 80]⟩ : ByteArray), .string (⟨#[68, 85, 80]⟩ : ByteArray), .string (⟨#[83, 87, 65, 80]⟩ : ByteArray), .string (⟨#[84, 87, 79]⟩ : ByteArray), .string (⟨#[78, 69, 71]⟩ : ByteArray), .string (⟨#[78, 79, 84]⟩ : ByteArray), .string (⟨#[66, 79, 84, 72]⟩ : ByteArray), .string (⟨#[69, 73, 84, 72, 69, 82]⟩ : ByteArray), .string (⟨#[67, 65, 83, 84]⟩ : ByteArray), .string (⟨#[76, 79, 65, 68, 76]⟩ : ByteArray), .string (⟨#[83, 84, 79, 82, 69, 76]⟩ : ByteArray), .string (⟨#[76, 79, 65, 68, 82]⟩ : ByteArray), .string (⟨#[83, 84, 79, 82, 69, 82]⟩ : ByteArray), .string (⟨#[73, 78]⟩ : ByteArray), .string (⟨#[79, 85, 84]⟩ : ByteArray), .string (⟨#[71, 69, 84]⟩ : ByteArray), .string (⟨#[80, 85, 84]⟩ : ByteArray), .string (⟨#[74, 85, 77, 80]⟩ : ByteArray), .string (⟨#[66, 82, 65, 78, 67, 72]⟩ : ByteArray), .string (⟨#[76, 79, 79, 80]⟩ : ByteArray), .string (⟨#[78, 69, 88, 84]⟩ : ByteArray), .string (⟨#[76, 79, 67, 75]⟩ : ByteArray), .string (⟨#[85, 78, 76, 79, 67, 75]⟩ : ByteArray), .string (⟨#[69, 78, 68]⟩ : ByteArray)]) (ok := fun _ => True) (okp := fun _ => True) ?hr ?hp (fun _ hk => hk) trivial (Below.refl _ _) (Nat.le_refl _) (by simp) ?_; (case hd => rfl); (case hg => rfl); (case hr => first | (go_simp; done) | (go_simp; rfl)); (case hp => exact (Reps.one (show Kd.M Kd.string _ _ _ (⟨#[80, 85, 83, 72]⟩ : ByteArray) [.string (⟨#[80, 85, 83, 72]⟩ : ByteArray)] from rfl) (Reps.one (show Kd.M Kd.string _ _ _ (⟨#[68, 82, 79, 80]⟩ : ByteArray) [.string (⟨#[68, 82, 79, 80]⟩ : ByteArray)] from rfl) (Reps.one (show Kd.M Kd.string _ _ _ (⟨#[68, 85, 80]⟩ : ByteArray) [.string (⟨#[68, 85, 80]⟩ : ByteArray)] from rfl) (Reps.one (show Kd.M Kd.string _ _ _ (⟨#[83, 87, 65, 80]⟩ : ByteArray) [.string (⟨#[83, 87, 65, 80]⟩ : ByteArray)] from rfl) (Reps.one (show Kd.M Kd.string _ _ _ (⟨#[84, 87, 79]⟩ : ByteArray) [.string (⟨#[84, 87, 79]⟩ : ByteArray)] from rfl) (Reps.one (show Kd.M Kd.string _ _ _ (⟨#[78, 69, 71]⟩ : ByteArray) [.string (⟨#[78, 69, 71]⟩ : ByteArray)] from rfl) (Reps.one (show Kd.M Kd.string _ _ _ (⟨#[78, 79, 84]⟩ : ByteArray) [.string (⟨#[78, 79, 84]⟩ : ByteArray)] from rfl) (Reps.one (show Kd.M Kd.string _ _ _ (⟨#[66, 79, 84, 72]⟩ : ByteArray) [.string (⟨#[66, 79, 84, 72]⟩ : ByteArray)] from rfl) (Reps.one (show Kd.M Kd.string _ _ _ (⟨#[69, 73, 84, 72, 69, 82]⟩ : ByteArray) [.string (⟨#[69, 73, 84, 72, 69, 82]⟩ : ByteArray)] from rfl) (Reps.one (show Kd.M Kd.string _ _ _ (⟨#[67, 65, 83, 84]⟩ : ByteArray) [.string (⟨#[67, 65, 83, 84]⟩ : ByteArray)] from rfl) (Reps.one (show Kd.M Kd.string _ _ _ (⟨#[76, 79, 65, 68, 76]⟩ : ByteArray) [.string (⟨#[76, 79, 65, 68, 76]⟩ : ByteArray)] from rfl) (Reps.one (show Kd.M Kd.string _ _ _ (⟨#[83, 84, 79, 82, 69, 76]⟩ : ByteArray) [.string (⟨#[83, 84, 79, 82, 69, 76]⟩ : ByteArray)] from rfl) (Reps.one (show Kd.M Kd.string _ _ _ (⟨#[76, 79, 65, 68, 82]⟩ : ByteArray) [.string (⟨#[76, 79, 65, 68, 82]⟩ : ByteArray)] from rfl) (Reps.one (show Kd.M Kd.string _ _ _ (⟨#[83, 84, 79, 82, 69, 82]⟩ : ByteArray) [.string (⟨#[83, 84, 79, 82, 69, 82]⟩ : ByteArray)] from rfl) (Reps.one (show Kd.M Kd.string _ _ _ (⟨#[73, 78]⟩ : ByteArray) [.string (⟨#[73, 78]⟩ : ByteArray)] from rfl) (Reps.one (show Kd.M Kd.string _ _ _ (⟨#[79, 85, 84]⟩ : ByteArray) [.string (⟨#[79, 85, 84]⟩ : ByteArray)] from rfl) (Reps.one (show Kd.M Kd.string _ _ _ (⟨#[71, 69, 84]⟩ : ByteArray) [.string (⟨#[71, 69, 84]⟩ : ByteArray)] from rfl) (Reps.one (show Kd.M Kd.string _ _ _ (⟨#[80, 85, 84]⟩ : ByteArray) [.string (⟨#[80, 85, 84]⟩ : ByteArray)] from rfl) (Reps.one (show Kd.M Kd.string _ _ _ (⟨#[74, 85, 77, 80]⟩ : ByteArray) [.string (⟨#[74, 85, 77, 80]⟩ : ByteArray)] from rfl) (Reps.one (show Kd.M Kd.string _ _ _ (⟨#[66, 82, 65, 78, 67, 72]⟩ : ByteArray) [.string (⟨#[66, 82, 65, 78, 67, 72]⟩ : ByteArray)] from rfl) (Reps.one (show Kd.M Kd.string _ _ _ (⟨#[76, 79, 79, 80]⟩ : ByteArray) [.string (⟨#[76, 79, 79, 80]⟩ : ByteArray)] from rfl) (Reps.one (show Kd.M Kd.string _ _ _ (⟨#[78, 69, 88, 84]⟩ : ByteArray) [.string (⟨#[78, 69, 88, 84]⟩ : ByteArray)] from rfl) (Reps.one (show Kd.M Kd.string _ _ _ (⟨#[76, 79, 67, 75]⟩ : ByteArray) [.string (⟨#[76, 79, 67, 75]⟩ : ByteArray)] from rfl) (Reps.one (show Kd.M Kd.string _ _ _ (⟨#[85, 78, 76, 79, 67, 75]⟩ : ByteArray) [.string (⟨#[85, 78, 76, 79, 67, 75]⟩ : ByteArray)] from rfl) (Reps.one (show Kd.M Kd.string _ _ _ (⟨#[69, 78, 68]⟩ : ByteArray) [.string (⟨#[69, 78, 68]⟩ : ByteArray)] from rfl) (Reps.none _ _))))))))))))))))))))))))))); intro v150 w7 ho8 hb hg_ hnew_; clear hg_ hnew_; (first | rw [← Ny149.out] at ho8 | (simp only [Int.reduceToNat] at ho8; rw [← Ny149.out] at ho8)); have n0_ := Aside0.mk (Kd.R_lower ho8 (below_size ab_)); have n1_ := Aside0.mk (below_step ab_ hb); clear HB; have HO151 := n0_; have HB := n1_; clear n0_ n1_; clear hb ho8; obtain ⟨Ao9, co9, eo9⟩ := Kd.R_slice HO151.out; subst eo9; have p152 : 0 ≤ ((ji4) : Int) := of_decide_eq_true as_; have q152 : (ji4) < (y149.length : Int) := of_decide_eq_true as_; obtain ⟨ad152, e152, hx152_0⟩ := Kd.at_string (Kd.R_reads' HO151.out).2.2 (ji4) p152 q152; cases e152; replace p152 := eq_true p152; replace q152 := eq_true q152))
 go_ret
 exact ⟨by first | rfl | (simp [errW_none, errW_some] <;> rfl) | (simp only [← hji4]; first | rfl | (simp [errW_none, errW_some] <;> rfl)) | (simp [*, errW_none, errW_some] <;> rfl), by repeat (first | (with_reducible first | exact HB.out | apply below_alloc | apply pw_below_drewN | apply below_drew1) | exact HB.out | exact Below.refl _ _)⟩

/-! ### camshaftref04_Args: function 46 -/
def camshaftref04_Args.f (a0 : Int) : Option (Int) := (camshaftref04_Name.f a0).bind fun t153 => (if t153.toList = ([] : List UInt8) then (some (-1)) else ((some (([1, 0, 0, 0, 1, 0, 0, 0, 0, 0, 1, 1, 1, 1, 1, 1, 2, 2, 1, 1, 1, 0, 1, 1, 0] : List Int) : List Int)).bind fun y154 => (if 0 ≤ (wrap64 (a0 - 1)) then (if (wrap64 (a0 - 1)) < (y154.length : Int) then (some (rd y154 (wrap64 (a0 - 1)))) else (none)) else (none))))
set_option maxHeartbeats 8000000 in
set_option maxRecDepth 100000 in
theorem camshaftref04_Args.calls (a0 : Int) (r : Int) (w : World) (h : camshaftref04_Args.f a0 = some r) :
  Calls Try.prog 46 #[.int .i64 a0] w fun e w' => e = .returned (.int .i64 r) ∧ Below w.heap.size w w' := by
 have HB := Aside0.mk (Below.refl w.heap.size w)
 have H : ((camshaftref04_Name.f a0).bind fun t153 => (if t153.toList = ([] : List UInt8) then (some (-1)) else ((some (([1, 0, 0, 0, 1, 0, 0, 0, 0, 0, 1, 1, 1, 1, 1, 1, 2, 2, 1, 1, 1, 0, 1, 1, 0] : List Int) : List Int)).bind fun y154 => (if 0 ≤ (wrap64 (a0 - 1)) then (if (wrap64 (a0 - 1)) < (y154.length : Int) then (some (rd y154 (wrap64 (a0 - 1)))) else (none)) else (none))))) = some r := h
 clear h
 replace H := Option.bind_eq_some_iff.mp H
 obtain ⟨t153, A20, H⟩ := H
 replace H : (if t153.toList = ([] : List UInt8) then (some (-1)) else ((some (([1, 0, 0, 0, 1, 0, 0, 0, 0, 0, 1, 1, 1, 1, 1, 1, 2, 2, 1, 1, 1, 0, 1, 1, 0] : List Int) : List Int)).bind fun y154 => (if 0 ≤ (wrap64 (a0 - 1)) then (if (wrap64 (a0 - 1)) < (y154.length : Int) then (some (rd y154 (wrap64 (a0 - 1)))) else (none)) else (none)))) = some r := H
 have A2 := Aside0.mk A20
 clear A20
 by_cases c3 : t153.toList = ([] : List UInt8)
 ·rw [if_pos c3] at H
  have c3b0 : (t153.toList == ([] : List UInt8)) = true := beq_iff_eq.mpr c3
  have c3b1 : (t153.toList != ([] : List UInt8)) = false := bne_eq_false_iff_eq.mpr c3
  clear c3
  obtain rfl := Option.some.inj H
  go_enter Try.func46, Try.ntmps46
  go_wp2_with (first | ((with_reducible refine gate_callee (f := 45) rfl ?_); refine goesL_ (some 4) rfl rfl Try.func45 (by kernel_rfl) rfl #[.int .i64 a0] rfl am_ ?_; (with_reducible refine (camshaftref04_Name.calls a0 t153 _ A2.out).mono ?_); rintro e w4 ⟨rfl, hb⟩; refine ⟨_, rfl, ?_⟩; have n0_ := Aside0.mk (below_step ab_ hb); clear HB; have HB := n0_; clear n0_; (try clear hb); (try clear hb2); (try clear hk); (try clear hi)))
  go_ret
  exact ⟨by first | rfl | (rw [bne_nil_eq]; rfl) | (simp [bne_nil_eq]; done) | (simp [errW_none, errW_some] <;> rfl) | (simp [*, errW_none, errW_some] <;> rfl), by repeat (first | (with_reducible first | exact HB.out | apply below_alloc | apply pw_below_drewN | apply below_drew1) | exact HB.out | exact Below.refl _ _)⟩
 rw [if_neg c3] at H
 have c3b0 : (t153.toList == ([] : List UInt8)) = false := beq_eq_false_iff_ne.mpr c3
 have c3b1 : (t153.toList != ([] : List UInt8)) = true := bne_iff_ne.mpr c3
 obtain ⟨y154, hy154⟩ : ∃ y_ : List Int, y_ = (([1, 0, 0, 0, 1, 0, 0, 0, 0, 0, 1, 1, 1, 1, 1, 1, 2, 2, 1, 1, 1, 0, 1, 1, 0] : List Int)) := ⟨_, rfl⟩
 replace H : (if 0 ≤ (wrap64 (a0 - 1)) then (if (wrap64 (a0 - 1)) < (y154.length : Int) then (some (rd y154 (wrap64 (a0 - 1)))) else (none)) else (none)) = some r := by first | (rw [hy154]; with_reducible exact H) | (have H2_ := (Option.bind_some _ _).symm.trans H; rw [hy154]; with_reducible exact H2_) | (have H2_ := (Option.bind_some _ _).symm.trans H; with_reducible exact H2_) | with_reducible exact H | (rw [hy154]; exact H) | exact H
 have Ny154 := Aside0.mk hy154
 clear hy154
 obtain ⟨ji5, hji5⟩ : ∃ j_ : Int, (wrap64 (a0 - 1)) = j_ := ⟨_, rfl⟩
 replace H : (if 0 ≤ (ji5) then (if (ji5) < (y154.length : Int) then (some (rd y154 (ji5))) else (none)) else (none)) = some r := by first | (rw [hji5] at H; exact H) | (simp only [hji5] at H ⊢; exact H)
 (try rw [hji5] at A2)
 have hji5w : (IntKind.i64.wrap (a0 - 1)) = ji5 := (i64_w _).trans hji5
 by_cases c6 : 0 ≤ (ji5)
 rotate_left
 ·rw [if_neg c6] at H
  exact absurd H (by simp)
 rw [if_pos c6] at H
 have c6b0 : decide (0 ≤ (ji5)) = true := decide_eq_true c6
 clear c6
 by_cases c7 : (ji5) < (y154.length : Int)
 rotate_left
 ·rw [if_neg c7] at H
  exact absurd H (by simp)
 rw [if_pos c7] at H
 have c7b0 : decide ((ji5) < (y154.length : Int)) = true := decide_eq_true c7
 clear c7
 obtain rfl := Option.some.inj H
 go_enter Try.func46, Try.ntmps46
 go_wp2_with (first | ((with_reducible refine gate_callee (f := 45) rfl ?_); refine goesL_ (some 4) rfl rfl Try.func45 (by kernel_rfl) rfl #[.int .i64 a0] rfl am_ ?_; (with_reducible refine (camshaftref04_Name.calls a0 t153 _ A2.out).mono ?_); rintro e w8 ⟨rfl, hb⟩; refine ⟨_, rfl, ?_⟩; have n0_ := Aside0.mk (below_step ab_ hb); clear HB; have HB := n0_; clear n0_; (try clear hb); (try clear hb2); (try clear hk); (try clear hi)) | ((with_reducible refine gate_dst (N := 6) rfl ?_); refine Kd.R_lit (Kd.int .i64) _ 3 ?hg (N := 6) ?hd (xs := ([1, 0, 0, 0, 1, 0, 0, 0, 0, 0, 1, 1, 1, 1, 1, 1, 2, 2, 1, 1, 1, 0, 1, 1, 0] : List Int)) (inner := [.int .i64 1, .int .i64 0, .int .i64 0, .int .i64 0, .int .i64 1, .int .i64 0, .int .i64 0, .int .i64 0, .int .i64 0, .int .i64 0, .int .i64 1, .int .i64 1, .int .i64 1, .int .i64 1, .int .i64 1, .int .i64 1, .int .i64 2, .int .i64 2, .int .i64 1, .int .i64 1, .int .i64 1, .int .i64 0, .int .i64 1, .int .i64 1, .int .i64 0]) (ok := fun _ => True) (okp := fun _ => True) ?hr ?hp (fun _ hk => hk) trivial (Below.refl _ _) (Nat.le_refl _) (by simp) ?_; (case hd => rfl); (case hg => rfl); (case hr => first | (go_simp; done) | (go_simp; rfl)); (case hp => exact (Reps.one (show Kd.M (Kd.int .i64) _ _ _ 1 [.int .i64 1] from rfl) (Reps.one (show Kd.M (Kd.int .i64) _ _ _ 0 [.int .i64 0] from rfl) (Reps.one (show Kd.M (Kd.int .i64) _ _ _ 0 [.int .i64 0] from rfl) (Reps.one (show Kd.M (Kd.int .i64) _ _ _ 0 [.int .i64 0] from rfl) (Reps.one (show Kd.M (Kd.int .i64) _ _ _ 1 [.int .i64 1] from rfl) (Reps.one (show Kd.M (Kd.int .i64) _ _ _ 0 [.int .i64 0] from rfl) (Reps.one (show Kd.M (Kd.int .i64) _ _ _ 0 [.int .i64 0] from rfl) (Reps.one (show Kd.M (Kd.int .i64) _ _ _ 0 [.int .i64 0] from rfl) (Reps.one (show Kd.M (Kd.int .i64) _ _ _ 0 [.int .i64 0] from rfl) (Reps.one (show Kd.M (Kd.int .i64) _ _ _ 0 [.int .i64 0] from rfl) (Reps.one (show Kd.M (Kd.int .i64) _ _ _ 1 [.int .i64 1] from rfl) (Reps.one (show Kd.M (Kd.int .i64) _ _ _ 1 [.int .i64 1] from rfl) (Reps.one (show Kd.M (Kd.int .i64) _ _ _ 1 [.int .i64 1] from rfl) (Reps.one (show Kd.M (Kd.int .i64) _ _ _ 1 [.int .i64 1] from rfl) (Reps.one (show Kd.M (Kd.int .i64) _ _ _ 1 [.int .i64 1] from rfl) (Reps.one (show Kd.M (Kd.int .i64) _ _ _ 1 [.int .i64 1] from rfl) (Reps.one (show Kd.M (Kd.int .i64) _ _ _ 2 [.int .i64 2] from rfl) (Reps.one (show Kd.M (Kd.int .i64) _ _ _ 2 [.int .i64 2] from rfl) (Reps.one (show Kd.M (Kd.int .i64) _ _ _ 1 [.int .i64 1] from rfl) (Reps.one (show Kd.M (Kd.int .i64) _ _ _ 1 [.int .i64 1] from rfl) (Reps.one (show Kd.M (Kd.int .i64) _ _ _ 1 [.int .i64 1] from rfl) (Reps.one (show Kd.M (Kd.int .i64) _ _ _ 0 [.int .i64 0] from rfl) (Reps.one (show Kd.M (Kd.int .i64) _ _ _ 1 [.int .i64 1] from rfl) (Reps.one (show Kd.M (Kd.int .i64) _ _ _ 1 [.int .i64 1] from rfl) (Reps.one (show Kd.M (Kd.int .i64) _ _ _ 0 [.int .i64 0] from rfl) (Reps.none _ _))))))))))))))))))))))))))); intro v155 w9 ho10 hb hg_ hnew_; clear hg_ hnew_; (first | rw [← Ny154.out] at ho10 | (simp only [Int.reduceToNat] at ho10; rw [← Ny154.out] at ho10)); have n0_ := Aside0.mk (Kd.R_lower ho10 (below_size ab_)); have n1_ := Aside0.mk (below_step ab_ hb); clear HB; have HO156 := n0_; have HB := n1_; clear n0_ n1_; clear hb ho10; obtain ⟨Ao11, co11, eo11⟩ := Kd.R_slice HO156.out; subst eo11; have p157 : 0 ≤ ((ji5) : Int) := of_decide_eq_true as_; have q157 : (ji5) < (y154.length : Int) := of_decide_eq_true as_; obtain ⟨ad157, e157, hx157_0⟩ := Kd.at_int (Kd.R_reads' HO156.out).2.2 (ji5) p157 q157; cases e157; replace p157 := eq_true p157; replace q157 := eq_true q157))
 go_ret
 exact ⟨by first | rfl | (rw [bne_nil_eq]; rfl) | (simp [bne_nil_eq]; done) | (simp [errW_none, errW_some] <;> rfl) | (simp only [← hji5]; first | rfl | (simp [errW_none, errW_some] <;> rfl)) | (simp [*, errW_none, errW_some] <;> rfl), by repeat (first | (with_reducible first | exact HB.out | apply below_alloc | apply pw_below_drewN | apply below_drew1) | exact HB.out | exact Below.refl _ _)⟩

/-! ### camshaftref01_Name: function 47 -/
def camshaftref01_Name.f (a0 : Int) : Option (ByteArray) := if a0 < 1 then (some (⟨#[]⟩ : ByteArray)) else (if a0 > 12 then (some (⟨#[]⟩ : ByteArray)) else ((some (([(⟨#[65, 68, 68]⟩ : ByteArray), (⟨#[83, 85, 66]⟩ : ByteArray), (⟨#[77, 85, 76]⟩ : ByteArray), (⟨#[68, 73, 86]⟩ : ByteArray), (⟨#[77, 79, 68]⟩ : ByteArray), (⟨#[65, 78, 68]⟩ : ByteArray), (⟨#[79, 82]⟩ : ByteArray), (⟨#[88, 79, 82]⟩ : ByteArray), (⟨#[83, 72, 76]⟩ : ByteArray), (⟨#[83, 72, 82]⟩ : ByteArray), (⟨#[76, 84]⟩ : ByteArray), (⟨#[69, 81]⟩ : ByteArray)] : List ByteArray) : List ByteArray)).bind fun y158 => (if 0 ≤ (wrap64 (a0 - 1)) then (if (wrap64 (a0 - 1)) < (y158.length : Int) then (some (rdOf ByteArray.empty y158 (wrap64 (a0 - 1)))) else (none)) else (none))))
set_option maxHeartbeats 8000000 in
set_option maxRecDepth 100000 in
theorem camshaftref01_Name.calls (a0 : Int) (r : ByteArray) (w : World) (h : camshaftref01_Name.f a0 = some r) :
  Calls Try.prog 47 #[.int .i64 a0] w fun e w' => e = .returned (.string r) ∧ Below w.heap.size w w' := by
 have HB := Aside0.mk (Below.refl w.heap.size w)
 have H : (if a0 < 1 then (some (⟨#[]⟩ : ByteArray)) else (if a0 > 12 then (some (⟨#[]⟩ : ByteArray)) else ((some (([(⟨#[65, 68, 68]⟩ : ByteArray), (⟨#[83, 85, 66]⟩ : ByteArray), (⟨#[77, 85, 76]⟩ : ByteArray), (⟨#[68, 73, 86]⟩ : ByteArray), (⟨#[77, 79, 68]⟩ : ByteArray), (⟨#[65, 78, 68]⟩ : ByteArray), (⟨#[79, 82]⟩ : ByteArray), (⟨#[88, 79, 82]⟩ : ByteArray), (⟨#[83, 72, 76]⟩ : ByteArray), (⟨#[83, 72, 82]⟩ : ByteArray), (⟨#[76, 84]⟩ : ByteArray), (⟨#[69, 81]⟩ : ByteArray)] : List ByteArray) : List ByteArray)).bind fun y158 => (if 0 ≤ (wrap64 (a0 - 1)) then (if (wrap64 (a0 - 1)) < (y158.length : Int) then (some (rdOf ByteArray.empty y158 (wrap64 (a0 - 1)))) else (none)) else (none))))) = some r := h
 clear h
 by_cases c2 : a0 < 1
 ·rw [if_pos c2] at H
  have c2b0 : decide (a0 < 1) = true := decide_eq_true c2
  clear c2
  obtain rfl := Option.some.inj H
  go_enter Try.func47, Try.ntmps47
  go_wp2
  go_ret
  exact ⟨by first | rfl | (simp [errW_none, errW_some] <;> rfl) | (simp [*, errW_none, errW_some] <;> rfl), by repeat (first | (with_reducible first | exact HB.out | apply below_alloc | apply pw_below_drewN | apply below_drew1) | exact HB.out | exact Below.refl _ _)⟩
 rw [if_neg c2] at H
 have c2b0 : decide (a0 < 1) = false := decide_eq_false c2
 clear c2
 by_cases c3 : a0 > 12
 ·rw [if_pos c3] at H
  have c3b0 : decide (12 < a0) = true := decide_eq_true c3
  clear c3
  obtain rfl := Option.some.inj H
  go_enter Try.func47, Try.ntmps47
  go_wp2
  go_ret
  exact ⟨by first | rfl | (simp [errW_none, errW_some] <;> rfl) | (simp [*, errW_none, errW_some] <;> rfl), by repeat (first | (with_reducible first | exact HB.out | apply below_alloc | apply pw_below_drewN | apply below_drew1) | exact HB.out | exact Below.refl _ _)⟩
 rw [if_neg c3] at H
 have c3b0 : decide (12 < a0) = false := decide_eq_false c3
 clear c3
 obtain ⟨y158, hy158⟩ : ∃ y_ : List ByteArray, y_ = (([(⟨#[65, 68, 68]⟩ : ByteArray), (⟨#[83, 85, 66]⟩ : ByteArray), (⟨#[77, 85, 76]⟩ : ByteArray), (⟨#[68, 73, 86]⟩ : ByteArray), (⟨#[77, 79, 68]⟩ : ByteArray), (⟨#[65, 78, 68]⟩ : ByteArray), (⟨#[79, 82]⟩ : ByteArray), (⟨#[88, 79, 82]⟩ : ByteArray), (⟨#[83, 72, 76]⟩ : ByteArray), (⟨#[83, 72, 82]⟩ : ByteArray), (⟨#[76, 84]⟩ : ByteArray), (⟨#[69, 81]⟩ : ByteArray)] : List ByteArray)) := ⟨_, rfl⟩
 replace H : (if 0 ≤ (wrap64 (a0 - 1)) then (if (wrap64 (a0 - 1)) < (y158.length : Int) then (some (rdOf ByteArray.empty y158 (wrap64 (a0 - 1)))) else (none)) else (none)) = some r := by first | (rw [hy158]; with_reducible exact H) | (have H2_ := (Option.bind_some _ _).symm.trans H; rw [hy158]; with_reducible exact H2_) | (have H2_ := (Option.bind_some _ _).symm.trans H; with_reducible exact H2_) | with_reducible exact H | (rw [hy158]; exact H) | exact H
 have Ny158 := Aside0.mk hy158
 clear hy158
 obtain ⟨ji4, hji4⟩ : ∃ j_ : Int, (wrap64 (a0 - 1)) = j_ := ⟨_, rfl⟩
 replace H : (if 0 ≤ (ji4) then (if (ji4) < (y158.length : Int) then (some (rdOf ByteArray.empty y158 (ji4))) else (none)) else (none)) = some r := by first | (rw [hji4] at H; exact H) | (simp only [hji4] at H ⊢; exact H)
 have hji4w : (IntKind.i64.wrap (a0 - 1)) = ji4 := (i64_w _).trans hji4
 by_cases c5 : 0 ≤ (ji4)
 rotate_left
 ·rw [if_neg c5] at H
  exact absurd H (by simp)
 rw [if_pos c5] at H
 have c5b0 : decide (0 ≤ (ji4)) = true := decide_eq_true c5
 clear c5
 by_cases c6 : (ji4) < (y158.length : Int)
 rotate_left
 ·rw [if_neg c6] at H
  exact absurd H (by simp)
 rw [if_pos c6] at H
 have c6b0 : decide ((ji4) < (y158.length : Int)) = true := decide_eq_true c6
 clear c6
 obtain rfl := Option.some.inj H
 go_enter Try.func47, Try.ntmps47
 go_wp2_with (first | ((with_reducible refine gate_dst (N := 9) rfl ?_); refine Kd.R_lit Kd.string _ 9 ?hg (N := 9) ?hd (xs := ([(⟨#[65, 68, 68]⟩ : ByteArray), (⟨#[83, 85, 66]⟩ : ByteArray), (⟨#[77, 85, 76]⟩ : ByteArray), (⟨#[68, 73, 86]⟩ : ByteArray), (⟨#[77, 79, 68]⟩ : ByteArray), (⟨#[65, 78, 68]⟩ : ByteArray), (⟨#[79, 82]⟩ : ByteArray), (⟨#[88, 79, 82]⟩ : ByteArray), (⟨#[83, 72, 76]⟩ : ByteArray), (⟨#[83, 72, 82]⟩ : ByteArray), (⟨#[76, 84]⟩ : ByteArray), (⟨#[69, 81]⟩ : ByteArray)] : List ByteArray)) (inner := [.string (⟨#[65, 68, 68]⟩ : ByteArray), .string (⟨#[83, 85, 66]⟩ : ByteArray), .string (⟨#[77, 85, 76]⟩ : ByteArray), .string (⟨#[68, 73, 86]⟩ : ByteArray), .string (⟨#[77, 79, 68]⟩ : ByteArray), .string (⟨#[65, 78, 68]⟩ : ByteArray), .string (⟨#[79, 82]⟩ : ByteArray), .string (⟨#[88, 79, 82]⟩ : ByteArray), .string (⟨#[83, 72, 76]⟩ : ByteArray), .string (⟨#[83, 72, 82]⟩ : ByteArray), .string (⟨#[76, 84]⟩ : ByteArray), .string (⟨#[69, 81]⟩ : ByteArray)]) (ok := fun _ => True) (okp := fun _ => True) ?hr ?hp (fun _ hk => hk) trivial (Below.refl _ _) (Nat.le_refl _) (by simp) ?_; (case hd => rfl); (case hg => rfl); (case hr => first | (go_simp; done) | (go_simp; rfl)); (case hp => exact (Reps.one (show Kd.M Kd.string _ _ _ (⟨#[65, 68, 68]⟩ : ByteArray) [.string (⟨#[65, 68, 68]⟩ : ByteArray)] from rfl) (Reps.one (show Kd.M Kd.string _ _ _ (⟨#[83, 85, 66]⟩ : ByteArray) [.string (⟨#[83, 85, 66]⟩ : ByteArray)] from rfl) (Reps.one (show Kd.M Kd.string _ _ _ (⟨#[77, 85, 76]⟩ : ByteArray) [.string (⟨#[77, 85, 76]⟩ : ByteArray)] from rfl) (Reps.one (show Kd.M Kd.string _ _ _ (⟨#[68, 73, 86]⟩ : ByteArray) [.string (⟨#[68, 73, 86]⟩ : ByteArray)] from rfl) (Reps.one (show Kd.M Kd.string _ _ _ (⟨#[77, 79, 68]⟩ : ByteArray) [.string (⟨#[77, 79, 68]⟩ : ByteArray)] from rfl) (Reps.one (show Kd.M Kd.string _ _ _ (⟨#[65, 78, 68]⟩ : ByteArray) [.string (⟨#[65, 78, 68]⟩ : ByteArray)] from rfl) (Reps.one (show Kd.M Kd.string _ _ _ (⟨#[79, 82]⟩ : ByteArray) [.string (⟨#[79, 82]⟩ : ByteArray)] from rfl) (Reps.one (show Kd.M Kd.string _ _ _ (⟨#[88, 79, 82]⟩ : ByteArray) [.string (⟨#[88, 79, 82]⟩ : ByteArray)] from rfl) (Reps.one (show Kd.M Kd.string _ _ _ (⟨#[83, 72, 76]⟩ : ByteArray) [.string (⟨#[83, 72, 76]⟩ : ByteArray)] from rfl) (Reps.one (show Kd.M Kd.string _ _ _ (⟨#[83, 72, 82]⟩ : ByteArray) [.string (⟨#[83, 72, 82]⟩ : ByteArray)] from rfl) (Reps.one (show Kd.M Kd.string _ _ _ (⟨#[76, 84]⟩ : ByteArray) [.string (⟨#[76, 84]⟩ : ByteArray)] from rfl) (Reps.one (show Kd.M Kd.string _ _ _ (⟨#[69, 81]⟩ : ByteArray) [.string (⟨#[69, 81]⟩ : ByteArray)] from rfl) (Reps.none _ _)))))))))))))); intro v159 w7 ho8 hb hg_ hnew_; clear hg_ hnew_; (first | rw [← Ny158.out] at ho8 | (simp only [Int.reduceToNat] at ho8; rw [← Ny158.out] at ho8)); have n0_ := Aside0.mk (Kd.R_lower ho8 (below_size ab_)); have n1_ := Aside0.mk (below_step ab_ hb); clear HB; have HO160 := n0_; have HB := n1_; clear n0_ n1_; clear hb ho8; obtain ⟨Ao9, co9, eo9⟩ := Kd.R_slice HO160.out; subst eo9; have p161 : 0 ≤ ((ji4) : Int) := of_decide_eq_true as_; have q161 : (ji4) < (y158.length : Int) := of_decide_eq_true as_; obtain ⟨ad161, e161, hx161_0⟩ := Kd.at_string (Kd.R_reads' HO160.out).2.2 (ji4) p161 q161; cases e161; replace p161 := eq_true p161; replace q161 := eq_true q161))
 go_ret
 exact ⟨by first | rfl | (simp [errW_none, errW_some] <;> rfl) | (simp only [← hji4]; first | rfl | (simp [errW_none, errW_some] <;> rfl)) | (simp [*, errW_none, errW_some] <;> rfl), by repeat (first | (with_reducible first | exact HB.out | apply below_alloc | apply pw_below_drewN | apply below_drew1) | exact HB.out | exact Below.refl _ _)⟩

end Go.Proofs.Ytdhlhbhclggheaa.Q
