-- Written by a program of this session (wip/tools: patched print) for this claim. Not trusted: Lean checks it.
import Derived.Test.YtljgllcllddcdaaPx0
import Derived.Test.YtljgllcllddcdaaPx9
namespace Go.Proofs.Ytljgllcllddcdaa.P
open Go.RowKit Go.Proofs.YtljgllcllddcdaaW.PrintWords Go.Proofs.YtljgllcllddcdaaW.PrintLast Go.Proofs.YtljgllcllddcdaaW.PrintMore
attribute [local go_sem] max2_int min2_int max_two min_two max_three min_three max_four min_four   -- for this text's walks alone
set_option linter.unusedVariables false
set_option linter.unusedSimpArgs false

/-! ### camshaftref04_Args: function 36 -/
def camshaftref04_Args.f (a0 : Int) : Option (Int) := (camshaftref04_Name.f a0).bind fun t274 => (if t274.toList = ([] : List UInt8) then (some (-1)) else ((some (([1, 0, 0, 0, 1, 0, 0, 0, 0, 0, 1, 1, 1, 1, 1, 1, 2, 2, 1, 1, 1, 0, 1, 1, 0] : List Int) : List Int)).bind fun y275 => (if 0 ≤ (wrap64 (a0 - 1)) then (if (wrap64 (a0 - 1)) < (y275.length : Int) then (some (rd y275 (wrap64 (a0 - 1)))) else (none)) else (none))))
set_option maxHeartbeats 8000000 in
set_option maxRecDepth 100000 in
theorem camshaftref04_Args.calls (a0 : Int) (r : Int) (w : World) (h : camshaftref04_Args.f a0 = some r) :
  Calls Try.prog 36 #[.int .i64 a0] w fun e w' => e = .returned (.int .i64 r) ∧ Below w.heap.size w w' := by
 have HB := Aside0.mk (Below.refl w.heap.size w)
 have H : ((camshaftref04_Name.f a0).bind fun t274 => (if t274.toList = ([] : List UInt8) then (some (-1)) else ((some (([1, 0, 0, 0, 1, 0, 0, 0, 0, 0, 1, 1, 1, 1, 1, 1, 2, 2, 1, 1, 1, 0, 1, 1, 0] : List Int) : List Int)).bind fun y275 => (if 0 ≤ (wrap64 (a0 - 1)) then (if (wrap64 (a0 - 1)) < (y275.length : Int) then (some (rd y275 (wrap64 (a0 - 1)))) else (none)) else (none))))) = some r := h
 clear h
 replace H := Option.bind_eq_some_iff.mp H
 obtain ⟨t274, A20, H⟩ := H
 replace H : (if t274.toList = ([] : List UInt8) then (some (-1)) else ((some (([1, 0, 0, 0, 1, 0, 0, 0, 0, 0, 1, 1, 1, 1, 1, 1, 2, 2, 1, 1, 1, 0, 1, 1, 0] : List Int) : List Int)).bind fun y275 => (if 0 ≤ (wrap64 (a0 - 1)) then (if (wrap64 (a0 - 1)) < (y275.length : Int) then (some (rd y275 (wrap64 (a0 - 1)))) else (none)) else (none)))) = some r := H
 have A2 := Aside0.mk A20
 clear A20
 by_cases c3 : t274.toList = ([] : List UInt8)
 ·rw [if_pos c3] at H
  have c3b0 : (t274.toList == ([] : List UInt8)) = true := beq_iff_eq.mpr c3
  have c3b1 : (t274.toList != ([] : List UInt8)) = false := bne_eq_false_iff_eq.mpr c3
  clear c3
  obtain rfl := Option.some.inj H
  go_enter Try.func36, Try.ntmps36
  go_wp2_with (first | ((with_reducible refine gate_callee (f := 35) rfl ?_); refine goesL_ (some 4) rfl rfl Try.func35 (by kernel_rfl) rfl #[.int .i64 a0] rfl (by (try simp only [List.map_toArray, List.map_cons, List.map_nil]); first | done | rfl | (simp only [List.length_drop, List.length_take]; rfl)) ?_; (with_reducible refine (camshaftref04_Name.calls a0 t274 _ A2.out).mono ?_); rintro e w4 ⟨rfl, hb⟩; refine ⟨_, rfl, ?_⟩; have n0_ := Aside0.mk (below_step (by repeat (first | (with_reducible first | exact HB.out | apply below_alloc | apply pw_below_drewN | apply below_drew1) | exact HB.out)) hb); clear HB; have HB := n0_; clear n0_; (try clear hb); (try clear hb2); (try clear hk); (try clear hi)))
  go_ret
  exact ⟨by first | rfl | (rw [bne_nil_eq]; rfl) | (simp [bne_nil_eq]; done) | (simp [errW_none, errW_some] <;> rfl) | (simp [*, errW_none, errW_some] <;> rfl), by repeat (first | (with_reducible first | exact HB.out | apply below_alloc | apply pw_below_drewN | apply below_drew1) | exact HB.out | exact Below.refl _ _)⟩
 rw [if_neg c3] at H
 have c3b0 : (t274.toList == ([] : List UInt8)) = false := beq_eq_false_iff_ne.mpr c3
 have c3b1 : (t274.toList != ([] : List UInt8)) = true := bne_iff_ne.mpr c3
 obtain ⟨y275, hy275⟩ : ∃ y_ : List Int, y_ = (([1, 0, 0, 0, 1, 0, 0, 0, 0, 0, 1, 1, 1, 1, 1, 1, 2, 2, 1, 1, 1, 0, 1, 1, 0] : List Int)) := ⟨_, rfl⟩
 replace H : (if 0 ≤ (wrap64 (a0 - 1)) then (if (wrap64 (a0 - 1)) < (y275.length : Int) then (some (rd y275 (wrap64 (a0 - 1)))) else (none)) else (none)) = some r := by first | (rw [hy275]; with_reducible exact H) | (have H2_ := (Option.bind_some _ _).symm.trans H; rw [hy275]; with_reducible exact H2_) | (have H2_ := (Option.bind_some _ _).symm.trans H; with_reducible exact H2_) | with_reducible exact H | (rw [hy275]; exact H) | exact H
 have Ny275 := Aside0.mk hy275
 clear hy275
 obtain ⟨ji5, hji5⟩ : ∃ j_ : Int, (wrap64 (a0 - 1)) = j_ := ⟨_, rfl⟩
 replace H : (if 0 ≤ (ji5) then (if (ji5) < (y275.length : Int) then (some (rd y275 (ji5))) else (none)) else (none)) = some r := by first | (rw [hji5] at H; exact H) | (simp only [hji5] at H ⊢; exact H)
 (try rw [hji5] at A2)
 have hji5w : (IntKind.i64.wrap (a0 - 1)) = ji5 := (i64_w _).trans hji5
 by_cases c6 : 0 ≤ (ji5)
 rotate_left
 ·rw [if_neg c6] at H
  exact absurd H (by simp)
 rw [if_pos c6] at H
 have c6b0 : decide (0 ≤ (ji5)) = true := decide_eq_true c6
 clear c6
 by_cases c7 : (ji5) < (y275.length : Int)
 rotate_left
 ·rw [if_neg c7] at H
  exact absurd H (by simp)
 rw [if_pos c7] at H
 have c7b0 : decide ((ji5) < (y275.length : Int)) = true := decide_eq_true c7
 clear c7
 obtain rfl := Option.some.inj H
 go_enter Try.func36, Try.ntmps36
 go_wp2_with (first | ((with_reducible refine gate_callee (f := 35) rfl ?_); refine goesL_ (some 4) rfl rfl Try.func35 (by kernel_rfl) rfl #[.int .i64 a0] rfl (by (try simp only [List.map_toArray, List.map_cons, List.map_nil]); first | done | rfl | (simp only [List.length_drop, List.length_take]; rfl)) ?_; (with_reducible refine (camshaftref04_Name.calls a0 t274 _ A2.out).mono ?_); rintro e w8 ⟨rfl, hb⟩; refine ⟨_, rfl, ?_⟩; have n0_ := Aside0.mk (below_step (by repeat (first | (with_reducible first | exact HB.out | apply below_alloc | apply pw_below_drewN | apply below_drew1) | exact HB.out)) hb); clear HB; have HB := n0_; clear n0_; (try clear hb); (try clear hb2); (try clear hk); (try clear hi)) | ((with_reducible refine gate_dst (N := 6) rfl ?_); refine Kd.R_lit (Kd.int .i64) _ 3 ?hg (N := 6) ?hd (xs := ([1, 0, 0, 0, 1, 0, 0, 0, 0, 0, 1, 1, 1, 1, 1, 1, 2, 2, 1, 1, 1, 0, 1, 1, 0] : List Int)) (inner := [.int .i64 1, .int .i64 0, .int .i64 0, .int .i64 0, .int .i64 1, .int .i64 0, .int .i64 0, .int .i64 0, .int .i64 0, .int .i64 0, .int .i64 1, .int .i64 1, .int .i64 1, .int .i64 1, .int .i64 1, .int .i64 1, .int .i64 2, .int .i64 2, .int .i64 1, .int .i64 1, .int .i64 1, .int .i64 0, .int .i64 1, .int .i64 1, .int .i64 0]) (ok := fun _ => True) (okp := fun _ => True) ?hr ?hp (fun _ hk => hk) trivial (Below.refl _ _) (Nat.le_refl _) (by simp) ?_; (case hd => rfl); (case hg => rfl); (case hr => first | (go_simp; done) | (go_simp; rfl)); (case hp => exact (Reps.one (show Kd.M (Kd.int .i64) _ _ _ 1 [.int .i64 1] from rfl) (Reps.one (show Kd.M (Kd.int .i64) _ _ _ 0 [.int .i64 0] from rfl) (Reps.one (show Kd.M (Kd.int .i64) _ _ _ 0 [.int .i64 0] from rfl) (Reps.one (show Kd.M (Kd.int .i64) _ _ _ 0 [.int .i64 0] from rfl) (Reps.one (show Kd.M (Kd.int .i64) _ _ _ 1 [.int .i64 1] from rfl) (Reps.one (show Kd.M (Kd.int .i64) _ _ _ 0 [.int .i64 0] from rfl) (Reps.one (show Kd.M (Kd.int .i64) _ _ _ 0 [.int .i64 0] from rfl) (Reps.one (show Kd.M (Kd.int .i64) _ _ _ 0 [.int .i64 0] from rfl) (Reps.one (show Kd.M (Kd.int .i64) _ _ _ 0 [.int .i64 0] from rfl) (Reps.one (show Kd.M (Kd.int .i64) _ _ _ 0 [.int .i64 0] from rfl) (Reps.one (show Kd.M (Kd.int .i64) _ _ _ 1 [.int .i64 1] from rfl) (Reps.one (show Kd.M (Kd.int .i64) _ _ _ 1 [.int .i64 1] from rfl) (Reps.one (show Kd.M (Kd.int .i64) _ _ _ 1 [.int .i64 1] from rfl) (Reps.one (show Kd.M (Kd.int .i64) _ _ _ 1 [.int .i64 1] from rfl) (Reps.one (show Kd.M (Kd.int .i64) _ _ _ 1 [.int .i64 1] from rfl) (Reps.one (show Kd.M (Kd.int .i64) _ _ _ 1 [.int .i64 1] from rfl) (Reps.one (show Kd.M (Kd.int .i64) _ _ _ 2 [.int .i64 2] from rfl) (Reps.one (show Kd.M (Kd.int .i64) _ _ _ 2 [.int .i64 2] from rfl) (Reps.one (show Kd.M (Kd.int .i64) _ _ _ 1 [.int .i64 1] from rfl) (Reps.one (show Kd.M (Kd.int .i64) _ _ _ 1 [.int .i64 1] from rfl) (Reps.one (show Kd.M (Kd.int .i64) _ _ _ 1 [.int .i64 1] from rfl) (Reps.one (show Kd.M (Kd.int .i64) _ _ _ 0 [.int .i64 0] from rfl) (Reps.one (show Kd.M (Kd.int .i64) _ _ _ 1 [.int .i64 1] from rfl) (Reps.one (show Kd.M (Kd.int .i64) _ _ _ 1 [.int .i64 1] from rfl) (Reps.one (show Kd.M (Kd.int .i64) _ _ _ 0 [.int .i64 0] from rfl) (Reps.none _ _))))))))))))))))))))))))))); intro v276 w9 ho10 hb hg_ hnew_; clear hg_ hnew_; (first | rw [← Ny275.out] at ho10 | (simp only [Int.reduceToNat] at ho10; rw [← Ny275.out] at ho10)); have n0_ := Aside0.mk (Kd.R_lower ho10 (below_size (by repeat (first | (with_reducible first | exact HB.out | apply below_alloc | apply pw_below_drewN | apply below_drew1) | exact HB.out)))); have n1_ := Aside0.mk (below_step (by repeat (first | (with_reducible first | exact HB.out | apply below_alloc | apply pw_below_drewN | apply below_drew1) | exact HB.out)) hb); clear HB; have HO277 := n0_; have HB := n1_; clear n0_ n1_; clear hb ho10; obtain ⟨Ao11, co11, eo11⟩ := Kd.R_slice HO277.out; subst eo11; have p278 : 0 ≤ ((ji5) : Int) := of_decide_eq_true (by first | (with_reducible assumption) | assumption); have q278 : (ji5) < (y275.length : Int) := of_decide_eq_true (by first | (with_reducible assumption) | assumption); obtain ⟨ad278, e278, hx278_0⟩ := Kd.at_int (Kd.R_reads' HO277.out).2.2 (ji5) p278 q278; cases e278; replace p278 := eq_true p278; replace q278 := eq_true q278))
 go_ret
 exact ⟨by first | rfl | (rw [bne_nil_eq]; rfl) | (simp [bne_nil_eq]; done) | (simp [errW_none, errW_some] <;> rfl) | (simp only [← hji5]; first | rfl | (simp [errW_none, errW_some] <;> rfl)) | (simp [*, errW_none, errW_some] <;> rfl), by repeat (first | (with_reducible first | exact HB.out | apply below_alloc | apply pw_below_drewN | apply below_drew1) | exact HB.out | exact Below.refl _ _)⟩

/-! ### camshaftref01_Name: function 37 -/
def camshaftref01_Name.f (a0 : Int) : Option (ByteArray) := if a0 < 1 then (some (⟨#[]⟩ : ByteArray)) else (if a0 > 12 then (some (⟨#[]⟩ : ByteArray)) else ((some (([(⟨#[65, 68, 68]⟩ : ByteArray), (⟨#[83, 85, 66]⟩ : ByteArray), (⟨#[77, 85, 76]⟩ : ByteArray), (⟨#[68, 73, 86]⟩ : ByteArray), (⟨#[77, 79, 68]⟩ : ByteArray), (⟨#[65, 78, 68]⟩ : ByteArray), (⟨#[79, 82]⟩ : ByteArray), (⟨#[88, 79, 82]⟩ : ByteArray), (⟨#[83, 72, 76]⟩ : ByteArray), (⟨#[83, 72, 82]⟩ : ByteArray), (⟨#[76, 84]⟩ : ByteArray), (⟨#[69, 81]⟩ : ByteArray)] : List ByteArray) : List ByteArray)).bind fun y279 => (if 0 ≤ (wrap64 (a0 - 1)) then (if (wrap64 (a0 - 1)) < (y279.length : Int) then (some (rdOf ByteArray.empty y279 (wrap64 (a0 - 1)))) else (none)) else (none))))
set_option maxHeartbeats 8000000 in
set_option maxRecDepth 100000 in
theorem camshaftref01_Name.calls (a0 : Int) (r : ByteArray) (w : World) (h : camshaftref01_Name.f a0 = some r) :
  Calls Try.prog 37 #[.int .i64 a0] w fun e w' => e = .returned (.string r) ∧ Below w.heap.size w w' := by
 have HB := Aside0.mk (Below.refl w.heap.size w)
 have H : (if a0 < 1 then (some (⟨#[]⟩ : ByteArray)) else (if a0 > 12 then (some (⟨#[]⟩ : ByteArray)) else ((some (([(⟨#[65, 68, 68]⟩ : ByteArray), (⟨#[83, 85, 66]⟩ : ByteArray), (⟨#[77, 85, 76]⟩ : ByteArray), (⟨#[68, 73, 86]⟩ : ByteArray), (⟨#[77, 79, 68]⟩ : ByteArray), (⟨#[65, 78, 68]⟩ : ByteArray), (⟨#[79, 82]⟩ : ByteArray), (⟨#[88, 79, 82]⟩ : ByteArray), (⟨#[83, 72, 76]⟩ : ByteArray), (⟨#[83, 72, 82]⟩ : ByteArray), (⟨#[76, 84]⟩ : ByteArray), (⟨#[69, 81]⟩ : ByteArray)] : List ByteArray) : List ByteArray)).bind fun y279 => (if 0 ≤ (wrap64 (a0 - 1)) then (if (wrap64 (a0 - 1)) < (y279.length : Int) then (some (rdOf ByteArray.empty y279 (wrap64 (a0 - 1)))) else (none)) else (none))))) = some r := h
 clear h
 by_cases c2 : a0 < 1
 ·rw [if_pos c2] at H
  have c2b0 : decide (a0 < 1) = true := decide_eq_true c2
  clear c2
  obtain rfl := Option.some.inj H
  go_enter Try.func37, Try.ntmps37
  go_wp2
  go_ret
  exact ⟨by first | rfl | (simp [errW_none, errW_some] <;> rfl) | (simp [*, errW_none, errW_some] <;> rfl), by repeat (first | (with_reducible first | exact HB.out | apply below_alloc | apply pw_below_drewN | apply below_drew1) | exact HB.out | exact Below.refl _ _)⟩
 rw [if_neg c2] at H
 have c2b0 : decide (a0 < 1) = false := decide_eq_false c2
 clear c2
 by_cases c3 : a0 > 12
 ·rw [if_pos c3] at H
  have c3b0 : decide (12 < a0) = true := decide_eq_true c3
  clear c3
  obtain rfl := Option.some.inj H
  go_enter Try.func37, Try.ntmps37
  go_wp2
  go_ret
  exact ⟨by first | rfl | (simp [errW_none, errW_some] <;> rfl) | (simp [*, errW_none, errW_some] <;> rfl), by repeat (first | (with_reducible first | exact HB.out | apply below_alloc | apply pw_below_drewN | apply below_drew1) | exact HB.out | exact Below.refl _ _)⟩
 rw [if_neg c3] at H
 have c3b0 : decide (12 < a0) = false := decide_eq_false c3
 clear c3
 obtain ⟨y279, hy279⟩ : ∃ y_ : List ByteArray, y_ = (([(⟨#[65, 68, 68]⟩ : ByteArray), (⟨#[83, 85, 66]⟩ : ByteArray), (⟨#[77, 85, 76]⟩ : ByteArray), (⟨#[68, 73, 86]⟩ : ByteArray), (⟨#[77, 79, 68]⟩ : ByteArray), (⟨#[65, 78, 68]⟩ : ByteArray), (⟨#[79, 82]⟩ : ByteArray), (⟨#[88, 79, 82]⟩ : ByteArray), (⟨#[83, 72, 76]⟩ : ByteArray), (⟨#[83, 72, 82]⟩ : ByteArray), (⟨#[76, 84]⟩ : ByteArray), (⟨#[69, 81]⟩ : ByteArray)] : List ByteArray)) := ⟨_, rfl⟩
 replace H : (if 0 ≤ (wrap64 (a0 - 1)) then (if (wrap64 (a0 - 1)) < (y279.length : Int) then (some (rdOf ByteArray.empty y279 (wrap64 (a0 - 1)))) else (none)) else (none)) = some r := by first | (rw [hy279]; with_reducible exact H) | (have H2_ := (Option.bind_some _ _).symm.trans H; rw [hy279]; with_reducible exact H2_) | (have H2_ := (Option.bind_some _ _).symm.trans H; with_reducible exact H2_) | with_reducible exact H | (rw [hy279]; exact H) | exact H
 have Ny279 := Aside0.mk hy279
 clear hy279
 obtain ⟨ji4, hji4⟩ : ∃ j_ : Int, (wrap64 (a0 - 1)) = j_ := ⟨_, rfl⟩
 replace H : (if 0 ≤ (ji4) then (if (ji4) < (y279.length : Int) then (some (rdOf ByteArray.empty y279 (ji4))) else (none)) else (none)) = some r := by first | (rw [hji4] at H; exact H) | (simp only [hji4] at H ⊢; exact H)
 have hji4w : (IntKind.i64.wrap (a0 - 1)) = ji4 := (i64_w _).trans hji4
 by_cases c5 : 0 ≤ (ji4)
 rotate_left
 ·rw [if_neg c5] at H
  exact absurd H (by simp)
 rw [if_pos c5] at H
 have c5b0 : decide (0 ≤ (ji4)) = true := decide_eq_true c5
 clear c5
 by_cases c6 : (ji4) < (y279.length : Int)
 rotate_left
 ·rw [if_neg c6] at H
  exact absurd H (by simp)
 rw [if_pos c6] at H
 have c6b0 : decide ((ji4) < (y279.length : Int)) = true := decide_eq_true c6
 clear c6
 obtain rfl := Option.some.inj H
 go_enter Try.func37, Try.ntmps37
 go_wp2_with (first | ((with_reducible refine gate_dst (N := 9) rfl ?_); refine Kd.R_lit Kd.string _ 9 ?hg (N := 9) ?hd (xs := ([(⟨#[65, 68, 68]⟩ : ByteArray), (⟨#[83, 85, 66]⟩ : ByteArray), (⟨#[77, 85, 76]⟩ : ByteArray), (⟨#[68, 73, 86]⟩ : ByteArray), (⟨#[77, 79, 68]⟩ : ByteArray), (⟨#[65, 78, 68]⟩ : ByteArray), (⟨#[79, 82]⟩ : ByteArray), (⟨#[88, 79, 82]⟩ : ByteArray), (⟨#[83, 72, 76]⟩ : ByteArray), (⟨#[83, 72, 82]⟩ : ByteArray), (⟨#[76, 84]⟩ : ByteArray), (⟨#[69, 81]⟩ : ByteArray)] : List ByteArray)) (inner := [.string (⟨#[65, 68, 68]⟩ : ByteArray), .string (⟨#[83, 85, 66]⟩ : ByteArray), .string (⟨#[77, 85, 76]⟩ : ByteArray), .string (⟨#[68, 73, 86]⟩ : ByteArray), .string (⟨#[77, 79, 68]⟩ : ByteArray), .string (⟨#[65, 78, 68]⟩ : ByteArray), .string (⟨#[79, 82]⟩ : ByteArray), .string (⟨#[88, 79, 82]⟩ : ByteArray), .string (⟨#[83, 72, 76]⟩ : ByteArray), .string (⟨#[83, 72, 82]⟩ : ByteArray), .string (⟨#[76, 84]⟩ : ByteArray), .string (⟨#[69, 81]⟩ : ByteArray)]) (ok := fun _ => True) (okp := fun _ => True) ?hr ?hp (fun _ hk => hk) trivial (Below.refl _ _) (Nat.le_refl _) (by simp) ?_; (case hd => rfl); (case hg => rfl); (case hr => first | (go_simp; done) | (go_simp; rfl)); (case hp => exact (Reps.one (show Kd.M Kd.string _ _ _ (⟨#[65, 68, 68]⟩ : ByteArray) [.string (⟨#[65, 68, 68]⟩ : ByteArray)] from rfl) (Reps.one (show Kd.M Kd.string _ _ _ (⟨#[83, 85, 66]⟩ : ByteArray) [.string (⟨#[83, 85, 66]⟩ : ByteArray)] from rfl) (Reps.one (show Kd.M Kd.string _ _ _ (⟨#[77, 85, 76]⟩ : ByteArray) [.string (⟨#[77, 85, 76]⟩ : ByteArray)] from rfl) (Reps.one (show Kd.M Kd.string _ _ _ (⟨#[68, 73, 86]⟩ : ByteArray) [.string (⟨#[68, 73, 86]⟩ : ByteArray)] from rfl) (Reps.one (show Kd.M Kd.string _ _ _ (⟨#[77, 79, 68]⟩ : ByteArray) [.string (⟨#[77, 79, 68]⟩ : ByteArray)] from rfl) (Reps.one (show Kd.M Kd.string _ _ _ (⟨#[65, 78, 68]⟩ : ByteArray) [.string (⟨#[65, 78, 68]⟩ : ByteArray)] from rfl) (Reps.one (show Kd.M Kd.string _ _ _ (⟨#[79, 82]⟩ : ByteArray) [.string (⟨#[79, 82]⟩ : ByteArray)] from rfl) (Reps.one (show Kd.M Kd.string _ _ _ (⟨#[88, 79, 82]⟩ : ByteArray) [.string (⟨#[88, 79, 82]⟩ : ByteArray)] from rfl) (Reps.one (show Kd.M Kd.string _ _ _ (⟨#[83, 72, 76]⟩ : ByteArray) [.string (⟨#[83, 72, 76]⟩ : ByteArray)] from rfl) (Reps.one (show Kd.M Kd.string _ _ _ (⟨#[83, 72, 82]⟩ : ByteArray) [.string (⟨#[83, 72, 82]⟩ : ByteArray)] from rfl) (Reps.one (show Kd.M Kd.string _ _ _ (⟨#[76, 84]⟩ : ByteArray) [.string (⟨#[76, 84]⟩ : ByteArray)] from rfl) (Reps.one (show Kd.M Kd.string _ _ _ (⟨#[69, 81]⟩ : ByteArray) [.string (⟨#[69, 81]⟩ : ByteArray)] from rfl) (Reps.none _ _)))))))))))))); intro v280 w7 ho8 hb hg_ hnew_; clear hg_ hnew_; (first | rw [← Ny279.out] at ho8 | (simp only [Int.reduceToNat] at ho8; rw [← Ny279.out] at ho8)); have n0_ := Aside0.mk (Kd.R_lower ho8 (below_size (by repeat (first | (with_reducible first | exact HB.out | apply below_alloc | apply pw_below_drewN | apply below_drew1) | exact HB.out)))); have n1_ := Aside0.mk (below_step (by repeat (first | (with_reducible first | exact HB.out | apply below_alloc | apply pw_below_drewN | apply below_drew1) | exact HB.out)) hb); clear HB; have HO281 := n0_; have HB := n1_; clear n0_ n1_; clear hb ho8; obtain ⟨Ao9, co9, eo9⟩ := Kd.R_slice HO281.out; subst eo9; have p282 : 0 ≤ ((ji4) : Int) := of_decide_eq_true (by first | (with_reducible assumption) | assumption); have q282 : (ji4) < (y279.length : Int) := of_decide_eq_true (by first | (with_reducible assumption) | assumption); obtain ⟨ad282, e282, hx282_0⟩ := Kd.at_string (Kd.R_reads' HO281.out).2.2 (ji4) p282 q282; cases e282; replace p282 := eq_true p282; replace q282 := eq_true q282))
 go_ret
 exact ⟨by first | rfl | (simp [errW_none, errW_some] <;> rfl) | (simp only [← hji4]; first | rfl | (simp [errW_none, errW_some] <;> rfl)) | (simp [*, errW_none, errW_some] <;> rfl), by repeat (first | (with_reducible first | exact HB.out | apply below_alloc | apply pw_below_drewN | apply below_drew1) | exact HB.out | exact Below.refl _ _)⟩

end Go.Proofs.Ytljgllcllddcdaa.P
