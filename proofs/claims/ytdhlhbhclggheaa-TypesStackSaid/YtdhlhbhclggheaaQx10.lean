-- Written by a program of this session (wip/tools: patched print) for this claim. Not trusted: Lean checks it.
import Derived.Test.YtdhlhbhclggheaaQx0
namespace Go.Proofs.Ytdhlhbhclggheaa.Q
open Go.RowKit Go.Proofs.Ytdhlhbhclggheaa.P Go.Proofs.Ytdhlhbhclggheaa.D Go.Proofs.YtdhlhbhclggheaaW.PrintWords Go.Proofs.YtdhlhbhclggheaaW.PrintLast Go.Proofs.YtdhlhbhclggheaaW.PrintMore
attribute [local go_sem] max2_int min2_int max_two min_two max_three min_three max_four min_four   -- for this text's walks alone
set_option linter.unusedVariables false
set_option linter.unusedSimpArgs false

/-! ### camshaftref07_nexts: function 25 -/
def camshaftref07_nexts.f (l0 : List (S37)) (a1 : Int) : Option (List Int) := if 0 ≤ a1 then (if a1 < (l0.length : Int) then (if ((rd_T37 l0 a1).f0) = 19 then (some (([wrap64 ((wrap64 (a1 + 1)) + ((rd_T37 l0 a1).f1))] : List Int))) else (if ((rd_T37 l0 a1).f0) = 20 then (some (([wrap64 (a1 + 1), wrap64 ((wrap64 (a1 + 1)) + ((rd_T37 l0 a1).f1))] : List Int))) else (if ((rd_T37 l0 a1).f0) = 25 then (some ([] : List Int)) else (some (([wrap64 (a1 + 1)] : List Int)))))) else (none)) else (none)
set_option maxHeartbeats 8000000 in
set_option maxRecDepth 100000 in
theorem camshaftref07_nexts.calls (A0 : Option Addr) (c0 : Nat) (l0 : List (S37)) (a1 : Int) (r : List Int) (w : World) (hr0 : Kd.C k37 w A0 l0.length l0) (hc0 : l0.length ≤ c0) (h : camshaftref07_nexts.f l0 a1 = some r) :
  Calls Try.prog 25 #[.slice A0 l0.length c0, .int .i64 a1] w fun e w' => ∃ v0_ : Value, e = .returned (v0_) ∧ Kd.R (Kd.int .i64) 3 w' w.heap.size (fun _ => True) v0_ r ∧ Below w.heap.size w w' := by
 have HR0 := Aside0.mk hr0
 have HC0 := Aside0.mk hc0
 clear hr0 hc0
 have HB := Aside0.mk (Below.refl w.heap.size w)
 have H : (if 0 ≤ a1 then (if a1 < (l0.length : Int) then (if ((rd_T37 l0 a1).f0) = 19 then (some (([wrap64 ((wrap64 (a1 + 1)) + ((rd_T37 l0 a1).f1))] : List Int))) else (if ((rd_T37 l0 a1).f0) = 20 then (some (([wrap64 (a1 + 1), wrap64 ((wrap64 (a1 + 1)) + ((rd_T37 l0 a1).f1))] : List Int))) else (if ((rd_T37 l0 a1).f0) = 25 then (some ([] : List Int)) else (some (([wrap64 (a1 + 1)] : List Int)))))) else (none)) else (none)) = some r := h
 clear h
 by_cases c3 : 0 ≤ a1
 rotate_left
 ·rw [if_neg c3] at H
  exact absurd H (by simp)
 rw [if_pos c3] at H
 have c3b0 : decide (0 ≤ a1) = true := decide_eq_true c3
 clear c3
 by_cases c4 : a1 < (l0.length : Int)
 rotate_left
 ·rw [if_neg c4] at H
  exact absurd H (by simp)
 rw [if_pos c4] at H
 have c4b0 : decide (a1 < (l0.length : Int)) = true := decide_eq_true c4
 clear c4
 by_cases c5 : ((rd_T37 l0 a1).f0) = 19
 ·rw [if_pos c5] at H
  have c5b0 : (((rd_T37 l0 a1).f0) == 19) = true := beq_iff_eq.mpr c5
  have c5b1 : (((rd_T37 l0 a1).f0) != 19) = false := bne_eq_false_iff_eq.mpr c5
  clear c5
  obtain ⟨y222, hy222⟩ : ∃ y_ : List Int, y_ = (([wrap64 ((wrap64 (a1 + 1)) + ((rd_T37 l0 a1).f1))] : List Int)) := ⟨_, rfl⟩
  replace H : (some y222) = some r := by first | (rw [hy222]; with_reducible exact H) | (have H2_ := (Option.bind_some _ _).symm.trans H; rw [hy222]; with_reducible exact H2_) | (have H2_ := (Option.bind_some _ _).symm.trans H; with_reducible exact H2_) | with_reducible exact H | (rw [hy222]; exact H) | exact H
  have Ny222 := Aside0.mk hy222
  clear hy222
  obtain rfl := Option.some.inj H
  have p220 : 0 ≤ (a1 : Int) := of_decide_eq_true as_
  have q220 : a1 < (l0.length : Int) := of_decide_eq_true as_
  obtain ⟨ad220, e220, hx220_0, hx220_1, hx220_2⟩ := at_T37 HR0.out a1 p220 q220
  cases e220
  replace p220 := eq_true p220
  replace q220 := eq_true q220
  have p221 : 0 ≤ (a1 : Int) := of_decide_eq_true as_
  have q221 : a1 < (l0.length : Int) := of_decide_eq_true as_
  obtain ⟨ad221, e221, hx221_0, hx221_1, hx221_2⟩ := at_T37 HR0.out a1 p221 q221
  obtain rfl : ad220 = ad221 := (by injection e221)
  replace p221 := eq_true p221
  replace q221 := eq_true q221
  go_enter Try.func25, Try.ntmps25
  go_wp2_with (first | ((with_reducible refine gate_dst (N := 20) rfl ?_); refine Kd.R_lit (Kd.int .i64) _ 3 ?hg (N := 20) ?hd (xs := ([wrap64 ((wrap64 (a1 + 1)) + ((rd_T37 l0 a1).f1))] : List Int)) (inner := [.int .i64 (wrap64 ((wrap64 (a1 + 1)) + ((rd_T37 l0 a1).f1)))]) (ok := fun _ => True) (okp := fun _ => True) ?hr ?hp (fun _ hk => hk) trivial (Below.refl _ _) (Nat.le_refl _) (by simp) ?_; (case hd => rfl); (case hg => rfl); (case hr => first | (go_simp; done) | (go_simp; rfl)); (case hp => exact (Reps.one (show Kd.M (Kd.int .i64) _ _ _ (wrap64 ((wrap64 (a1 + 1)) + ((rd_T37 l0 a1).f1))) [.int .i64 (wrap64 ((wrap64 (a1 + 1)) + ((rd_T37 l0 a1).f1)))] from rfl) (Reps.none _ _))); intro v223 w6 ho7 hb hg_ hnew_; clear hg_ hnew_; (first | rw [← Ny222.out] at ho7 | (simp only [Int.reduceToNat] at ho7; rw [← Ny222.out] at ho7)); have n0_ := Aside0.mk (Kd.R_lower ho7 (below_size ab_)); have n1_ := Aside0.mk (below_step ab_ hb); clear HB; have HO224 := n0_; have HB := n1_; clear n0_ n1_; clear hb ho7))
  go_ret
  exact ⟨_, by first | rfl | (simp [errW_none, errW_some] <;> rfl) | (simp [*, errW_none, errW_some] <;> rfl), by (with_reducible repeat (first | apply Kd.R_alloc | apply Kd.R_drewN | apply Kd.R_drew)); exact HO224.out, by repeat (first | (with_reducible first | exact HB.out | apply below_alloc | apply pw_below_drewN | apply below_drew1) | exact HB.out | exact Below.refl _ _)⟩
 rw [if_neg c5] at H
 have c5b0 : (((rd_T37 l0 a1).f0) == 19) = false := beq_eq_false_iff_ne.mpr c5
 have c5b1 : (((rd_T37 l0 a1).f0) != 19) = true := bne_iff_ne.mpr c5
 by_cases c8 : ((rd_T37 l0 a1).f0) = 20
 ·rw [if_pos c8] at H
  have c8b0 : (((rd_T37 l0 a1).f0) == 20) = true := beq_iff_eq.mpr c8
  have c8b1 : (((rd_T37 l0 a1).f0) != 20) = false := bne_eq_false_iff_eq.mpr c8
  clear c8
  obtain ⟨y226, hy226⟩ : ∃ y_ : List Int, y_ = (([wrap64 (a1 + 1), wrap64 ((wrap64 (a1 + 1)) + ((rd_T37 l0 a1).f1))] : List Int)) := ⟨_, rfl⟩
  replace H : (some y226) = some r := by first | (rw [hy226]; with_reducible exact H) | (have H2_ := (Option.bind_some _ _).symm.trans H; rw [hy226]; with_reducible exact H2_) | (have H2_ := (Option.bind_some _ _).symm.trans H; with_reducible exact H2_) | with_reducible exact H | (rw [hy226]; exact H) | exact H
  have Ny226 := Aside0.mk hy226
  clear hy226
  obtain rfl := Option.some.inj H
  have p220 : 0 ≤ (a1 : Int) := of_decide_eq_true as_
  have q220 : a1 < (l0.length : Int) := of_decide_eq_true as_
  obtain ⟨ad220, e220, hx220_0, hx220_1, hx220_2⟩ := at_T37 HR0.out a1 p220 q220
  cases e220
  replace p220 := eq_true p220
  replace q220 := eq_true q220
  have p225 : 0 ≤ (a1 : Int) := of_decide_eq_true as_
  have q225 : a1 < (l0.length : Int) := of_decide_eq_true as_
  obtain ⟨ad225, e225, hx225_0, hx225_1, hx225_2⟩ := at_T37 HR0.out a1 p225 q225
  obtain rfl : ad220 = ad225 := (by injection e225)
  replace p225 := eq_true p225
  replace q225 := eq_true q225
  go_enter Try.func25, Try.ntmps25
  go_wp2_with (first | ((with_reducible refine gate_dst (N := 33) rfl ?_); refine Kd.R_lit (Kd.int .i64) _ 3 ?hg (N := 33) ?hd (xs := ([wrap64 (a1 + 1), wrap64 ((wrap64 (a1 + 1)) + ((rd_T37 l0 a1).f1))] : List Int)) (inner := [.int .i64 (wrap64 (a1 + 1)), .int .i64 (wrap64 ((wrap64 (a1 + 1)) + ((rd_T37 l0 a1).f1)))]) (ok := fun _ => True) (okp := fun _ => True) ?hr ?hp (fun _ hk => hk) trivial (Below.refl _ _) (Nat.le_refl _) (by simp) ?_; (case hd => rfl); (case hg => rfl); (case hr => first | (go_simp; done) | (go_simp; rfl)); (case hp => exact (Reps.one (show Kd.M (Kd.int .i64) _ _ _ (wrap64 (a1 + 1)) [.int .i64 (wrap64 (a1 + 1))] from rfl) (Reps.one (show Kd.M (Kd.int .i64) _ _ _ (wrap64 ((wrap64 (a1 + 1)) + ((rd_T37 l0 a1).f1))) [.int .i64 (wrap64 ((wrap64 (a1 + 1)) + ((rd_T37 l0 a1).f1)))] from rfl) (Reps.none _ _)))); intro v227 w9 ho10 hb hg_ hnew_; clear hg_ hnew_; (first | rw [← Ny226.out] at ho10 | (simp only [Int.reduceToNat] at ho10; rw [← Ny226.out] at ho10)); have n0_ := Aside0.mk (Kd.R_lower ho10 (below_size ab_)); have n1_ := Aside0.mk (below_step ab_ hb); clear HB; have HO228 := n0_; have HB := n1_; clear n0_ n1_; clear hb ho10))
  go_ret
  exact ⟨_, by first | rfl | (simp [errW_none, errW_some] <;> rfl) | (simp [*, errW_none, errW_some] <;> rfl), by (with_reducible repeat (first | apply Kd.R_alloc | apply Kd.R_drewN | apply Kd.R_drew)); exact HO228.out, by repeat (first | (with_reducible first | exact HB.out | apply below_alloc | apply pw_below_drewN | apply below_drew1) | exact HB.out | exact Below.refl _ _)⟩
 rw [if_neg c8] at H
 have c8b0 : (((rd_T37 l0 a1).f0) == 20) = false := beq_eq_false_iff_ne.mpr c8
 have c8b1 : (((rd_T37 l0 a1).f0) != 20) = true := bne_iff_ne.mpr c8
 by_cases c11 : ((rd_T37 l0 a1).f0) = 25
 ·rw [if_pos c11] at H
  have c11b0 : (((rd_T37 l0 a1).f0) == 25) = true := beq_iff_eq.mpr c11
  have c11b1 : (((rd_T37 l0 a1).f0) != 25) = false := bne_eq_false_iff_eq.mpr c11
  clear c11
  obtain rfl := Option.some.inj H
  have p220 : 0 ≤ (a1 : Int) := of_decide_eq_true as_
  have q220 : a1 < (l0.length : Int) := of_decide_eq_true as_
  obtain ⟨ad220, e220, hx220_0, hx220_1, hx220_2⟩ := at_T37 HR0.out a1 p220 q220
  cases e220
  replace p220 := eq_true p220
  replace q220 := eq_true q220
  go_enter Try.func25, Try.ntmps25
  go_wp2
  go_ret
  exact ⟨_, by first | rfl | (simp [errW_none, errW_some] <;> rfl) | (simp [*, errW_none, errW_some] <;> rfl), by first | exact Kd.R_nil _ _ _ _ _ | exact Kd.N_nil _ _ _ _ _ | exact Kd.V_nil _ _ _ _ _ | exact Kd.Q_nil _ _ _ _ _ | exact Kd.S_nil _ _ _ _ _, by repeat (first | (with_reducible first | exact HB.out | apply below_alloc | apply pw_below_drewN | apply below_drew1) | exact HB.out | exact Below.refl _ _)⟩
 rw [if_neg c11] at H
 have c11b0 : (((rd_T37 l0 a1).f0) == 25) = false := beq_eq_false_iff_ne.mpr c11
 have c11b1 : (((rd_T37 l0 a1).f0) != 25) = true := bne_iff_ne.mpr c11
 obtain ⟨y229, hy229⟩ : ∃ y_ : List Int, y_ = (([wrap64 (a1 + 1)] : List Int)) := ⟨_, rfl⟩
 replace H : (some y229) = some r := by first | (rw [hy229]; with_reducible exact H) | (have H2_ := (Option.bind_some _ _).symm.trans H; rw [hy229]; with_reducible exact H2_) | (have H2_ := (Option.bind_some _ _).symm.trans H; with_reducible exact H2_) | with_reducible exact H | (rw [hy229]; exact H) | exact H
 have Ny229 := Aside0.mk hy229
 clear hy229
 obtain rfl := Option.some.inj H
 have p220 : 0 ≤ (a1 : Int) := of_decide_eq_true as_
 have q220 : a1 < (l0.length : Int) := of_decide_eq_true as_
 obtain ⟨ad220, e220, hx220_0, hx220_1, hx220_2⟩ := at_T37 HR0.out a1 p220 q220
 cases e220
 replace p220 := eq_true p220
 replace q220 := eq_true q220
 go_enter Try.func25, Try.ntmps25
 go_wp2_with (first | ((with_reducible refine gate_dst (N := 38) rfl ?_); refine Kd.R_lit (Kd.int .i64) _ 3 ?hg (N := 38) ?hd (xs := ([wrap64 (a1 + 1)] : List Int)) (inner := [.int .i64 (wrap64 (a1 + 1))]) (ok := fun _ => True) (okp := fun _ => True) ?hr ?hp (fun _ hk => hk) trivial (Below.refl _ _) (Nat.le_refl _) (by simp) ?_; (case hd => rfl); (case hg => rfl); (case hr => first | (go_simp; done) | (go_simp; rfl)); (case hp => exact (Reps.one (show Kd.M (Kd.int .i64) _ _ _ (wrap64 (a1 + 1)) [.int .i64 (wrap64 (a1 + 1))] from rfl) (Reps.none _ _))); intro v230 w12 ho13 hb hg_ hnew_; clear hg_ hnew_; (first | rw [← Ny229.out] at ho13 | (simp only [Int.reduceToNat] at ho13; rw [← Ny229.out] at ho13)); have n0_ := Aside0.mk (Kd.R_lower ho13 (below_size ab_)); have n1_ := Aside0.mk (below_step ab_ hb); clear HB; have HO231 := n0_; have HB := n1_; clear n0_ n1_; clear hb ho13))
 go_ret
 exact ⟨_, by first | rfl | (simp [errW_none, errW_some] <;> rfl) | (simp [*, errW_none, errW_some] <;> rfl), by (with_reducible repeat (first | apply Kd.R_alloc | apply Kd.R_drewN | apply Kd.R_drew)); exact HO231.out, by repeat (first | (with_reducible first | exact HB.out | apply below_alloc | apply pw_below_drewN | apply below_drew1) | exact HB.out | exact Below.refl _ _)⟩

end Go.Proofs.Ytdhlhbhclggheaa.Q
