/- Small facts of the table of operations: names are not the same, bounds are small. No conditions beyond those that each lemma states. -/
import Derived.Test.YtnfoebbdmekbiaaOM2
namespace Go.Proofs.Ytnfoebbdmekbiaa.OL
open Go.RowKit Go.Proofs.Ytnfoebbdmekbiaa.C Go.Proofs.Ytnfoebbdmekbiaa.P Go.Proofs.Ytnfoebbdmekbiaa.CM Go.Proofs.Ytnfoebbdmekbiaa.CL Go.Proofs.YtnfoebbdmekbiaaW.PrintWords Go.Proofs.YtnfoebbdmekbiaaW.PrintLast Go.Proofs.YtnfoebbdmekbiaaW.PrintMore

theorem name_ne {a : Int} (h : 1 ≤ a ∧ a ≤ 25) : bl (kindOf a).1 ≠ [] := by
  rcases op_cases h.1 h.2 with rfl | rfl | rfl | rfl | rfl | rfl | rfl | rfl | rfl | rfl | rfl | rfl | rfl | rfl | rfl | rfl | rfl | rfl | rfl | rfl | rfl | rfl | rfl | rfl | rfl <;> decide
theorem name_no {a : Int} (h : ¬ (1 ≤ a ∧ a ≤ 25)) : bl (kindOf a).1 = [] := by rw [kindOf_none (by omega)]; rfl
theorem name_nil (a : Int) : (kindOf a).1.toList = ([] : List UInt8) ↔ ¬ (1 ≤ a ∧ a ≤ 25) := by
  rw [toList_bl]
  exact ⟨fun h h1 => name_ne h1 h, name_no⟩
theorem name_idx {a : Int} (h : 1 ≤ a ∧ a ≤ 25) : ((tab.findIdx fun r => r.1.data.toList == bl (kindOf a).1 : Nat) : Int) = a := by
  rcases op_cases h.1 h.2 with rfl | rfl | rfl | rfl | rfl | rfl | rfl | rfl | rfl | rfl | rfl | rfl | rfl | rfl | rfl | rfl | rfl | rfl | rfl | rfl | rfl | rfl | rfl | rfl | rfl <;> decide
theorem name_inj {a b : Int} (ha : 1 ≤ a ∧ a ≤ 25) : (kindOf a).1.toList = (kindOf b).1.toList ↔ a = b := by
  rw [toList_bl, toList_bl]
  constructor
  · intro h
    by_cases hb : 1 ≤ b ∧ b ≤ 25
    · rw [← name_idx ha, h, name_idx hb]
    · rw [name_no hb] at h
      exact absurd h (name_ne ha)
  · intro h; rw [h]
theorem args_nonneg (a : Int) : 0 ≤ argsOf a ↔ 1 ≤ a ∧ a ≤ 25 := by
  unfold argsOf
  by_cases h1 : 1 ≤ a ∧ a ≤ 25
  · refine ⟨fun _ => h1, fun _ => ?_⟩
    rcases op_cases h1.1 h1.2 with rfl | rfl | rfl | rfl | rfl | rfl | rfl | rfl | rfl | rfl | rfl | rfl | rfl | rfl | rfl | rfl | rfl | rfl | rfl | rfl | rfl | rfl | rfl | rfl | rfl <;> decide
  · rw [kindOf_none (by omega)]
    exact ⟨fun h => by simp at h, fun h => absurd h h1⟩
theorem kind_small {a : Int} (h : 1 ≤ a ∧ a ≤ 25) (h1 : a ≠ 1) : 0 ≤ (kindOf a).2.2.1 ∧ (kindOf a).2.2.2 ≤ 1000 := by
  rcases op_cases h.1 h.2 with rfl | rfl | rfl | rfl | rfl | rfl | rfl | rfl | rfl | rfl | rfl | rfl | rfl | rfl | rfl | rfl | rfl | rfl | rfl | rfl | rfl | rfl | rfl | rfl | rfl <;> first | exact absurd rfl h1 | decide
theorem inB_iff {lo hi n : Int} (h : inB lo hi n = true) : lo ≤ n ∧ n ≤ hi := by
  unfold inB at h
  rw [Bool.and_eq_true, decide_eq_true_eq, decide_eq_true_eq] at h
  exact h
theorem right_small {a b c : Int} (h : rightI a b c = true) (h1 : a ≠ 1) : 0 ≤ b ∧ b ≤ 1000 ∧ 0 ≤ c ∧ c ≤ 1000 := by
  have hr := right_range h
  have hk := kind_small hr h1
  unfold rightI rightK at h
  split at h
  · rw [Bool.and_eq_true, decide_eq_true_eq, decide_eq_true_eq] at h
    omega
  · split at h
    · rw [Bool.and_eq_true, decide_eq_true_eq] at h
      have := inB_iff h.1
      omega
    · split at h
      · rw [Bool.and_eq_true] at h
        have := inB_iff h.1
        have := inB_iff h.2
        omega
      · cases h
theorem enc_two {n : Int} (h : 0 ≤ n ∧ n ≤ 1000) : (enc (zz n)).length ≤ 2 := by
  apply enc_len_le 1
  unfold zz
  rw [if_pos h.1]
  omega
theorem encS_nil {a b c : Int} : (encS a b c).toList = ([] : List UInt8) ↔ ¬ rightI a b c = true := by
  rw [toList_bl]
  unfold encS
  by_cases h : rightI a b c = true
  · rw [if_pos h, bl_ofL]
    exact ⟨fun e => by simp [encI] at e, fun e => absurd h e⟩
  · rw [if_neg h, bl_ofL]
    exact ⟨fun _ => h, fun _ => rfl⟩

end Go.Proofs.Ytnfoebbdmekbiaa.OL
