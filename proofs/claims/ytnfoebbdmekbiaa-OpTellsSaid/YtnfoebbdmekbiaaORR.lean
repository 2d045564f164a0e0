/- The reference's Right and Encode are the program's: for every instruction of ints. -/
import Derived.Test.YtnfoebbdmekbiaaOR
import Derived.Test.YtnfoebbdmekbiaaON
import Derived.Test.YtnfoebbdmekbiaaCRP
import Derived.Test.YtnfoebbdmekbiaaPx4
namespace Go.Proofs.Ytnfoebbdmekbiaa.OL
open Go.RowKit Go.Proofs.Ytnfoebbdmekbiaa.C Go.Proofs.Ytnfoebbdmekbiaa.P Go.Proofs.Ytnfoebbdmekbiaa.CM Go.Proofs.Ytnfoebbdmekbiaa.CL Go.Proofs.YtnfoebbdmekbiaaW.PrintWords Go.Proofs.YtnfoebbdmekbiaaW.PrintLast Go.Proofs.YtnfoebbdmekbiaaW.PrintMore

/-- What the reference asks ahead of the last tests. -/
def firstR (a b c : Int) : Bool := decide (argsOf a < 2 ∧ c ≠ 0) || decide (argsOf a < 1 ∧ b ≠ 0)
theorem right_core {a b c : Int} (h : 1 ≤ a ∧ a ≤ 25) (hb : I64 b) : rightI a b c = (!firstR a b c && lastR a b c) := by
  unfold I64 at hb
  rcases op_cases h.1 h.2 with rfl | rfl | rfl | rfl | rfl | rfl | rfl | rfl | rfl | rfl | rfl | rfl | rfl | rfl | rfl | rfl | rfl | rfl | rfl | rfl | rfl | rfl | rfl | rfl | rfl <;>
    (rw [Bool.eq_iff_iff]; simp [rightI, rightK, firstR, argsOf, lastR, inB, kindOf, tab] <;> omega)
theorem rright_eq {a b c : Int} (hb : I64 b) {k : Nat} : camshaftref04_Right.f (k + 4) a b c = some (rightI a b c) := by
  unfold camshaftref04_Right.f
  refine Option.bind_eq_some_iff.2 ⟨_, rname_eq a, ?_⟩
  by_cases h : 1 ≤ a ∧ a ≤ 25
  · rw [if_neg (fun e => (name_nil a).1 e h)]
    refine Option.bind_eq_some_iff.2 ⟨argsOf a, rargs_eq a, ?_⟩
    have core := right_core (c := c) h hb
    have ha := (args_nonneg a).2 h
    by_cases h2 : argsOf a < 2
    · rw [if_pos h2]
      by_cases hc : c = 0
      · rw [if_pos hc]
        refine Option.bind_eq_some_iff.2 ⟨argsOf a, rargs_eq a, ?_⟩
        by_cases h1 : argsOf a < 1
        · rw [if_pos h1]
          by_cases hb0 : b = 0
          · rw [show (b != 0) = false from bne_eq_false_iff_eq.2 hb0, rj0, core, show firstR a b c = false by simp [firstR, hc, hb0]]; rfl
          · rw [show (b != 0) = true from bne_iff_ne.2 hb0, rj0_true, core, show firstR a b c = true by simp [firstR, hb0, h1]]; rfl
        · rw [if_neg h1, rj0, core, show firstR a b c = false by simp [firstR, hc, h1]]; rfl
      · rw [if_neg hc, rj0_true, core, show firstR a b c = true by simp [firstR, hc, h2]]; rfl
    · rw [if_neg h2]
      refine Option.bind_eq_some_iff.2 ⟨argsOf a, rargs_eq a, ?_⟩
      have h1 : ¬ argsOf a < 1 := by omega
      rw [if_neg h1, rj0, core, show firstR a b c = false by simp [firstR, h1, h2]]; rfl
  · rw [if_pos ((name_nil a).2 h), rj0_true]
    congr 1
    symm
    exact Bool.eq_false_iff.2 (fun e => h (right_range e))
theorem rencode_eq {a b c : Int} (hb : I64 b) (hc : I64 c) {k : Nat} (hk : 20 ≤ k) : camshaftref04_Encode.f k a b c = some (encS a b c) := by
  obtain ⟨k, rfl⟩ : ∃ m, k = m + 4 := ⟨k - 4, by omega⟩
  have e1 := encB_le hb
  have e2 := encB_le hc
  unfold camshaftref04_Encode.f
  refine Option.bind_eq_some_iff.2 ⟨_, rright_eq hb, ?_⟩
  by_cases hR : rightI a b c = true
  · have hr := right_range hR
    have s1 : (strOfNums [a % 256]).size = 1 := by rw [bl_size, one_op hr]; rfl
    unfold encS
    rw [if_pos hR, if_pos hR]
    refine Option.bind_eq_some_iff.2 ⟨_, rfl, ?_⟩
    refine Option.bind_eq_some_iff.2 ⟨argsOf a, rargs_eq a, ?_⟩
    rcases right_argsOf hR with h0 | h0 | h0
    · rw [if_neg (by omega)]
      simp only [camshaftref04_Encode.j0]
      refine Option.bind_eq_some_iff.2 ⟨argsOf a, rargs_eq a, ?_⟩
      rw [if_neg (by omega)]
      congr 1
      apply bl_inj
      rw [one_op hr, bl_ofL]
      unfold encI
      rw [if_pos h0, if_neg (by omega)]
      rfl
    · rw [if_pos (by omega)]
      refine Option.bind_eq_some_iff.2 ⟨_, rput_eq hb (by omega), (if_pos (by omega)).trans ?_⟩
      simp only [camshaftref04_Encode.j0]
      refine Option.bind_eq_some_iff.2 ⟨argsOf a, rargs_eq a, ?_⟩
      rw [if_neg (by omega)]
      congr 1
      apply bl_inj
      rw [bl_app, one_op hr, bl_ofL, bl_encB]
      unfold encI
      rw [if_neg (by omega), if_neg (by omega), List.append_nil]
      rfl
    · rw [if_pos (by omega)]
      refine Option.bind_eq_some_iff.2 ⟨_, rput_eq hb (by omega), (if_pos (by omega)).trans ?_⟩
      simp only [camshaftref04_Encode.j0]
      refine Option.bind_eq_some_iff.2 ⟨argsOf a, rargs_eq a, ?_⟩
      rw [if_pos h0]
      refine Option.bind_eq_some_iff.2 ⟨_, rput_eq hc (by omega), (if_pos (by rw [ByteArray.size_append]; omega)).trans ?_⟩
      congr 1
      apply bl_inj
      rw [bl_app, bl_app, one_op hr, bl_ofL, bl_encB, bl_encB]
      unfold encI
      rw [if_neg (by omega), if_pos h0, List.append_assoc]
      rfl
  · unfold encS
    rw [if_neg hR, if_neg hR]
    rfl

end Go.Proofs.Ytnfoebbdmekbiaa.OL
