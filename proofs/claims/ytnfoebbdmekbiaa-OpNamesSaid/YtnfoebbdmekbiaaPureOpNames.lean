/- OpNames: each operation has a name, and no two have the same; what has no name is none of an instruction's; for all ints and instructions. -/
import Derived.Test.YtnfoebbdmekbiaaON
import Derived.Test.YtnfoebbdmekbiaaPx6
import Derived.Test.YtnfoebbdmekbiaaPx14
namespace Go.Proofs.Ytnfoebbdmekbiaa.Pure
open Go.RowKit Go.Proofs.Ytnfoebbdmekbiaa.C Go.Proofs.Ytnfoebbdmekbiaa.P Go.Proofs.Ytnfoebbdmekbiaa.CM Go.Proofs.Ytnfoebbdmekbiaa.CL Go.Proofs.Ytnfoebbdmekbiaa.OL Go.Proofs.YtnfoebbdmekbiaaW.PrintWords Go.Proofs.YtnfoebbdmekbiaaW.PrintLast Go.Proofs.YtnfoebbdmekbiaaW.PrintMore

theorem known_names {k : Nat} (hk : 60 ≤ k) : camshaftlaw04_known.f k = some true := at_rounds camshaftlaw04_known.mono hk camshaftlaw04_known.run
theorem names_j0 (k : Nat) (hk : 60 ≤ k) (a b i0 i1 i2 : Int) (x : Bool) (hx : x = decide (1 ≤ a ∧ a ≤ 25)) : camshaftlaw04_OpNames.j0 (k + 1) a b (kindOf a).1 (kindOf b).1 x i0 i1 i2 = some true := by
  have K := known_names hk
  have KK : ((camshaftlaw04_known.f k).bind fun t => (some t)) = some true := by rw [K]; rfl
  have tail : ((op_Name.f i0).bind fun t308 => (if t308.toList = ([] : List UInt8) then ((op_Right.f i0 i1 i2).bind fun t309 => (if t309 = true then (some false) else ((camshaftlaw04_known.f k).bind fun t310 => (some t310)))) else ((camshaftlaw04_known.f k).bind fun t311 => (some t311)))) = some true := by
    refine Option.bind_eq_some_iff.2 ⟨_, rfl, ?_⟩
    by_cases h : (kindOf i0).1.toList = ([] : List UInt8)
    · rw [if_pos h]
      refine Option.bind_eq_some_iff.2 ⟨_, rfl, ?_⟩
      rw [if_neg]
      · exact KK
      · intro hr
        exact (name_nil i0).1 h (right_range hr)
    · rw [if_neg h]
      exact KK
  simp only [camshaftlaw04_OpNames.j0]
  have hn := name_nil a
  have ha := args_nonneg a
  unfold argsOf at ha
  by_cases hr : 1 ≤ a ∧ a ≤ 25
  · have hx1 : x = true := by rw [hx]; exact decide_eq_true hr
    have hne : ¬ (kindOf a).1.toList = ([] : List UInt8) := fun h => hn.1 h hr
    rw [hx1, if_pos (by rw [show ((kindOf a).1.toList != ([] : List UInt8)) = true from bne_iff_ne.2 hne]; rfl)]
    refine Option.bind_eq_some_iff.2 ⟨_, rfl, ?_⟩
    rw [if_pos (by rw [show decide ((kindOf a).2.1 ≥ 0) = true from decide_eq_true (ha.2 hr)]; rfl), if_neg hne, if_pos]
    · exact tail
    · by_cases e : a = b
      · rw [show ((kindOf a).1.toList == (kindOf b).1.toList) = true from beq_iff_eq.2 ((name_inj hr).2 e), show (a == b) = true from beq_iff_eq.2 e]; rfl
      · rw [show ((kindOf a).1.toList == (kindOf b).1.toList) = false from beq_eq_false_iff_ne.2 (fun h => e ((name_inj hr).1 h)), show (a == b) = false from beq_eq_false_iff_ne.2 e]; rfl
  · have hx1 : x = false := by rw [hx]; exact decide_eq_false hr
    have hne : (kindOf a).1.toList = ([] : List UInt8) := hn.2 hr
    rw [hx1, if_pos (by rw [hne]; rfl)]
    refine Option.bind_eq_some_iff.2 ⟨_, rfl, ?_⟩
    rw [if_pos (by rw [show decide ((kindOf a).2.1 ≥ 0) = false from decide_eq_false (fun h => hr (ha.1 h))]; rfl), if_pos hne]
    exact tail
theorem names_all (k : Nat) (hk : 60 ≤ k) (a b i0 i1 i2 : Int) : camshaftlaw04_OpNames.f (k + 1) a b i0 i1 i2 = some true := by
  unfold camshaftlaw04_OpNames.f
  refine Option.bind_eq_some_iff.2 ⟨_, rfl, ?_⟩
  refine Option.bind_eq_some_iff.2 ⟨_, rfl, ?_⟩
  by_cases h : a ≥ 1
  · rw [if_pos h]
    exact names_j0 k hk a b i0 i1 i2 _ (by simp; omega)
  · rw [if_neg h]
    exact names_j0 k hk a b i0 i1 i2 _ (by symm; exact decide_eq_false (fun h1 => h h1.1))
theorem OpNames : camshaftlaw04_OpNames.Pure := fun a b i0 i1 i2 _ _ _ _ _ => ⟨60 + 1, names_all 60 (Nat.le_refl _) a b i0 i1 i2⟩

end Go.Proofs.Ytnfoebbdmekbiaa.Pure
