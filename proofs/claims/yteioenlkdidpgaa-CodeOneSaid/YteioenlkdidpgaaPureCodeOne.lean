/- CodeOne: two numbers that are not the same have other bytes, none of which begin with the other one's; for all ints. -/
import Derived.Test.YteioenlkdidpgaaCL
import Derived.Test.YteioenlkdidpgaaPx4
import Derived.Test.YteioenlkdidpgaaPx9
namespace Go.Proofs.Yteioenlkdidpgaa.Pure
open Go.RowKit Go.Proofs.Yteioenlkdidpgaa.P Go.Proofs.YteioenlkdidpgaaW.PrintWords Go.Proofs.YteioenlkdidpgaaW.PrintLast Go.Proofs.Yteioenlkdidpgaa.CM Go.Proofs.Yteioenlkdidpgaa.CL

theorem known_one {k : Nat} (hk : 60 ≤ k) : camshaftlaw02_known.f k = some true := at_rounds camshaftlaw02_known.mono hk camshaftlaw02_known.run
/-- The shorter one of two numbers' bytes is the head of the other ones just if the numbers are the same. -/
theorem head_iff {a b : Int} (ha : I64 a) (hb : I64 b) (hl : (encB a).size ≤ (encB b).size) : ((encB b).extract 0 (encB a).size).toList = (encB a).toList ↔ a = b := by
  rw [toList_bl, toList_bl, bl_extract, bl_encB, bl_encB, encB_size, List.drop_zero]
  constructor
  · intro h
    have e : enc (zz a) ++ (enc (zz b)).drop (enc (zz a)).length = enc (zz b) := by
      have := List.take_append_drop (enc (zz a)).length (enc (zz b))
      rwa [h] at this
    have := enc_prefix (zz_lt ha) (zz_lt hb) e
    rw [← unzz_zz a, this, unzz_zz]
  · intro h
    subst h
    simp
theorem CodeOne : camshaftlaw02_CodeOne.Pure := by
  intro a b wa wb
  have ha := I64_of wa
  have hb := I64_of wb
  refine ⟨60, ?_⟩
  unfold camshaftlaw02_CodeOne.f
  rw [put_eq ha (by omega), put_eq hb (by omega)]
  simp only [Option.bind_some]
  have K := known_one (k := 60) (by omega)
  by_cases h1 : (encB a).size ≤ (encB b).size
  · have i1 := head_iff ha hb h1
    rw [if_pos (by omega), if_pos (by omega)]
    by_cases e1 : a = b
    · rw [if_pos (i1.2 e1), if_pos (by simp [e1]), K]
      rfl
    · rw [if_neg (fun h => e1 (i1.1 h))]
      by_cases h2 : (encB b).size ≤ (encB a).size
      · have i2 := head_iff hb ha h2
        have n2 : ¬ ((encB a).extract 0 (encB b).size).toList = (encB b).toList := fun h => e1 (i2.1 h).symm
        rw [if_pos (by omega), if_pos (by omega), if_pos (by rw [beq_eq_false_iff_ne.2 n2, beq_eq_false_iff_ne.2 e1]; rfl), K]
        rfl
      · rw [if_neg (by omega), if_pos (by simp [e1]), K]
        rfl
  · have e1 : ¬ a = b := fun e => h1 (by rw [e]; exact Nat.le_refl _)
    have h2 : (encB b).size ≤ (encB a).size := by omega
    have i2 := head_iff hb ha h2
    have n2 : ¬ ((encB a).extract 0 (encB b).size).toList = (encB b).toList := fun h => e1 (i2.1 h).symm
    rw [if_neg (by omega), if_pos (by omega), if_pos (by omega), if_pos (by rw [beq_eq_false_iff_ne.2 n2, beq_eq_false_iff_ne.2 e1]; rfl), K]
    rfl

end Go.Proofs.Yteioenlkdidpgaa.Pure
