/- TextReads: any text's number, and any lines' instructions, or what is wrong, is as the document says. -/
import Derived.Test.YtldbochclabmjaaTO
import Derived.Test.YtldbochclabmjaaPx2
import Derived.Test.YtldbochclabmjaaPx10
namespace Go.Proofs.Ytldbochclabmjaa.Pure
open Go.RowKit Go.Proofs.Ytldbochclabmjaa.C Go.Proofs.Ytldbochclabmjaa.P Go.Proofs.Ytldbochclabmjaa.TL Go.Proofs.YtldbochclabmjaaW.PrintWords Go.Proofs.YtldbochclabmjaaW.PrintLast Go.Proofs.YtldbochclabmjaaW.PrintMore
set_option linter.unusedVariables false
set_option linter.unusedSimpArgs false

theorem known_r {k : Nat} (hk : 60 ≤ k) : camshaftlaw05_known.f k = some true := at_rounds camshaftlaw05_known.mono hk camshaftlaw05_known.run
theorem parseI_len (s : List UInt8) : (parseI s).1.length ≤ 200 := by
  by_cases h : (parseI s).2 = 0
  · exact (parseI_ok h).2.2.2
  · rw [parseI_err h]; simp
theorem reads_j0 (k : Nat) (hk : 20000 ≤ k) (s t : ByteArray) (b : Bool) (hb : b = false → s.size ≤ 3000 ∧ t.size ≤ 100) : camshaftlaw05_TextReads.j0 (k + 1) s t b = some true := by
  have K := known_r (k := k) (by omega)
  rw [camshaftlaw05_TextReads.j0]
  by_cases h0 : b = true
  · rw [if_pos h0]
    exact Option.bind_eq_some_iff.2 ⟨_, K, rfl⟩
  rw [if_neg h0]
  obtain ⟨hs, ht⟩ := hb (by simpa using h0)
  refine Option.bind_eq_some_iff.2 ⟨_, parse_eq (by omega), ?_⟩
  refine Option.bind_eq_some_iff.2 ⟨_, rparse_eq s hs hk, ?_⟩
  refine Option.bind_eq_some_iff.2 ⟨_, (if_pos (by omega) : text_Number.f t = some (numberL (bl t))), ?_⟩
  refine Option.bind_eq_some_iff.2 ⟨_, rnumber_eq t (by omega) (by omega), ?_⟩
  have hl := parseI_len (bl s)
  obtain ⟨r, r1, r2⟩ := rsameI_eq (parseI (bl s)).1 (parseI (bl s)).1 (by omega) (k := k) (by omega)
  refine Option.bind_eq_some_iff.2 ⟨_, r1, ?_⟩
  rw [if_pos (r2.2 rfl), if_pos rfl, if_pos (show (numberS t).1 = (numberL (bl t)).1 from rfl), if_pos (show (numberS t).2 = (numberL (bl t)).2 from rfl)]
  exact Option.bind_eq_some_iff.2 ⟨_, K, rfl⟩
theorem reads_all (k : Nat) (hk : 20001 ≤ k) (s t : ByteArray) : camshaftlaw05_TextReads.f k s t = some true := by
  obtain ⟨k, rfl⟩ : ∃ q, k = q + 1 := ⟨k - 1, by omega⟩
  unfold camshaftlaw05_TextReads.f
  by_cases h0 : (s.size : Int) > 3000
  · rw [if_pos h0]
    exact reads_j0 k (by omega) s t true (fun h => by cases h)
  · rw [if_neg h0]
    exact reads_j0 k (by omega) s t _ (fun h => ⟨by omega, by have := of_decide_eq_false h; omega⟩)
theorem TextReads : camshaftlaw05_TextReads.Pure := fun s t _ _ => ⟨20001, reads_all 20001 (Nat.le_refl _) s t⟩

end Go.Proofs.Ytldbochclabmjaa.Pure
