/- TextTwice: lines that are read and shown are the same, and read again are the same instructions; a line more that is none spoils all; for all texts. -/
import Derived.Test.YtldbochclabmjaaTS
import Derived.Test.YtldbochclabmjaaPx2
import Derived.Test.YtldbochclabmjaaPx15
namespace Go.Proofs.Ytldbochclabmjaa.Pure
open Go.RowKit Go.Proofs.Ytldbochclabmjaa.C Go.Proofs.Ytldbochclabmjaa.P Go.Proofs.Ytldbochclabmjaa.TL Go.Proofs.YtldbochclabmjaaW.PrintWords Go.Proofs.YtldbochclabmjaaW.PrintLast Go.Proofs.YtldbochclabmjaaW.PrintMore
set_option linter.unusedVariables false
set_option linter.unusedSimpArgs false

theorem known_t {k : Nat} (hk : 60 ≤ k) : camshaftlaw05_known.f k = some true := at_rounds camshaftlaw05_known.mono hk camshaftlaw05_known.run
theorem twice_all (k : Nat) (hk : 400 ≤ k) (s : ByteArray) : camshaftlaw05_TextTwice.f k s = some true := by
  have K := known_t (k := k) (by omega)
  unfold camshaftlaw05_TextTwice.f
  by_cases h0 : (s.size : Int) > 2500
  · rw [if_pos h0]
    exact Option.bind_eq_some_iff.2 ⟨_, K, rfl⟩
  rw [if_neg h0]
  refine Option.bind_eq_some_iff.2 ⟨_, parse_eq (by omega), ?_⟩
  rw [if_pos (by omega)]
  refine Option.bind_eq_some_iff.2 ⟨_, parse_eq (by rw [ByteArray.size_append]; show s.size + 5 ≤ _; omega), ?_⟩
  have hn : (parseI (bl (s ++ (⟨#[78, 79, 78, 69, 10]⟩ : ByteArray)))).2 ≠ 0 := by rw [bl_app]; exact parse_none (bl s)
  generalize parseI (bl (s ++ (⟨#[78, 79, 78, 69, 10]⟩ : ByteArray))) = q at hn
  by_cases he : (parseI (bl s)).2 = 0
  · rw [if_pos he]
    obtain ⟨e1, e2, e3, e4⟩ := parseI_ok he
    refine Option.bind_eq_some_iff.2 ⟨_, show_eq e2 (by omega), ?_⟩
    refine Option.bind_eq_some_iff.2 ⟨_, parse_eq (by have := showS_size (parseI (bl s)).1; omega), ?_⟩
    have hP : parseI (bl (showS (parseI (bl s)).1)) = ((parseI (bl s)).1, 0) := by rw [parseI_showS e2, if_pos ⟨e4, e3⟩]
    rw [hP, if_pos (by rfl)]
    obtain ⟨r, r1, r2⟩ := rsameI_eq (parseI (bl s)).1 (parseI (bl s)).1 (by omega) (k := k) (by omega)
    refine Option.bind_eq_some_iff.2 ⟨_, r1, ?_⟩
    rw [if_pos (r2.2 rfl), if_neg hn]
    exact Option.bind_eq_some_iff.2 ⟨_, K, rfl⟩
  · rw [if_neg he, if_pos (by rw [parseI_err he]; rfl), if_neg hn]
    exact Option.bind_eq_some_iff.2 ⟨_, K, rfl⟩
theorem TextTwice : camshaftlaw05_TextTwice.Pure := fun s _ => ⟨400, twice_all 400 (Nat.le_refl _) s⟩

end Go.Proofs.Ytldbochclabmjaa.Pure
