/- TextShows: any instruction's line, and any instructions' lines, are as the document says. -/
import Derived.Test.YtldbochclabmjaaTR
import Derived.Test.YtldbochclabmjaaPx2
import Derived.Test.YtldbochclabmjaaPx6
namespace Go.Proofs.Ytldbochclabmjaa.Pure
open Go.RowKit Go.Proofs.Ytldbochclabmjaa.C Go.Proofs.Ytldbochclabmjaa.P Go.Proofs.Ytldbochclabmjaa.TL Go.Proofs.YtldbochclabmjaaW.PrintWords Go.Proofs.YtldbochclabmjaaW.PrintLast Go.Proofs.YtldbochclabmjaaW.PrintMore
set_option linter.unusedVariables false
set_option linter.unusedSimpArgs false

theorem known_s {k : Nat} (hk : 60 ≤ k) : camshaftlaw05_known.f k = some true := at_rounds camshaftlaw05_known.mono hk camshaftlaw05_known.run
theorem shows_all (k : Nat) (hk : 500 ≤ k) (l : List Ins) (hw : ∀ x ∈ l, InI x) (a b c : Int) (hb : I64 b) (hc : I64 c) : camshaftlaw05_TextShows.f k l a b c = some true := by
  have K := known_s (k := k) (by omega)
  unfold camshaftlaw05_TextShows.f
  by_cases h0 : (l.length : Int) > 250
  · rw [if_pos h0]
    exact Option.bind_eq_some_iff.2 ⟨_, K, rfl⟩
  rw [if_neg h0]
  refine Option.bind_eq_some_iff.2 ⟨_, line_eq hb hc, ?_⟩
  have hr : camshaftref05_Line.f k a b c = some (ofL (lineL a b c)) := by
    obtain ⟨q, rfl⟩ : ∃ q, k = q + 41 := ⟨k - 41, by omega⟩
    exact rline_eq hb hc q
  refine Option.bind_eq_some_iff.2 ⟨_, hr, ?_⟩
  rw [if_pos rfl]
  refine Option.bind_eq_some_iff.2 ⟨_, show_eq hw (by omega), ?_⟩
  refine Option.bind_eq_some_iff.2 ⟨_, rshow_eq hw (by omega) (by omega), ?_⟩
  rw [if_pos rfl]
  exact Option.bind_eq_some_iff.2 ⟨_, K, rfl⟩
theorem TextShows : camshaftlaw05_TextShows.Pure := fun l a b c _ wl _ wb wc => ⟨500, shows_all 500 (Nat.le_refl _) l (InI_of wl) a b c (I64_of wb) (I64_of wc)⟩

end Go.Proofs.Ytldbochclabmjaa.Pure
