/- TextBack: what is shown is read as it was; what is read is shown as it was; for all rows and texts. -/
import Derived.Test.YtldbochclabmjaaTS
import Derived.Test.YtldbochclabmjaaPx2
import Derived.Test.YtldbochclabmjaaPx11
namespace Go.Proofs.Ytldbochclabmjaa.Pure
open Go.RowKit Go.Proofs.Ytldbochclabmjaa.C Go.Proofs.Ytldbochclabmjaa.P Go.Proofs.Ytldbochclabmjaa.TL Go.Proofs.YtldbochclabmjaaW.PrintWords Go.Proofs.YtldbochclabmjaaW.PrintLast Go.Proofs.YtldbochclabmjaaW.PrintMore
set_option linter.unusedVariables false
set_option linter.unusedSimpArgs false

theorem known_b {k : Nat} (hk : 60 ≤ k) : camshaftlaw05_known.f k = some true := at_rounds camshaftlaw05_known.mono hk camshaftlaw05_known.run
theorem back_j1 (k : Nat) (hk : 400 ≤ k) (l : List Ins) (hw : ∀ x ∈ l, InI x) : camshaftlaw05_TextBack.j1 (k + 1) l (showS l) (parseI (bl (showS l))).1 (parseI (bl (showS l))).2 false = some true := by
  have K := known_b (k := k) (by omega)
  rw [parseI_showS hw]
  simp only [camshaftlaw05_TextBack.j1]
  rw [if_neg (by decide), if_pos (by simp)]
  by_cases h : l.length ≤ 200 ∧ l.all okI = true
  · rw [if_pos h]
    obtain ⟨r, r1, r2⟩ := rsameI_eq l l (by omega) (k := k) (by omega)
    have R : ((camshaftref04_Same.f k l l).bind fun t => (if t = true then ((camshaftlaw05_known.f k).bind fun t => (some t)) else (some false))) = some true := by
      refine Option.bind_eq_some_iff.2 ⟨_, r1, ?_⟩
      rw [if_pos (r2.2 rfl)]
      exact Option.bind_eq_some_iff.2 ⟨_, K, rfl⟩
    by_cases h2 : (showS l).toList = ([] : List UInt8)
    · rw [if_pos h2]
      by_cases h3 : (l.length : Int) = 0
      · rw [if_pos h3]
        exact Option.bind_eq_some_iff.2 ⟨_, K, rfl⟩
      · rw [if_neg h3]
        exact R
    · rw [if_neg h2]
      exact R
  · rw [if_neg h, if_pos (by rw [toList_bl]; exact showS_none h), if_pos (by rfl)]
    exact Option.bind_eq_some_iff.2 ⟨_, K, rfl⟩
theorem back_j0 (k : Nat) (hk : 500 ≤ k) (l : List Ins) (hw : ∀ x ∈ l, InI x) (s : ByteArray) (b : Bool) (hb : b = false → s.size ≤ 3000) : camshaftlaw05_TextBack.j0 (k + 1) l s b = some true := by
  have K := known_b (k := k) (by omega)
  simp only [camshaftlaw05_TextBack.j0]
  by_cases h0 : b = true
  · rw [if_pos h0]
    exact Option.bind_eq_some_iff.2 ⟨_, K, rfl⟩
  rw [if_neg h0]
  have hs := hb (by simpa using h0)
  have J : camshaftlaw05_TextBack.j1 k l (showS l) (parseI (bl (showS l))).1 (parseI (bl (showS l))).2 false = some true := by
    obtain ⟨k, rfl⟩ : ∃ q, k = q + 1 := ⟨k - 1, by omega⟩
    exact back_j1 k (by omega) l hw
  refine Option.bind_eq_some_iff.2 ⟨_, show_eq hw (by omega), ?_⟩
  refine Option.bind_eq_some_iff.2 ⟨_, parse_eq (by have := showS_size l; omega), ?_⟩
  refine Option.bind_eq_some_iff.2 ⟨_, parse_eq (by omega), ?_⟩
  by_cases he : (parseI (bl s)).2 = 0
  · rw [if_pos he]
    obtain ⟨e1, e2, e3, e4⟩ := parseI_ok he
    refine Option.bind_eq_some_iff.2 ⟨_, show_eq e2 (by omega), ?_⟩
    rw [if_pos (by rw [toList_bl, toList_bl, showS_full ⟨e4, e3⟩]; exact e1.symm)]
    exact J
  · rw [if_neg he, parseI_err he]
    exact J
theorem back_all (k : Nat) (hk : 600 ≤ k) (l : List Ins) (hw : ∀ x ∈ l, InI x) (s : ByteArray) : camshaftlaw05_TextBack.f k l s = some true := by
  obtain ⟨k, rfl⟩ : ∃ q, k = q + 1 := ⟨k - 1, by omega⟩
  unfold camshaftlaw05_TextBack.f
  by_cases h0 : (l.length : Int) > 250
  · rw [if_pos h0]
    exact back_j0 k (by omega) l hw s true (fun h => by cases h)
  · rw [if_neg h0]
    exact back_j0 k (by omega) l hw s _ (fun h => by have := of_decide_eq_false h; omega)
theorem TextBack : camshaftlaw05_TextBack.Pure := fun l s _ wl _ => ⟨1000, back_all 1000 (by omega) l (InI_of wl) s⟩

end Go.Proofs.Ytldbochclabmjaa.Pure
