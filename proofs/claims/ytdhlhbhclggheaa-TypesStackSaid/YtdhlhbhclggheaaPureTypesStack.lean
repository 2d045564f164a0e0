/- TypesStack: the stack ahead of each of any instructions, how deep it gets, or what is wrong, is as the document says; for all rows. -/
import Derived.Test.YtdhlhbhclggheaaTR7
import Derived.Test.YtdhlhbhclggheaaQx1
import Derived.Test.YtdhlhbhclggheaaQx12
namespace Go.Proofs.Ytdhlhbhclggheaa.Pure
open Go.RowKit Go.Proofs.Ytdhlhbhclggheaa.P Go.Proofs.Ytdhlhbhclggheaa.D Go.Proofs.Ytdhlhbhclggheaa.Q Go.Proofs.Ytdhlhbhclggheaa.NL Go.Proofs.YtdhlhbhclggheaaW.PrintWords Go.Proofs.YtdhlhbhclggheaaW.PrintLast Go.Proofs.YtdhlhbhclggheaaW.PrintMore

theorem known_stack {k : Nat} (hk : 60 ≤ k) : camshaftlaw07_known.f k = some true := at_rounds camshaftlaw07_known.mono hk camshaftlaw07_known.run
theorem same_l0 (a : List ByteArray) (hn : a.length ≤ 1000000) : ∀ (d i k : Nat), i + d = a.length → d < k → camshaftref07_Same.l0 k a a (i : Int) = some true := by
  intro d
  induction d with
  | zero =>
    intro i k hi hk
    obtain ⟨k, rfl⟩ : ∃ m, k = m + 1 := ⟨k - 1, by omega⟩
    simp only [camshaftref07_Same.l0]
    rw [if_neg (by omega)]
  | succ d ih =>
    intro i k hi hk
    obtain ⟨k, rfl⟩ : ∃ m, k = m + 1 := ⟨k - 1, by omega⟩
    simp only [camshaftref07_Same.l0]
    rw [if_pos (by omega), if_pos (by omega), if_pos (by omega), if_pos trivial, show wrap64 ((i : Int) + 1) = ((i + 1 : Nat) : Int) from by unfold wrap64; omega]
    exact ih (i + 1) k (by omega) (by omega)
theorem same_self (a : List ByteArray) (hn : a.length ≤ 1000) {k : Nat} (hk : 2000 ≤ k) : camshaftref07_Same.f k a a = some true := by
  unfold camshaftref07_Same.f
  rw [if_pos rfl]
  exact same_l0 a (by omega) a.length 0 k (by omega) (by omega)
theorem deep_same (o : List ByteArray) (hn : o.length ≤ 1000000) (e : Int) : ∀ (d i k : Nat) (a : Int), i + d = o.length → d < k → ∃ r, types_Deep.l0 k e a o (o.length : Int) (i : Int) = some r ∧ camshaftref07_Deep.l0 k o e a (i : Int) = some r := by
  intro d
  induction d with
  | zero =>
    intro i k a hi hk
    obtain ⟨k, rfl⟩ : ∃ m, k = m + 1 := ⟨k - 1, by omega⟩
    simp only [types_Deep.l0, camshaftref07_Deep.l0]
    rw [if_neg (by omega), if_neg (by omega)]
    exact ⟨_, rfl, rfl⟩
  | succ d ih =>
    intro i k a hi hk
    obtain ⟨k, rfl⟩ : ∃ m, k = m + 1 := ⟨k - 1, by omega⟩
    simp only [types_Deep.l0, camshaftref07_Deep.l0]
    rw [if_pos (by omega), if_pos (by omega), if_pos (by omega), if_pos (by omega), if_pos (by omega), show wrap64 ((i : Int) + 1) = ((i + 1 : Nat) : Int) from by unfold wrap64; omega]
    exact ih (i + 1) k _ (by omega) (by omega)
theorem stack_all (k : Nat) (hk : 1000000 ≤ k) (l : List Ins) (hI : In l) : camshaftlaw07_TypesStack.f k l = some true := by
  have K := known_stack (k := k) (by omega)
  unfold camshaftlaw07_TypesStack.f
  by_cases h : (l.length : Int) > 250
  · rw [if_pos h]
    exact Option.bind_eq_some_iff.2 ⟨_, K, rfl⟩
  rw [if_neg h]
  obtain ⟨r, h1, h2, h3, h4⟩ := rstacks_eq hI (by omega) (k := k) (by omega)
  have h1' : types_Stacks.f k l = some r := h1
  have hz : r.1.length ≤ 1000 := by
    by_cases h0 : r.2 = 0
    · have := h4 h0; omega
    · rw [h3 h0]; decide
  obtain ⟨d, d1, d2⟩ := deep_same r.1 (by omega) r.2 r.1.length 0 k 0 (by omega) (by omega)
  have e1 : types_Deep.f k l = some d := Option.bind_eq_some_iff.2 ⟨_, h1', d1⟩
  have e2 : camshaftref07_Deep.f k l = some d := Option.bind_eq_some_iff.2 ⟨_, h2, d2⟩
  refine Option.bind_eq_some_iff.2 ⟨_, h1', ?_⟩
  refine Option.bind_eq_some_iff.2 ⟨_, h2, ?_⟩
  refine Option.bind_eq_some_iff.2 ⟨_, e1, ?_⟩
  refine Option.bind_eq_some_iff.2 ⟨_, e2, ?_⟩
  refine Option.bind_eq_some_iff.2 ⟨_, same_self r.1 hz (by omega), ?_⟩
  rw [if_pos rfl, if_pos rfl, if_pos rfl, if_pos rfl]
  exact Option.bind_eq_some_iff.2 ⟨_, K, rfl⟩
theorem TypesStack : camshaftlaw07_TypesStack.Pure := fun l _ hw => ⟨1000000, stack_all _ (Nat.le_refl _) l fun x hx => by
  have h : IntKind.i64.min ≤ x.f1 ∧ x.f1 ≤ IntKind.i64.max := by simpa [Lit.wf] using (hw x hx).2.1
  exact h⟩
end Go.Proofs.Ytdhlhbhclggheaa.Pure
