/- TypesDeep: what is deepest is as deep as one of the stacks, and none is deeper; a row without anything on the stack has 0; for all rows. -/
import Derived.Test.YtdhlhbhclggheaaTF
import Derived.Test.YtdhlhbhclggheaaPx2
import Derived.Test.YtdhlhbhclggheaaPx14
namespace Go.Proofs.Ytdhlhbhclggheaa.Pure
open Go.RowKit Go.Proofs.Ytdhlhbhclggheaa.P Go.Proofs.Ytdhlhbhclggheaa.NL Go.Proofs.YtdhlhbhclggheaaW.PrintWords Go.Proofs.YtdhlhbhclggheaaW.PrintLast Go.Proofs.YtdhlhbhclggheaaW.PrintMore

theorem known_deep {k : Nat} (hk : 60 ≤ k) : camshaftlaw07_known.f k = some true := at_rounds camshaftlaw07_known.mono hk camshaftlaw07_known.run
/-- No stack is deeper; one is as deep, or nothing has been looked at. -/
def DpAt (o : List ByteArray) (i : Nat) (n : Int) : Prop := (∀ j, j < i → ((o.getD j ByteArray.empty).size : Int) ≤ n) ∧ ((i = 0 ∧ n = 0) ∨ ∃ j, j < i ∧ ((o.getD j ByteArray.empty).size : Int) = n)
theorem deep_l0 (e : Int) (o : List ByteArray) (hn : o.length ≤ 1000000) : ∀ (d i k : Nat) (n : Int), i + d = o.length → d < k → DpAt o i n → ∃ m, types_Deep.l0 k e n o (o.length : Int) (i : Int) = some (m, e) ∧ DpAt o o.length m
  | 0, i, k, n, hi, hk, h => by
    obtain ⟨k, rfl⟩ : ∃ m, k = m + 1 := ⟨k - 1, by omega⟩
    simp only [types_Deep.l0]
    rw [if_neg (by omega)]
    have : i = o.length := by omega
    exact ⟨n, rfl, this ▸ h⟩
  | d + 1, i, k, n, hi, hk, h => by
    obtain ⟨k, rfl⟩ : ∃ m, k = m + 1 := ⟨k - 1, by omega⟩
    simp only [types_Deep.l0]
    rw [if_pos (by omega), if_pos (by omega), if_pos (by omega), show wrap64 ((i : Int) + 1) = ((i + 1 : Nat) : Int) from by unfold wrap64; omega]
    refine deep_l0 e o hn d (i + 1) k _ (by omega) (by omega) ?_
    have he : rdOf ByteArray.empty o (i : Int) = o.getD i ByteArray.empty := by simp [rdOf]
    rw [he]
    obtain ⟨s, hs⟩ : ∃ s : Int, ((o.getD i ByteArray.empty).size : Int) = s := ⟨_, rfl⟩
    rw [hs]
    obtain ⟨h1, h2⟩ := h
    unfold mx
    by_cases hlt : n < s
    · rw [if_pos hlt]
      refine ⟨fun j hj => ?_, .inr ⟨i, by omega, hs⟩⟩
      by_cases ej : j = i
      · rw [ej, hs]; exact Int.le_refl _
      · have := h1 j (by omega); omega
    · rw [if_neg hlt]
      refine ⟨fun j hj => ?_, ?_⟩
      · by_cases ej : j = i
        · rw [ej, hs]; omega
        · exact h1 j (by omega)
      · rcases h2 with ⟨rfl, rfl⟩ | ⟨j, g1, g2⟩
        · exact .inr ⟨0, by omega, by have : 0 ≤ s := by omega
                                      omega⟩
        · exact .inr ⟨j, by omega, g2⟩
theorem law_l0 (o : List ByteArray) (hn : o.length ≤ 1000000) (n : Int) (h16 : n ≤ 16) (hall : ∀ j, j < o.length → ((o.getD j ByteArray.empty).size : Int) ≤ n) (hone : ∃ j, j < o.length ∧ ((o.getD j ByteArray.empty).size : Int) = n) :
    ∀ (d i k : Nat) (b : Bool), i + d = o.length → d + 60 < k → (b = true ∨ ∃ j, i ≤ j ∧ j < o.length ∧ ((o.getD j ByteArray.empty).size : Int) = n) → camshaftlaw07_TypesDeep.l0 k o n 0 b (i : Int) = some true
  | 0, i, k, b, hi, hk, h => by
    obtain ⟨k, rfl⟩ : ∃ m, k = m + 1 := ⟨k - 1, by omega⟩
    have hb : b = true := by
      rcases h with h | ⟨j, h1, h2, _⟩
      · exact h
      · omega
    simp only [camshaftlaw07_TypesDeep.l0]
    rw [if_neg (by omega), if_pos trivial, if_pos hb, if_pos h16, known_deep (by omega)]
    rfl
  | d + 1, i, k, b, hi, hk, h => by
    obtain ⟨k, rfl⟩ : ∃ m, k = m + 1 := ⟨k - 1, by omega⟩
    simp only [camshaftlaw07_TypesDeep.l0]
    have he : rdOf ByteArray.empty o (i : Int) = o.getD i ByteArray.empty := by simp [rdOf]
    rw [if_pos (by omega), if_pos (by omega), he, if_neg (by have := hall i (by omega); omega), show wrap64 ((i : Int) + 1) = ((i + 1 : Nat) : Int) from by unfold wrap64; omega]
    cases b with
    | true =>
      rw [if_pos rfl]
      exact law_l0 o hn n h16 hall hone d (i + 1) k true (by omega) (by omega) (.inl rfl)
    | false =>
      rw [if_neg (by simp)]
      refine law_l0 o hn n h16 hall hone d (i + 1) k _ (by omega) (by omega) ?_
      rcases h with h | ⟨j, h1, h2, h3⟩
      · cases h
      · by_cases ej : j = i
        · subst ej; left; rw [h3]; exact beq_self_eq_true n
        · exact .inr ⟨j, by omega, h2, h3⟩
theorem TypesDeep : camshaftlaw07_TypesDeep.Pure := by
  intro l h24 hwf
  obtain ⟨k, hk⟩ : ∃ k, k = 4 * l.length + 1000 := ⟨_, rfl⟩
  refine ⟨k, ?_⟩
  unfold camshaftlaw07_TypesDeep.f
  by_cases h200 : (l.length : Int) > 200
  · rw [if_pos h200, known_deep (by omega)]; rfl
  rw [if_neg h200]
  obtain ⟨r, hr, h1, h2, _⟩ := stacks_eq (l.map toD) (by rw [List.length_map]; omega) (k := k) (by rw [List.length_map]; omega)
  have hr' : types_Stacks.f k l = some r := hr
  rw [hr', Option.bind_some]
  unfold types_Deep.f
  rw [hr', Option.bind_some]
  by_cases h0 : r.2 = 0
  · obtain ⟨hW, ms, hM, hS⟩ := h2 h0
    have hl : r.1.length = l.length := by rw [hS.len, List.length_map]
    have hl1 := hW.1.1
    rw [List.length_map] at hl1
    obtain ⟨m, hm, hd⟩ := deep_l0 r.2 r.1 (by omega) r.1.length 0 k 0 (by omega) (by omega) ⟨fun j hj => absurd hj (by omega), .inl ⟨rfl, rfl⟩⟩
    rw [show ((0 : Nat) : Int) = 0 from rfl] at hm
    rw [hm, Option.bind_some, if_pos h0]
    dsimp only
    rw [h0]
    obtain ⟨g1, g2⟩ := hd
    have hone : ∃ j, j < r.1.length ∧ ((r.1.getD j ByteArray.empty).size : Int) = m := by
      rcases g2 with ⟨g, _⟩ | g
      · omega
      · exact g
    have h16 : m ≤ 16 := by
      obtain ⟨j, j1, j2⟩ := hone
      have := hS.size j (by rw [List.length_map]; omega)
      rw [← j2]
      exact Int.ofNat_le.2 this
    exact law_l0 r.1 (by omega) m h16 g1 hone r.1.length 0 k false (by omega) (by omega) (.inr (by obtain ⟨j, j1, j2⟩ := hone; exact ⟨j, Nat.zero_le _, j1, j2⟩))
  · rw [h1 h0]
    obtain ⟨m, hm, hd⟩ := deep_l0 r.2 [] (by simp) 0 0 k 0 rfl (by omega) ⟨fun j hj => absurd hj (by omega), .inl ⟨rfl, rfl⟩⟩
    rw [show ((0 : Nat) : Int) = 0 from rfl] at hm
    rw [show (([] : List ByteArray).length : Int) = 0 from rfl] at hm ⊢
    rw [hm, Option.bind_some, if_neg h0]
    dsimp only
    have : m = 0 := by
      rcases hd.2 with ⟨_, g⟩ | ⟨j, g, _⟩
      · exact g
      · simp at g
    rw [if_pos rfl, if_pos this, known_deep (by omega)]
    rfl
end Go.Proofs.Ytdhlhbhclggheaa.Pure
