/- NestMatches: matches go both ways, from what opens to what closes, behind it; regions that meet stand in one another; for all rows. -/
import Derived.Test.YtljgllcllddcdaaNS
import Derived.Test.YtljgllcllddcdaaPx9
import Derived.Test.YtljgllcllddcdaaPx21
namespace Go.Proofs.Ytljgllcllddcdaa.Pure
open Go.RowKit Go.Proofs.Ytljgllcllddcdaa.P Go.Proofs.Ytljgllcllddcdaa.NL Go.Proofs.YtljgllcllddcdaaW.PrintWords Go.Proofs.YtljgllcllddcdaaW.PrintLast Go.Proofs.YtljgllcllddcdaaW.PrintMore

theorem known_matches {k : Nat} (hk : 60 ≤ k) : camshaftlaw06_known.f k = some true := at_rounds camshaftlaw06_known.mono hk camshaftlaw06_known.run
theorem matches_l1 (l : List Ins) (M : List Int) (hM : MT l M) (hn : l.length ≤ 200) (i : Nat) (hi : i < l.length) (X : Nat) (hX : ∀ k, X ≤ k → camshaftlaw06_NestMatches.l0 k l M ((i + 1 : Nat) : Int) = some true) :
    ∀ (e t k : Nat), t + e = i → X + 2 * e + 4 ≤ k → camshaftlaw06_NestMatches.l1 k l M (i : Int) (opn (gI l i)) (t : Int) = some true := by
  have hLM := hM.1
  have hw : wrap64 ((i : Int) + 1) = ((i + 1 : Nat) : Int) := by unfold wrap64; omega
  intro e
  induction e with
  | zero =>
    intro t k ht hk
    obtain ⟨k, rfl⟩ : ∃ m, k = m + 2 := ⟨k - 2, by omega⟩
    simp only [camshaftlaw06_NestMatches.l1, camshaftlaw06_NestMatches.j5]
    have h := hX k (by omega)
    by_cases ho : opn (gI l i) = true
    · rw [if_pos ho, if_neg (by rw [decide_eq_true_iff]; omega), hw]; exact h
    · rw [if_neg ho, if_neg (by decide), hw]; exact h
  | succ e ih =>
    intro t k ht hk
    obtain ⟨k, rfl⟩ : ∃ m, k = m + 2 := ⟨k - 2, by omega⟩
    simp only [camshaftlaw06_NestMatches.l1, camshaftlaw06_NestMatches.j5]
    by_cases ho : opn (gI l i) = true
    · have next := ih (t + 1) k (by omega) (by omega)
      have hwt : wrap64 ((t : Int) + 1) = ((t + 1 : Nat) : Int) := by clear next hX hM hw ih; unfold wrap64; omega
      rw [if_pos ho, if_pos (by rw [decide_eq_true_iff]; omega), if_pos (by omega), if_pos (by omega), hwt]
      by_cases h1 : rd M (t : Int) > (i : Int)
      · rw [if_pos h1, if_pos (by omega), if_pos (by omega)]
        have hot : opn (gI l t) = true := by
          apply Classical.byContradiction
          intro hn2
          obtain ⟨_, b, c⟩ := hM.2 t (by omega)
          by_cases hc : cls (gI l t) = true
          · obtain ⟨q, e1, e2⟩ := b hc
            have := e2.lt
            omega
          · have := c (Bool.eq_false_iff.2 hn2) (Bool.eq_false_iff.2 hc)
            omega
        obtain ⟨c, _, e1, e2⟩ := (hM.2 t (by omega)).1 hot
        obtain ⟨d, _, e3, e4⟩ := (hM.2 i hi).1 ho
        have := e2.nest e4 (by omega) (by omega)
        rw [if_neg (by omega)]
        exact next
      · rw [if_neg h1]
        exact next
    · have h := hX k (by omega)
      rw [if_neg ho, if_neg (by decide), hw]; exact h
theorem matches_l0 (l : List Ins) (M : List Int) (hM : MT l M) (hn : l.length ≤ 200) : ∀ (d i k : Nat), i + d = l.length → 410 * d + 100 ≤ k → camshaftlaw06_NestMatches.l0 k l M (i : Int) = some true := by
  have hLM := hM.1
  intro d
  induction d with
  | zero =>
    intro i k hi hk
    obtain ⟨k, rfl⟩ : ∃ m, k = m + 1 := ⟨k - 1, by omega⟩
    simp only [camshaftlaw06_NestMatches.l0]
    rw [if_neg (by omega)]
    exact Option.bind_eq_some_iff.2 ⟨_, known_matches (by omega), rfl⟩
  | succ d ih =>
    intro i k hi hk
    obtain ⟨k, rfl⟩ : ∃ m, k = m + 4 := ⟨k - 4, by omega⟩
    have hil : i < l.length := by omega
    have L1 := matches_l1 l M hM hn i hil (410 * d + 100) (fun k hk => ih (i + 1) k (by omega) hk) i 0 k (by omega) (by omega)
    have J3 : camshaftlaw06_NestMatches.j3 (k + 1) l M (i : Int) (opn (gI l i)) false = some true := by
      simp only [camshaftlaw06_NestMatches.j3]
      rw [if_neg (by decide)]
      exact L1
    obtain ⟨m1, m2, m3⟩ := hM.2 i hil
    have J2 : camshaftlaw06_NestMatches.j2 (k + 2) l M (i : Int) (opn (gI l i)) (cls (gI l i)) = some true := by
      simp only [camshaftlaw06_NestMatches.j2]
      rw [if_pos (by omega), if_pos (by omega)]
      by_cases ho : opn (gI l i) = true
      · obtain ⟨c, h1, h2, h3⟩ := m1 ho
        obtain ⟨q, h4, h5⟩ := (hM.2 c h1).2.1 h3.1
        obtain rfl := h3.uniq' h5
        have := h3.lt
        rw [ho] at J3 ⊢
        rw [if_pos rfl, h2, if_neg (by simp), if_neg (by omega), if_pos (by omega), if_pos (by omega), if_pos (by omega), h4, if_pos rfl, show decide ((c : Int) > (i : Int)) = true from decide_eq_true (by omega)]
        exact J3
      · rw [if_neg ho]
        rw [Bool.eq_false_iff.2 ho] at J3 ⊢
        by_cases hc : cls (gI l i) = true
        · obtain ⟨q, h2, h3⟩ := m2 hc
          have hqi := h3.lt
          obtain ⟨c, h1, h4, h5⟩ := (hM.2 q (by omega)).1 h3.opn
          obtain rfl := h3.uniq h5
          rw [hc, h2, if_neg (by simp), if_neg (by omega), if_pos (by omega), if_pos (by omega), if_pos (by omega), h4, if_pos rfl, show decide ((q : Int) > (i : Int)) = false from decide_eq_false (by omega)]
          exact J3
        · rw [Bool.eq_false_iff.2 hc, m3 (Bool.eq_false_iff.2 ho) (Bool.eq_false_iff.2 hc), if_neg (by decide), if_neg (by omega), if_neg (by decide)]
          exact J3
    have J1 : camshaftlaw06_NestMatches.j1 (k + 3) l M (i : Int) (opn (gI l i)) = some true := by
      simp only [camshaftlaw06_NestMatches.j1]
      rw [if_pos (by omega), if_pos (by omega), show rd_T32 l (i : Int) = gI l i from rfl]
      unfold cls at J2
      by_cases h : (gI l i).f0 = 22
      · rw [if_pos h]; rw [h] at J2; exact J2
      · rw [if_neg h]; rw [show ((gI l i).f0 == 22) = false from by rw [beq_eq_false_iff_ne]; exact h, Bool.false_or] at J2; exact J2
    simp only [camshaftlaw06_NestMatches.l0]
    rw [if_pos (by omega), if_pos (by omega), show rd_T32 l (i : Int) = gI l i from rfl]
    unfold opn at J1
    by_cases h : (gI l i).f0 = 21
    · rw [if_pos h]; rw [h] at J1; exact J1
    · rw [if_neg h]; rw [show ((gI l i).f0 == 21) = false from by rw [beq_eq_false_iff_ne]; exact h, Bool.false_or] at J1; exact J1
theorem matches_all (k : Nat) (hk : 100000 ≤ k) (l : List Ins) : camshaftlaw06_NestMatches.f k l = some true := by
  have K := known_matches (k := k) (by omega)
  unfold camshaftlaw06_NestMatches.f
  by_cases h : (l.length : Int) > 200
  · rw [if_pos h]
    exact Option.bind_eq_some_iff.2 ⟨_, K, rfl⟩
  rw [if_neg h]
  obtain ⟨r, e1, e2⟩ := match_eq l (by omega) (k := k) (by omega)
  refine Option.bind_eq_some_iff.2 ⟨_, e1, ?_⟩
  rcases e2 with ⟨_, rfl⟩ | ⟨_, _, rfl⟩ | ⟨_, _, h2, h3⟩
  · rw [if_neg (by decide), if_pos (by simp)]
    exact Option.bind_eq_some_iff.2 ⟨_, K, rfl⟩
  · rw [if_neg (by decide), if_pos (by simp)]
    exact Option.bind_eq_some_iff.2 ⟨_, K, rfl⟩
  · have := h3.1
    rw [if_pos h2, if_pos (by omega)]
    exact matches_l0 l r.1 h3 (by omega) l.length 0 k (by omega) (by omega)
theorem NestMatches : camshaftlaw06_NestMatches.Pure := fun l _ _ => ⟨100000, matches_all 100000 (Nat.le_refl _) l⟩

end Go.Proofs.Ytljgllcllddcdaa.Pure
