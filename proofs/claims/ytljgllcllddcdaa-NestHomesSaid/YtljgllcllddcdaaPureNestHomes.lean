/- NestHomes: a home is ahead of what stands in it, and what closes it is not; what stands nowhere has the home -1; for all rows. -/
import Derived.Test.YtljgllcllddcdaaNS
import Derived.Test.YtljgllcllddcdaaPx9
import Derived.Test.YtljgllcllddcdaaPx24
namespace Go.Proofs.Ytljgllcllddcdaa.Pure
open Go.RowKit Go.Proofs.Ytljgllcllddcdaa.P Go.Proofs.Ytljgllcllddcdaa.NL Go.Proofs.YtljgllcllddcdaaW.PrintWords Go.Proofs.YtljgllcllddcdaaW.PrintLast Go.Proofs.YtljgllcllddcdaaW.PrintMore

theorem known_homes {k : Nat} (hk : 60 ≤ k) : camshaftlaw06_known.f k = some true := at_rounds camshaftlaw06_known.mono hk camshaftlaw06_known.run
theorem homes_l1 (l : List Ins) (M H : List Int) (hM : MT l M) (hH : HT l H) (hn : l.length ≤ 200) (i : Nat) (hi : i < l.length) (X : Nat) (hX : ∀ k, X ≤ k → camshaftlaw06_NestHomes.l0 k l H M ((i + 1 : Nat) : Int) = some true) :
    ∀ (e t k : Nat), t + e = i → X + e + 1 ≤ k → camshaftlaw06_NestHomes.l1 k l H M (i : Int) (t : Int) = some true := by
  have hLM := hM.1
  have hLH := hH.1
  have hw : wrap64 ((i : Int) + 1) = ((i + 1 : Nat) : Int) := by unfold wrap64; omega
  intro e
  induction e with
  | zero =>
    intro t k ht hk
    obtain ⟨k, rfl⟩ : ∃ m, k = m + 1 := ⟨k - 1, by omega⟩
    simp only [camshaftlaw06_NestHomes.l1]
    rw [if_neg (by omega), hw]
    exact hX k (by omega)
  | succ e ih =>
    intro t k ht hk
    obtain ⟨k, rfl⟩ : ∃ m, k = m + 1 := ⟨k - 1, by omega⟩
    simp only [camshaftlaw06_NestHomes.l1]
    have next := ih (t + 1) k (by omega) (by omega)
    have hwt : wrap64 ((t : Int) + 1) = ((t + 1 : Nat) : Int) := by clear next hX hM hw ih; unfold wrap64; omega
    rw [if_pos (by omega), if_pos (by omega), if_pos (by omega), hwt]
    by_cases h1 : rd M (t : Int) ≥ (i : Int)
    · obtain ⟨s, a1, a2⟩ := hH.2 i hi
      have hm : t ∈ s := (hM.mem a1 (by omega)).2 ⟨by omega, h1⟩
      have hle : (t : Int) ≤ rd H (i : Int) := by
        rw [a2]
        cases s with
        | nil => cases hm
        | cons q r =>
          show (t : Int) ≤ (q : Int)
          rcases List.mem_cons.1 hm with rfl | hm
          · exact Int.le_refl _
          · have := (stk_dec a1).2.mem hm
            omega
      rw [if_pos h1, if_pos (by omega), if_pos (by omega), if_neg (by omega)]
      exact next
    · rw [if_neg h1]
      exact next
theorem homes_l0 (l : List Ins) (M H : List Int) (hM : MT l M) (hH : HT l H) (hn : l.length ≤ 200) : ∀ (d i k : Nat), i + d = l.length → 210 * d + 100 ≤ k → camshaftlaw06_NestHomes.l0 k l H M (i : Int) = some true := by
  have hLM := hM.1
  have hLH := hH.1
  intro d
  induction d with
  | zero =>
    intro i k hi hk
    obtain ⟨k, rfl⟩ : ∃ m, k = m + 1 := ⟨k - 1, by omega⟩
    simp only [camshaftlaw06_NestHomes.l0]
    rw [if_neg (by omega)]
    exact Option.bind_eq_some_iff.2 ⟨_, known_homes (by omega), rfl⟩
  | succ d ih =>
    intro i k hi hk
    obtain ⟨k, rfl⟩ : ∃ m, k = m + 2 := ⟨k - 2, by omega⟩
    have hil : i < l.length := by omega
    have L1 := homes_l1 l M H hM hH hn i hil (210 * d + 100) (fun k hk => ih (i + 1) k (by omega) hk) i 0 k (by omega) (by omega)
    have J3 : camshaftlaw06_NestHomes.j3 (k + 1) l H M (i : Int) false = some true := by
      simp only [camshaftlaw06_NestHomes.j3]
      rw [if_neg (by decide)]
      exact L1
    obtain ⟨s, a1, a2⟩ := hH.2 i hil
    have hr := hd_lt a1
    simp only [camshaftlaw06_NestHomes.l0]
    rw [if_pos (by omega), if_pos (by omega), if_pos (by omega), a2, if_neg (by omega), if_neg (by omega)]
    cases s with
    | nil =>
      rw [if_neg (show ¬ hd [] ≥ 0 by decide)]
      exact J3
    | cons q r =>
      have hq : q < i := (stk_dec a1).1
      have hm := ((hM.mem a1 (k := q) (by omega)).1 (List.mem_cons_self ..)).2
      rw [show hd (q :: r) = (q : Int) from rfl, if_pos (by omega), if_pos (by omega), if_pos (by omega), show decide (rd M (q : Int) < (i : Int)) = false from decide_eq_false (by omega)]
      exact J3
theorem homes_all (k : Nat) (hk : 100000 ≤ k) (l : List Ins) : camshaftlaw06_NestHomes.f k l = some true := by
  have K := known_homes (k := k) (by omega)
  unfold camshaftlaw06_NestHomes.f
  by_cases h : (l.length : Int) > 200
  · rw [if_pos h]
    exact Option.bind_eq_some_iff.2 ⟨_, K, rfl⟩
  rw [if_neg h]
  obtain ⟨r, e1, e2⟩ := home_eq l (by omega) (k := k) (by omega)
  obtain ⟨m, f1, f2⟩ := match_eq l (by omega) (k := k) (by omega)
  refine Option.bind_eq_some_iff.2 ⟨_, e1, ?_⟩
  refine Option.bind_eq_some_iff.2 ⟨_, f1, ?_⟩
  obtain ⟨k, rfl⟩ : ∃ q, k = q + 2 := ⟨k - 2, by omega⟩
  have K := known_homes (k := k + 1) (by omega)
  rcases e2 with ⟨h1, rfl⟩ | ⟨h1, h2, rfl⟩ | ⟨h1, h2, h3, h4⟩
  · rcases f2 with ⟨_, rfl⟩ | ⟨g1, _⟩ | ⟨g1, _⟩
    · rw [if_neg (by decide)]
      simp only [camshaftlaw06_NestHomes.j0]
      rw [if_pos trivial, if_pos trivial, if_pos (by simp)]
      exact Option.bind_eq_some_iff.2 ⟨_, K, rfl⟩
    · exact absurd g1 h1
    · exact absurd g1 h1
  · rcases f2 with ⟨g1, _⟩ | ⟨_, _, rfl⟩ | ⟨_, g1, _⟩
    · exact absurd h1 g1
    · rw [if_neg (by decide)]
      simp only [camshaftlaw06_NestHomes.j0]
      rw [if_pos trivial, if_pos trivial, if_pos (by simp)]
      exact Option.bind_eq_some_iff.2 ⟨_, K, rfl⟩
    · exact absurd g1 h2
  · rcases f2 with ⟨g1, _⟩ | ⟨_, g1, _⟩ | ⟨_, _, g3, g4⟩
    · exact absurd h1 g1
    · exact absurd h2 g1
    · have hl1 := h4.1
      have hl2 := g4.1
      rw [if_pos h3, g3]
      simp only [camshaftlaw06_NestHomes.j0, camshaftlaw06_NestHomes.j1]
      rw [if_neg (by decide), if_pos (by omega), show ((m.1.length : Int) != (l.length : Int)) = false from by rw [hl2]; simp, if_neg (by decide)]
      exact homes_l0 l m.1 r.1 g4 h4 (by omega) l.length 0 k (by omega) (by omega)
theorem NestHomes : camshaftlaw06_NestHomes.Pure := fun l _ _ => ⟨100000, homes_all 100000 (Nat.le_refl _) l⟩

end Go.Proofs.Ytljgllcllddcdaa.Pure
