/- NestJumps: in what is whole no jump leads into a region, or out of it; the End stands last; for all rows. -/
import Derived.Test.YtljgllcllddcdaaNW
import Derived.Test.YtljgllcllddcdaaPx9
import Derived.Test.YtljgllcllddcdaaPx22
namespace Go.Proofs.Ytljgllcllddcdaa.Pure
open Go.RowKit Go.Proofs.Ytljgllcllddcdaa.P Go.Proofs.Ytljgllcllddcdaa.NL Go.Proofs.YtljgllcllddcdaaW.PrintWords Go.Proofs.YtljgllcllddcdaaW.PrintLast Go.Proofs.YtljgllcllddcdaaW.PrintMore

theorem known_jumps {k : Nat} (hk : 60 ≤ k) : camshaftlaw06_known.f k = some true := at_rounds camshaftlaw06_known.mono hk camshaftlaw06_known.run
theorem jumps_l1 (l : List Ins) (M : List Int) (hM : MT l M) (hn : l.length ≤ 200) (i t : Nat) (hi : i < l.length) (s : List Nat) (hs : stk l i = some s) (ht : stk l t = some s) (X : Nat) (hX : ∀ k, X ≤ k → camshaftlaw06_NestJumps.l0 k l M ((i + 1 : Nat) : Int) = some true) :
    ∀ (e q k : Nat), q + e = l.length → X + e + 1 ≤ k → camshaftlaw06_NestJumps.l1 k l M (i : Int) (t : Int) (q : Int) = some true := by
  have hLM := hM.1
  have hw : wrap64 ((i : Int) + 1) = ((i + 1 : Nat) : Int) := by unfold wrap64; omega
  intro e
  induction e with
  | zero =>
    intro q k hq hk
    obtain ⟨k, rfl⟩ : ∃ m, k = m + 1 := ⟨k - 1, by omega⟩
    simp only [camshaftlaw06_NestJumps.l1]
    rw [if_neg (by omega), hw]
    exact hX k (by omega)
  | succ e ih =>
    intro q k hq hk
    obtain ⟨k, rfl⟩ : ∃ m, k = m + 1 := ⟨k - 1, by omega⟩
    have next := ih (q + 1) k (by omega) (by omega)
    have hwq : wrap64 ((q : Int) + 1) = ((q + 1 : Nat) : Int) := by clear next hX hM hw ih; unfold wrap64; omega
    have a := hM.mem hs (k := q) (by omega)
    have b := hM.mem ht (k := q) (by omega)
    have c : (q < i ∧ (i : Int) ≤ rd M (q : Int)) ↔ (q < t ∧ (t : Int) ≤ rd M (q : Int)) := a.symm.trans b
    simp only [camshaftlaw06_NestJumps.l1]
    rw [if_pos (by omega), hwq]
    by_cases h1 : (q : Int) < (i : Int)
    · rw [if_pos h1, if_pos (by omega), if_pos (by omega)]
      by_cases h2 : (q : Int) < (t : Int)
      · rw [if_pos h2, show decide (rd M (q : Int) ≥ (i : Int)) = decide (rd M (q : Int) ≥ (t : Int)) from decide_eq_decide.2 (by omega), if_neg (by simp)]
        exact next
      · rw [if_neg h2, show decide (rd M (q : Int) ≥ (i : Int)) = false from decide_eq_false (by omega), if_neg (by decide)]
        exact next
    · rw [if_neg h1]
      by_cases h2 : (q : Int) < (t : Int)
      · rw [if_pos h2, if_pos (by omega), if_pos (by omega), show decide (rd M (q : Int) ≥ (t : Int)) = false from decide_eq_false (by omega), if_neg (by decide)]
        exact next
      · rw [if_neg h2, if_neg (by decide)]
        exact next
theorem jumps_l0 (l : List Ins) (M : List Int) (hM : MT l M) (hW : W l) : ∀ (d i k : Nat), i + d = l.length → 210 * d + 100 ≤ k → camshaftlaw06_NestJumps.l0 k l M (i : Int) = some true := by
  obtain ⟨hR, _, hE, hJ⟩ := hW
  have hn := hR.2.1
  have h1 := hR.1
  intro d
  induction d with
  | zero =>
    intro i k hi hk
    obtain ⟨k, rfl⟩ : ∃ m, k = m + 1 := ⟨k - 1, by omega⟩
    simp only [camshaftlaw06_NestJumps.l0]
    obtain ⟨n, hn2⟩ : ∃ n, l.length = n + 1 := ⟨l.length - 1, by omega⟩
    have hwn : wrap64 ((l.length : Int) - 1) = (n : Int) := by rw [hn2]; clear hM hE hJ; unfold wrap64; omega
    have hlast : (gI l n).f0 = 25 := (hE n (by omega)).2 hn2.symm
    rw [if_neg (by omega), hwn, if_pos (by omega), if_pos (by omega), if_pos (show (rd_T32 l (n : Int)).f0 = 25 from hlast)]
    exact Option.bind_eq_some_iff.2 ⟨_, known_jumps (by omega), rfl⟩
  | succ d ih =>
    intro i k hi hk
    obtain ⟨k, rfl⟩ : ∃ m, k = m + 2 := ⟨k - 2, by omega⟩
    have hil : i < l.length := by omega
    have hw : wrap64 ((i : Int) + 1) = ((i + 1 : Nat) : Int) := by clear hM hE hJ; unfold wrap64; omega
    simp only [camshaftlaw06_NestJumps.l0]
    rw [if_pos (by omega), if_pos (by omega), show rd_T32 l (i : Int) = gI l i from rfl]
    by_cases hj : (gI l i).f0 = 19 ∨ (gI l i).f0 = 20
    · obtain ⟨t, t1, t2, s, s1, s2⟩ := hJ i hil hj
      have hx := (ok_args (hR.at hil)).2.2.2.2.1 hj
      have L1 := jumps_l1 l M hM hn i t hil s s1 s2 (210 * d + 100) (fun k hk => ih (i + 1) k (by omega) hk) l.length 0 k (by omega) (by omega)
      have J3 : camshaftlaw06_NestJumps.j3 (k + 1) l M (i : Int) false = some true := by
        simp only [camshaftlaw06_NestJumps.j3]
        rw [if_neg (by decide), if_pos (by omega), if_pos (by omega), show rd_T32 l (i : Int) = gI l i from rfl, show wrap64 (wrap64 ((i : Int) + 1) + (gI l i).f1) = (t : Int) from by rw [hw]; clear hM hE hJ ih L1; unfold wrap64; omega, if_neg (by omega)]
        exact L1
      by_cases h : (gI l i).f0 = 19
      · rw [if_pos h]; exact J3
      · rw [if_neg h, show ((gI l i).f0 != 20) = false from by rw [hj.resolve_left h]; rfl]; exact J3
    · rw [if_neg (fun h => hj (.inl h)), show ((gI l i).f0 != 20) = true from by rw [bne_iff_ne]; exact fun h => hj (.inr h)]
      simp only [camshaftlaw06_NestJumps.j3]
      rw [if_pos trivial, hw]
      exact ih (i + 1) k (by omega) (by omega)
theorem jumps_all (k : Nat) (hk : 100000 ≤ k) (l : List Ins) : camshaftlaw06_NestJumps.f k l = some true := by
  obtain ⟨k, rfl⟩ : ∃ q, k = q + 2 := ⟨k - 2, by omega⟩
  have K := known_jumps (k := k + 1) (by omega)
  have J : camshaftlaw06_NestJumps.j0 (k + 2) l true = some true := by
    simp only [camshaftlaw06_NestJumps.j0]
    rw [if_pos trivial]
    exact Option.bind_eq_some_iff.2 ⟨_, K, rfl⟩
  unfold camshaftlaw06_NestJumps.f
  by_cases h : (l.length : Int) > 200
  · rw [if_pos h]; exact J
  rw [if_neg h]
  obtain ⟨e, e1, e2⟩ := whole_eq l (by omega) (k := k + 2) (by omega)
  refine Option.bind_eq_some_iff.2 ⟨_, e1, ?_⟩
  by_cases h0 : e = 0
  · have hW := e2.zero.1 h0
    obtain ⟨r, f1, f2⟩ := match_eq l (by omega) (k := k + 1) (by omega)
    rcases f2 with ⟨g1, _⟩ | ⟨_, g1, _⟩ | ⟨_, _, g3, g4⟩
    · exact absurd hW.1 g1
    · exact absurd hW.2.1 g1
    · rw [h0]
      simp only [camshaftlaw06_NestJumps.j0]
      rw [if_neg (by decide)]
      refine Option.bind_eq_some_iff.2 ⟨_, f1, ?_⟩
      rw [if_pos g3, show ((r.1.length : Int) != (l.length : Int)) = false from by rw [g4.1]; simp]
      simp only [camshaftlaw06_NestJumps.j1]
      rw [if_neg (by decide)]
      exact jumps_l0 l r.1 g4 hW l.length 0 k (by omega) (by omega)
  · rw [show (e != 0) = true from by rw [bne_iff_ne]; exact h0]
    exact J
theorem NestJumps : camshaftlaw06_NestJumps.Pure := fun l _ _ => ⟨100000, jumps_all 100000 (Nat.le_refl _) l⟩

end Go.Proofs.Ytljgllcllddcdaa.Pure
