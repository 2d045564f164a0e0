/- NestTells: of any instructions what opens and closes regions, in which each one stands, which blocks are locked, and what is wrong, is as the document says; for all rows. -/
import Derived.Test.YtljgllcllddcdaaNR2
import Derived.Test.YtljgllcllddcdaaPx9
import Derived.Test.YtljgllcllddcdaaPx20
namespace Go.Proofs.Ytljgllcllddcdaa.Pure
open Go.RowKit Go.Proofs.Ytljgllcllddcdaa.P Go.Proofs.Ytljgllcllddcdaa.NL Go.Proofs.YtljgllcllddcdaaW.PrintWords Go.Proofs.YtljgllcllddcdaaW.PrintLast Go.Proofs.YtljgllcllddcdaaW.PrintMore

theorem known_tells {k : Nat} (hk : 60 ≤ k) : camshaftlaw06_known.f k = some true := at_rounds camshaftlaw06_known.mono hk camshaftlaw06_known.run
theorem same_l0 (a : List Int) (hn : a.length ≤ 1000000) : ∀ (d i k : Nat), i + d = a.length → d < k → camshaftref02_Same.l0 k a a (i : Int) = some true := by
  intro d
  induction d with
  | zero =>
    intro i k hi hk
    obtain ⟨k, rfl⟩ : ∃ m, k = m + 1 := ⟨k - 1, by omega⟩
    simp only [camshaftref02_Same.l0]
    rw [if_neg (by omega)]
  | succ d ih =>
    intro i k hi hk
    obtain ⟨k, rfl⟩ : ∃ m, k = m + 1 := ⟨k - 1, by omega⟩
    simp only [camshaftref02_Same.l0]
    rw [if_pos (by omega), if_pos (by omega), if_pos (by omega), if_pos trivial, show wrap64 ((i : Int) + 1) = ((i + 1 : Nat) : Int) from by unfold wrap64; omega]
    exact ih (i + 1) k (by omega) (by omega)
theorem same_self (a : List Int) (hn : a.length ≤ 1000) {k : Nat} (hk : 2000 ≤ k) : camshaftref02_Same.f k a a = some true := by
  unfold camshaftref02_Same.f
  rw [if_pos rfl]
  exact same_l0 a (by omega) a.length 0 k (by omega) (by omega)
theorem L_lk {l : List Ins} {r : List Int × Int} (h : LSpec l r) (hW : W l) : (Lk l ∧ r = (outs l l.length, 0)) ∨ (¬ Lk l ∧ r = ([], 11)) := by
  rcases h with ⟨e, h1, h2, _⟩ | ⟨_, h1, h2⟩ | ⟨_, h1, h2⟩
  · exact absurd (h1.zero.2 hW) h2
  · exact .inr ⟨h1, h2⟩
  · exact .inl ⟨h1, h2⟩
theorem W_uniq {l : List Ins} {e e' : Int} (h : WSpec l e) (h' : WSpec l e') : e = e' := by
  rcases h with ⟨_, rfl⟩ | ⟨_, _, rfl⟩ | ⟨_, _, _, rfl⟩ | ⟨_, _, _, _, rfl⟩ | ⟨_, _, _, _, rfl⟩ <;>
    rcases h' with ⟨_, rfl⟩ | ⟨_, _, rfl⟩ | ⟨_, _, _, rfl⟩ | ⟨_, _, _, _, rfl⟩ | ⟨_, _, _, _, rfl⟩ <;> first | rfl | contradiction
theorem M_uniq {l : List Ins} {r r' : List Int × Int} (h : MSpec l r) (h' : MSpec l r') : r = r' := by
  rcases h with ⟨_, rfl⟩ | ⟨_, _, rfl⟩ | ⟨_, _, h1, h2⟩ <;> rcases h' with ⟨_, rfl⟩ | ⟨_, _, rfl⟩ | ⟨_, _, g1, g2⟩ <;> first | rfl | contradiction | exact Prod.ext (h2.uniq g2) (h1.trans g1.symm)
theorem H_uniq {l : List Ins} {r r' : List Int × Int} (h : HSpec l r) (h' : HSpec l r') : r = r' := by
  rcases h with ⟨_, rfl⟩ | ⟨_, _, rfl⟩ | ⟨_, _, h1, h2⟩ <;> rcases h' with ⟨_, rfl⟩ | ⟨_, _, rfl⟩ | ⟨_, _, g1, g2⟩ <;> first | rfl | contradiction | exact Prod.ext (h2.uniq g2) (h1.trans g1.symm)
theorem DT_uniq {l : List Ins} {H H' : List Int} (h : DT l H) (h' : DT l H') : H = H' := by
  apply ext_rd (h.1.trans h'.1.symm)
  intro k hk
  rw [h.1] at hk
  obtain ⟨s, a1, a2⟩ := h.2 k hk
  obtain ⟨s', b1, b2⟩ := h'.2 k hk
  obtain rfl := Option.some.inj (a1.symm.trans b1)
  rw [a2, b2]
theorem D_uniq {l : List Ins} {r r' : List Int × Int} (h : DSpec l r) (h' : DSpec l r') : r = r' := by
  rcases h with ⟨_, rfl⟩ | ⟨_, _, rfl⟩ | ⟨_, _, h1, h2⟩ <;> rcases h' with ⟨_, rfl⟩ | ⟨_, _, rfl⟩ | ⟨_, _, g1, g2⟩ <;> first | rfl | contradiction | exact Prod.ext (DT_uniq h2 g2) (h1.trans g1.symm)
theorem L_uniq {l : List Ins} {r r' : List Int × Int} (h : LSpec l r) (h' : LSpec l r') : r = r' := by
  by_cases hW : W l
  · rcases (L_lk h hW) with ⟨_, rfl⟩ | ⟨_, rfl⟩ <;> rcases (L_lk h' hW) with ⟨_, rfl⟩ | ⟨_, rfl⟩ <;> first | rfl | contradiction
  · rcases h with ⟨e, h1, _, rfl⟩ | ⟨h1, _⟩ | ⟨h1, _⟩
    · rcases h' with ⟨e', g1, _, rfl⟩ | ⟨g1, _⟩ | ⟨g1, _⟩
      · rw [W_uniq h1 g1]
      · exact absurd g1 hW
      · exact absurd g1 hW
    · exact absurd h1 hW
    · exact absurd h1 hW
theorem tells_all (k : Nat) (hk : 1000000 ≤ k) (l : List Ins) (hI : In l) : camshaftlaw06_NestTells.f k l = some true := by
  have K := known_tells (k := k) (by omega)
  unfold camshaftlaw06_NestTells.f
  by_cases h : (l.length : Int) > 250
  · rw [if_pos h]
    exact Option.bind_eq_some_iff.2 ⟨_, K, rfl⟩
  rw [if_neg h]
  obtain ⟨m, m1, m2⟩ := match_eq l (by omega) (k := k) (by omega)
  obtain ⟨m', m3, m4⟩ := rmatch_eq l hI (by omega) (k := k) (by omega)
  obtain ⟨h', h1, h2⟩ := home_eq l (by omega) (k := k) (by omega)
  obtain ⟨h'', h3, h4⟩ := rHome_eq l hI (by omega) (k := k) (by omega)
  obtain ⟨c, c1, c2⟩ := locks_eq l (by omega) (k := k) (by omega)
  obtain ⟨c', c3, c4⟩ := rlocks_eq l hI (by omega) (k := k) (by omega)
  obtain ⟨d, d1, d2⟩ := held_eq l (by omega) (k := k) (by omega)
  obtain ⟨d', d3, d4⟩ := rheld_eq l hI (by omega) (k := k) (by omega)
  obtain ⟨w, w1, w2⟩ := whole_eq l (by omega) (k := k) (by omega)
  obtain ⟨w', w3, w4⟩ := rwhole_eq l hI (by omega) (k := k) (by omega)
  obtain rfl := M_uniq m2 m4
  obtain rfl := H_uniq h2 h4
  obtain rfl := L_uniq c2 c4
  obtain rfl := D_uniq d2 d4
  obtain rfl := W_uniq w2 w4
  have lm : m.1.length ≤ 1000 := by
    rcases m2 with ⟨_, rfl⟩ | ⟨_, _, rfl⟩ | ⟨_, _, _, g⟩
    · simp
    · simp
    · rw [g.1]; omega
  have lh : h'.1.length ≤ 1000 := by
    rcases h2 with ⟨_, rfl⟩ | ⟨_, _, rfl⟩ | ⟨_, _, _, g⟩
    · simp
    · simp
    · rw [g.1]; omega
  have ld : d.1.length ≤ 1000 := by
    rcases d2 with ⟨_, rfl⟩ | ⟨_, _, rfl⟩ | ⟨_, _, _, g⟩
    · simp
    · simp
    · rw [g.1]; omega
  have lc : c.1.length ≤ 1000 := by
    rcases c2 with ⟨_, _, _, rfl⟩ | ⟨_, _, rfl⟩ | ⟨_, _, rfl⟩
    · simp
    · simp
    · have := outs_len l l.length
      show (outs l l.length).length ≤ 1000
      omega
  refine Option.bind_eq_some_iff.2 ⟨_, m1, ?_⟩
  refine Option.bind_eq_some_iff.2 ⟨_, m3, ?_⟩
  refine Option.bind_eq_some_iff.2 ⟨_, h1, ?_⟩
  refine Option.bind_eq_some_iff.2 ⟨_, h3, ?_⟩
  refine Option.bind_eq_some_iff.2 ⟨_, c1, ?_⟩
  refine Option.bind_eq_some_iff.2 ⟨_, c3, ?_⟩
  refine Option.bind_eq_some_iff.2 ⟨_, d1, ?_⟩
  refine Option.bind_eq_some_iff.2 ⟨_, d3, ?_⟩
  refine Option.bind_eq_some_iff.2 ⟨_, same_self m.1 lm (by omega), ?_⟩
  rw [if_pos rfl, if_pos rfl]
  refine Option.bind_eq_some_iff.2 ⟨_, same_self h'.1 lh (by omega), ?_⟩
  rw [if_pos rfl, if_pos rfl]
  refine Option.bind_eq_some_iff.2 ⟨_, same_self c.1 lc (by omega), ?_⟩
  rw [if_pos rfl, if_pos rfl]
  refine Option.bind_eq_some_iff.2 ⟨_, same_self d.1 ld (by omega), ?_⟩
  rw [if_pos rfl, if_pos rfl]
  refine Option.bind_eq_some_iff.2 ⟨_, w1, ?_⟩
  refine Option.bind_eq_some_iff.2 ⟨_, w3, ?_⟩
  rw [if_pos rfl]
  exact Option.bind_eq_some_iff.2 ⟨_, K, rfl⟩
theorem NestTells : camshaftlaw06_NestTells.Pure := fun l _ w => ⟨1000000, tells_all 1000000 (Nat.le_refl _) l (fun x hx => (by
  have h : IntKind.i64.min ≤ x.f1 ∧ x.f1 ≤ IntKind.i64.max := (by simpa [Lit.wf] using (w x hx).2.1)
  exact h))⟩

end Go.Proofs.Ytljgllcllddcdaa.Pure
