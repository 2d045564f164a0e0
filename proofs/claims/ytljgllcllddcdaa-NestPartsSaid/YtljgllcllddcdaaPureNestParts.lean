/- NestParts: two rows one behind the other, without the End of the first one, are whole, if both are; the blocks of both are locked, or nothing, if the second one locks behind the first one; for all rows. -/
import Derived.Test.YtljgllcllddcdaaNP
import Derived.Test.YtljgllcllddcdaaPx9
import Derived.Test.YtljgllcllddcdaaPx25
namespace Go.Proofs.Ytljgllcllddcdaa.Pure
open Go.RowKit Go.Proofs.Ytljgllcllddcdaa.P Go.Proofs.Ytljgllcllddcdaa.NL Go.Proofs.YtljgllcllddcdaaW.PrintWords Go.Proofs.YtljgllcllddcdaaW.PrintLast Go.Proofs.YtljgllcllddcdaaW.PrintMore

theorem known_parts {k : Nat} (hk : 60 ≤ k) : camshaftlaw06_known.f k = some true := at_rounds camshaftlaw06_known.mono hk camshaftlaw06_known.run
theorem same_l0 (a : List Int) (hn : a.length ≤ 1000000) : ∀ (d i k : Nat), i + d = a.length → d < k → camshaftref02_Same.l0 k a a (i : Int) = some true := by
  intro d
  induction d with
  | zero =>
    intro i k hi hk
    obtain ⟨k, rfl⟩ : ∃ m, k = m + 1 := ⟨k - 1, by omega⟩
    simp only [camshaftref02_Same.l0]
    rw [if_neg (by omega)]
  | succ d ih =>
    intro i k hi hk
    obtain ⟨k, rfl⟩ : ∃ m, k = m + 1 := ⟨k - 1, by omega⟩
    simp only [camshaftref02_Same.l0]
    rw [if_pos (by omega), if_pos (by omega), if_pos (by omega), if_pos trivial, show wrap64 ((i : Int) + 1) = ((i + 1 : Nat) : Int) from by unfold wrap64; omega]
    exact ih (i + 1) k (by omega) (by omega)
theorem same_self (a : List Int) (hn : a.length ≤ 1000000) {k : Nat} (hk : a.length < k) : camshaftref02_Same.f k a a = some true := by
  unfold camshaftref02_Same.f
  rw [if_pos rfl]
  exact same_l0 a hn a.length 0 k (by omega) hk
theorem two_of {a b : List Ins} (ha : W a) (hb : W b) (h190 : a.length + b.length ≤ 190) : ∃ n, a.length = n + 1 ∧ Two a b (a.take n ++ b) n := by
  obtain ⟨n, an, sn, en⟩ := ha.last
  have ht : (a.take n).length = n := by rw [List.length_take]; omega
  refine ⟨n, an, ⟨ha, hb, an, sn, en, by rw [List.length_append, ht], by rw [List.length_append, ht]; omega, fun i hi => ?_, fun i _ => ?_⟩⟩
  · rw [gI_left (by omega), gI_take hi]
  · have := gI_right (a.take n) b i
    rw [ht] at this
    exact this
theorem two_outs {a b : List Ins} {n : Nat} (an : a.length = n + 1) (en : (gI a n).f0 = 25) : outs (a.take n ++ b) (a.take n ++ b).length = outs a a.length ++ outs b b.length := by
  have e : outs a a.length = outs a n := by rw [an, outs_succ (by omega), if_neg (by omega)]
  rw [e]
  unfold outs
  rw [List.take_length, List.take_length, List.filter_append, List.map_append]
theorem two_lk {a b c : List Ins} {n : Nat} (h : Two a b c n) : Lk c ↔ Lk a ∧ Lk b ∧ (outs a a.length = [] ∨ outs b b.length = []) := by
  have han := h.an
  have hcn := h.cn
  constructor
  · intro g
    refine ⟨fun i hi => ?_, fun j hj => ?_, ?_⟩
    · by_cases hin : i < n
      · exact (h.lkl hin).1 (g i (by omega))
      · obtain rfl : i = n := by omega
        exact LkAt_end h.en
    · exact ((h.lkr hj).1 (g (n + j) (by omega))).1
    · apply Classical.byContradiction
      intro hne
      rw [not_or] at hne
      obtain ⟨i, i1, i2⟩ := outs_ne.1 hne.1
      obtain ⟨j, j1, j2⟩ := outs_ne.1 hne.2
      obtain ⟨q, q1, q2⟩ := h.ha.2.1.locked i1 i2
      have hqn : q ≠ n := fun e => by rw [e, h.en] at q2; omega
      exact ((h.lkr j1).1 (g (n + j) (by omega))).2 j2 q (by omega) q2
  · rintro ⟨ga, gb, go⟩ i hi
    by_cases hin : i < n
    · exact (h.lkl hin).2 (ga i (by omega))
    · obtain ⟨j, rfl⟩ : ∃ j, i = n + j := ⟨i - n, by omega⟩
      refine (h.lkr (by omega)).2 ⟨gb j (by omega), fun g q hq hq24 => ?_⟩
      rcases go with go | go
      · obtain ⟨i', i1, i2⟩ := h.ha.2.1.unlocked (c := q) (by omega) hq24
        exact absurd go (outs_ne.2 ⟨i', i1, i2⟩)
      · exact absurd go (outs_ne.2 ⟨j, by omega, g⟩)
theorem parts_j0 (k : Nat) (hk : 10000 ≤ k) (a b : List Ins) (ha : W a) (hb : W b) (h190 : a.length + b.length ≤ 190) : camshaftlaw06_NestParts.j0 (k + 3) a b false = some true := by
  obtain ⟨n, an, T⟩ := two_of ha hb h190
  have hok : (a.take n ++ b).all okI = true := by
    rw [List.all_eq_true]
    intro x hx
    rcases List.mem_append.1 hx with h | h
    · exact List.all_eq_true.1 ha.1.2.2 x (List.mem_of_mem_take h)
    · exact List.all_eq_true.1 hb.1.2.2 x h
  have hWc := T.whole hok
  have hO := two_outs (b := b) an T.en
  have hLk := two_lk T
  have hcl := T.h190
  have hLa := outs_len a a.length
  have hLb := outs_len b b.length
  have ht : (a.take n).length = n := by rw [List.length_take]; omega
  generalize hc : a.take n ++ b = c at *
  obtain ⟨r1, e1, f1⟩ := locks_eq a (by omega) (k := k + 2) (by omega)
  obtain ⟨r2, e2, f2⟩ := locks_eq b (by omega) (k := k + 2) (by omega)
  obtain ⟨r3, e3, f3⟩ := locks_eq c (by omega) (k := k + 2) (by omega)
  obtain ⟨w, e4, f4⟩ := whole_eq c (by omega) (k := k + 2) (by omega)
  obtain rfl := f4.zero.2 hWc
  have K := known_parts (k := k) (by omega)
  have K1 := known_parts (k := k + 1) (by omega)
  simp only [camshaftlaw06_NestParts.j0]
  rw [if_neg (by decide)]
  refine Option.bind_eq_some_iff.2 ⟨_, rfl, ?_⟩
  rw [show wrap64 ((a.length : Int) - 1) = (n : Int) from by rw [an]; clear e1 e2 e3 e4 hLk hO K K1 T hWc hok; unfold wrap64; omega, if_pos (by omega), if_pos (by omega)]
  refine Option.bind_eq_some_iff.2 ⟨_, rfl, ?_⟩
  rw [show ((n : Nat) : Int).toNat = n from rfl, if_pos (by rw [ht, List.length_nil]; omega)]
  refine Option.bind_eq_some_iff.2 ⟨_, rfl, ?_⟩
  rw [List.nil_append, if_pos (by rw [ht]; omega)]
  refine Option.bind_eq_some_iff.2 ⟨_, rfl, ?_⟩
  rw [hc]
  refine Option.bind_eq_some_iff.2 ⟨_, e1, ?_⟩
  refine Option.bind_eq_some_iff.2 ⟨_, e2, ?_⟩
  refine Option.bind_eq_some_iff.2 ⟨_, e3, ?_⟩
  refine Option.bind_eq_some_iff.2 ⟨_, e4, ?_⟩
  rw [if_pos rfl]
  rcases f1.lk ha with ⟨g1, rfl⟩ | ⟨g1, rfl⟩
  · rcases f2.lk hb with ⟨g2, rfl⟩ | ⟨g2, rfl⟩
    · rw [if_pos rfl, show (((outs b b.length, (0 : Int)) : List Int × Int).2 != 0) = false from rfl]
      simp only [camshaftlaw06_NestParts.j1]
      rw [if_neg (by decide)]
      rcases f3.lk hWc with ⟨g3, rfl⟩ | ⟨g3, rfl⟩
      · have hemp := (hLk.1 g3).2.2
        have F : camshaftlaw06_NestParts.j2 (k + 1) (outs a a.length) (outs b b.length) (outs c c.length) 0 false = some true := by
          simp only [camshaftlaw06_NestParts.j2]
          rw [if_neg (by decide), if_pos trivial]
          refine Option.bind_eq_some_iff.2 ⟨_, rfl, ?_⟩
          rw [List.nil_append, if_pos (by rw [List.length_nil]; omega)]
          refine Option.bind_eq_some_iff.2 ⟨_, rfl, ?_⟩
          rw [if_pos (by omega), hO]
          refine Option.bind_eq_some_iff.2 ⟨_, same_self _ (by rw [List.length_append]; omega) (by rw [List.length_append]; omega), ?_⟩
          rw [if_pos rfl]
          exact Option.bind_eq_some_iff.2 ⟨_, K, rfl⟩
        by_cases hx : ((outs a a.length).length : Int) > 0
        · have hy : outs b b.length = [] := by
            rcases hemp with h | h
            · rw [h] at hx; simp at hx
            · exact h
          rw [if_pos hx, show decide (((outs b b.length).length : Int) > 0) = false from by rw [hy]; rfl]
          exact F
        · rw [if_neg hx]
          exact F
      · have hne : ¬ (outs a a.length = [] ∨ outs b b.length = []) := fun h => g3 (hLk.2 ⟨g1, g2, h⟩)
        rw [not_or] at hne
        have p1 := List.length_pos_iff.2 hne.1
        have p2 := List.length_pos_iff.2 hne.2
        rw [if_pos (by omega), show decide (((outs b b.length).length : Int) > 0) = true from decide_eq_true (by omega)]
        simp only [camshaftlaw06_NestParts.j2]
        rw [if_pos trivial, if_pos trivial]
        exact Option.bind_eq_some_iff.2 ⟨_, K, rfl⟩
    · rw [if_pos rfl, show ((([], (11 : Int)) : List Int × Int).2 != 0) = true from rfl]
      simp only [camshaftlaw06_NestParts.j1]
      rcases f3.lk hWc with ⟨g3, rfl⟩ | ⟨g3, rfl⟩
      · exact absurd (hLk.1 g3).2.1 g2
      · rw [if_pos trivial, if_pos rfl]
        exact Option.bind_eq_some_iff.2 ⟨_, K1, rfl⟩
  · rw [if_neg (by decide)]
    simp only [camshaftlaw06_NestParts.j1]
    rcases f3.lk hWc with ⟨g3, rfl⟩ | ⟨g3, rfl⟩
    · exact absurd (hLk.1 g3).1 g1
    · rw [if_pos trivial, if_pos rfl]
      exact Option.bind_eq_some_iff.2 ⟨_, K1, rfl⟩
theorem parts_all (k : Nat) (hk : 100000 ≤ k) (a b : List Ins) (hal : a.length * 24 ≤ 140737488351232) (hbl : b.length * 24 ≤ 140737488351232) : camshaftlaw06_NestParts.f k a b = some true := by
  obtain ⟨k, rfl⟩ : ∃ q, k = q + 3 := ⟨k - 3, by omega⟩
  have K := known_parts (k := k + 2) (by omega)
  have J : camshaftlaw06_NestParts.j0 (k + 3) a b true = some true := by
    simp only [camshaftlaw06_NestParts.j0]
    rw [if_pos trivial]
    exact Option.bind_eq_some_iff.2 ⟨_, K, rfl⟩
  unfold camshaftlaw06_NestParts.f
  by_cases h1 : (a.length : Int) < 1
  · rw [if_pos h1]; exact J
  rw [if_neg h1, show wrap64 ((a.length : Int) + (b.length : Int)) = (a.length : Int) + (b.length : Int) from by clear J K; unfold wrap64; omega]
  by_cases h2 : (a.length : Int) + (b.length : Int) > 190
  · rw [if_pos h2]; exact J
  rw [if_neg h2]
  obtain ⟨e, e1, e2⟩ := whole_eq a (by omega) (k := k + 3) (by omega)
  refine Option.bind_eq_some_iff.2 ⟨_, e1, ?_⟩
  by_cases h3 : e = 0
  · rw [if_pos h3]
    obtain ⟨x, x1, x2⟩ := whole_eq b (by omega) (k := k + 3) (by omega)
    refine Option.bind_eq_some_iff.2 ⟨_, x1, ?_⟩
    by_cases h4 : x = 0
    · rw [h4]
      exact parts_j0 k (by omega) a b (e2.zero.1 h3) (x2.zero.1 h4) (by omega)
    · rw [show (x != 0) = true from by rw [bne_iff_ne]; exact h4]
      exact J
  · rw [if_neg h3]; exact J
theorem NestParts : camshaftlaw06_NestParts.Pure := fun a b h1 _ h2 _ => ⟨100000, parts_all 100000 (Nat.le_refl _) a b h1 h2⟩

end Go.Proofs.Ytljgllcllddcdaa.Pure
