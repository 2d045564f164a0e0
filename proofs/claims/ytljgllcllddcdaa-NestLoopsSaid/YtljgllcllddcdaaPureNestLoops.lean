/- NestLoops: a loop around a row that is whole, but for its End, is whole; with locks in it they may not be; its matches are those of the row, one farther on; for all rows. -/
import Derived.Test.YtljgllcllddcdaaNP
import Derived.Test.YtljgllcllddcdaaPx9
import Derived.Test.YtljgllcllddcdaaPx26
namespace Go.Proofs.Ytljgllcllddcdaa.Pure
open Go.RowKit Go.Proofs.Ytljgllcllddcdaa.P Go.Proofs.Ytljgllcllddcdaa.NL Go.Proofs.YtljgllcllddcdaaW.PrintWords Go.Proofs.YtljgllcllddcdaaW.PrintLast Go.Proofs.YtljgllcllddcdaaW.PrintMore

theorem known_loops {k : Nat} (hk : 60 ≤ k) : camshaftlaw06_known.f k = some true := at_rounds camshaftlaw06_known.mono hk camshaftlaw06_known.run
/-- A loop around a row. -/
structure Lp (l b : List Ins) (n : Nat) (r : Int) : Prop where
  hw : W l
  ln : l.length = n + 1
  sn : stk l n = some []
  en : (gI l n).f0 = 25
  bl : b.length = n + 3
  h190 : l.length ≤ 190
  b0 : gI b 0 = ⟨21, r, 0⟩
  bm : ∀ i, i < n → gI b (1 + i) = gI l i
  b1 : gI b (1 + n) = ⟨22, 0, 0⟩
  b2 : gI b (1 + n + 1) = ⟨25, 0, 0⟩
section
variable {l b : List Ins} {n : Nat} {r : Int}
theorem Lp.s1 (h : Lp l b n r) : stk b 1 = some [0] :=
  (stk_succ (l := b) (i := 0) rfl).trans (step_open (by rw [h.b0]; rfl))
theorem Lp.sm (h : Lp l b n r) {i : Nat} {s : List Nat} (hi : i ≤ n) (hs : stk l i = some s) : stk b (1 + i) = some (s.map (fun q => 1 + q) ++ [0]) := stk_shift (n := 1) h.bm h.s1 hi hs
theorem Lp.sn1 (h : Lp l b n r) : stk b (1 + n) = some [0] := h.sm (Nat.le_refl n) h.sn
theorem Lp.cl (h : Lp l b n r) : Cl b 0 (1 + n) := ⟨by rw [h.b1]; rfl, [], h.sn1, by rw [h.b0, h.b1]; rfl⟩
theorem Lp.sn2 (h : Lp l b n r) : stk b (1 + n + 1) = some [] := by
  obtain ⟨q, e1, e2⟩ := h.cl.next
  obtain rfl := (List.cons.inj (Option.some.inj (e1.symm.trans h.sn1))).2
  exact e2
theorem Lp.whole (h : Lp l b n r) (hok : b.all okI = true) : W b := by
  obtain ⟨hR, hV, hE, hJ⟩ := h.hw
  have hbl := h.bl
  have hln := h.ln
  have h190 := h.h190
  refine ⟨⟨by omega, by omega, hok⟩, ?_, fun i hi => ?_, fun i hi hj => ?_⟩
  · unfold V
    rw [hbl, show n + 3 = (1 + n + 1) + 1 by omega, stk_succ h.sn2, step_plain (by rw [h.b2]; decide) (by rw [h.b2]; decide)]
  · unfold EnAt
    by_cases e0 : i = 0
    · subst e0; rw [h.b0]; constructor
      · intro g; exact absurd (show (21 : Int) = 25 from g) (by decide)
      · intro g; omega
    · by_cases e1 : i = 1 + n
      · subst e1; rw [h.b1]; constructor
        · intro g; exact absurd (show (22 : Int) = 25 from g) (by decide)
        · intro g; omega
      · by_cases e2 : i = 1 + n + 1
        · subst e2; rw [h.b2]; exact ⟨fun _ => by omega, fun _ => rfl⟩
        · obtain ⟨j, rfl⟩ : ∃ j, i = 1 + j := ⟨i - 1, by omega⟩
          rw [h.bm j (by omega)]
          have := hE j (by omega)
          unfold EnAt at this
          omega
  · by_cases e0 : i = 0
    · subst e0; rw [h.b0] at hj; rcases hj with g | g
      · exact absurd (show (21 : Int) = 19 from g) (by decide)
      · exact absurd (show (21 : Int) = 20 from g) (by decide)
    · by_cases e1 : i = 1 + n
      · subst e1; rw [h.b1] at hj; rcases hj with g | g
        · exact absurd (show (22 : Int) = 19 from g) (by decide)
        · exact absurd (show (22 : Int) = 20 from g) (by decide)
      · by_cases e2 : i = 1 + n + 1
        · subst e2; rw [h.b2] at hj; rcases hj with g | g
          · exact absurd (show (25 : Int) = 19 from g) (by decide)
          · exact absurd (show (25 : Int) = 20 from g) (by decide)
        · obtain ⟨j, rfl⟩ : ∃ j, i = 1 + j := ⟨i - 1, by omega⟩
          rw [h.bm j (by omega)] at hj ⊢
          obtain ⟨t, t1, t2, s, s1, s2⟩ := hJ j (by omega) hj
          exact ⟨1 + t, by omega, by omega, _, h.sm (by omega) s1, h.sm (by omega) s2⟩
theorem Lp.lk (h : Lp l b n r) : Lk b ↔ Lk l ∧ outs l l.length = [] := by
  have hbl := h.bl
  have hln := h.ln
  have he := h.en
  have hmem : ∀ {s : List Nat} {q : Nat}, q ∈ s.map (fun q => 1 + q) ++ [0] → q = 0 ∨ ∃ q', q' ∈ s ∧ q = 1 + q' := by
    intro s q hq
    rcases List.mem_append.1 hq with g | g
    · obtain ⟨q', g1, rfl⟩ := List.mem_map.1 g
      exact .inr ⟨q', g1, rfl⟩
    · exact .inl (List.mem_singleton.1 g)
  constructor
  · intro g
    have hno : outs l l.length = [] := by
      apply Classical.byContradiction
      intro hne
      obtain ⟨i, i1, i2⟩ := outs_ne.1 hne
      have hin : i ≠ n := fun e => by rw [e, he] at i2; omega
      obtain ⟨s, hs⟩ := h.hw.2.1.at (k := i) (by omega)
      have hg := g (1 + i) (by omega)
      unfold LkAt at hg
      rw [h.bm i (by omega), h.sm (by omega) hs] at hg
      obtain ⟨_, s', e1, e2⟩ := hg.1 i2
      obtain rfl := Option.some.inj e1
      exact (e2 0 (List.mem_append_right _ (List.mem_singleton.2 rfl))).1 (by rw [h.b0])
    refine ⟨fun i hi => ?_, hno⟩
    by_cases hin : i = n
    · subst hin; exact LkAt_end he
    · refine ⟨fun g23 => absurd hno (outs_ne.2 ⟨i, hi, g23⟩), fun gp => ?_⟩
      obtain ⟨s, hs⟩ := h.hw.2.1.at (k := i) (by omega)
      have hg := g (1 + i) (by omega)
      unfold LkAt at hg
      rw [h.bm i (by omega), h.sm (by omega) hs] at hg
      obtain ⟨s', e1, q, q1, q2⟩ := hg.2 gp
      obtain rfl := Option.some.inj e1
      rcases hmem q1 with rfl | ⟨q', g1, rfl⟩
      · rw [h.b0] at q2
        exact absurd (show (21 : Int) = 23 from q2.1) (by decide)
      · have := (stk_dec hs).mem g1
        rw [h.bm q' (by omega)] at q2
        exact ⟨s, hs, q', g1, q2⟩
  · rintro ⟨g, hno⟩ i hi
    by_cases e0 : i = 0
    · subst e0; unfold LkAt; rw [h.b0]; exact ⟨fun g => absurd (show (21 : Int) = 23 from g) (by decide), fun g => g.elim (fun g => absurd (show (21 : Int) = 17 from g) (by decide)) (fun g => absurd (show (21 : Int) = 18 from g) (by decide))⟩
    · by_cases e1 : i = 1 + n
      · subst e1; unfold LkAt; rw [h.b1]; exact ⟨fun g => absurd (show (22 : Int) = 23 from g) (by decide), fun g => g.elim (fun g => absurd (show (22 : Int) = 17 from g) (by decide)) (fun g => absurd (show (22 : Int) = 18 from g) (by decide))⟩
      · by_cases e2 : i = 1 + n + 1
        · subst e2; exact LkAt_end (by rw [h.b2])
        · obtain ⟨j, rfl⟩ : ∃ j, i = 1 + j := ⟨i - 1, by omega⟩
          have hj : j < n := by omega
          obtain ⟨s, hs⟩ := h.hw.2.1.at (k := j) (by omega)
          have hg := g j (by omega)
          unfold LkAt at hg ⊢
          rw [h.bm j (by omega), h.sm (by omega) hs]
          refine ⟨fun g23 => absurd hno (outs_ne.2 ⟨j, by omega, g23⟩), fun gp => ?_⟩
          obtain ⟨s', x1, q, q1, q2⟩ := hg.2 gp
          obtain rfl := Option.some.inj (hs.symm.trans x1)
          have hq := (stk_dec hs).mem q1
          have e := h.bm q (Nat.lt_trans hq hj)
          refine ⟨_, rfl, 1 + q, List.mem_append_left _ (List.mem_map_of_mem q1), ?_⟩
          rw [e]
          exact q2
theorem Lp.clm (h : Lp l b n r) {q c : Nat} (hc : c < n) (hC : Cl l q c) : Cl b (1 + q) (1 + c) := by
  have hq := hC.lt
  obtain ⟨h1, s, h2, h3⟩ := hC
  refine ⟨by rw [h.bm c hc]; exact h1, s.map (fun q => 1 + q) ++ [0], ?_, by rw [h.bm c hc, h.bm q (by omega)]; exact h3⟩
  exact h.sm (by omega) h2
end
theorem loops_l0 (l b : List Ins) (n : Nat) (r : Int) (h : Lp l b n r) (hWb : W b) (M N : List Int) (hM : MT l M) (hN : MT b N) (r1 r2 : List Int × Int) (f1 : LSpec l r1) (f2 : LSpec b r2) : ∀ (d i k : Nat), i + d = n → d + 10000 ≤ k →
    camshaftlaw06_NestLoops.l0 k l b M N r1.1 r1.2 r2.2 (i : Int) = some true := by
  have hbl := h.bl
  have hln := h.ln
  have h190 := h.h190
  have hLM := hM.1
  have hLN := hN.1
  have hwn : wrap64 ((l.length : Int) - 1) = (n : Int) := by rw [hln]; clear hM hN f1 f2 h hWb; unfold wrap64; omega
  intro d
  induction d with
  | zero =>
    intro i k hi hk
    obtain ⟨k, rfl⟩ : ∃ m, k = m + 1 := ⟨k - 1, by omega⟩
    have K := known_loops (k := k) (by omega)
    obtain ⟨w, e4, f4⟩ := whole_eq b (by omega) (k := k) (by omega)
    obtain rfl := f4.zero.2 hWb
    simp only [camshaftlaw06_NestLoops.l0]
    rw [hwn, if_neg (by omega)]
    refine Option.bind_eq_some_iff.2 ⟨_, e4, ?_⟩
    rw [if_pos rfl]
    rcases f1.lk h.hw with ⟨g1, rfl⟩ | ⟨g1, rfl⟩
    · rw [if_pos rfl]
      have e : ((r2.2 == 0) == (((outs l l.length).length : Int) == 0)) = true := by
        rcases f2.lk hWb with ⟨g2, rfl⟩ | ⟨g2, rfl⟩
        · rw [(h.lk.1 g2).2]; rfl
        · have hne : outs l l.length ≠ [] := fun e => g2 (h.lk.2 ⟨g1, e⟩)
          have := List.length_pos_iff.2 hne
          rw [show (((outs l l.length).length : Int) == 0) = false from by rw [beq_eq_false_iff_ne]; omega]
          rfl
      rw [if_pos e]
      exact Option.bind_eq_some_iff.2 ⟨_, K, rfl⟩
    · rw [if_neg (by decide)]
      rcases f2.lk hWb with ⟨g2, rfl⟩ | ⟨g2, rfl⟩
      · exact absurd (h.lk.1 g2).1 g1
      · rw [if_pos rfl]
        exact Option.bind_eq_some_iff.2 ⟨_, K, rfl⟩
  | succ d ih =>
    intro i k hi hk
    obtain ⟨k, rfl⟩ : ∃ m, k = m + 1 := ⟨k - 1, by omega⟩
    have hw : wrap64 ((i : Int) + 1) = ((i + 1 : Nat) : Int) := by clear hM hN f1 f2 h hWb; unfold wrap64; omega
    have next := ih (i + 1) k (by omega) (by omega)
    obtain ⟨m1, m2, m3⟩ := hM.2 i (by omega)
    obtain ⟨n1, n2, n3⟩ := hN.2 (1 + i) (by omega)
    rw [h.bm i (by omega)] at n1 n2 n3
    rw [show 1 + i = i + 1 by omega] at n1 n2 n3
    simp only [camshaftlaw06_NestLoops.l0]
    rw [hwn, if_pos (by omega), if_pos (by omega), if_pos (by omega), hw]
    have P : ∀ q : Nat, q ≤ 190 → wrap64 ((q : Int) + 1) = ((1 + q : Nat) : Int) := fun q hq => by clear hM hN f1 f2 h hWb next m1 m2 m3 n1 n2 n3; unfold wrap64; omega
    by_cases ho : opn (gI l i) = true
    · obtain ⟨c, c1, c2, c3⟩ := m1 ho
      have hcn : c < n := by
        have : c ≠ n := fun e => by have := c3.1; rw [e] at this; exact (plain_end h.en).2 this
        omega
      obtain ⟨c', d1, d2, d3⟩ := n1 ho
      have hcl := h.clm hcn c3
      rw [show 1 + i = i + 1 by omega] at hcl
      obtain rfl := hcl.uniq d3
      rw [c2, d2, if_neg (by omega), if_pos (by omega), if_pos (by omega), if_pos (by omega), if_pos (P c (by omega)).symm]
      exact next
    · by_cases hc : cls (gI l i) = true
      · obtain ⟨q, q1, q2⟩ := m2 hc
        obtain ⟨q', d1, d2⟩ := n2 hc
        have hq := q2.lt
        have hcl := h.clm (by omega) q2
        rw [show 1 + i = i + 1 by omega] at hcl
        obtain rfl := hcl.uniq' d2
        rw [q1, d1, if_neg (by omega), if_pos (by omega), if_pos (by omega), if_pos (by omega), if_pos (P q (by omega)).symm]
        exact next
      · have ho' := Bool.eq_false_iff.2 ho
        have hc' := Bool.eq_false_iff.2 hc
        rw [m3 ho' hc', n3 ho' hc', if_pos (by omega), if_pos (by omega), if_pos (by omega), if_pos rfl, if_neg (by omega)]
        exact next
theorem lp_of {l : List Ins} {r : Int} (hl : W l) (h190 : l.length ≤ 190) : ∃ n, l.length = n + 1 ∧ Lp l (([(⟨21, r, 0⟩ : Ins)] ++ l.take n) ++ [(⟨22, 0, 0⟩ : Ins), (⟨25, 0, 0⟩ : Ins)]) n r := by
  obtain ⟨n, an, sn, en⟩ := hl.last
  have ht : (l.take n).length = n := by rw [List.length_take]; omega
  have hA : ([(⟨21, r, 0⟩ : Ins)] ++ l.take n).length = 1 + n := by rw [List.length_append, ht]; rfl
  have R := gI_right ([(⟨21, r, 0⟩ : Ins)] ++ l.take n) [(⟨22, 0, 0⟩ : Ins), (⟨25, 0, 0⟩ : Ins)]
  rw [hA] at R
  refine ⟨n, an, ⟨hl, an, sn, en, by rw [List.length_append, hA]; show 1 + n + 2 = _; omega, h190, ?_, fun i hi => ?_, R 0, R 1⟩⟩
  · rw [gI_left (by omega)]; rfl
  · rw [gI_left (by omega)]
    have := gI_right [(⟨21, r, 0⟩ : Ins)] (l.take n) i
    rw [gI_take hi] at this
    exact this
theorem loops_j0 (k : Nat) (hk : 20000 ≤ k) (l : List Ins) (a : Int) (ha : 0 ≤ a ∧ a ≤ 255) (hl : W l) (h190 : l.length ≤ 190) : camshaftlaw06_NestLoops.j0 (k + 2) l a false = some true := by
  have hwa : wrap64 (1 + wrap64 a) = 1 + a := by rw [show wrap64 a = a from by unfold wrap64; omega]; unfold wrap64; omega
  obtain ⟨n, an, L⟩ := lp_of (r := 1 + a) hl h190
  have hok : (([(⟨21, 1 + a, 0⟩ : Ins)] ++ l.take n) ++ [(⟨22, 0, 0⟩ : Ins), (⟨25, 0, 0⟩ : Ins)]).all okI = true := by
    rw [List.all_append, List.all_append, Bool.and_eq_true, Bool.and_eq_true]
    refine ⟨⟨?_, ?_⟩, rfl⟩
    · show (okI ⟨21, 1 + a, 0⟩ && true) = true
      rw [ok_loop (by omega)]; rfl
    · rw [List.all_eq_true]
      exact fun x hx => List.all_eq_true.1 hl.1.2.2 x (List.mem_of_mem_take hx)
  have hWb := L.whole hok
  have ht : (l.take n).length = n := by rw [List.length_take]; omega
  have hA : ([(⟨21, 1 + a, 0⟩ : Ins)] ++ l.take n).length = 1 + n := by rw [List.length_append, ht]; rfl
  generalize hb : ([(⟨21, 1 + a, 0⟩ : Ins)] ++ l.take n) ++ [(⟨22, 0, 0⟩ : Ins), (⟨25, 0, 0⟩ : Ins)] = b at *
  have hbl := L.bl
  obtain ⟨m, e1, f1⟩ := match_eq l (by omega) (k := k + 1) (by omega)
  obtain ⟨p, e2, f2⟩ := match_eq b (by omega) (k := k + 1) (by omega)
  obtain ⟨r1, e3, f3⟩ := locks_eq l (by omega) (k := k + 1) (by omega)
  obtain ⟨r2, e4, f4⟩ := locks_eq b (by omega) (k := k + 1) (by omega)
  have hM : m.2 = 0 ∧ MT l m.1 := by
    rcases f1 with ⟨g1, _⟩ | ⟨_, g1, _⟩ | ⟨_, _, g3, g4⟩
    · exact absurd hl.1 g1
    · exact absurd hl.2.1 g1
    · exact ⟨g3, g4⟩
  have hN : p.2 = 0 ∧ MT b p.1 := by
    rcases f2 with ⟨g1, _⟩ | ⟨_, g1, _⟩ | ⟨_, _, g3, g4⟩
    · exact absurd hWb.1 g1
    · exact absurd hWb.2.1 g1
    · exact ⟨g3, g4⟩
  have hLM := hM.2.1
  have hLN := hN.2.1
  have N0 : rd p.1 0 = (l.length : Int) := by
    obtain ⟨c, c1, c2, c3⟩ := (hN.2.2 0 (by omega)).1 (by rw [L.b0]; rfl)
    obtain rfl := L.cl.uniq c3
    rw [an]
    exact c2.trans (by omega)
  have N1 : rd p.1 (l.length : Int) = 0 := by
    obtain ⟨q, q1, q2⟩ := (hN.2.2 (1 + n) (by omega)).2.1 (by rw [L.b1]; rfl)
    obtain rfl := L.cl.uniq' q2
    rw [show (l.length : Int) = ((1 + n : Nat) : Int) from by omega]
    exact q1
  simp only [camshaftlaw06_NestLoops.j0]
  rw [if_neg (by decide), hwa]
  refine Option.bind_eq_some_iff.2 ⟨_, rfl, ?_⟩
  rw [show wrap64 ((l.length : Int) - 1) = (n : Int) from by rw [an]; clear e1 e2 e3 e4 f1 f2 f3 f4 hM hN N0 N1 L hWb hok hwa; unfold wrap64; omega, if_pos (by omega), if_pos (by omega)]
  refine Option.bind_eq_some_iff.2 ⟨_, rfl, ?_⟩
  rw [show ((n : Nat) : Int).toNat = n from rfl, if_pos (by rw [ht]; show 1 + n < _; omega)]
  refine Option.bind_eq_some_iff.2 ⟨_, rfl, ?_⟩
  refine Option.bind_eq_some_iff.2 ⟨_, rfl, ?_⟩
  rw [if_pos (by rw [hA]; show 1 + n + 2 < _; omega)]
  refine Option.bind_eq_some_iff.2 ⟨_, rfl, ?_⟩
  rw [hb]
  refine Option.bind_eq_some_iff.2 ⟨_, e1, ?_⟩
  refine Option.bind_eq_some_iff.2 ⟨_, e2, ?_⟩
  refine Option.bind_eq_some_iff.2 ⟨_, e3, ?_⟩
  refine Option.bind_eq_some_iff.2 ⟨_, e4, ?_⟩
  rw [if_pos hM.1, if_pos hN.1, if_pos (by rw [show wrap64 ((l.length : Int) + 2) = (l.length : Int) + 2 from by clear e1 e2 e3 e4 f1 f2 f3 f4 hM hN N0 N1 L hWb hok hwa; unfold wrap64; omega]; omega), if_pos (by omega), if_pos (by omega), if_pos N0, if_pos (by omega), if_pos (by omega), N1, show ((0 : Int) != 0) = false from rfl]
  simp only [camshaftlaw06_NestLoops.j1]
  rw [if_neg (by decide)]
  exact loops_l0 l b n _ L hWb m.1 p.1 hM.2 hN.2 r1 r2 f3 f4 n 0 k (by omega) (by omega)
theorem loops_all (k : Nat) (hk : 100000 ≤ k) (l : List Ins) (a : Int) (ha : 0 ≤ a ∧ a ≤ 255) : camshaftlaw06_NestLoops.f k l a = some true := by
  obtain ⟨k, rfl⟩ : ∃ q, k = q + 2 := ⟨k - 2, by omega⟩
  have K := known_loops (k := k + 1) (by omega)
  have J : camshaftlaw06_NestLoops.j0 (k + 2) l a true = some true := by
    simp only [camshaftlaw06_NestLoops.j0]
    rw [if_pos trivial]
    exact Option.bind_eq_some_iff.2 ⟨_, K, rfl⟩
  unfold camshaftlaw06_NestLoops.f
  by_cases h1 : (l.length : Int) < 1
  · rw [if_pos h1]; exact J
  rw [if_neg h1]
  by_cases h2 : (l.length : Int) > 190
  · rw [if_pos h2]; exact J
  rw [if_neg h2]
  obtain ⟨e, e1, e2⟩ := whole_eq l (by omega) (k := k + 2) (by omega)
  refine Option.bind_eq_some_iff.2 ⟨_, e1, ?_⟩
  by_cases h3 : e = 0
  · rw [h3]
    exact loops_j0 k (by omega) l a ha (e2.zero.1 h3) (by omega)
  · rw [show (e != 0) = true from by rw [bne_iff_ne]; exact h3]
    exact J
theorem NestLoops : camshaftlaw06_NestLoops.Pure := fun l a _ _ wa => ⟨100000, loops_all 100000 (Nat.le_refl _) l a (by have h : IntKind.u8.min ≤ a ∧ a ≤ IntKind.u8.max := (by simpa [Lit.wf] using wa); exact h)⟩

end Go.Proofs.Ytljgllcllddcdaa.Pure
