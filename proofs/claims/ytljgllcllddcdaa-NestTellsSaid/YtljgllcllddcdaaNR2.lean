/- The reference's Held and Locks: what they answer, in plain words. No conditions beyond those that each lemma states. -/
import Derived.Test.YtljgllcllddcdaaNR
import Derived.Test.YtljgllcllddcdaaPx19
import Derived.Test.YtljgllcllddcdaaPx17
import Derived.Test.YtljgllcllddcdaaPx18
namespace Go.Proofs.Ytljgllcllddcdaa.NL
open Go.RowKit Go.Proofs.Ytljgllcllddcdaa.P Go.Proofs.YtljgllcllddcdaaW.PrintWords Go.Proofs.YtljgllcllddcdaaW.PrintLast Go.Proofs.YtljgllcllddcdaaW.PrintMore

def psum (p : Int → Bool) : Nat → Int
  | 0 => 0
  | b + 1 => psum p b + (if p (b : Int) = true then 2 ^ b else 0)
theorem psum8 (p : Int → Bool) : psum p 8 = mk8 p := by
  unfold mk8 m8
  simp only [psum, Int.zero_add]
  rfl
theorem pow_small {b : Nat} (h : b ≤ 8) : 1 ≤ (2 : Int) ^ b ∧ (2 : Int) ^ b ≤ 256 := by
  have : b = 0 ∨ b = 1 ∨ b = 2 ∨ b = 3 ∨ b = 4 ∨ b = 5 ∨ b = 6 ∨ b = 7 ∨ b = 8 := by omega
  rcases this with rfl | rfl | rfl | rfl | rfl | rfl | rfl | rfl | rfl <;> decide
theorem psum_small (p : Int → Bool) : ∀ {b : Nat}, b ≤ 8 → 0 ≤ psum p b ∧ psum p b ≤ 256 * b
  | 0, _ => by simp [psum]
  | b + 1, h => by
    have ih := psum_small p (b := b) (by omega)
    have := pow_small (b := b) (by omega)
    simp only [psum]
    split <;> omega
section
variable {l : List Ins} {M : List Int} {i : Nat} {s : List Nat} {Q : List Int × Int → Prop}
theorem rheld_l2 (hM : MT l M) (hi : i < l.length) (hs : stk l i = some s) (hn : l.length ≤ 200) (O : List Int) (b X : Nat) (hb : b < 8) (hX : ∀ k, X ≤ k → ∃ r, camshaftref06_Held.l1 k l M O (i : Int) (psum (inL l s) (b + 1)) (2 ^ (b + 1)) ((b + 1 : Nat) : Int) = some r ∧ Q r) :
    ∀ (e q k : Nat) (acc : Bool), q + e = i → X + e + 1 ≤ k → ((acc = true ∨ ∃ q', q ≤ q' ∧ q' < i ∧ q' ∈ s ∧ (gI l q').f0 = 23 ∧ (gI l q').f1 = (b : Int)) ↔ inL l s (b : Int) = true) →
    ∃ r, camshaftref06_Held.l2 k l M O (i : Int) (psum (inL l s) b) (2 ^ b) (b : Int) acc (q : Int) = some r ∧ Q r := by
  intro e
  induction e with
  | zero =>
    intro q k acc hq hk ha
    obtain ⟨k, rfl⟩ : ∃ m, k = m + 1 := ⟨k - 1, by omega⟩
    have hp := psum_small (inL l s) (b := b) (by omega)
    have hw := pow_small (b := b) (by omega)
    have e1 : wrap64 (2 * 2 ^ b) = 2 ^ (b + 1) := by rw [Int.pow_succ, Int.mul_comm]; unfold wrap64; omega
    have e2 : wrap64 ((b : Int) + 1) = ((b + 1 : Nat) : Int) := by unfold wrap64; omega
    have e3 : wrap64 (psum (inL l s) b + 2 ^ b) = psum (inL l s) b + 2 ^ b := by unfold wrap64; omega
    have hx := hX k (by omega)
    simp only [psum] at hx
    simp only [camshaftref06_Held.l2]
    rw [if_neg (by omega), e1, e2, e3]
    have ha' : acc = true ↔ inL l s (b : Int) = true := by
      rw [← ha]
      exact ⟨.inl, fun h => h.elim id (fun ⟨q', h1, h2, _⟩ => by omega)⟩
    by_cases h : acc = true
    · rw [if_pos h]
      rw [if_pos (ha'.1 h)] at hx
      exact hx
    · rw [if_neg h]
      rw [if_neg (fun g => h (ha'.2 g)), Int.add_zero] at hx
      exact hx
  | succ e ih =>
    intro q k acc hq hk ha
    obtain ⟨k, rfl⟩ : ∃ m, k = m + 1 := ⟨k - 1, by omega⟩
    have hw : wrap64 ((q : Int) + 1) = ((q + 1 : Nat) : Int) := by clear ha hX ih; unfold wrap64; omega
    simp only [camshaftref06_Held.l2]
    rw [if_pos (by omega), hw, show rd_T32 l (q : Int) = gI l q from rfl]
    have go : ∀ acc2 : Bool, (acc2 = true ↔ (acc = true ∨ (q ∈ s ∧ (gI l q).f0 = 23 ∧ (gI l q).f1 = (b : Int)))) → ∃ r, camshaftref06_Held.l2 k l M O (i : Int) (psum (inL l s) b) (2 ^ b) (b : Int) acc2 ((q + 1 : Nat) : Int) = some r ∧ Q r := by
      intro acc2 h2
      refine ih (q + 1) k acc2 (by omega) (by omega) ?_
      rw [← ha, h2]
      constructor
      · rintro ((h | h) | ⟨q', h1, h3, h4⟩)
        · exact .inl h
        · exact .inr ⟨q, by omega, by omega, h⟩
        · exact .inr ⟨q', by omega, h3, h4⟩
      · rintro (h | ⟨q', h1, h3, h4⟩)
        · exact .inl (.inl h)
        · by_cases e : q' = q
          · subst e; exact .inl (.inr h4)
          · exact .inr ⟨q', by omega, h3, h4⟩
    by_cases h : acc = true
    · rw [if_pos h]
      exact go true ⟨fun _ => .inl h, fun _ => rfl⟩
    · rw [if_neg h, if_pos (by omega), if_pos (by omega)]
      by_cases h1 : (gI l q).f0 = 23
      · rw [if_pos h1]
        by_cases h2 : (gI l q).f1 = (b : Int)
        · rw [if_pos h2]
          obtain ⟨r, r1, r2⟩ := within_eq hM hs (show q < i by omega) (by omega)
          refine exists_bind r1 ?_
          exact go r (by rw [r2]; exact ⟨fun g => .inr ⟨g, h1, h2⟩, fun g => g.elim (fun g => absurd g h) (fun g => g.1)⟩)
        · rw [if_neg h2]
          exact go false ⟨fun g => (by cases g), fun g => g.elim (fun g => absurd g h) (fun g => absurd g.2.2 h2)⟩
      · rw [if_neg h1]
        exact go false ⟨fun g => (by cases g), fun g => g.elim (fun g => absurd g h) (fun g => absurd g.2.1 h1)⟩
theorem rheld_l1 (hM : MT l M) (hi : i < l.length) (hs : stk l i = some s) (hn : l.length ≤ 200) (O : List Int) (hO : O.length ≤ 200) (X : Nat) (hX : ∀ k, X ≤ k → ∃ r, camshaftref06_Held.l0 k l M (O ++ [mk8 (inL l s)]) ((i + 1 : Nat) : Int) = some r ∧ Q r) :
    ∀ (c b k : Nat), b + c = 8 → X + 210 * c + 1 ≤ k → ∃ r, camshaftref06_Held.l1 k l M O (i : Int) (psum (inL l s) b) (2 ^ b) (b : Int) = some r ∧ Q r := by
  intro c
  induction c with
  | zero =>
    intro b k hb hk
    obtain ⟨k, rfl⟩ : ∃ m, k = m + 1 := ⟨k - 1, by omega⟩
    obtain rfl : b = 8 := by omega
    simp only [camshaftref06_Held.l1]
    rw [if_neg (by omega), if_pos (by omega), psum8, show wrap64 ((i : Int) + 1) = ((i + 1 : Nat) : Int) from by clear hX; unfold wrap64; omega]
    exact hX k (by omega)
  | succ c ih =>
    intro b k hb hk
    obtain ⟨k, rfl⟩ : ∃ m, k = m + 1 := ⟨k - 1, by omega⟩
    simp only [camshaftref06_Held.l1]
    rw [if_pos (by omega)]
    refine rheld_l2 hM hi hs hn O b (X + 210 * c + 1) (by omega) (fun k hk => ih (b + 1) k (by omega) hk) i 0 k false (by omega) (by omega) ?_
    rw [inL_iff]
    constructor
    · rintro (h | ⟨q, _, _, h1, h2⟩)
      · cases h
      · exact ⟨q, h1, h2⟩
    · rintro ⟨q, h1, h2⟩
      exact .inr ⟨q, by omega, (stk_dec hs).mem h1, h1, h2⟩
end
theorem rheld_l0 (l : List Ins) (M : List Int) (hM : MT l M) (hV : V l) (hn : l.length ≤ 200) : ∀ (d i k : Nat) (O : List Int), i + d = l.length → 1700 * d + 10 ≤ k → O.length = i → (∀ j, j < i → ∃ s, stk l j = some s ∧ rd O (j : Int) = mk8 (inL l s)) →
    ∃ r, camshaftref06_Held.l0 k l M O (i : Int) = some r ∧ (r.2 = 0 ∧ DT l r.1) := by
  intro d
  induction d with
  | zero =>
    intro i k O hi hk hO h
    obtain ⟨k, rfl⟩ : ∃ m, k = m + 1 := ⟨k - 1, by omega⟩
    simp only [camshaftref06_Held.l0]
    rw [if_neg (by omega)]
    exact ⟨_, rfl, rfl, by show O.length = _; omega, fun j hj => h j (by omega)⟩
  | succ d ih =>
    intro i k O hi hk hO h
    obtain ⟨k, rfl⟩ : ∃ m, k = m + 1 := ⟨k - 1, by omega⟩
    obtain ⟨s, hs⟩ := hV.at (k := i) (by omega)
    simp only [camshaftref06_Held.l0]
    rw [if_pos (by omega)]
    refine rheld_l1 (Q := fun r => r.2 = 0 ∧ DT l r.1) hM (by omega) hs hn O (by omega) (1700 * d + 10) (fun k hk => ?_) 8 0 k (by omega) (by omega)
    refine ih (i + 1) k _ (by omega) (by omega) (by rw [List.length_append, hO]; rfl) (fun j hj => ?_)
    by_cases e : j = i
    · subst e
      exact ⟨s, hs, by have := rd_app_self O (mk8 (inL l s)); rw [hO] at this; exact this⟩
    · rw [rd_app_left (by omega)]
      exact h j (by omega)
theorem rheld_eq (l : List Ins) (hI : In l) (hn : l.length ≤ 1000000) {k : Nat} (hk : 2 * l.length + 500000 ≤ k) : ∃ r, camshaftref06_Held.f k l = some r ∧ DSpec l r := by
  unfold camshaftref06_Held.f
  obtain ⟨m, e1, e2⟩ := rmatch_eq l hI hn (k := k) (by omega)
  refine exists_bind e1 ?_
  rcases e2 with ⟨h1, rfl⟩ | ⟨h1, h2, rfl⟩ | ⟨h1, h2, h3, h4⟩
  · exact ⟨_, rfl, .inl ⟨h1, rfl⟩⟩
  · exact ⟨_, rfl, .inr (.inl ⟨h1, h2, rfl⟩)⟩
  · have h200 := h1.2.1
    rw [if_pos h3]
    obtain ⟨r, e3, e4, e5⟩ := rheld_l0 l m.1 h4 h2 h1.2.1 l.length 0 k [] (by omega) (by omega) rfl (fun j hj => by omega)
    exact ⟨r, e3, .inr (.inr ⟨h1, h2, e4, e5⟩)⟩
section
variable {l : List Ins} {M : List Int} {i : Nat} {s : List Nat}
/-- What forbids a Lock; what allows a Get or Put. -/
def BadQ (l : List Ins) (i : Nat) (s : List Nat) (q : Nat) : Prop := (gI l q).f0 = 24 ∨ (q ∈ s ∧ ((gI l q).f0 = 21 ∨ ((gI l q).f0 = 23 ∧ (gI l i).f1 ≤ (gI l q).f1)))
def UndQ (l : List Ins) (i : Nat) (s : List Nat) (q : Nat) : Prop := q ∈ s ∧ (gI l q).f0 = 23 ∧ (gI l q).f1 = (gI l i).f1
def BadFrom (l : List Ins) (i : Nat) (s : List Nat) (j : Nat) (u : Bool) : Prop :=
  ((gI l i).f0 = 23 ∧ ∃ q, j ≤ q ∧ q < i ∧ BadQ l i s q) ∨ (((gI l i).f0 = 17 ∨ (gI l i).f0 = 18) ∧ ¬ (u = true ∨ ∃ q, j ≤ q ∧ q < i ∧ UndQ l i s q))
theorem bad_l0 (hM : MT l M) (hi : i < l.length) (hs : stk l i = some s) (hn : l.length ≤ 200) : ∀ (e j k : Nat) (u : Bool), j + e = i → 3 * e + 3 ≤ k →
    ∃ r, camshaftref06_bad.l0 k l M (i : Int) u (j : Int) (gI l i).f0 (gI l i).f1 (gI l i).f2 = some r ∧ (r = true ↔ BadFrom l i s j u) := by
  intro e
  induction e with
  | zero =>
    intro j k u hj hk
    obtain ⟨k, rfl⟩ : ∃ m, k = m + 1 := ⟨k - 1, by omega⟩
    have n1 : ¬ ∃ q, j ≤ q ∧ q < i ∧ BadQ l i s q := fun ⟨q, h1, h2, _⟩ => by omega
    have n2 : ¬ ∃ q, j ≤ q ∧ q < i ∧ UndQ l i s q := fun ⟨q, h1, h2, _⟩ => by omega
    simp only [camshaftref06_bad.l0]
    rw [if_neg (by omega)]
    unfold BadFrom
    by_cases h17 : (gI l i).f0 = 17
    · rw [if_pos h17]
      refine ⟨_, rfl, ?_⟩
      cases u <;> simp [h17, n2]
    · rw [if_neg h17]
      by_cases h18 : (gI l i).f0 = 18
      · rw [if_pos h18]
        refine ⟨_, rfl, ?_⟩
        cases u <;> simp [h18, n2]
      · rw [if_neg h18]
        refine ⟨_, rfl, ?_⟩
        simp [h17, h18, n1]
  | succ e ih =>
    intro j k u hj hk
    obtain ⟨k, rfl⟩ : ∃ m, k = m + 3 := ⟨k - 3, by omega⟩
    have hw : wrap64 ((j : Int) + 1) = ((j + 1 : Nat) : Int) := by unfold wrap64; omega
    have J2 : ∀ k', k + 1 ≤ k' → ∃ r, camshaftref06_bad.j2 k' l M (i : Int) u (j : Int) (gI l i).f0 (gI l i).f1 (gI l i).f2 = some r ∧ (r = true ↔ (((gI l i).f0 = 23 ∧ ∃ q, j + 1 ≤ q ∧ q < i ∧ BadQ l i s q) ∨ (((gI l i).f0 = 17 ∨ (gI l i).f0 = 18) ∧ ¬ (u = true ∨ ∃ q, j ≤ q ∧ q < i ∧ UndQ l i s q)))) := by
      intro k' hk'
      obtain ⟨k', rfl⟩ : ∃ m, k' = m + 1 := ⟨k' - 1, by omega⟩
      simp only [camshaftref06_bad.j2]
      rw [hw, show rd_T32 l (j : Int) = gI l j from rfl]
      have go : ∀ u2 : Bool, (u2 = true ↔ (u = true ∨ UndQ l i s j)) → ∃ r, camshaftref06_bad.l0 k' l M (i : Int) u2 ((j + 1 : Nat) : Int) (gI l i).f0 (gI l i).f1 (gI l i).f2 = some r ∧ (r = true ↔ (((gI l i).f0 = 23 ∧ ∃ q, j + 1 ≤ q ∧ q < i ∧ BadQ l i s q) ∨ (((gI l i).f0 = 17 ∨ (gI l i).f0 = 18) ∧ ¬ (u = true ∨ ∃ q, j ≤ q ∧ q < i ∧ UndQ l i s q)))) := by
        intro u2 h2
        obtain ⟨r, r1, r2⟩ := ih (j + 1) k' u2 (by omega) (by omega)
        refine ⟨r, r1, ?_⟩
        rw [r2]
        unfold BadFrom
        have E : (u2 = true ∨ ∃ q, j + 1 ≤ q ∧ q < i ∧ UndQ l i s q) ↔ (u = true ∨ ∃ q, j ≤ q ∧ q < i ∧ UndQ l i s q) := by
          rw [h2]
          constructor
          · rintro ((h | h) | ⟨q, h1, h3⟩)
            · exact .inl h
            · exact .inr ⟨j, Nat.le_refl j, by omega, h⟩
            · exact .inr ⟨q, by omega, h3⟩
          · rintro (h | ⟨q, h1, h3, h4⟩)
            · exact .inl (.inl h)
            · by_cases e : q = j
              · subst e; exact .inl (.inr h4)
              · exact .inr ⟨q, by omega, h3, h4⟩
        rw [E]
      by_cases hu : u = true
      · rw [if_pos hu]
        exact go true ⟨fun _ => .inl hu, fun _ => rfl⟩
      · rw [if_neg hu, if_pos (by omega), if_pos (by omega)]
        by_cases h1 : (gI l j).f0 = 23
        · rw [if_pos h1]
          by_cases h2 : (gI l j).f1 = (gI l i).f1
          · rw [if_pos h2]
            obtain ⟨r, r1, r2⟩ := within_eq hM hs (show j < i by omega) (by omega)
            refine exists_bind r1 ?_
            exact go r (by rw [r2]; exact ⟨fun g => .inr ⟨g, h1, h2⟩, fun g => g.elim (fun g => absurd g hu) (fun g => g.1)⟩)
          · rw [if_neg h2]
            exact go false ⟨fun g => (by cases g), fun g => g.elim (fun g => absurd g hu) (fun g => absurd g.2.2 h2)⟩
        · rw [if_neg h1]
          exact go false ⟨fun g => (by cases g), fun g => g.elim (fun g => absurd g hu) (fun g => absurd g.2.1 h1)⟩
    simp only [camshaftref06_bad.l0]
    rw [if_pos (by omega), show rd_T32 l (j : Int) = gI l j from rfl]
    by_cases h23 : (gI l i).f0 = 23
    · rw [if_pos h23, if_pos (by omega), if_pos (by omega)]
      have J1 : ∀ f : Bool, (f = true ↔ BadQ l i s j) → ∃ r, camshaftref06_bad.j1 (k + 2) l M (i : Int) u (j : Int) f (gI l i).f0 (gI l i).f1 (gI l i).f2 = some r ∧ (r = true ↔ BadFrom l i s j u) := by
        intro f hf
        simp only [camshaftref06_bad.j1]
        by_cases h : f = true
        · rw [if_pos h]
          exact ⟨_, rfl, fun _ => .inl ⟨h23, j, Nat.le_refl j, by omega, hf.1 h⟩, fun _ => rfl⟩
        · rw [if_neg h]
          obtain ⟨r, r1, r2⟩ := J2 (k + 1) (Nat.le_refl _)
          refine ⟨r, r1, ?_⟩
          rw [r2]
          unfold BadFrom
          have E : (∃ q, j + 1 ≤ q ∧ q < i ∧ BadQ l i s q) ↔ ∃ q, j ≤ q ∧ q < i ∧ BadQ l i s q := by
            constructor
            · rintro ⟨q, h1, h2⟩; exact ⟨q, by omega, h2⟩
            · rintro ⟨q, h1, h2, h3⟩
              by_cases e : q = j
              · subst e; exact absurd (hf.2 h3) h
              · exact ⟨q, by omega, h2, h3⟩
          rw [E]
      by_cases g24 : (gI l j).f0 = 24
      · rw [if_pos g24]
        exact J1 true ⟨fun _ => .inl g24, fun _ => rfl⟩
      · rw [if_neg g24]
        obtain ⟨t, t1, t2⟩ := within_eq hM hs (show j < i by omega) (by omega)
        refine exists_bind t1 ?_
        by_cases ht : t = true
        · have hjs := t2.1 ht
          rw [if_pos ht]
          by_cases g21 : (gI l j).f0 = 21
          · rw [if_pos g21]
            exact J1 true ⟨fun _ => .inr ⟨hjs, .inl g21⟩, fun _ => rfl⟩
          · rw [if_neg g21]
            by_cases g23 : (gI l j).f0 = 23
            · rw [if_pos g23]
              exact J1 _ (by
                rw [decide_eq_true_iff]
                exact ⟨fun g => .inr ⟨hjs, .inr ⟨g23, g⟩⟩, fun g => g.elim (fun g => absurd g g24) (fun g => g.2.elim (fun g => absurd g g21) (fun g => g.2))⟩)
            · rw [if_neg g23]
              exact J1 false ⟨fun g => (by cases g), fun g => g.elim (fun g => absurd g g24) (fun g => g.2.elim (fun g => absurd g g21) (fun g => absurd g.1 g23))⟩
        · rw [if_neg ht]
          exact J1 false ⟨fun g => (by cases g), fun g => g.elim (fun g => absurd g g24) (fun g => absurd (t2.2 g.1) ht)⟩
    · rw [if_neg h23]
      obtain ⟨r, r1, r2⟩ := J2 (k + 2) (by omega)
      refine ⟨r, r1, ?_⟩
      rw [r2]
      unfold BadFrom
      exact or_congr (and_congr_right fun g => absurd g h23) Iff.rfl
theorem bad_eq (hM : MT l M) (hi : i < l.length) (hs : stk l i = some s) (hn : l.length ≤ 200) {k : Nat} (hk : 700 ≤ k) : ∃ r, camshaftref06_bad.f k l M (i : Int) = some r ∧ (r = true ↔ ¬ LkAt l i) := by
  unfold camshaftref06_bad.f
  rw [if_pos (by omega), if_pos (by omega)]
  obtain ⟨r, r1, r2⟩ := bad_l0 hM hi hs hn i 0 k false (by omega) (by omega)
  refine ⟨r, r1, ?_⟩
  rw [r2]
  unfold BadFrom LkAt
  constructor
  · rintro (⟨h1, q, _, hq, hB⟩ | ⟨h1, h2⟩) ⟨g1, g2⟩
    · obtain ⟨x1, s', x2, x3⟩ := g1 h1
      obtain rfl := Option.some.inj (hs.symm.trans x2)
      rcases hB with hB | ⟨hB, hC⟩
      · exact x1 q hq hB
      · rcases hC with hC | ⟨hC, hD⟩
        · exact (x3 q hB).1 hC
        · have := (x3 q hB).2 hC; omega
    · obtain ⟨s', x2, q, x3, x4⟩ := g2 h1
      obtain rfl := Option.some.inj (hs.symm.trans x2)
      exact h2 (.inr ⟨q, by omega, (stk_dec hs).mem x3, x3, x4⟩)
  · intro h
    apply Classical.byContradiction
    intro hno
    apply h
    refine ⟨fun h23 => ?_, fun hg => ?_⟩
    · have hA : ∀ q, q < i → ¬ BadQ l i s q := fun q hq hB => hno (.inl ⟨h23, q, by omega, hq, hB⟩)
      refine ⟨fun j hj g => hA j hj (.inl g), s, hs, fun q hq => ?_⟩
      have hqi := (stk_dec hs).mem hq
      refine ⟨fun g => hA q hqi (.inr ⟨hq, .inl g⟩), fun g => ?_⟩
      apply Classical.byContradiction
      intro hlt
      exact hA q hqi (.inr ⟨hq, .inr ⟨g, by omega⟩⟩)
    · apply Classical.byContradiction
      intro hne
      refine hno (.inr ⟨hg, ?_⟩)
      rintro (g | ⟨q, _, _, g1, g2⟩)
      · cases g
      · exact hne ⟨s, hs, q, g1, g2⟩
end
theorem rlocks_l0 (l : List Ins) (M : List Int) (hM : MT l M) (hV : V l) (hn : l.length ≤ 200) : ∀ (d i k : Nat), i + d = l.length → d + 1000 ≤ k →
    ∃ r, camshaftref06_Locks.l0 k l M (outs l i) (i : Int) = some r ∧ (((∀ j, i ≤ j → j < l.length → LkAt l j) ∧ r = (outs l l.length, 0)) ∨ (¬ (∀ j, i ≤ j → j < l.length → LkAt l j) ∧ r = ([], 11))) := by
  intro d
  induction d with
  | zero =>
    intro i k hi hk
    obtain ⟨k, rfl⟩ : ∃ m, k = m + 1 := ⟨k - 1, by omega⟩
    obtain rfl : i = l.length := by omega
    simp only [camshaftref06_Locks.l0]
    rw [if_neg (by omega)]
    exact ⟨_, rfl, .inl ⟨fun j h1 h2 => by omega, rfl⟩⟩
  | succ d ih =>
    intro i k hi hk
    obtain ⟨k, rfl⟩ : ∃ m, k = m + 1 := ⟨k - 1, by omega⟩
    have hil : i < l.length := by omega
    have hw : wrap64 ((i : Int) + 1) = ((i + 1 : Nat) : Int) := by unfold wrap64; omega
    have hol := outs_len l i
    obtain ⟨s, hs⟩ := hV.at (k := i) (by omega)
    obtain ⟨b, b1, b2⟩ := bad_eq hM hil hs hn (k := k) (by omega)
    simp only [camshaftref06_Locks.l0]
    rw [if_pos (by omega)]
    refine exists_bind b1 ?_
    by_cases hb : b = true
    · rw [if_pos hb]
      exact ⟨_, rfl, .inr ⟨not_all hil (b2.1 hb), rfl⟩⟩
    · have hL : LkAt l i := Classical.byContradiction fun h => hb (b2.2 h)
      have next := ih (i + 1) k (by omega) (by omega)
      rw [outs_succ hil] at next
      rw [if_neg hb, if_pos (by omega), hw, show rd_T32 l (i : Int) = gI l i from rfl, all_succ hL]
      by_cases h23 : (gI l i).f0 = 23
      · rw [if_pos h23] at next
        rw [if_pos h23, if_pos (by omega)]
        exact next
      · rw [if_neg h23] at next
        rw [if_neg h23]
        exact next
theorem rlocks_eq (l : List Ins) (hI : In l) (hn : l.length ≤ 1000000) {k : Nat} (hk : 4 * l.length + 2000 ≤ k) : ∃ r, camshaftref06_Locks.f k l = some r ∧ LSpec l r := by
  unfold camshaftref06_Locks.f
  obtain ⟨e, e1, e2⟩ := rwhole_eq l hI hn (k := k) (by omega)
  refine exists_bind e1 ?_
  by_cases h : e = 0
  · have hW := e2.zero.1 h
    have hR := hW.1
    have hV := hW.2.1
    obtain ⟨m, f1, f2⟩ := rmatch_eq l hI hn (k := k) (by omega)
    rw [if_pos h]
    refine exists_bind f1 ?_
    have hM : MT l m.1 := by
      rcases f2 with ⟨h1, _⟩ | ⟨_, h1, _⟩ | ⟨_, _, _, h1⟩
      · exact absurd hR h1
      · exact absurd hV h1
      · exact h1
    obtain ⟨r, i1, i2⟩ := rlocks_l0 l m.1 hM hV hR.2.1 l.length 0 k (by omega) (by omega)
    refine ⟨r, i1, ?_⟩
    rcases i2 with ⟨h1, h2⟩ | ⟨h1, h2⟩
    · exact .inr (.inr ⟨hW, fun j hj => h1 j (by omega) hj, h2⟩)
    · exact .inr (.inl ⟨hW, fun g => h1 fun j _ hj => g j hj, h2⟩)
  · rw [if_neg h]
    exact ⟨_, rfl, .inl ⟨e, e2, h, rfl⟩⟩

end Go.Proofs.Ytljgllcllddcdaa.NL
