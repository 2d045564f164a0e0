/- Rows one behind the other: what is open in them. No conditions beyond those that each lemma states. -/
import Derived.Test.YtljgllcllddcdaaNW
namespace Go.Proofs.Ytljgllcllddcdaa.NL
open Go.RowKit Go.Proofs.Ytljgllcllddcdaa.P Go.Proofs.YtljgllcllddcdaaW.PrintWords Go.Proofs.YtljgllcllddcdaaW.PrintLast Go.Proofs.YtljgllcllddcdaaW.PrintMore

theorem gI_left {p b : List Ins} {i : Nat} (h : i < p.length) : gI (p ++ b) i = gI p i := by
  simp [gI, rd_T32, List.getD, List.getElem?_append_left h]
theorem gI_right (p b : List Ins) (i : Nat) : gI (p ++ b) (p.length + i) = gI b i := by
  show (p ++ b).getD (p.length + i) _ = b.getD i _
  simp [List.getD, List.getElem?_append_right]
theorem gI_take {l : List Ins} {i n : Nat} (h : i < n) : gI (l.take n) i = gI l i := by
  simp [gI, rd_T32, List.getD, h]
theorem stk_congr {l l' : List Ins} : ∀ {n : Nat}, (∀ j, j < n → gI l j = gI l' j) → stk l n = stk l' n
  | 0, _ => rfl
  | n + 1, h => by
    have ih := stk_congr (n := n) (fun j hj => h j (by omega))
    show (stk l n).bind _ = (stk l' n).bind _
    rw [ih]
    cases hs : stk l' n with
    | none => rfl
    | some s =>
      show step l n s = step l' n s
      unfold step
      rw [h n (by omega)]
      cases s with
      | nil => rfl
      | cons t r =>
        have := (stk_dec hs).1
        simp only [pop]
        rw [h n (by omega), h t (by omega)]
theorem stk_shift {l b : List Ins} {n m : Nat} (hg : ∀ i, i < m → gI l (n + i) = gI b i) {s0 : List Nat} (h0 : stk l n = some s0) : ∀ {i : Nat} {s : List Nat}, i ≤ m → stk b i = some s → stk l (n + i) = some (s.map (fun q => n + q) ++ s0)
  | 0, s, _, h => by
    obtain rfl := Option.some.inj h
    exact h0
  | i + 1, s, hi, h => by
    obtain ⟨s', h1, h2⟩ := stk_prev h
    have ih := stk_shift hg h0 (i := i) (by omega) h1
    have hgi := hg i (by omega)
    rw [show n + (i + 1) = (n + i) + 1 from rfl, stk_succ ih]
    rcases step_cases h2 with ⟨ho, rfl⟩ | ⟨hc, t, rfl, hm⟩ | ⟨ho, hc, rfl⟩
    · rw [step_open (by rw [hgi]; exact ho)]
      rfl
    · rw [step_close (by rw [hgi]; exact hc)]
      have := (stk_dec h1).1
      show (if mtc (gI l (n + t)) (gI l (n + i)) = true then some _ else none) = _
      rw [hgi, hg t (by omega), if_pos hm]
      rfl
    · rw [step_plain (by rw [hgi, ho]; decide) (by rw [hgi, hc]; decide)]
theorem plain_end {x : Ins} (h : x.f0 = 25) : ¬ opn x = true ∧ ¬ cls x = true := by
  unfold opn cls
  rw [h]
  decide
/-- Ahead of the End nothing is open. -/
theorem W.last {l : List Ins} (h : W l) : ∃ n, l.length = n + 1 ∧ stk l n = some [] ∧ (gI l n).f0 = 25 := by
  obtain ⟨hR, hV, hE, _⟩ := h
  have h1 := hR.1
  obtain ⟨n, hn⟩ : ∃ n, l.length = n + 1 := ⟨l.length - 1, by omega⟩
  have hl : (gI l n).f0 = 25 := (hE n (by omega)).2 hn.symm
  refine ⟨n, hn, ?_, hl⟩
  obtain ⟨s, hs⟩ := hV.at (k := n) (by omega)
  have a := stk_succ hs
  rw [step_plain (plain_end hl).1 (plain_end hl).2] at a
  unfold V at hV
  rw [hn, a] at hV
  rw [hs, Option.some.inj hV]
theorem LSpec.lk {l : List Ins} {r : List Int × Int} (h : LSpec l r) (hW : W l) : (Lk l ∧ r = (outs l l.length, 0)) ∨ (¬ Lk l ∧ r = ([], 11)) := by
  rcases h with ⟨e, h1, h2, _⟩ | ⟨_, h1, h2⟩ | ⟨_, h1, h2⟩
  · exact absurd (h1.zero.2 hW) h2
  · exact .inr ⟨h1, h2⟩
  · exact .inl ⟨h1, h2⟩
theorem LkAt_end {l : List Ins} {i : Nat} (h : (gI l i).f0 = 25) : LkAt l i := ⟨fun g => by omega, fun g => by omega⟩

section two
variable {a b c : List Ins} {n : Nat}
/-- Two rows, one behind the other, without the End of the first one. -/
structure Two (a b c : List Ins) (n : Nat) : Prop where
  ha : W a
  hb : W b
  an : a.length = n + 1
  sn : stk a n = some []
  en : (gI a n).f0 = 25
  cn : c.length = n + b.length
  h190 : c.length ≤ 190
  l : ∀ i, i < n → gI c i = gI a i
  r : ∀ i, i < b.length → gI c (n + i) = gI b i
theorem Two.stkl (h : Two a b c n) {i : Nat} (hi : i ≤ n) : stk c i = stk a i := stk_congr (fun j hj => h.l j (by omega))
theorem Two.stkr (h : Two a b c n) {i : Nat} {s : List Nat} (hi : i ≤ b.length) (hs : stk b i = some s) : stk c (n + i) = some (s.map (fun q => n + q)) := by
  have := stk_shift (n := n) h.r (s0 := []) ((h.stkl (Nat.le_refl n)).trans h.sn) hi hs
  rw [List.append_nil] at this
  exact this
theorem Two.whole (h : Two a b c n) (hok : c.all okI = true) : W c := by
  obtain ⟨hRa, hVa, hEa, hJa⟩ := h.ha
  obtain ⟨hRb, hVb, hEb, hJb⟩ := h.hb
  have h190 := h.h190
  have hcn := h.cn
  have hb1 := hRb.1
  have han := h.an
  refine ⟨⟨by omega, by omega, hok⟩, ?_, fun i hi => ?_, fun i hi hj => ?_⟩
  · unfold V
    rw [hcn]
    exact h.stkr (Nat.le_refl _) hVb
  · unfold EnAt
    by_cases hin : i < n
    · rw [h.l i hin]
      have := hEa i (by omega)
      unfold EnAt at this
      omega
    · obtain ⟨j, rfl⟩ : ∃ j, i = n + j := ⟨i - n, by omega⟩
      rw [h.r j (by omega)]
      have := hEb j (by omega)
      unfold EnAt at this
      omega
  · by_cases hin : i < n
    · rw [h.l i hin] at hj ⊢
      obtain ⟨t, t1, t2, s, s1, s2⟩ := hJa i (by omega) hj
      exact ⟨t, t1, by omega, s, (h.stkl (by omega)).trans s1, (h.stkl (by omega)).trans s2⟩
    · obtain ⟨j, rfl⟩ : ∃ j, i = n + j := ⟨i - n, by omega⟩
      rw [h.r j (by omega)] at hj ⊢
      obtain ⟨t, t1, t2, s, s1, s2⟩ := hJb j (by omega) hj
      exact ⟨n + t, by omega, by omega, _, h.stkr (by omega) s1, h.stkr (by omega) s2⟩
theorem Two.lkl (h : Two a b c n) {i : Nat} (hi : i < n) : LkAt c i ↔ LkAt a i := by
  unfold LkAt
  rw [h.l i hi, h.stkl (by omega)]
  have e : ∀ q, q < i → gI c q = gI a q := fun q hq => h.l q (by omega)
  constructor
  · rintro ⟨g1, g2⟩
    refine ⟨fun g => ?_, fun g => ?_⟩
    · obtain ⟨x1, s, x2, x3⟩ := g1 g
      refine ⟨fun j hj => by rw [← e j hj]; exact x1 j hj, s, x2, fun q hq => ?_⟩
      rw [← e q ((stk_dec x2).mem hq)]; exact x3 q hq
    · obtain ⟨s, x2, q, hq, x3⟩ := g2 g
      refine ⟨s, x2, q, hq, ?_⟩
      rw [← e q ((stk_dec x2).mem hq)]; exact x3
  · rintro ⟨g1, g2⟩
    refine ⟨fun g => ?_, fun g => ?_⟩
    · obtain ⟨x1, s, x2, x3⟩ := g1 g
      refine ⟨fun j hj => by rw [e j hj]; exact x1 j hj, s, x2, fun q hq => ?_⟩
      rw [e q ((stk_dec x2).mem hq)]; exact x3 q hq
    · obtain ⟨s, x2, q, hq, x3⟩ := g2 g
      refine ⟨s, x2, q, hq, ?_⟩
      rw [e q ((stk_dec x2).mem hq)]; exact x3
theorem Two.lkr (h : Two a b c n) {j : Nat} (hj : j < b.length) : LkAt c (n + j) ↔ LkAt b j ∧ ((gI b j).f0 = 23 → ∀ q, q < n → (gI a q).f0 ≠ 24) := by
  unfold LkAt
  rw [h.r j hj]
  obtain ⟨s, hs⟩ := h.hb.2.1.at (k := j) (by omega)
  have hs' := h.stkr (by omega) hs
  rw [hs, hs']
  have hd := stk_dec hs
  have e : ∀ q, q ∈ s → gI c (n + q) = gI b q := fun q hq => h.r q (by have := hd.mem hq; omega)
  constructor
  · rintro ⟨g1, g2⟩
    refine ⟨⟨fun g => ?_, fun g => ?_⟩, fun g q hq => ?_⟩
    · obtain ⟨x1, s', x2, x3⟩ := g1 g
      obtain rfl := Option.some.inj x2
      refine ⟨fun q hq => by rw [← h.r q (by omega)]; exact x1 (n + q) (by omega), s, rfl, fun q hq => ?_⟩
      rw [← e q hq]; exact x3 _ (List.mem_map_of_mem hq)
    · obtain ⟨s', x2, q, hq, x3⟩ := g2 g
      obtain rfl := Option.some.inj x2
      obtain ⟨q', hq', rfl⟩ := List.mem_map.1 hq
      rw [e q' hq'] at x3
      exact ⟨s, rfl, q', hq', x3⟩
    · obtain ⟨x1, _⟩ := g1 g
      rw [← h.l q hq]; exact x1 q (by omega)
  · rintro ⟨⟨g1, g2⟩, g3⟩
    refine ⟨fun g => ?_, fun g => ?_⟩
    · obtain ⟨x1, s', x2, x3⟩ := g1 g
      obtain rfl := Option.some.inj x2
      refine ⟨fun q hq => ?_, _, rfl, fun q hq => ?_⟩
      · by_cases hqn : q < n
        · rw [h.l q hqn]; exact g3 g q hqn
        · obtain ⟨q', rfl⟩ : ∃ q', q = n + q' := ⟨q - n, by omega⟩
          rw [h.r q' (by omega)]; exact x1 q' (by omega)
      · obtain ⟨q', hq', rfl⟩ := List.mem_map.1 hq
        rw [e q' hq']; exact x3 q' hq'
    · obtain ⟨s', x2, q, hq, x3⟩ := g2 g
      obtain rfl := Option.some.inj x2
      refine ⟨_, rfl, n + q, List.mem_map_of_mem hq, ?_⟩
      rw [e q hq]; exact x3
end two
theorem mem_outs' {l : List Ins} : ∀ {i : Nat}, i ≤ l.length → ∀ b, b ∈ outs l i ↔ ∃ j, j < i ∧ (gI l j).f0 = 23 ∧ (gI l j).f1 = b
  | 0, _, b => by simp [outs]
  | i + 1, h, b => by
    have ih := mem_outs' (l := l) (i := i) (by omega) b
    rw [outs_succ (by omega)]
    by_cases h2 : (gI l i).f0 = 23
    · rw [if_pos h2, List.mem_append, ih, List.mem_singleton]
      constructor
      · rintro (⟨j, a, c⟩ | rfl)
        · exact ⟨j, by omega, c⟩
        · exact ⟨i, by omega, h2, rfl⟩
      · rintro ⟨j, a, c, d⟩
        by_cases e : j = i
        · subst e; exact .inr d.symm
        · exact .inl ⟨j, by omega, c, d⟩
    · rw [if_neg h2, ih]
      constructor
      · rintro ⟨j, a, c⟩; exact ⟨j, by omega, c⟩
      · rintro ⟨j, a, c⟩
        by_cases e : j = i
        · subst e; exact absurd c.1 h2
        · exact ⟨j, by omega, c⟩
theorem outs_ne {l : List Ins} : outs l l.length ≠ [] ↔ ∃ j, j < l.length ∧ (gI l j).f0 = 23 := by
  constructor
  · intro h
    obtain ⟨b, r, e⟩ := List.exists_cons_of_ne_nil h
    have : b ∈ outs l l.length := by rw [e]; exact List.mem_cons_self ..
    obtain ⟨j, h1, h2, _⟩ := (mem_outs' (Nat.le_refl _) b).1 this
    exact ⟨j, h1, h2⟩
  · rintro ⟨j, h1, h2⟩ h
    have : (gI l j).f1 ∈ outs l l.length := (mem_outs' (Nat.le_refl _) _).2 ⟨j, h1, h2, rfl⟩
    rw [h] at this; cases this
/-- A lock is unlocked, and what is unlocked was locked. -/
theorem V.locked {l : List Ins} (h : V l) {i : Nat} (hi : i < l.length) (h23 : (gI l i).f0 = 23) : ∃ c, c < l.length ∧ (gI l c).f0 = 24 := by
  obtain ⟨c, h1, _, r, _, hm⟩ := h.opened hi (by unfold opn; rw [h23]; rfl)
  refine ⟨c, h1, ?_⟩
  unfold mtc at hm
  rw [h23] at hm
  simp at hm
  exact hm.1
theorem V.unlocked {l : List Ins} (h : V l) {c : Nat} (hc : c < l.length) (h24 : (gI l c).f0 = 24) : ∃ i, i < l.length ∧ (gI l i).f0 = 23 := by
  obtain ⟨q, hq⟩ := h.closed hc (by unfold cls; rw [h24]; rfl)
  have := hq.lt
  obtain ⟨_, r, _, hm⟩ := hq
  refine ⟨q, by omega, ?_⟩
  unfold mtc at hm
  rw [h24] at hm
  simp at hm
  exact hm.1

end Go.Proofs.Ytljgllcllddcdaa.NL
