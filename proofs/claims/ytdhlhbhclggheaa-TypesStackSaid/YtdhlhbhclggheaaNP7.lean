/- Rows one behind the other: what is open in them. No conditions beyond those that each lemma states. -/
import Derived.Test.YtdhlhbhclggheaaNW7
namespace Go.Proofs.Ytdhlhbhclggheaa.NL
open Go.RowKit Go.Proofs.Ytdhlhbhclggheaa.P Go.Proofs.Ytdhlhbhclggheaa.D Go.Proofs.YtdhlhbhclggheaaW.PrintWords Go.Proofs.YtdhlhbhclggheaaW.PrintLast Go.Proofs.YtdhlhbhclggheaaW.PrintMore

theorem gI_left {p b : List Ins} {i : Nat} (h : i < p.length) : gI (p ++ b) i = gI p i := by
  simp [gI, rd_T37, List.getD, List.getElem?_append_left h]
theorem gI_right (p b : List Ins) (i : Nat) : gI (p ++ b) (p.length + i) = gI b i := by
  show (p ++ b).getD (p.length + i) _ = b.getD i _
  simp [List.getD, List.getElem?_append_right]
theorem gI_take {l : List Ins} {i n : Nat} (h : i < n) : gI (l.take n) i = gI l i := by
  simp [gI, rd_T37, List.getD, h]
theorem stk_congr {l l' : List Ins} : ∀ {n : Nat}, (∀ j, j < n → gI l j = gI l' j) → stk l n = stk l' n
  | 0, _ => rfl
  | n + 1, h => by
    have ih := stk_congr (n := n) (fun j hj => h j (by omega))
    show (stk l n).bind _ = (stk l' n).bind _
    rw [ih]
    cases hs : stk l' n with
    | none => rfl
    | some s =>
      show step l n s = step l' n s
      unfold step
      rw [h n (by omega)]
      cases s with
      | nil => rfl
      | cons t r =>
        have := (stk_dec hs).1
        simp only [pop]
        rw [h n (by omega), h t (by omega)]
theorem stk_shift {l b : List Ins} {n m : Nat} (hg : ∀ i, i < m → gI l (n + i) = gI b i) {s0 : List Nat} (h0 : stk l n = some s0) : ∀ {i : Nat} {s : List Nat}, i ≤ m → stk b i = some s → stk l (n + i) = some (s.map (fun q => n + q) ++ s0)
  | 0, s, _, h => by
    obtain rfl := Option.some.inj h
    exact h0
  | i + 1, s, hi, h => by
    obtain ⟨s', h1, h2⟩ := stk_prev h
    have ih := stk_shift hg h0 (i := i) (by omega) h1
    have hgi := hg i (by omega)
    rw [show n + (i + 1) = (n + i) + 1 from rfl, stk_succ ih]
    rcases step_cases h2 with ⟨ho, rfl⟩ | ⟨hc, t, rfl, hm⟩ | ⟨ho, hc, rfl⟩
    · rw [step_open (by rw [hgi]; exact ho)]
      rfl
    · rw [step_close (by rw [hgi]; exact hc)]
      have := (stk_dec h1).1
      show (if mtc (gI l (n + t)) (gI l (n + i)) = true then some _ else none) = _
      rw [hgi, hg t (by omega), if_pos hm]
      rfl
    · rw [step_plain (by rw [hgi, ho]; decide) (by rw [hgi, hc]; decide)]
theorem plain_end {x : Ins} (h : x.f0 = 25) : ¬ opn x = true ∧ ¬ cls x = true := by
  unfold opn cls
  rw [h]
  decide
/-- Ahead of the End nothing is open. -/
theorem W.last {l : List Ins} (h : W l) : ∃ n, l.length = n + 1 ∧ stk l n = some [] ∧ (gI l n).f0 = 25 := by
  obtain ⟨hR, hV, hE, _⟩ := h
  have h1 := hR.1
  obtain ⟨n, hn⟩ : ∃ n, l.length = n + 1 := ⟨l.length - 1, by omega⟩
  have hl : (gI l n).f0 = 25 := (hE n (by omega)).2 hn.symm
  refine ⟨n, hn, ?_, hl⟩
  obtain ⟨s, hs⟩ := hV.at (k := n) (by omega)
  have a := stk_succ hs
  rw [step_plain (plain_end hl).1 (plain_end hl).2] at a
  unfold V at hV
  rw [hn, a] at hV
  rw [hs, Option.some.inj hV]

section two
variable {a b c : List Ins} {n : Nat}
/-- Two rows, one behind the other, without the End of the first one. -/
structure Two (a b c : List Ins) (n : Nat) : Prop where
  ha : W a
  hb : W b
  an : a.length = n + 1
  sn : stk a n = some []
  en : (gI a n).f0 = 25
  cn : c.length = n + b.length
  h200 : c.length ≤ 200
  l : ∀ i, i < n → gI c i = gI a i
  r : ∀ i, i < b.length → gI c (n + i) = gI b i
theorem Two.stkl (h : Two a b c n) {i : Nat} (hi : i ≤ n) : stk c i = stk a i := stk_congr (fun j hj => h.l j (by omega))
theorem Two.stkr (h : Two a b c n) {i : Nat} {s : List Nat} (hi : i ≤ b.length) (hs : stk b i = some s) : stk c (n + i) = some (s.map (fun q => n + q)) := by
  have := stk_shift (n := n) h.r (s0 := []) ((h.stkl (Nat.le_refl n)).trans h.sn) hi hs
  rw [List.append_nil] at this
  exact this
theorem Two.whole (h : Two a b c n) (hok : c.all okI = true) : W c := by
  obtain ⟨hRa, hVa, hEa, hJa⟩ := h.ha
  obtain ⟨hRb, hVb, hEb, hJb⟩ := h.hb
  have h200 := h.h200
  have hcn := h.cn
  have hb1 := hRb.1
  have han := h.an
  refine ⟨⟨by omega, by omega, hok⟩, ?_, fun i hi => ?_, fun i hi hj => ?_⟩
  · unfold V
    rw [hcn]
    exact h.stkr (Nat.le_refl _) hVb
  · unfold EnAt
    by_cases hin : i < n
    · rw [h.l i hin]
      have := hEa i (by omega)
      unfold EnAt at this
      omega
    · obtain ⟨j, rfl⟩ : ∃ j, i = n + j := ⟨i - n, by omega⟩
      rw [h.r j (by omega)]
      have := hEb j (by omega)
      unfold EnAt at this
      omega
  · by_cases hin : i < n
    · rw [h.l i hin] at hj ⊢
      obtain ⟨t, t1, t2, s, s1, s2⟩ := hJa i (by omega) hj
      exact ⟨t, t1, by omega, s, (h.stkl (by omega)).trans s1, (h.stkl (by omega)).trans s2⟩
    · obtain ⟨j, rfl⟩ : ∃ j, i = n + j := ⟨i - n, by omega⟩
      rw [h.r j (by omega)] at hj ⊢
      obtain ⟨t, t1, t2, s, s1, s2⟩ := hJb j (by omega) hj
      exact ⟨n + t, by omega, by omega, _, h.stkr (by omega) s1, h.stkr (by omega) s2⟩
end two
end Go.Proofs.Ytdhlhbhclggheaa.NL
