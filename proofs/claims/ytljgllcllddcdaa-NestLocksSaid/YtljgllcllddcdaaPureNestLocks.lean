/- NestLocks: blocks that are locked rise; as many are held at most as these; each Get and Put holds its own; none is held at the end; for all rows. -/
import Derived.Test.YtljgllcllddcdaaNW
import Derived.Test.YtljgllcllddcdaaPx9
import Derived.Test.YtljgllcllddcdaaPx23
namespace Go.Proofs.Ytljgllcllddcdaa.Pure
open Go.RowKit Go.Proofs.Ytljgllcllddcdaa.P Go.Proofs.Ytljgllcllddcdaa.NL Go.Proofs.YtljgllcllddcdaaW.PrintWords Go.Proofs.YtljgllcllddcdaaW.PrintLast Go.Proofs.YtljgllcllddcdaaW.PrintMore

theorem known_locks {k : Nat} (hk : 60 ≤ k) : camshaftlaw06_known.f k = some true := at_rounds camshaftlaw06_known.mono hk camshaftlaw06_known.run
theorem mem_outs {l : List Ins} : ∀ {i : Nat}, i ≤ l.length → ∀ b, b ∈ outs l i ↔ ∃ j, j < i ∧ (gI l j).f0 = 23 ∧ (gI l j).f1 = b
  | 0, _, b => by simp [outs]
  | i + 1, h, b => by
    have ih := mem_outs (l := l) (i := i) (by omega) b
    rw [outs_succ (by omega)]
    by_cases h2 : (gI l i).f0 = 23
    · rw [if_pos h2, List.mem_append, ih, List.mem_singleton]
      constructor
      · rintro (⟨j, a, c⟩ | rfl)
        · exact ⟨j, by omega, c⟩
        · exact ⟨i, by omega, h2, rfl⟩
      · rintro ⟨j, a, c, d⟩
        by_cases e : j = i
        · subst e; exact .inr d.symm
        · exact .inl ⟨j, by omega, c, d⟩
    · rw [if_neg h2, ih]
      constructor
      · rintro ⟨j, a, c⟩; exact ⟨j, by omega, c⟩
      · rintro ⟨j, a, c⟩
        by_cases e : j = i
        · subst e; exact absurd c.1 h2
        · exact ⟨j, by omega, c⟩
/-- Blocks that are locked rise. -/
theorem outs_rise {l : List Ins} (hV : V l) (hL : Lk l) : ∀ {i : Nat}, i ≤ l.length → (outs l i).Pairwise (· < ·)
  | 0, _ => by simp [outs]
  | i + 1, h => by
    have ih := outs_rise hV hL (i := i) (by omega)
    rw [outs_succ (by omega)]
    by_cases h2 : (gI l i).f0 = 23
    · rw [if_pos h2, List.pairwise_append]
      refine ⟨ih, by simp, fun b hb c hc => ?_⟩
      rw [List.mem_singleton] at hc
      subst hc
      obtain ⟨j, j1, j2, rfl⟩ := (mem_outs (by omega) b).1 hb
      obtain ⟨g1, s, g2, g3⟩ := (hL i (by omega)).1 h2
      have ho : opn (gI l j) = true := by unfold opn; rw [j2]; rfl
      rcases track ho (i - (j + 1)) (s := s) (by rw [show j + 1 + (i - (j + 1)) = i by omega]; exact g2) with hm | ⟨c, hc, hC⟩
      · exact (g3 j hm).2 j2
      · exfalso
        obtain ⟨_, r, _, hm⟩ := hC
        refine g1 c (by omega) ?_
        unfold mtc at hm
        rw [j2] at hm
        simp at hm
        exact hm.1
    · rw [if_neg h2]
      exact ih
def memB (B : List Int) (b : Int) : Bool := B.any fun x => x == b
theorem memB_succ {B : List Int} {j : Nat} (h : j < B.length) : memB (B.take (j + 1)) = fun b => rd B (j : Int) == b || memB (B.take j) b := by
  funext b
  unfold memB
  rw [List.take_add_one, List.getElem?_eq_getElem h, List.any_append]
  simp [rd, List.getD, h, Bool.or_comm]
theorem locks_l1 (l : List Ins) (D : List Int) (B : List Int) (hW : W l) (hL : Lk l) (hD : DT l D) (hB : ∀ j, j < l.length → (gI l j).f0 = 23 → (gI l j).f1 ∈ B) : ∀ (d i k : Nat), i + d = l.length → d + 100 ≤ k →
    camshaftlaw06_NestLocks.l1 k l D (mk8 (memB B)) (i : Int) = some true := by
  obtain ⟨hR, hV, hE, _⟩ := hW
  have hn := hR.2.1
  have h1 := hR.1
  have hLD := hD.1
  intro d
  induction d with
  | zero =>
    intro i k hi hk
    obtain ⟨k, rfl⟩ : ∃ m, k = m + 1 := ⟨k - 1, by omega⟩
    simp only [camshaftlaw06_NestLocks.l1]
    obtain ⟨n, hn2⟩ : ∃ n, l.length = n + 1 := ⟨l.length - 1, by omega⟩
    have hwn : wrap64 ((l.length : Int) - 1) = (n : Int) := by rw [hn2]; clear hD hE hL; unfold wrap64; omega
    have hlast : (gI l n).f0 = 25 := (hE n (by omega)).2 hn2.symm
    obtain ⟨s, s1, s2⟩ := hD.2 n (by omega)
    have hs : s = [] := by
      have a := stk_succ s1
      rw [step_plain (by unfold opn; rw [hlast]; decide) (by unfold cls; rw [hlast]; decide)] at a
      unfold V at hV
      rw [hn2, a] at hV
      exact Option.some.inj hV
    rw [if_neg (by omega), hwn, if_pos (by omega), if_pos (by omega), s2, hs, inL_nil, if_pos rfl]
    exact Option.bind_eq_some_iff.2 ⟨_, known_locks (by omega), rfl⟩
  | succ d ih =>
    intro i k hi hk
    obtain ⟨k, rfl⟩ : ∃ m, k = m + 1 := ⟨k - 1, by omega⟩
    have hil : i < l.length := by omega
    have hw : wrap64 ((i : Int) + 1) = ((i + 1 : Nat) : Int) := by clear hD hE hL; unfold wrap64; omega
    have next := ih (i + 1) k (by omega) (by omega)
    obtain ⟨s, s1, s2⟩ := hD.2 i hil
    have hsub : Go.bits .and .i64 (mk8 (inL l s)) (mk8 (memB B)) = mk8 (inL l s) := by
      apply mk8_sub
      intro b hb
      obtain ⟨q, q1, q2, q3⟩ := inL_iff.1 hb
      have := (stk_dec s1).mem q1
      unfold memB
      rw [List.any_eq_true]
      exact ⟨_, hB q (by omega) q2, beq_iff_eq.2 q3⟩
    have hr := mk8_range (inL l s)
    have hx := ok_args (hR.at hil)
    simp only [camshaftlaw06_NestLocks.l1]
    rw [if_pos (by omega), if_pos (by omega), if_pos (by omega), s2, if_neg (by omega), if_pos hsub, hw, show rd_T32 l (i : Int) = gI l i from rfl]
    have G : (gI l i).f0 = 17 ∨ (gI l i).f0 = 18 → 0 ≤ (gI l i).f1 ∧ ¬ Go.bits .and .i64 (mk8 (inL l s)) (shl .i64 1 (gI l i).f1) = 0 := by
      intro hg
      have hx2 := hx.2.2.2.1 hg
      refine ⟨hx2.1, ?_⟩
      obtain ⟨s', g1, g2⟩ := (hL i hil).2 hg
      obtain rfl := Option.some.inj (s1.symm.trans g1)
      have := mk8_and (inL l s) hx2
      rw [inL_iff.2 g2] at this
      exact of_decide_eq_false this
    by_cases h17 : (gI l i).f0 = 17
    · obtain ⟨g1, g2⟩ := G (.inl h17)
      rw [if_pos h17, if_pos g1, if_neg g2]
      exact next
    · rw [if_neg h17]
      by_cases h18 : (gI l i).f0 = 18
      · obtain ⟨g1, g2⟩ := G (.inr h18)
        rw [if_pos h18, if_pos g1, if_neg g2]
        exact next
      · rw [if_neg h18]
        exact next
theorem locks_l0b (l : List Ins) (D : List Int) (B : List Int) (hW : W l) (hL : Lk l) (hD : DT l D) (hB : ∀ j, j < l.length → (gI l j).f0 = 23 → (gI l j).f1 ∈ B) (hB2 : ∀ b ∈ B, 0 ≤ b ∧ b ≤ 7) (hP : B.Pairwise (· < ·)) (hBl : B.length ≤ 200) : ∀ (d j k : Nat), j + d = B.length → d + 400 ≤ k →
    camshaftlaw06_NestLocks.l0 k l B D (mk8 (memB (B.take j))) (j : Int) = some true := by
  have hn := hW.1.2.1
  intro d
  induction d with
  | zero =>
    intro j k hj hk
    obtain ⟨k, rfl⟩ : ∃ m, k = m + 1 := ⟨k - 1, by omega⟩
    simp only [camshaftlaw06_NestLocks.l0]
    rw [if_neg (by omega), List.take_of_length_le (by omega)]
    exact locks_l1 l D B hW hL hD hB l.length 0 k (by omega) (by omega)
  | succ d ih =>
    intro j k hj hk
    obtain ⟨k, rfl⟩ : ∃ m, k = m + 1 := ⟨k - 1, by omega⟩
    have hjl : j < B.length := by omega
    have hrd : ∀ i (h : i < B.length), rd B (i : Int) = B[i] := fun i h => by simp [rd, List.getD, h]
    have hb := hB2 B[j] (List.getElem_mem hjl)
    rw [← hrd j hjl] at hb
    have hno : memB (B.take j) (rd B (j : Int)) = false := by
      unfold memB
      rw [List.any_eq_false]
      intro x hx he
      obtain ⟨i, hi, rfl⟩ := List.mem_iff_getElem.1 hx
      rw [List.length_take] at hi
      rw [List.getElem_take, hrd j hjl] at he
      have := List.pairwise_iff_getElem.1 hP i j (by omega) hjl (by omega)
      rw [beq_iff_eq] at he
      omega
    have hadd := mk8_add (memB (B.take j)) hb hno
    rw [← memB_succ hjl] at hadd
    have hr := mk8_range (memB (B.take (j + 1)))
    have hwj : wrap64 ((j : Int) + 1) = ((j + 1 : Nat) : Int) := by clear hadd hno hr hb; unfold wrap64; omega
    have next := ih (j + 1) k (by omega) (by omega)
    have hwa : wrap64 (mk8 (memB (B.take j)) + shl .i64 1 (rd B (j : Int))) = mk8 (memB (B.take (j + 1))) := by rw [hadd]; clear hadd hno hb hwj; unfold wrap64; omega
    simp only [camshaftlaw06_NestLocks.l0]
    rw [if_pos (by omega), if_pos (by omega), if_neg (by omega), if_neg (by omega), hwa, hwj]
    by_cases h0 : (j : Int) > 0
    · obtain ⟨p, rfl⟩ : ∃ p, j = p + 1 := ⟨j - 1, by omega⟩
      have hwp : wrap64 (((p + 1 : Nat) : Int) - 1) = (p : Int) := by clear hadd hno hb hwj hwa hr; unfold wrap64; omega
      have := List.pairwise_iff_getElem.1 hP p (p + 1) (by omega) hjl (by omega)
      rw [← hrd p (by omega), ← hrd (p + 1) hjl] at this
      rw [if_pos h0, hwp, if_pos (by omega), if_pos (by omega), if_neg (by omega), if_pos hb.1]
      exact next
    · rw [if_neg h0, if_pos hb.1]
      exact next
theorem locks_all (k : Nat) (hk : 100000 ≤ k) (l : List Ins) : camshaftlaw06_NestLocks.f k l = some true := by
  have K := known_locks (k := k) (by omega)
  unfold camshaftlaw06_NestLocks.f
  by_cases h : (l.length : Int) > 200
  · rw [if_pos h]
    exact Option.bind_eq_some_iff.2 ⟨_, K, rfl⟩
  rw [if_neg h]
  obtain ⟨r, e1, e2⟩ := locks_eq l (by omega) (k := k) (by omega)
  refine Option.bind_eq_some_iff.2 ⟨_, e1, ?_⟩
  rcases e2 with ⟨e, _, h2, rfl⟩ | ⟨_, _, rfl⟩ | ⟨hW, hL, rfl⟩
  · rw [if_neg h2, if_pos (by simp)]
    exact Option.bind_eq_some_iff.2 ⟨_, K, rfl⟩
  · rw [if_neg (by decide), if_pos (by simp)]
    exact Option.bind_eq_some_iff.2 ⟨_, K, rfl⟩
  · obtain ⟨x, f1, f2⟩ := held_eq l (by omega) (k := k) (by omega)
    rw [if_pos rfl]
    refine Option.bind_eq_some_iff.2 ⟨_, f1, ?_⟩
    rcases f2 with ⟨g1, _⟩ | ⟨_, g1, _⟩ | ⟨_, _, g3, g4⟩
    · exact absurd hW.1 g1
    · exact absurd hW.2.1 g1
    · have hol := outs_len l l.length
      obtain ⟨k, rfl⟩ : ∃ q, k = q + 1 := ⟨k - 1, by omega⟩
      rw [if_pos g3, show ((x.1.length : Int) != (l.length : Int)) = false from by rw [g4.1]; simp]
      simp only [camshaftlaw06_NestLocks.j0]
      rw [if_neg (by decide)]
      refine locks_l0b l x.1 (outs l l.length) hW hL g4 (fun j h1 h2 => (mem_outs (Nat.le_refl _) _).2 ⟨j, h1, h2, rfl⟩) (fun b hb => ?_) (outs_rise hW.2.1 hL (Nat.le_refl _)) (by omega) (outs l l.length).length 0 k (by omega) (by omega)
      obtain ⟨j, j1, j2, rfl⟩ := (mem_outs (Nat.le_refl _) b).1 hb
      have := (ok_args (hW.1.at j1)).2.2.1 (.inl j2)
      exact ⟨this.1, this.2.1⟩
theorem NestLocks : camshaftlaw06_NestLocks.Pure := fun l _ _ => ⟨100000, locks_all 100000 (Nat.le_refl _) l⟩

end Go.Proofs.Ytljgllcllddcdaa.Pure
