/- The reference's answers of regions: what they answer, in plain words. No conditions beyond those that each lemma states. -/
import Derived.Test.YtdhlhbhclggheaaNW7
import Derived.Test.YtdhlhbhclggheaaNRR7
import Derived.Test.YtdhlhbhclggheaaQx4
import Derived.Test.YtdhlhbhclggheaaQx5
import Derived.Test.YtdhlhbhclggheaaQx7
namespace Go.Proofs.Ytdhlhbhclggheaa.NL
open Go.RowKit Go.Proofs.Ytdhlhbhclggheaa.P Go.Proofs.Ytdhlhbhclggheaa.D Go.Proofs.Ytdhlhbhclggheaa.Q Go.Proofs.YtdhlhbhclggheaaW.PrintWords Go.Proofs.YtdhlhbhclggheaaW.PrintLast Go.Proofs.YtdhlhbhclggheaaW.PrintMore

/-- Every number of a row is an int's. -/
def In (l : List Ins) : Prop := ∀ x ∈ l, I64 x.f1
theorem rright_l0 (l : List Ins) (hI : In l) (hn : l.length ≤ 1000000) : ∀ (d i k : Nat), i + d = l.length → d + 10 ≤ k →
    ∃ r, camshaftref06_right.l0 k l (i : Int) = some r ∧ (r = true ↔ (1 ≤ l.length ∧ l.length ≤ 200 ∧ (l.drop i).all okI = true)) := by
  intro d
  induction d with
  | zero =>
    intro i k hi hk
    obtain ⟨k, rfl⟩ : ∃ m, k = m + 1 := ⟨k - 1, by omega⟩
    simp only [camshaftref06_right.l0]
    rw [if_neg (by omega), List.drop_eq_nil_of_le (by omega)]
    by_cases h : (l.length : Int) ≥ 1
    · rw [if_pos h]
      exact ⟨_, rfl, by rw [decide_eq_true_iff]; exact ⟨fun h2 => ⟨by omega, by omega, rfl⟩, fun h2 => by omega⟩⟩
    · rw [if_neg h]
      exact ⟨_, rfl, by constructor; · intro e; cases e
                        · intro e; omega⟩
  | succ d ih =>
    intro i k hi hk
    obtain ⟨k, rfl⟩ : ∃ m, k = m + 1 := ⟨k - 1, by omega⟩
    have hx : camshaftref04_Right.f k (gI l i).f0 (gI l i).f1 (gI l i).f2 = some (okI (gI l i)) := by
      obtain ⟨m, rfl⟩ : ∃ m, k = m + 4 := ⟨k - 4, by omega⟩
      exact rright_eq (hI _ (gI_mem (show i < l.length by omega)))
    simp only [camshaftref06_right.l0]
    rw [if_pos (by omega), if_pos (by omega), gI_drop (show i < l.length by omega), List.all_cons, Bool.and_eq_true]
    by_cases h : okI (gI l i) = true
    · obtain ⟨r, e1, e2⟩ := ih (i + 1) k (by omega) (by omega)
      refine ⟨r, Option.bind_eq_some_iff.2 ⟨_, hx, ?_⟩, by rw [e2, h]; simp⟩
      rw [if_pos h, show wrap64 ((i : Int) + 1) = ((i + 1 : Nat) : Int) from by unfold wrap64; omega]
      exact e1
    · refine ⟨false, Option.bind_eq_some_iff.2 ⟨_, hx, ?_⟩, by simp [h]⟩
      rw [if_neg h]
theorem rright_row (l : List Ins) (hI : In l) (hn : l.length ≤ 1000000) {k : Nat} (hk : l.length + 10 ≤ k) : ∃ r, camshaftref06_right.f k l = some r ∧ (r = true ↔ Rt l) := by
  have := rright_l0 l hI hn l.length 0 k (by omega) hk
  rw [List.drop_zero] at this
  exact this
theorem opens_f (x : Ins) : camshaftref06_opens.f x.f0 x.f1 x.f2 = some (opn x) := by
  unfold camshaftref06_opens.f opn
  by_cases h : x.f0 = 21
  · rw [if_pos h, h]; rfl
  · rw [if_neg h, show (x.f0 == 21) = false from by rw [beq_eq_false_iff_ne]; exact h]; rfl
theorem closer_f (x : Ins) : camshaftref06_closer.f x.f0 x.f1 x.f2 = some (cls x) := by
  unfold camshaftref06_closer.f cls
  by_cases h : x.f0 = 22
  · rw [if_pos h, h]; rfl
  · rw [if_neg h, show (x.f0 == 22) = false from by rw [beq_eq_false_iff_ne]; exact h]; rfl
theorem closes_f (a b : Ins) : camshaftref06_closes.f a.f0 a.f1 a.f2 b.f0 b.f1 b.f2 = some (mtc a b) := by
  unfold camshaftref06_closes.f mtc
  by_cases h1 : a.f0 = 21 <;> by_cases h2 : b.f0 = 22 <;> by_cases h3 : a.f0 = 23 <;> by_cases h4 : b.f0 = 24 <;> simp [h1, h2, h3, h4] <;> omega
def opensZ (s : List Nat) : List Int := (s.map fun (q : Nat) => ((q : Nat) : Int)).reverse
theorem opensZ_cons (q : Nat) (s : List Nat) : opensZ (q :: s) = opensZ s ++ [(q : Int)] := by simp [opensZ]
theorem opensZ_len (s : List Nat) : (opensZ s).length = s.length := by simp [opensZ]
theorem opensZ_top (q : Nat) (s : List Nat) : rd (opensZ (q :: s)) (s.length : Int) = (q : Int) := by
  rw [opensZ_cons]; simp [rd, List.getD, opensZ_len]
theorem opensZ_take (q : Nat) (s : List Nat) : (opensZ (q :: s)).take s.length = opensZ s := by
  rw [opensZ_cons]
  have := opensZ_len s
  rw [List.take_append_of_le_length (by omega), List.take_of_length_le (by omega)]
structure InvM (l : List Ins) (i : Nat) (M : List Int) (s : List Nat) : Prop where
  lm : M.length = l.length
  st : stk l i = some s
  m : ∀ k, k < i → (opn (gI l k) = true → (k ∈ s ∧ rd M (k : Int) = -1) ∨ ∃ c : Nat, c < i ∧ rd M (k : Int) = (c : Int) ∧ Cl l k c) ∧ (cls (gI l k) = true → ∃ q : Nat, rd M (k : Int) = (q : Int) ∧ Cl l q k) ∧ (opn (gI l k) = false → cls (gI l k) = false → rd M (k : Int) = -1)
def ResM (l : List Ins) (r : List Int × Int) : Prop := (V l ∧ r.2 = 0 ∧ MT l r.1) ∨ (¬ V l ∧ r = ([], 7))
theorem rmatch_l0 (l : List Ins) (hn : l.length ≤ 200) : ∀ (d i k : Nat) (M : List Int) (s : List Nat), i + d = l.length → 2 * d + 3 ≤ k → InvM l i M s →
    ∃ r, camshaftref06_Match.l0 k l M (opensZ s) (i : Int) = some r ∧ ResM l r := by
  intro d
  induction d with
  | zero =>
    intro i k M s hi hk I
    obtain ⟨k, rfl⟩ : ∃ m, k = m + 1 := ⟨k - 1, by omega⟩
    simp only [camshaftref06_Match.l0]
    rw [if_neg (by omega)]
    have hi : i = l.length := by omega
    have hlen := opensZ_len s
    cases s with
    | nil =>
      rw [if_neg (by rw [hlen]; simp)]
      refine ⟨_, rfl, .inl ⟨by unfold V; rw [← hi]; exact I.st, rfl, I.lm, fun q hq => ?_⟩⟩
      obtain ⟨a, b, c⟩ := I.m q (by omega)
      refine ⟨fun ho => ?_, b, c⟩
      rcases a ho with ⟨h, _⟩ | ⟨e, h1, h2⟩
      · cases h
      · exact ⟨e, by omega, h2⟩
    | cons q r =>
      rw [if_pos (by rw [hlen, List.length_cons]; omega)]
      refine ⟨_, rfl, .inr ⟨?_, rfl⟩⟩
      unfold V
      rw [← hi, I.st]
      intro e; cases e
  | succ d ih =>
    intro i k M s hi hk I
    obtain ⟨k, rfl⟩ : ∃ m, k = m + 2 := ⟨k - 2, by omega⟩
    have hil : i < l.length := by omega
    have hs1 := stk_succ I.st
    have hO := opensZ_len s
    have hsl := dec_len (stk_dec I.st)
    have hw : wrap64 ((i : Int) + 1) = ((i + 1 : Nat) : Int) := by unfold wrap64; omega
    have hM1 : ∀ q, q ≠ i → rd (M.set i (-1)) (q : Int) = rd M (q : Int) := fun q hq => rd_set_ne (fun e => hq e.symm)
    have hMi : rd (M.set i (-1)) (i : Int) = -1 := rd_set_self (by rw [I.lm]; exact hil)
    have hLM : (M.set i (-1)).length = l.length := by rw [List.length_set, I.lm]
    have hLM0 := I.lm
    simp only [camshaftref06_Match.l0]
    rw [if_pos (by omega), if_pos (by omega), if_pos (by omega)]
    refine exists_bind rfl ?_
    refine exists_bind (opens_f (gI l i)) ?_
    rw [show ((i : Nat) : Int).toNat = i from rfl]
    by_cases ho : opn (gI l i) = true
    · have hst : stk l (i + 1) = some (i :: s) := hs1.trans (step_open ho)
      have hI : InvM l (i + 1) (M.set i (-1)) (i :: s) := by
        refine ⟨hLM, hst, fun q hq => ?_⟩
        by_cases e : q = i
        · subst e
          refine ⟨fun _ => .inl ⟨List.mem_cons_self .., hMi⟩, fun hc => ?_, fun hc => ?_⟩
          · rw [cls_opn hc] at ho; cases ho
          · rw [hc] at ho; cases ho
        · rw [hM1 q e]
          obtain ⟨a, b, c⟩ := I.m q (by omega)
          refine ⟨fun h => ?_, b, c⟩
          rcases a h with ⟨a1, a2⟩ | ⟨c, a1, a2⟩
          · exact .inl ⟨List.mem_cons_of_mem _ a1, a2⟩
          · exact .inr ⟨c, by omega, a2⟩
      have e1 := ih (i + 1) k (M.set i (-1)) (i :: s) (by omega) (by omega) hI
      rw [opensZ_cons] at e1
      rw [if_pos ho, if_pos (by omega)]
      simp only [camshaftref06_Match.j1]
      rw [if_pos (by omega), if_pos (by omega)]
      refine exists_bind (closer_f (gI l i)) ?_
      rw [if_neg (fun hc => by rw [cls_opn hc] at ho; cases ho), hw]
      exact e1
    · rw [if_neg ho]
      simp only [camshaftref06_Match.j1]
      rw [if_pos (by omega), if_pos (by omega)]
      refine exists_bind (closer_f (gI l i)) ?_
      by_cases hc : cls (gI l i) = true
      · have hst : stk l (i + 1) = pop l i s := hs1.trans (step_close hc)
        rw [if_pos hc]
        cases s with
        | nil =>
          rw [if_pos (by rw [hO]; rfl)]
          exact ⟨_, rfl, .inr ⟨notV hst (by omega), rfl⟩⟩
        | cons t r =>
          rw [List.length_cons] at hO hsl
          have hwl : wrap64 (((opensZ (t :: r)).length : Int) - 1) = (r.length : Int) := by rw [hO]; clear hs1 hst; unfold wrap64; omega
          have htd := stk_dec I.st
          have hti : t < i := htd.1
          have hto := stk_opn I.st (List.mem_cons_self ..)
          rw [if_neg (by omega), hwl, if_pos (by omega), if_pos (by omega), opensZ_top, if_pos (by omega), if_pos (by omega)]
          refine exists_bind (closes_f (gI l t) (gI l i)) ?_
          by_cases hm : mtc (gI l t) (gI l i) = true
          · have hst : stk l (i + 1) = some r := by rw [hst]; simp only [pop]; rw [if_pos hm]
            have hC : Cl l t i := ⟨hc, r, I.st, hm⟩
            rw [if_pos hm, if_pos (by omega), if_pos (by omega), if_pos (by omega), hw, show ((r.length : Nat) : Int).toNat = r.length from rfl, show ((t : Nat) : Int).toNat = t from rfl, show ((i : Nat) : Int).toNat = i from rfl, opensZ_take]
            refine ih (i + 1) k _ r (by omega) (by omega) ⟨by rw [List.length_set, List.length_set, hLM], hst, fun q hq => ?_⟩
            by_cases e : q = i
            · subst e
              rw [rd_set_ne (by omega), rd_set_self (by omega)]
              exact ⟨fun h => absurd h ho, fun _ => ⟨t, rfl, hC⟩, fun _ h => by rw [hc] at h; cases h⟩
            · by_cases e2 : q = t
              · subst e2
                rw [rd_set_self (by rw [List.length_set]; omega)]
                exact ⟨fun _ => .inr ⟨i, by omega, rfl, hC⟩, fun h => (by rw [cls_opn h] at hto; cases hto), fun h => by rw [hto] at h; cases h⟩
              · rw [rd_set_ne (fun e => e2 e.symm), rd_set_ne (fun e' => e e'.symm), hM1 q e]
                obtain ⟨a, b, c⟩ := I.m q (by omega)
                refine ⟨fun h => ?_, b, c⟩
                rcases a h with ⟨a1, a2⟩ | ⟨c, a1, a2⟩
                · rcases List.mem_cons.1 a1 with h | h
                  · exact absurd h e2
                  · exact .inl ⟨h, a2⟩
                · exact .inr ⟨c, by omega, a2⟩
          · rw [if_neg hm]
            refine ⟨_, rfl, .inr ⟨notV (i := i + 1) (by rw [hst]; simp only [pop]; rw [if_neg hm]) (by omega), rfl⟩⟩
      · have hst : stk l (i + 1) = some s := hs1.trans (step_plain ho hc)
        rw [if_neg hc, hw]
        refine ih (i + 1) k (M.set i (-1)) s (by omega) (by omega) ⟨hLM, hst, fun q hq => ?_⟩
        by_cases e : q = i
        · subst e
          exact ⟨fun h => absurd h ho, fun h => absurd h hc, fun _ _ => hMi⟩
        · rw [hM1 q e]
          obtain ⟨a, b, c⟩ := I.m q (by omega)
          refine ⟨fun h => ?_, b, c⟩
          rcases a h with ⟨a1, a2⟩ | ⟨c, a1, a2⟩
          · exact .inl ⟨a1, a2⟩
          · exact .inr ⟨c, by omega, a2⟩
theorem rmatch_eq (l : List Ins) (hI : In l) (hn : l.length ≤ 1000000) {k : Nat} (hk : 2 * l.length + 20 ≤ k) : ∃ r, camshaftref06_Match.f k l = some r ∧ MSpec l r := by
  unfold camshaftref06_Match.f
  obtain ⟨b, e1, e2⟩ := rright_row l hI hn (k := k) (by omega)
  refine exists_bind e1 ?_
  by_cases h : Rt l
  · have hb := e2.2 h
    have h200 := h.2.1
    obtain ⟨r, e3, e4⟩ := rmatch_l0 l h.2.1 l.length 0 k (List.replicate l.length 0) [] (by omega) (by omega) ⟨List.length_replicate, rfl, fun q hq => by omega⟩
    refine ⟨r, ?_, ?_⟩
    · rw [if_pos hb, if_pos (by omega), show ((l.length : Nat) : Int).toNat = l.length from rfl, if_pos (by omega)]
      exact e3
    · rcases e4 with ⟨h1, h2, h3⟩ | ⟨h1, h2⟩
      · exact .inr (.inr ⟨h, h1, h2, h3⟩)
      · exact .inr (.inl ⟨h, h1, h2⟩)
  · rw [if_neg (fun hb => h (e2.1 hb))]
    exact ⟨_, rfl, .inl ⟨h, rfl⟩⟩
theorem rhome_l0 (l : List Ins) (M : List Int) (hM : MT l M) (hn : l.length ≤ 200) (i : Nat) (hi : i ≤ l.length) (s : List Nat) (hs : stk l i = some s) : ∀ (j k : Nat), j ≤ i → (∀ q ∈ s, q < j) → j + 2 ≤ k →
    camshaftref06_home.l0 k l M (i : Int) ((j : Int) - 1) = some (hd s) := by
  have hLM := hM.1
  intro j
  induction j with
  | zero =>
    intro k _ hq hk
    obtain ⟨k, rfl⟩ : ∃ m, k = m + 1 := ⟨k - 1, by omega⟩
    simp only [camshaftref06_home.l0]
    rw [if_neg (by omega)]
    cases s with
    | nil => rfl
    | cons q r => have := hq q (List.mem_cons_self ..); omega
  | succ j ih =>
    intro k hj hq hk
    obtain ⟨k, rfl⟩ : ∃ m, k = m + 1 := ⟨k - 1, by omega⟩
    have e : ((j + 1 : Nat) : Int) - 1 = (j : Int) := by omega
    have hw : wrap64 ((j : Int) - 1) = (j : Int) - 1 := by unfold wrap64; omega
    have hm := hM.mem hs (k := j) (by omega)
    simp only [camshaftref06_home.l0]
    rw [e, if_pos (by omega), if_pos (by omega), if_pos (by omega)]
    refine Option.bind_eq_some_iff.2 ⟨_, opens_f (gI l j), ?_⟩
    have down : ¬ j ∈ s → camshaftref06_home.l0 k l M (i : Int) (wrap64 ((j : Int) - 1)) = some (hd s) := by
      intro hn2
      rw [hw]
      refine ih k (by omega) (fun q g => ?_) (by omega)
      have := hq q g
      have : q ≠ j := fun e => hn2 (e ▸ g)
      omega
    by_cases ho : opn (gI l j) = true
    · rw [if_pos ho, if_pos (by omega)]
      by_cases h1 : rd M (j : Int) ≥ (i : Int)
      · rw [if_pos h1]
        have hin := hm.2 ⟨by omega, h1⟩
        cases s with
        | nil => cases hin
        | cons q r =>
          have g1 := hq q (List.mem_cons_self ..)
          rcases List.mem_cons.1 hin with rfl | g
          · rfl
          · have := (stk_dec hs).2.mem g
            omega
      · rw [if_neg h1]
        exact down (fun g => h1 (hm.1 g).2)
    · rw [if_neg ho]
      exact down (fun g => ho (stk_opn hs g))
theorem rhome_eq (l : List Ins) (M : List Int) (hM : MT l M) (hn : l.length ≤ 200) {i : Nat} (hi : i ≤ l.length) {s : List Nat} (hs : stk l i = some s) {k : Nat} (hk : 210 ≤ k) : camshaftref06_home.f k l M (i : Int) = some (hd s) := by
  unfold camshaftref06_home.f
  rw [show wrap64 ((i : Int) - 1) = (i : Int) - 1 from by unfold wrap64; omega]
  exact rhome_l0 l M hM hn i hi s hs i k (Nat.le_refl i) (fun q hq => (stk_dec hs).mem hq) (by omega)
theorem rd_app_left {A B : List Int} {k : Nat} (h : k < A.length) : rd (A ++ B) (k : Int) = rd A (k : Int) := by
  simp [rd, List.getD, List.getElem?_append_left h]
theorem rd_app_self (A : List Int) (v : Int) : rd (A ++ [v]) (A.length : Int) = v := by
  simp [rd, List.getD]
theorem rwhole_j (l : List Ins) (M : List Int) (hR : Rt l) (hV : V l) (hM : MT l M) : ∀ (d i k : Nat), i + d = l.length → 2 * d + 300 ≤ k →
    ∃ e, camshaftref06_Whole.l1 k l M (i : Int) = some e ∧ (((∀ j, i ≤ j → j < l.length → JmAt l j) ∧ e = 0) ∨ (¬ (∀ j, i ≤ j → j < l.length → JmAt l j) ∧ e = 8)) := by
  have h200 := hR.2.1
  intro d
  induction d with
  | zero =>
    intro i k hi hk
    obtain ⟨k, rfl⟩ : ∃ m, k = m + 1 := ⟨k - 1, by omega⟩
    simp only [camshaftref06_Whole.l1]
    rw [if_neg (by omega)]
    exact ⟨_, rfl, .inl ⟨fun j h1 h2 => by omega, rfl⟩⟩
  | succ d ih =>
    intro i k hi hk
    obtain ⟨k, rfl⟩ : ∃ m, k = m + 2 := ⟨k - 2, by omega⟩
    have hil : i < l.length := by omega
    have hx := ok_args (hR.at hil)
    have hw : wrap64 ((i : Int) + 1) = ((i + 1 : Nat) : Int) := by unfold wrap64; omega
    have next : JmAt l i → ∃ e, camshaftref06_Whole.l1 k l M ((i + 1 : Nat) : Int) = some e ∧ (((∀ j, i ≤ j → j < l.length → JmAt l j) ∧ e = 0) ∨ (¬ (∀ j, i ≤ j → j < l.length → JmAt l j) ∧ e = 8)) := by
      intro hj
      rw [all_succ hj]
      exact ih (i + 1) k (by omega) (by omega)
    simp only [camshaftref06_Whole.l1]
    rw [if_pos (by omega), if_pos (by omega), show rd_T37 l (i : Int) = gI l i from rfl]
    by_cases hj : (gI l i).f0 = 19 ∨ (gI l i).f0 = 20
    · have hx2 := hx.2.2.2.2.1 hj
      have K : ∃ e, camshaftref06_Whole.j2 (k + 1) l M (i : Int) true = some e ∧ (((∀ j, i ≤ j → j < l.length → JmAt l j) ∧ e = 0) ∨ (¬ (∀ j, i ≤ j → j < l.length → JmAt l j) ∧ e = 8)) := by
        simp only [camshaftref06_Whole.j2]
        have hw2 : wrap64 (wrap64 ((i : Int) + 1) + (gI l i).f1) = (i : Int) + 1 + (gI l i).f1 := by rw [hw]; clear hx ih next; unfold wrap64; omega
        obtain ⟨t, ht⟩ : ∃ t : Nat, (i : Int) + 1 + (gI l i).f1 = (t : Int) := ⟨((i : Int) + 1 + (gI l i).f1).toNat, by omega⟩
        rw [if_pos trivial, if_pos (by omega), if_pos (by omega), show rd_T37 l (i : Int) = gI l i from rfl, hw2, ht]
        by_cases h1 : (t : Int) ≥ (l.length : Int)
        · rw [if_pos h1]
          refine ⟨_, rfl, .inr ⟨not_all hil ?_, rfl⟩⟩
          intro g
          obtain ⟨t', e1, e2, _⟩ := g hj
          omega
        · obtain ⟨s1, a1⟩ := hV.at (k := t) (by omega)
          obtain ⟨s2, a2⟩ := hV.at (k := i) (by omega)
          rw [if_neg h1]
          refine exists_bind (rhome_eq l M hM hR.2.1 (by omega) a1 (by omega)) ?_
          refine exists_bind (rhome_eq l M hM hR.2.1 (by omega) a2 (by omega)) ?_
          by_cases h2 : hd s1 = hd s2
          · obtain rfl := hd_same a1 a2 h2
            rw [if_pos rfl, hw]
            exact next (fun _ => ⟨t, ht, by omega, s1, a2, a1⟩)
          · rw [if_neg h2]
            refine ⟨_, rfl, .inr ⟨not_all hil ?_, rfl⟩⟩
            intro g
            obtain ⟨t', e1, _, s, e2, e3⟩ := g hj
            obtain rfl : t' = t := by omega
            apply h2
            rw [Option.some.inj (a1.symm.trans e3), Option.some.inj (a2.symm.trans e2)]
      by_cases h : (gI l i).f0 = 19
      · rw [if_pos h]; exact K
      · rw [if_neg h, show ((gI l i).f0 == 20) = true from beq_iff_eq.2 (hj.resolve_left h)]; exact K
    · rw [if_neg (fun h => hj (.inl h)), show ((gI l i).f0 == 20) = false from by rw [beq_eq_false_iff_ne]; exact fun h => hj (.inr h)]
      simp only [camshaftref06_Whole.j2]
      rw [if_neg (by decide), hw]
      exact next (fun h => absurd h hj)
theorem rwhole_l0 (l : List Ins) (M : List Int) (hR : Rt l) (hV : V l) (hM : MT l M) : ∀ (d i k : Nat), i + d = l.length → d + 2 * l.length + 400 ≤ k →
    ∃ e, camshaftref06_Whole.l0 k l M (i : Int) = some e ∧ (((∀ j, i ≤ j → j < l.length → EnAt l j) ∧ ((Jm l ∧ e = 0) ∨ (¬ Jm l ∧ e = 8))) ∨ (¬ (∀ j, i ≤ j → j < l.length → EnAt l j) ∧ e = 7)) := by
  have h200 := hR.2.1
  have hwl : wrap64 ((l.length : Int) - 1) = (l.length : Int) - 1 := by unfold wrap64; omega
  intro d
  induction d with
  | zero =>
    intro i k hi hk
    obtain ⟨k, rfl⟩ : ∃ m, k = m + 1 := ⟨k - 1, by omega⟩
    simp only [camshaftref06_Whole.l0]
    rw [if_neg (by omega)]
    obtain ⟨e, e1, e2⟩ := rwhole_j l M hR hV hM l.length 0 k (by omega) (by omega)
    refine ⟨e, e1, .inl ⟨fun j h1 h2 => by omega, ?_⟩⟩
    rcases e2 with ⟨h1, h2⟩ | ⟨h1, h2⟩
    · exact .inl ⟨fun j hj => h1 j (by omega) hj, h2⟩
    · exact .inr ⟨fun g => h1 fun j _ hj => g j hj, h2⟩
  | succ d ih =>
    intro i k hi hk
    obtain ⟨k, rfl⟩ : ∃ m, k = m + 1 := ⟨k - 1, by omega⟩
    have hil : i < l.length := by omega
    simp only [camshaftref06_Whole.l0]
    rw [if_pos (by omega), if_pos (by omega), hwl, show rd_T37 l (i : Int) = gI l i from rfl]
    have hE : EnAt l i ↔ ((gI l i).f0 = 25 ↔ (i : Int) = (l.length : Int) - 1) := by unfold EnAt; omega
    by_cases h : EnAt l i
    · rw [if_neg (fun g => (end_test _ _ _).1 g (hE.1 h)), show wrap64 ((i : Int) + 1) = ((i + 1 : Nat) : Int) from by clear hE h ih; unfold wrap64; omega, all_succ h]
      exact ih (i + 1) k (by omega) (by omega)
    · rw [if_pos ((end_test _ _ _).2 (fun g => h (hE.2 g)))]
      exact ⟨_, rfl, .inr ⟨not_all hil h, rfl⟩⟩
theorem rwhole_eq (l : List Ins) (hI : In l) (hn : l.length ≤ 1000000) {k : Nat} (hk : 4 * l.length + 1000 ≤ k) : ∃ e, camshaftref06_Whole.f k l = some e ∧ WSpec l e := by
  unfold camshaftref06_Whole.f
  obtain ⟨m, e1, e2⟩ := rmatch_eq l hI hn (k := k) (by omega)
  refine exists_bind e1 ?_
  rcases e2 with ⟨h1, rfl⟩ | ⟨h1, h2, rfl⟩ | ⟨h1, h2, h3, h4⟩
  · exact ⟨_, rfl, .inl ⟨h1, rfl⟩⟩
  · exact ⟨_, rfl, .inr (.inl ⟨h1, h2, rfl⟩)⟩
  · rw [if_pos h3]
    obtain ⟨e, e5, e6⟩ := rwhole_l0 l m.1 h1 h2 h4 l.length 0 k (by omega) (by omega)
    refine ⟨e, e5, ?_⟩
    rcases e6 with ⟨h5, ⟨h6, h7⟩ | ⟨h6, h7⟩⟩ | ⟨h5, h6⟩
    · exact .inr (.inr (.inr (.inr ⟨h1, h2, fun j hj => h5 j (by omega) hj, h6, h7⟩)))
    · exact .inr (.inr (.inr (.inl ⟨h1, h2, fun j hj => h5 j (by omega) hj, h6, h7⟩)))
    · exact .inr (.inr (.inl ⟨h1, h2, fun g => h5 fun j _ hj => g j hj, h6⟩))
end Go.Proofs.Ytdhlhbhclggheaa.NL
