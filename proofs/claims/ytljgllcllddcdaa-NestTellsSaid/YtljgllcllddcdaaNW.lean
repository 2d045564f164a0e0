/- nest.Whole, Held, Locks: what they answer, in plain words. No conditions beyond those that each lemma states. -/
import Derived.Test.YtljgllcllddcdaaNB
import Derived.Test.YtljgllcllddcdaaPx5
import Derived.Test.YtljgllcllddcdaaPx6
import Derived.Test.YtljgllcllddcdaaPx7
import Derived.Test.YtljgllcllddcdaaPx8
namespace Go.Proofs.Ytljgllcllddcdaa.NL
open Go.RowKit Go.Proofs.Ytljgllcllddcdaa.P Go.Proofs.YtljgllcllddcdaaW.PrintWords Go.Proofs.YtljgllcllddcdaaW.PrintLast Go.Proofs.YtljgllcllddcdaaW.PrintMore

/-- The End stands last, and nowhere else. -/
def EnAt (l : List Ins) (i : Nat) : Prop := (gI l i).f0 = 25 ↔ i + 1 = l.length
def En (l : List Ins) : Prop := ∀ i, i < l.length → EnAt l i
/-- A jump leads to where the same is open. -/
def JmAt (l : List Ins) (i : Nat) : Prop := (gI l i).f0 = 19 ∨ (gI l i).f0 = 20 → ∃ t : Nat, (i : Int) + 1 + (gI l i).f1 = (t : Int) ∧ t < l.length ∧ ∃ s, stk l i = some s ∧ stk l t = some s
def Jm (l : List Ins) : Prop := ∀ i, i < l.length → JmAt l i
def W (l : List Ins) : Prop := Rt l ∧ V l ∧ En l ∧ Jm l
def WSpec (l : List Ins) (e : Int) : Prop := (¬ Rt l ∧ e = 1) ∨ (Rt l ∧ ¬ V l ∧ e = 7) ∨ (Rt l ∧ V l ∧ ¬ En l ∧ e = 7) ∨ (Rt l ∧ V l ∧ En l ∧ ¬ Jm l ∧ e = 8) ∨ (Rt l ∧ V l ∧ En l ∧ Jm l ∧ e = 0)
theorem WSpec.zero {l : List Ins} {e : Int} (h : WSpec l e) : e = 0 ↔ W l := by
  unfold W
  rcases h with ⟨h1, rfl⟩ | ⟨h1, h2, rfl⟩ | ⟨h1, h2, h3, rfl⟩ | ⟨h1, h2, h3, h4, rfl⟩ | ⟨h1, h2, h3, h4, rfl⟩
  · exact ⟨fun e => by omega, fun h => absurd h.1 h1⟩
  · exact ⟨fun e => by omega, fun h => absurd h.2.1 h2⟩
  · exact ⟨fun e => by omega, fun h => absurd h.2.2.1 h3⟩
  · exact ⟨fun e => by omega, fun h => absurd h.2.2.2 h4⟩
  · exact ⟨fun _ => ⟨h1, h2, h3, h4⟩, fun _ => rfl⟩
theorem not_all {P : Nat → Prop} {n i : Nat} (hi : i < n) (h : ¬ P i) : ¬ ∀ j, i ≤ j → j < n → P j := fun g => h (g i (Nat.le_refl i) hi)
theorem all_succ {P : Nat → Prop} {n i : Nat} (h : P i) : (∀ j, i ≤ j → j < n → P j) ↔ (∀ j, i + 1 ≤ j → j < n → P j) := by
  constructor
  · intro g j h1 h2; exact g j (by omega) h2
  · intro g j h1 h2
    by_cases e : j = i
    · subst e; exact h
    · exact g j (by omega) h2
theorem exists_bind {A B : Type} {x : Option A} {a : A} {f : A → Option B} {P : B → Prop} (h : x = some a) (g : ∃ r, f a = some r ∧ P r) : ∃ r, x.bind f = some r ∧ P r := by
  obtain ⟨r, h1, h2⟩ := g
  exact ⟨r, Option.bind_eq_some_iff.2 ⟨_, h, h1⟩, h2⟩
theorem whole_j (l : List Ins) (H : List Int) (hR : Rt l) (hH : HT l H) : ∀ (d i k : Nat), i + d = l.length → 2 * d + 2 ≤ k →
    ∃ e, nest_Whole.l1 k H ((l.length : Int) - 1) l (l.length : Int) (i : Int) = some e ∧ (((∀ j, i ≤ j → j < l.length → JmAt l j) ∧ e = 0) ∨ (¬ (∀ j, i ≤ j → j < l.length → JmAt l j) ∧ e = 8)) := by
  have h200 := hR.2.1
  intro d
  induction d with
  | zero =>
    intro i k hi hk
    obtain ⟨k, rfl⟩ : ∃ m, k = m + 1 := ⟨k - 1, by omega⟩
    simp only [nest_Whole.l1]
    rw [if_neg (by omega)]
    exact ⟨_, rfl, .inl ⟨fun j h1 h2 => by omega, rfl⟩⟩
  | succ d ih =>
    intro i k hi hk
    obtain ⟨k, rfl⟩ : ∃ m, k = m + 2 := ⟨k - 2, by omega⟩
    have hil : i < l.length := by omega
    have hx := ok_args (hR.at hil)
    have hw : wrap64 ((i : Int) + 1) = ((i + 1 : Nat) : Int) := by unfold wrap64; omega
    have hLH := hH.1
    simp only [nest_Whole.l1]
    rw [if_pos (by omega), if_pos (by omega), if_pos (by omega)]
    have next : JmAt l i → ∃ e, nest_Whole.l1 k H ((l.length : Int) - 1) l (l.length : Int) ((i + 1 : Nat) : Int) = some e ∧ (((∀ j, i ≤ j → j < l.length → JmAt l j) ∧ e = 0) ∨ (¬ (∀ j, i ≤ j → j < l.length → JmAt l j) ∧ e = 8)) := by
      intro hj
      rw [all_succ hj]
      exact ih (i + 1) k (by omega) (by omega)
    by_cases hj : (gI l i).f0 = 19 ∨ (gI l i).f0 = 20
    · have hx2 := hx.2.2.2.2.1 hj
      have K : ∃ e, nest_Whole.j2 (k + 1) H ((l.length : Int) - 1) (i : Int) l (l.length : Int) (i : Int) false (gI l i).f0 (gI l i).f1 (gI l i).f2 = some e ∧ (((∀ j, i ≤ j → j < l.length → JmAt l j) ∧ e = 0) ∨ (¬ (∀ j, i ≤ j → j < l.length → JmAt l j) ∧ e = 8)) := by
        simp only [nest_Whole.j2]
        have hw2 : wrap64 (wrap64 ((i : Int) + 1) + (gI l i).f1) = (i : Int) + 1 + (gI l i).f1 := by rw [hw]; clear hx ih next; unfold wrap64; omega
        obtain ⟨t, ht⟩ : ∃ t : Nat, (i : Int) + 1 + (gI l i).f1 = (t : Int) := ⟨((i : Int) + 1 + (gI l i).f1).toNat, by omega⟩
        rw [if_neg (by decide), hw2, ht]
        by_cases h1 : (t : Int) > (l.length : Int) - 1
        · rw [if_pos h1]
          refine ⟨_, rfl, .inr ⟨not_all hil ?_, rfl⟩⟩
          intro g
          obtain ⟨t', e1, e2, _⟩ := g hj
          omega
        · obtain ⟨s1, a1, b1⟩ := hH.2 t (by omega)
          obtain ⟨s2, a2, b2⟩ := hH.2 i hil
          rw [if_neg h1, if_pos (by omega), if_pos (by omega), if_pos (by omega), if_pos (by omega), b1, b2]
          by_cases h2 : hd s1 = hd s2
          · obtain rfl := hd_same a1 a2 h2
            rw [if_pos rfl, hw]
            exact next (fun _ => ⟨t, ht, by omega, s1, a2, a1⟩)
          · rw [if_neg h2]
            refine ⟨_, rfl, .inr ⟨not_all hil ?_, rfl⟩⟩
            intro g
            obtain ⟨t', e1, _, s, e2, e3⟩ := g hj
            obtain rfl : t' = t := by omega
            apply h2
            rw [Option.some.inj (a1.symm.trans e3), Option.some.inj (a2.symm.trans e2)]
      obtain ⟨e, e1, e2⟩ := K
      refine ⟨e, ?_, e2⟩
      by_cases h : (gI l i).f0 = 19
      · rw [if_pos (show (rd_T32 l (i : Int)).f0 = 19 from h)]; exact e1
      · rw [if_neg (show ¬ (rd_T32 l (i : Int)).f0 = 19 from h), show ((rd_T32 l (i : Int)).f0 != 20) = false from by rw [show (rd_T32 l (i : Int)).f0 = 20 from hj.resolve_left h]; rfl]; exact e1
    · obtain ⟨e, e1, e2⟩ := next (fun h => absurd h hj)
      refine ⟨e, ?_, e2⟩
      rw [if_neg (show ¬ (rd_T32 l (i : Int)).f0 = 19 from fun h => hj (.inl h)), show ((rd_T32 l (i : Int)).f0 != 20) = true from by rw [bne_iff_ne]; exact fun h => hj (.inr h)]
      simp only [nest_Whole.j2]
      rw [if_pos trivial, hw]
      exact e1
theorem end_test (a b c : Int) : ((a == 25) != (b == c)) = true ↔ ¬ (a = 25 ↔ b = c) := by
  rw [bne_iff_ne, ne_eq, Bool.eq_iff_iff, beq_iff_eq, beq_iff_eq]
theorem whole_l0 (l : List Ins) (H : List Int) (hR : Rt l) (hH : HT l H) : ∀ (d i k : Nat), i + d = l.length → d + 2 * l.length + 3 ≤ k →
    ∃ e, nest_Whole.l0 k l H ((l.length : Int) - 1) l (l.length : Int) (i : Int) = some e ∧ (((∀ j, i ≤ j → j < l.length → EnAt l j) ∧ ((Jm l ∧ e = 0) ∨ (¬ Jm l ∧ e = 8))) ∨ (¬ (∀ j, i ≤ j → j < l.length → EnAt l j) ∧ e = 7)) := by
  have h200 := hR.2.1
  intro d
  induction d with
  | zero =>
    intro i k hi hk
    obtain ⟨k, rfl⟩ : ∃ m, k = m + 1 := ⟨k - 1, by omega⟩
    simp only [nest_Whole.l0]
    rw [if_neg (by omega)]
    obtain ⟨e, e1, e2⟩ := whole_j l H hR hH l.length 0 k (by omega) (by omega)
    refine ⟨e, e1, .inl ⟨fun j h1 h2 => by omega, ?_⟩⟩
    rcases e2 with ⟨h1, h2⟩ | ⟨h1, h2⟩
    · exact .inl ⟨fun j hj => h1 j (by omega) hj, h2⟩
    · exact .inr ⟨fun g => h1 fun j _ hj => g j hj, h2⟩
  | succ d ih =>
    intro i k hi hk
    obtain ⟨k, rfl⟩ : ∃ m, k = m + 1 := ⟨k - 1, by omega⟩
    have hil : i < l.length := by omega
    simp only [nest_Whole.l0]
    rw [if_pos (by omega), if_pos (by omega), if_pos (by omega), show rd_T32 l (i : Int) = gI l i from rfl]
    have hE : EnAt l i ↔ ((gI l i).f0 = 25 ↔ (i : Int) = (l.length : Int) - 1) := by unfold EnAt; omega
    by_cases h : EnAt l i
    · rw [if_neg (fun g => (end_test _ _ _).1 g (hE.1 h)), show wrap64 ((i : Int) + 1) = ((i + 1 : Nat) : Int) from by clear hE h ih; unfold wrap64; omega, all_succ h]
      exact ih (i + 1) k (by omega) (by omega)
    · rw [if_pos ((end_test _ _ _).2 (fun g => h (hE.2 g)))]
      exact ⟨_, rfl, .inr ⟨not_all hil h, rfl⟩⟩
theorem whole_eq (l : List Ins) (hn : l.length ≤ 1000000) {k : Nat} (hk : 4 * l.length + 10 ≤ k) : ∃ e, nest_Whole.f k l = some e ∧ WSpec l e := by
  unfold nest_Whole.f
  obtain ⟨r, e1, e2⟩ := scan_eq l hn (k := k) (by omega)
  rcases e2 with ⟨h1, rfl⟩ | ⟨h1, ⟨h2, h3, _, h4⟩ | ⟨h2, rfl⟩⟩
  · exact ⟨1, Option.bind_eq_some_iff.2 ⟨_, e1, rfl⟩, .inl ⟨h1, rfl⟩⟩
  · have h200 := h1.2.1
    obtain ⟨e, e5, e6⟩ := whole_l0 l r.2.1 h1 h4 l.length 0 k (by omega) (by omega)
    refine ⟨e, Option.bind_eq_some_iff.2 ⟨_, e1, ?_⟩, ?_⟩
    · rw [if_pos h3, show wrap64 ((l.length : Int) - 1) = (l.length : Int) - 1 from by clear e1 e5 e6 h1 h2 h3 h4; unfold wrap64; omega]
      exact e5
    · rcases e6 with ⟨h5, ⟨h6, h7⟩ | ⟨h6, h7⟩⟩ | ⟨h5, h6⟩
      · exact .inr (.inr (.inr (.inr ⟨h1, h2, fun j hj => h5 j (by omega) hj, h6, h7⟩)))
      · exact .inr (.inr (.inr (.inl ⟨h1, h2, fun j hj => h5 j (by omega) hj, h6, h7⟩)))
      · exact .inr (.inr (.inl ⟨h1, h2, fun g => h5 fun j _ hj => g j hj, h6⟩))
  · exact ⟨7, Option.bind_eq_some_iff.2 ⟨_, e1, rfl⟩, .inr (.inl ⟨h1, h2, rfl⟩)⟩

/-- Which blocks are held with a stack. -/
def inL (l : List Ins) (s : List Nat) (b : Int) : Bool := s.any fun q => (gI l q).f0 == 23 && (gI l q).f1 == b
def DT (l : List Ins) (D : List Int) : Prop := D.length = l.length ∧ ∀ k, k < l.length → ∃ s, stk l k = some s ∧ rd D (k : Int) = mk8 (inL l s)
def DSpec (l : List Ins) (r : List Int × Int) : Prop := (¬ Rt l ∧ r = ([], 1)) ∨ (Rt l ∧ ¬ V l ∧ r = ([], 7)) ∨ (Rt l ∧ V l ∧ r.2 = 0 ∧ DT l r.1)
theorem inL_nil (l : List Ins) : mk8 (inL l []) = 0 := rfl
theorem inL_cons (l : List Ins) (q : Nat) (s : List Nat) : inL l (q :: s) = fun b => ((gI l q).f0 == 23 && (gI l q).f1 == b) || inL l s b := by
  funext b
  simp [inL]
theorem held_l0 (l : List Ins) (H : List Int) (hR : Rt l) (hH : HT l H) : ∀ (d i k : Nat) (D : List Int), i + d = l.length → d + 2 ≤ k → D.length = l.length → (∀ j, j < i → ∃ s, stk l j = some s ∧ rd D (j : Int) = mk8 (inL l s)) → (∀ j, i ≤ j → j < l.length → rd D (j : Int) = 0) →
    ∃ r, nest_Held.l0 k l H D (l.length : Int) (i : Int) = some r ∧ r.2 = 0 ∧ DT l r.1 := by
  have h200 := hR.2.1
  intro d
  induction d with
  | zero =>
    intro i k D hi hk hD h1 h2
    obtain ⟨k, rfl⟩ : ∃ m, k = m + 1 := ⟨k - 1, by omega⟩
    simp only [nest_Held.l0]
    rw [if_neg (by omega)]
    exact ⟨_, rfl, rfl, hD, fun j hj => h1 j (by omega)⟩
  | succ d ih =>
    intro i k D hi hk hD h1 h2
    obtain ⟨k, rfl⟩ : ∃ m, k = m + 1 := ⟨k - 1, by omega⟩
    have hil : i < l.length := by omega
    have hLH := hH.1
    have hw : wrap64 ((i : Int) + 1) = ((i + 1 : Nat) : Int) := by unfold wrap64; omega
    obtain ⟨s, a1, a2⟩ := hH.2 i hil
    simp only [nest_Held.l0]
    rw [if_pos (by omega), if_pos (by omega), if_pos (by omega), a2]
    cases s with
    | nil =>
      rw [if_pos (show hd [] = -1 from rfl), hw]
      refine ih (i + 1) k D (by omega) (by omega) hD (fun j hj => ?_) (fun j g1 g2 => h2 j (by omega) g2)
      by_cases e : j = i
      · subst e; exact ⟨[], a1, by rw [h2 j (Nat.le_refl _) hil, inL_nil]⟩
      · exact h1 j (by omega)
    | cons q r =>
      have hq : q < i := (stk_dec a1).1
      have hqr := stk_tail a1 [] q r rfl
      obtain ⟨s', b1, b2⟩ := h1 q hq
      obtain rfl := Option.some.inj (hqr.symm.trans b1)
      have hqa := ok_args (hR.at (i := q) (by omega))
      rw [show hd (q :: r) = (q : Int) from rfl, if_neg (by omega), if_pos (by omega), if_pos (by omega), if_pos (by omega), b2, show ((i : Nat) : Int).toNat = i from rfl]
      have step : ∀ v : Int, v = mk8 (inL l (q :: r)) → ∀ D2 : List Int, D2.length = l.length → (∀ j, j ≠ i → rd D2 (j : Int) = rd D (j : Int)) → rd D2 (i : Int) = v → ∃ r, nest_Held.l0 k l H D2 (l.length : Int) ((i + 1 : Nat) : Int) = some r ∧ r.2 = 0 ∧ DT l r.1 := by
        intro v hv D2 g1 g2 g3
        refine ih (i + 1) k D2 (by omega) (by omega) g1 (fun j hj => ?_) (fun j g4 g5 => by rw [g2 j (by omega)]; exact h2 j (by omega) g5)
        by_cases e : j = i
        · subst e; exact ⟨_, a1, by rw [g3, hv]⟩
        · rw [g2 j e]; exact h1 j (by omega)
      have hS : (D.set i (mk8 (inL l r))).length = l.length := by rw [List.length_set, hD]
      have hSi : rd (D.set i (mk8 (inL l r))) (i : Int) = mk8 (inL l r) := rd_set_self (by omega)
      by_cases hL : (gI l q).f0 = 23
      · obtain ⟨c1, c2, _⟩ := hqa.2.2.1 (.inl hL)
        obtain ⟨x, e1, e2⟩ := step _ rfl ((D.set i (mk8 (inL l r))).set i (mk8 (inL l (q :: r)))) (by rw [List.length_set, hS]) (fun j hj => by rw [rd_set_ne (fun e => hj e.symm), rd_set_ne (fun e => hj e.symm)]) (rd_set_self (by omega))
        refine ⟨x, Option.bind_eq_some_iff.2 ⟨_, rfl, ?_⟩, e2⟩
        rw [if_pos (by omega), if_pos (show (rd_T32 l (q : Int)).f0 = 23 from hL), if_pos (show 0 ≤ (rd_T32 l (q : Int)).f1 from c1), hSi, show Go.bits .or .i64 (mk8 (inL l r)) (shl .i64 1 (rd_T32 l (q : Int)).f1) = mk8 (inL l (q :: r)) from (mk8_or _ ⟨c1, c2⟩).trans (by rw [inL_cons, hL]; rfl), hw]
        exact e1
      · obtain ⟨x, e1, e2⟩ := step (mk8 (inL l r)) (by rw [inL_cons]; congr 1; funext b; rw [show ((gI l q).f0 == 23) = false from by rw [beq_eq_false_iff_ne]; exact hL]; rfl) (D.set i (mk8 (inL l r))) hS (fun j hj => rd_set_ne (fun e => hj e.symm)) hSi
        refine ⟨x, Option.bind_eq_some_iff.2 ⟨_, rfl, ?_⟩, e2⟩
        rw [if_pos (by omega), if_neg (show ¬ (rd_T32 l (q : Int)).f0 = 23 from hL), hw]
        exact e1
theorem held_eq (l : List Ins) (hn : l.length ≤ 1000000) {k : Nat} (hk : 4 * l.length + 10 ≤ k) : ∃ r, nest_Held.f k l = some r ∧ DSpec l r := by
  unfold nest_Held.f
  obtain ⟨r, e1, e2⟩ := scan_eq l hn (k := k) (by omega)
  rcases e2 with ⟨h1, rfl⟩ | ⟨h1, ⟨h2, h3, _, h4⟩ | ⟨h2, rfl⟩⟩
  · exact ⟨_, Option.bind_eq_some_iff.2 ⟨_, e1, rfl⟩, .inl ⟨h1, rfl⟩⟩
  · have h200 := h1.2.1
    obtain ⟨x, e5, e6⟩ := held_l0 l r.2.1 h1 h4 l.length 0 k (List.replicate l.length 0) (by omega) (by omega) List.length_replicate (fun j hj => by omega) (fun j _ hj => by simp [rd, List.getD, hj])
    refine ⟨x, Option.bind_eq_some_iff.2 ⟨_, e1, ?_⟩, .inr (.inr ⟨h1, h2, e6⟩)⟩
    rw [if_pos h3, if_pos (by omega), show ((l.length : Nat) : Int).toNat = l.length from rfl, if_pos (by omega)]
    exact e5
  · exact ⟨_, Option.bind_eq_some_iff.2 ⟨_, e1, rfl⟩, .inr (.inl ⟨h1, h2, rfl⟩)⟩

theorem looped_l0 (l : List Ins) (H : List Int) (hH : HT l H) : ∀ (s : List Nat) (i k : Nat), stk l i = some s → i ≤ l.length → s.length + 1 ≤ k → nest_looped.l0 k l H (hd s) = some (s.any fun q => (gI l q).f0 == 21) := by
  intro s
  induction s with
  | nil =>
    intro i k _ _ hk
    obtain ⟨k, rfl⟩ : ∃ m, k = m + 1 := ⟨k - 1, by rw [List.length_nil] at hk; omega⟩
    simp only [nest_looped.l0]
    rw [if_pos (show hd [] = -1 from rfl)]
    rfl
  | cons q r ih =>
    intro i k hs hi hk
    rw [List.length_cons] at hk
    obtain ⟨k, rfl⟩ : ∃ m, k = m + 1 := ⟨k - 1, by omega⟩
    have hq : q < i := (stk_dec hs).1
    have hqr := stk_tail hs [] q r rfl
    have hLH := hH.1
    obtain ⟨s', b1, b2⟩ := hH.2 q (by omega)
    obtain rfl := Option.some.inj (hqr.symm.trans b1)
    simp only [nest_looped.l0]
    rw [show hd (q :: r) = (q : Int) from rfl, if_neg (by omega), if_pos (by omega), if_pos (by omega), List.any_cons]
    by_cases h : (gI l q).f0 = 21
    · rw [if_pos (show (rd_T32 l (q : Int)).f0 = 21 from h), h]; rfl
    · rw [if_neg (show ¬ (rd_T32 l (q : Int)).f0 = 21 from h), if_pos (by omega), b2, show ((gI l q).f0 == 21) = false from by rw [beq_eq_false_iff_ne]; exact h, Bool.false_or]
      exact ih q k hqr (by omega) (by omega)
theorem looped_eq (l : List Ins) (H : List Int) (hH : HT l H) {s : List Nat} {i k : Nat} (hs : stk l i = some s) (hi : i < l.length) (hk : l.length + 1 ≤ k) : nest_looped.f k l H (i : Int) = some (s.any fun q => (gI l q).f0 == 21) := by
  unfold nest_looped.f
  obtain ⟨s', b1, b2⟩ := hH.2 i hi
  obtain rfl := Option.some.inj (hs.symm.trans b1)
  have := dec_len (stk_dec hs)
  have hLH := hH.1
  rw [if_pos (by omega), if_pos (by omega), b2]
  exact looped_l0 l H hH s i k hs (by omega) (by omega)
/-- An instruction may stand where it does. -/
def LkAt (l : List Ins) (i : Nat) : Prop :=
  ((gI l i).f0 = 23 → (∀ j, j < i → (gI l j).f0 ≠ 24) ∧ ∃ s, stk l i = some s ∧ ∀ q ∈ s, (gI l q).f0 ≠ 21 ∧ ((gI l q).f0 = 23 → (gI l q).f1 < (gI l i).f1)) ∧
  ((gI l i).f0 = 17 ∨ (gI l i).f0 = 18 → ∃ s, stk l i = some s ∧ ∃ q ∈ s, (gI l q).f0 = 23 ∧ (gI l q).f1 = (gI l i).f1)
def Lk (l : List Ins) : Prop := ∀ i, i < l.length → LkAt l i
def outs (l : List Ins) (i : Nat) : List Int := ((l.take i).filter fun x => x.f0 == 23).map fun x => x.f1
theorem take_succ_gI {l : List Ins} {i : Nat} (h : i < l.length) : l.take (i + 1) = l.take i ++ [gI l i] := by
  rw [List.take_add_one, List.getElem?_eq_getElem h]
  simp [gI, rd_T32, List.getD, h]
theorem outs_succ {l : List Ins} {i : Nat} (h : i < l.length) : outs l (i + 1) = if (gI l i).f0 = 23 then outs l i ++ [(gI l i).f1] else outs l i := by
  unfold outs
  rw [take_succ_gI h, List.filter_append, List.map_append]
  by_cases h2 : (gI l i).f0 = 23
  · rw [if_pos h2]; simp [h2]
  · rw [if_neg h2]; simp [h2]
theorem outs_len (l : List Ins) (i : Nat) : (outs l i).length ≤ l.length := by
  unfold outs
  rw [List.length_map]
  refine Nat.le_trans (List.length_filter_le _ _) ?_
  rw [List.length_take]; omega
def LSpec (l : List Ins) (r : List Int × Int) : Prop := (∃ e, WSpec l e ∧ e ≠ 0 ∧ r = ([], e)) ∨ (W l ∧ ¬ Lk l ∧ r = ([], 11)) ∨ (W l ∧ Lk l ∧ r = (outs l l.length, 0))
theorem inL_iff {l : List Ins} {s : List Nat} {b : Int} : inL l s b = true ↔ ∃ q ∈ s, (gI l q).f0 = 23 ∧ (gI l q).f1 = b := by
  unfold inL
  rw [List.any_eq_true]
  simp
theorem locks_l0 (l : List Ins) (D H : List Int) (hR : Rt l) (hD : DT l D) (hH : HT l H) : ∀ (d i k : Nat) (F : Bool), i + d = l.length → 2 * d + l.length + 4 ≤ k → (F = true ↔ ∃ j, j < i ∧ (gI l j).f0 = 24) →
    ∃ r, nest_Locks.l0 k l D H (outs l i) F l (l.length : Int) (i : Int) = some r ∧ (((∀ j, i ≤ j → j < l.length → LkAt l j) ∧ r = (outs l l.length, 0)) ∨ (¬ (∀ j, i ≤ j → j < l.length → LkAt l j) ∧ r = ([], 11))) := by
  have h200 := hR.2.1
  intro d
  induction d with
  | zero =>
    intro i k F hi hk hF
    obtain ⟨k, rfl⟩ : ∃ m, k = m + 1 := ⟨k - 1, by omega⟩
    obtain rfl : i = l.length := by omega
    simp only [nest_Locks.l0]
    rw [if_neg (by omega)]
    exact ⟨_, rfl, .inl ⟨fun j h1 h2 => by omega, rfl⟩⟩
  | succ d ih =>
    intro i k F hi hk hF
    obtain ⟨k, rfl⟩ : ∃ m, k = m + 2 := ⟨k - 2, by omega⟩
    have hil : i < l.length := by omega
    have hLD := hD.1
    have hx := ok_args (hR.at hil)
    have hw : wrap64 ((i : Int) + 1) = ((i + 1 : Nat) : Int) := by unfold wrap64; omega
    have hol := outs_len l i
    obtain ⟨s, a1, a2⟩ := hD.2 i hil
    have bad : ∀ {q : Option (List Int × Int)}, ¬ LkAt l i → q = some ([], 11) → ∃ r, q = some r ∧ (((∀ j, i ≤ j → j < l.length → LkAt l j) ∧ r = (outs l l.length, 0)) ∨ (¬ (∀ j, i ≤ j → j < l.length → LkAt l j) ∧ r = ([], 11))) := by
      intro q h e
      exact ⟨_, e, .inr ⟨not_all hil h, rfl⟩⟩
    simp only [nest_Locks.l0]
    rw [if_pos (by omega), if_pos (by omega), if_pos (by omega)]
    simp only [show rd_T32 l (i : Int) = gI l i from rfl]
    by_cases h23 : (gI l i).f0 = 23
    · obtain ⟨c1, c2, _⟩ := hx.2.2.1 (.inl h23)
      rw [if_pos h23]
      by_cases hFt : F = true
      · rw [if_pos hFt, if_pos (by omega)]
        refine bad (fun g => ?_) rfl
        obtain ⟨j, g1, g2⟩ := hF.1 hFt
        exact (g.1 h23).1 j g1 g2
      · rw [if_neg hFt, if_pos (by omega), if_pos c1, a2]
        by_cases hs : shr .i64 (mk8 (inL l s)) (gI l i).f1 = 0
        · rw [if_pos hs]
          have hs' := (mk8_shr _ ⟨c1, c2⟩).1 hs
          refine exists_bind (looped_eq l H hH a1 hil (k := k + 1) (by omega)) ?_
          rw [if_pos (by omega)]
          by_cases hlp : (s.any fun q => (gI l q).f0 == 21) = true
          · rw [if_pos hlp]
            refine bad (fun g => ?_) rfl
            obtain ⟨s', g1, g2⟩ := (g.1 h23).2
            obtain rfl := Option.some.inj (a1.symm.trans g1)
            rw [List.any_eq_true] at hlp
            obtain ⟨q, q1, q2⟩ := hlp
            exact (g2 q q1).1 (beq_iff_eq.1 q2)
          · rw [if_neg hlp, hw, show outs l i ++ [(gI l i).f1] = outs l (i + 1) from by rw [outs_succ hil, if_pos h23]]
            have hL : LkAt l i := by
              refine ⟨fun _ => ⟨fun j g1 g2 => hFt (hF.2 ⟨j, g1, g2⟩), s, a1, fun q hq => ⟨fun g => hlp ?_, fun g => ?_⟩⟩, fun g => by omega⟩
              · rw [List.any_eq_true]; exact ⟨q, hq, beq_iff_eq.2 g⟩
              · apply Classical.byContradiction
                intro hlt
                have hqi := (stk_dec a1).mem hq
                have hqa := (ok_args (hR.at (i := q) (by omega))).2.2.1 (.inl g)
                have := hs' (gI l q).f1 (by omega) hqa.2.1
                rw [Bool.eq_false_iff] at this
                exact this (inL_iff.2 ⟨q, hq, g, rfl⟩)
            rw [all_succ hL]
            exact ih (i + 1) (k + 1) F (by omega) (by omega) (by
              rw [hF]
              constructor
              · rintro ⟨j, g1, g2⟩; exact ⟨j, by omega, g2⟩
              · rintro ⟨j, g1, g2⟩
                by_cases e : j = i
                · subst e; omega
                · exact ⟨j, by omega, g2⟩)
        · rw [if_neg hs, if_pos (by omega)]
          refine bad (fun g => ?_) rfl
          obtain ⟨s', g1, g2⟩ := (g.1 h23).2
          obtain rfl := Option.some.inj (a1.symm.trans g1)
          apply hs
          rw [mk8_shr _ ⟨c1, c2⟩]
          intro b b1 b2
          rw [Bool.eq_false_iff]
          intro hb
          obtain ⟨q, q1, q2, q3⟩ := inL_iff.1 hb
          have := (g2 q q1).2 q2
          omega
    · rw [if_neg h23]
      have ho1 : outs l i = outs l (i + 1) := by rw [outs_succ hil, if_neg h23]
      by_cases h24 : (gI l i).f0 = 24
      · rw [if_pos h24, hw, ho1, all_succ (show LkAt l i from ⟨fun g => absurd g h23, fun g => by omega⟩)]
        exact ih (i + 1) (k + 1) true (by omega) (by omega) ⟨fun _ => ⟨i, by omega, h24⟩, fun _ => rfl⟩
      · rw [if_neg h24]
        have hF' : F = true ↔ ∃ j, j < i + 1 ∧ (gI l j).f0 = 24 := by
          rw [hF]
          constructor
          · rintro ⟨j, g1, g2⟩; exact ⟨j, by omega, g2⟩
          · rintro ⟨j, g1, g2⟩
            by_cases e : j = i
            · subst e; exact absurd g2 h24
            · exact ⟨j, by omega, g2⟩
        have G : ∀ gp : Bool, (gp = true ↔ ((gI l i).f0 = 17 ∨ (gI l i).f0 = 18)) → ∃ r, nest_Locks.j1 (k + 1) l D H (outs l i) F (i : Int) true l (l.length : Int) (i : Int) gp (gI l i).f0 (gI l i).f1 (gI l i).f2 = some r ∧ (((∀ j, i ≤ j → j < l.length → LkAt l j) ∧ r = (outs l l.length, 0)) ∨ (¬ (∀ j, i ≤ j → j < l.length → LkAt l j) ∧ r = ([], 11))) := by
          intro gp hgp
          simp only [nest_Locks.j1]
          by_cases hg : gp = true
          · obtain ⟨c1, c2⟩ := hx.2.2.2.1 (hgp.1 hg)
            rw [if_pos hg, if_pos (by omega), if_pos (by omega), if_pos c1, a2]
            by_cases hin : inL l s (gI l i).f1 = true
            · have hL : LkAt l i := ⟨fun g => absurd g h23, fun _ => ⟨s, a1, inL_iff.1 hin⟩⟩
              rw [if_pos ((mk8_one _ ⟨c1, c2⟩).2 hin), hw, ho1, all_succ hL]
              exact ih (i + 1) k F (by omega) (by omega) hF'
            · rw [if_neg (fun g => hin ((mk8_one _ ⟨c1, c2⟩).1 g))]
              refine bad (fun g => ?_) rfl
              obtain ⟨s', g1, g2⟩ := g.2 (hgp.1 hg)
              obtain rfl := Option.some.inj (a1.symm.trans g1)
              exact hin (inL_iff.2 g2)
          · rw [if_neg hg, if_pos trivial, hw, ho1, all_succ (show LkAt l i from ⟨fun g => absurd g h23, fun g => absurd (hgp.2 g) hg⟩)]
            exact ih (i + 1) k F (by omega) (by omega) hF'
        by_cases h17 : (gI l i).f0 = 17
        · rw [if_pos h17]
          exact G _ (by rw [beq_iff_eq]; omega)
        · rw [if_neg h17]
          exact G _ (by rw [beq_iff_eq]; omega)
theorem locks_eq (l : List Ins) (hn : l.length ≤ 1000000) {k : Nat} (hk : 4 * l.length + 10 ≤ k) : ∃ r, nest_Locks.f k l = some r ∧ LSpec l r := by
  unfold nest_Locks.f
  obtain ⟨e, e1, e2⟩ := whole_eq l hn hk
  by_cases h : e = 0
  · have hW := e2.zero.1 h
    have hR := hW.1
    have hV := hW.2.1
    obtain ⟨r1, f1, f2⟩ := held_eq l hn hk
    obtain ⟨r2, g1, g2⟩ := home_eq l hn (k := k) (by omega)
    have hD : DT l r1.1 := by
      rcases f2 with ⟨h1, _⟩ | ⟨_, h1, _⟩ | ⟨_, _, _, h1⟩
      · exact absurd hR h1
      · exact absurd hV h1
      · exact h1
    have hH : HT l r2.1 := by
      rcases g2 with ⟨h1, _⟩ | ⟨_, h1, _⟩ | ⟨_, _, _, h1⟩
      · exact absurd hR h1
      · exact absurd hV h1
      · exact h1
    obtain ⟨r, i1, i2⟩ := locks_l0 l r1.1 r2.1 hR hD hH l.length 0 k false (by omega) (by omega) ⟨fun h => (by cases h), fun ⟨j, hj, _⟩ => by omega⟩
    refine ⟨r, Option.bind_eq_some_iff.2 ⟨_, e1, ?_⟩, ?_⟩
    · rw [if_pos h]
      refine Option.bind_eq_some_iff.2 ⟨_, f1, ?_⟩
      exact Option.bind_eq_some_iff.2 ⟨_, g1, i1⟩
    · rcases i2 with ⟨h1, h2⟩ | ⟨h1, h2⟩
      · exact .inr (.inr ⟨hW, fun j hj => h1 j (by omega) hj, h2⟩)
      · exact .inr (.inl ⟨hW, fun g => h1 fun j _ hj => g j hj, h2⟩)
  · refine ⟨_, Option.bind_eq_some_iff.2 ⟨_, e1, ?_⟩, .inl ⟨e, e2, h, rfl⟩⟩
    rw [if_neg h]

end Go.Proofs.Ytljgllcllddcdaa.NL
