/- nest.Whole, Held, Locks: what they answer, in plain words. No conditions beyond those that each lemma states. -/
import Derived.Test.YtdhlhbhclggheaaNS7
import Derived.Test.YtdhlhbhclggheaaDx4
namespace Go.Proofs.Ytdhlhbhclggheaa.NL
open Go.RowKit Go.Proofs.Ytdhlhbhclggheaa.P Go.Proofs.Ytdhlhbhclggheaa.D Go.Proofs.YtdhlhbhclggheaaW.PrintWords Go.Proofs.YtdhlhbhclggheaaW.PrintLast Go.Proofs.YtdhlhbhclggheaaW.PrintMore

/-- The End stands last, and nowhere else. -/
def EnAt (l : List Ins) (i : Nat) : Prop := (gI l i).f0 = 25 ↔ i + 1 = l.length
def En (l : List Ins) : Prop := ∀ i, i < l.length → EnAt l i
/-- A jump leads to where the same is open. -/
def JmAt (l : List Ins) (i : Nat) : Prop := (gI l i).f0 = 19 ∨ (gI l i).f0 = 20 → ∃ t : Nat, (i : Int) + 1 + (gI l i).f1 = (t : Int) ∧ t < l.length ∧ ∃ s, stk l i = some s ∧ stk l t = some s
def Jm (l : List Ins) : Prop := ∀ i, i < l.length → JmAt l i
def W (l : List Ins) : Prop := Rt l ∧ V l ∧ En l ∧ Jm l
def WSpec (l : List Ins) (e : Int) : Prop := (¬ Rt l ∧ e = 1) ∨ (Rt l ∧ ¬ V l ∧ e = 7) ∨ (Rt l ∧ V l ∧ ¬ En l ∧ e = 7) ∨ (Rt l ∧ V l ∧ En l ∧ ¬ Jm l ∧ e = 8) ∨ (Rt l ∧ V l ∧ En l ∧ Jm l ∧ e = 0)
theorem WSpec.zero {l : List Ins} {e : Int} (h : WSpec l e) : e = 0 ↔ W l := by
  unfold W
  rcases h with ⟨h1, rfl⟩ | ⟨h1, h2, rfl⟩ | ⟨h1, h2, h3, rfl⟩ | ⟨h1, h2, h3, h4, rfl⟩ | ⟨h1, h2, h3, h4, rfl⟩
  · exact ⟨fun e => by omega, fun h => absurd h.1 h1⟩
  · exact ⟨fun e => by omega, fun h => absurd h.2.1 h2⟩
  · exact ⟨fun e => by omega, fun h => absurd h.2.2.1 h3⟩
  · exact ⟨fun e => by omega, fun h => absurd h.2.2.2 h4⟩
  · exact ⟨fun _ => ⟨h1, h2, h3, h4⟩, fun _ => rfl⟩
theorem not_all {P : Nat → Prop} {n i : Nat} (hi : i < n) (h : ¬ P i) : ¬ ∀ j, i ≤ j → j < n → P j := fun g => h (g i (Nat.le_refl i) hi)
theorem all_succ {P : Nat → Prop} {n i : Nat} (h : P i) : (∀ j, i ≤ j → j < n → P j) ↔ (∀ j, i + 1 ≤ j → j < n → P j) := by
  constructor
  · intro g j h1 h2; exact g j (by omega) h2
  · intro g j h1 h2
    by_cases e : j = i
    · subst e; exact h
    · exact g j (by omega) h2
theorem exists_bind {A B : Type} {x : Option A} {a : A} {f : A → Option B} {P : B → Prop} (h : x = some a) (g : ∃ r, f a = some r ∧ P r) : ∃ r, x.bind f = some r ∧ P r := by
  obtain ⟨r, h1, h2⟩ := g
  exact ⟨r, Option.bind_eq_some_iff.2 ⟨_, h, h1⟩, h2⟩
theorem whole_j (l : List Ins) (H : List Int) (hR : Rt l) (hH : HT l H) : ∀ (d i k : Nat), i + d = l.length → 2 * d + 2 ≤ k →
    ∃ e, nest_Whole.l1 k H ((l.length : Int) - 1) l (l.length : Int) (i : Int) = some e ∧ (((∀ j, i ≤ j → j < l.length → JmAt l j) ∧ e = 0) ∨ (¬ (∀ j, i ≤ j → j < l.length → JmAt l j) ∧ e = 8)) := by
  have h200 := hR.2.1
  intro d
  induction d with
  | zero =>
    intro i k hi hk
    obtain ⟨k, rfl⟩ : ∃ m, k = m + 1 := ⟨k - 1, by omega⟩
    simp only [nest_Whole.l1]
    rw [if_neg (by omega)]
    exact ⟨_, rfl, .inl ⟨fun j h1 h2 => by omega, rfl⟩⟩
  | succ d ih =>
    intro i k hi hk
    obtain ⟨k, rfl⟩ : ∃ m, k = m + 2 := ⟨k - 2, by omega⟩
    have hil : i < l.length := by omega
    have hx := ok_args (hR.at hil)
    have hw : wrap64 ((i : Int) + 1) = ((i + 1 : Nat) : Int) := by unfold wrap64; omega
    have hLH := hH.1
    simp only [nest_Whole.l1]
    rw [if_pos (by omega), if_pos (by omega), if_pos (by omega)]
    have next : JmAt l i → ∃ e, nest_Whole.l1 k H ((l.length : Int) - 1) l (l.length : Int) ((i + 1 : Nat) : Int) = some e ∧ (((∀ j, i ≤ j → j < l.length → JmAt l j) ∧ e = 0) ∨ (¬ (∀ j, i ≤ j → j < l.length → JmAt l j) ∧ e = 8)) := by
      intro hj
      rw [all_succ hj]
      exact ih (i + 1) k (by omega) (by omega)
    by_cases hj : (gI l i).f0 = 19 ∨ (gI l i).f0 = 20
    · have hx2 := hx.2.2.2.2.1 hj
      have K : ∃ e, nest_Whole.j2 (k + 1) H ((l.length : Int) - 1) (i : Int) l (l.length : Int) (i : Int) false (gI l i).f0 (gI l i).f1 (gI l i).f2 = some e ∧ (((∀ j, i ≤ j → j < l.length → JmAt l j) ∧ e = 0) ∨ (¬ (∀ j, i ≤ j → j < l.length → JmAt l j) ∧ e = 8)) := by
        simp only [nest_Whole.j2]
        have hw2 : wrap64 (wrap64 ((i : Int) + 1) + (gI l i).f1) = (i : Int) + 1 + (gI l i).f1 := by rw [hw]; clear hx ih next; unfold wrap64; omega
        obtain ⟨t, ht⟩ : ∃ t : Nat, (i : Int) + 1 + (gI l i).f1 = (t : Int) := ⟨((i : Int) + 1 + (gI l i).f1).toNat, by omega⟩
        rw [if_neg (by decide), hw2, ht]
        by_cases h1 : (t : Int) > (l.length : Int) - 1
        · rw [if_pos h1]
          refine ⟨_, rfl, .inr ⟨not_all hil ?_, rfl⟩⟩
          intro g
          obtain ⟨t', e1, e2, _⟩ := g hj
          omega
        · obtain ⟨s1, a1, b1⟩ := hH.2 t (by omega)
          obtain ⟨s2, a2, b2⟩ := hH.2 i hil
          rw [if_neg h1, if_pos (by omega), if_pos (by omega), if_pos (by omega), if_pos (by omega), b1, b2]
          by_cases h2 : hd s1 = hd s2
          · obtain rfl := hd_same a1 a2 h2
            rw [if_pos rfl, hw]
            exact next (fun _ => ⟨t, ht, by omega, s1, a2, a1⟩)
          · rw [if_neg h2]
            refine ⟨_, rfl, .inr ⟨not_all hil ?_, rfl⟩⟩
            intro g
            obtain ⟨t', e1, _, s, e2, e3⟩ := g hj
            obtain rfl : t' = t := by omega
            apply h2
            rw [Option.some.inj (a1.symm.trans e3), Option.some.inj (a2.symm.trans e2)]
      obtain ⟨e, e1, e2⟩ := K
      refine ⟨e, ?_, e2⟩
      by_cases h : (gI l i).f0 = 19
      · rw [if_pos (show (rd_T37 l (i : Int)).f0 = 19 from h)]; exact e1
      · rw [if_neg (show ¬ (rd_T37 l (i : Int)).f0 = 19 from h), show ((rd_T37 l (i : Int)).f0 != 20) = false from by rw [show (rd_T37 l (i : Int)).f0 = 20 from hj.resolve_left h]; rfl]; exact e1
    · obtain ⟨e, e1, e2⟩ := next (fun h => absurd h hj)
      refine ⟨e, ?_, e2⟩
      rw [if_neg (show ¬ (rd_T37 l (i : Int)).f0 = 19 from fun h => hj (.inl h)), show ((rd_T37 l (i : Int)).f0 != 20) = true from by rw [bne_iff_ne]; exact fun h => hj (.inr h)]
      simp only [nest_Whole.j2]
      rw [if_pos trivial, hw]
      exact e1
theorem end_test (a b c : Int) : ((a == 25) != (b == c)) = true ↔ ¬ (a = 25 ↔ b = c) := by
  rw [bne_iff_ne, ne_eq, Bool.eq_iff_iff, beq_iff_eq, beq_iff_eq]
theorem whole_l0 (l : List Ins) (H : List Int) (hR : Rt l) (hH : HT l H) : ∀ (d i k : Nat), i + d = l.length → d + 2 * l.length + 3 ≤ k →
    ∃ e, nest_Whole.l0 k l H ((l.length : Int) - 1) l (l.length : Int) (i : Int) = some e ∧ (((∀ j, i ≤ j → j < l.length → EnAt l j) ∧ ((Jm l ∧ e = 0) ∨ (¬ Jm l ∧ e = 8))) ∨ (¬ (∀ j, i ≤ j → j < l.length → EnAt l j) ∧ e = 7)) := by
  have h200 := hR.2.1
  intro d
  induction d with
  | zero =>
    intro i k hi hk
    obtain ⟨k, rfl⟩ : ∃ m, k = m + 1 := ⟨k - 1, by omega⟩
    simp only [nest_Whole.l0]
    rw [if_neg (by omega)]
    obtain ⟨e, e1, e2⟩ := whole_j l H hR hH l.length 0 k (by omega) (by omega)
    refine ⟨e, e1, .inl ⟨fun j h1 h2 => by omega, ?_⟩⟩
    rcases e2 with ⟨h1, h2⟩ | ⟨h1, h2⟩
    · exact .inl ⟨fun j hj => h1 j (by omega) hj, h2⟩
    · exact .inr ⟨fun g => h1 fun j _ hj => g j hj, h2⟩
  | succ d ih =>
    intro i k hi hk
    obtain ⟨k, rfl⟩ : ∃ m, k = m + 1 := ⟨k - 1, by omega⟩
    have hil : i < l.length := by omega
    simp only [nest_Whole.l0]
    rw [if_pos (by omega), if_pos (by omega), if_pos (by omega), show rd_T37 l (i : Int) = gI l i from rfl]
    have hE : EnAt l i ↔ ((gI l i).f0 = 25 ↔ (i : Int) = (l.length : Int) - 1) := by unfold EnAt; omega
    by_cases h : EnAt l i
    · rw [if_neg (fun g => (end_test _ _ _).1 g (hE.1 h)), show wrap64 ((i : Int) + 1) = ((i + 1 : Nat) : Int) from by clear hE h ih; unfold wrap64; omega, all_succ h]
      exact ih (i + 1) k (by omega) (by omega)
    · rw [if_pos ((end_test _ _ _).2 (fun g => h (hE.2 g)))]
      exact ⟨_, rfl, .inr ⟨not_all hil h, rfl⟩⟩
theorem whole_eq (l : List Ins) (hn : l.length ≤ 1000000) {k : Nat} (hk : 4 * l.length + 10 ≤ k) : ∃ e, nest_Whole.f k l = some e ∧ WSpec l e := by
  unfold nest_Whole.f
  obtain ⟨r, e1, e2⟩ := scan_eq l hn (k := k) (by omega)
  rcases e2 with ⟨h1, rfl⟩ | ⟨h1, ⟨h2, h3, _, h4⟩ | ⟨h2, rfl⟩⟩
  · exact ⟨1, Option.bind_eq_some_iff.2 ⟨_, e1, rfl⟩, .inl ⟨h1, rfl⟩⟩
  · have h200 := h1.2.1
    obtain ⟨e, e5, e6⟩ := whole_l0 l r.2.1 h1 h4 l.length 0 k (by omega) (by omega)
    refine ⟨e, Option.bind_eq_some_iff.2 ⟨_, e1, ?_⟩, ?_⟩
    · rw [if_pos h3, show wrap64 ((l.length : Int) - 1) = (l.length : Int) - 1 from by clear e1 e5 e6 h1 h2 h3 h4; unfold wrap64; omega]
      exact e5
    · rcases e6 with ⟨h5, ⟨h6, h7⟩ | ⟨h6, h7⟩⟩ | ⟨h5, h6⟩
      · exact .inr (.inr (.inr (.inr ⟨h1, h2, fun j hj => h5 j (by omega) hj, h6, h7⟩)))
      · exact .inr (.inr (.inr (.inl ⟨h1, h2, fun j hj => h5 j (by omega) hj, h6, h7⟩)))
      · exact .inr (.inr (.inl ⟨h1, h2, fun g => h5 fun j _ hj => g j hj, h6⟩))
  · exact ⟨7, Option.bind_eq_some_iff.2 ⟨_, e1, rfl⟩, .inr (.inl ⟨h1, h2, rfl⟩)⟩

end Go.Proofs.Ytdhlhbhclggheaa.NL
