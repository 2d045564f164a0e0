/- CodeGets: what stands at any place of any bytes, as a number, or a list, or what is wrong, is as the document says; for all bytes within the statement's bounds, all places and all bounds. -/
import Derived.Test.YteioenlkdidpgaaCLL
import Derived.Test.YteioenlkdidpgaaCRG
import Derived.Test.YteioenlkdidpgaaPx7
import Derived.Test.YteioenlkdidpgaaPx4
import Derived.Test.YteioenlkdidpgaaPx7
namespace Go.Proofs.Yteioenlkdidpgaa.Pure
open Go.RowKit Go.Proofs.Yteioenlkdidpgaa.P Go.Proofs.YteioenlkdidpgaaW.PrintWords Go.Proofs.YteioenlkdidpgaaW.PrintLast Go.Proofs.Yteioenlkdidpgaa.CM Go.Proofs.Yteioenlkdidpgaa.CL

theorem known_gets {k : Nat} (hk : 60 ≤ k) : camshaftlaw02_known.f k = some true := at_rounds camshaftlaw02_known.mono hk camshaftlaw02_known.run
theorem rgetlist_l0 (s : ByteArray) (hs : s.size ≤ 1000000) : ∀ (f : Nat) (at_ : Int) (acc : List Int) (n i : Int) (k : Nat), 0 ≤ at_ → at_ ≤ s.size → (s.size : Int) + 1 ≤ f + at_ →
    f + 80 ≤ k → 0 ≤ i → n ≤ 9223372036854775807 → (acc.length : Int) ≤ at_ → camshaftref02_GetList.l0 k s n at_ acc i = some (readL f s at_ acc n i) := by
  intro f
  induction f with
  | zero => intro at_ acc n i k h0 h1 h2 _ _ _ _; omega
  | succ f ih =>
    intro at_ acc n i k h0 h1 h2 hk hi hn ha
    obtain ⟨k, rfl⟩ : ∃ m, k = m + 1 := ⟨k - 1, by omega⟩
    simp only [camshaftref02_GetList.l0, readL]
    by_cases hlt : i < n
    · rw [if_pos hlt, if_pos hlt]
      refine Option.bind_eq_some_iff.2 ⟨_, rget_eq s hs at_ (by omega), ?_⟩
      by_cases he : (getS s at_).2.2 = 0
      · obtain ⟨h3, h4, _⟩ := getS_step he
        rw [if_pos he, if_pos he, if_pos (by omega), show wrap64 (i + 1) = i + 1 from by unfold wrap64; omega]
        exact ih _ _ n (i + 1) k (by omega) h4 (by omega) (by omega) (by omega) hn (by simp; omega)
      · rw [if_neg he, if_neg he]
    · rw [if_neg hlt, if_neg hlt]
theorem rgetlist_eq (s : ByteArray) (hs : s.size ≤ 1000000) (at_ lim : Int) {k : Nat} (hk : s.size + 100 ≤ k) : camshaftref02_GetList.f (k + 1) s at_ lim = some (getListS s at_ lim) := by
  unfold camshaftref02_GetList.f
  refine Option.bind_eq_some_iff.2 ⟨_, rget_eq s hs at_ (by omega), ?_⟩
  have J : ∀ b, b = true → camshaftref02_GetList.j0 (k + 1) s lim (getS s at_).1 (getS s at_).2.1 (getS s at_).2.2 b = some ([], 0, 1) := by
    intro b hb
    subst hb
    simp only [camshaftref02_GetList.j0, if_true]
  have hr : at_ < 0 ∨ (s.size : Int) < at_ → getListS s at_ lim = ([], 0, 1) := by
    intro h
    have e : getS s at_ = (0, 0, 1) := by unfold getS; rw [if_pos h]
    unfold getListS
    rw [e]
    split
    · rfl
    · rfl
  by_cases h0 : at_ < 0
  · rw [if_pos h0, J _ rfl, hr (.inl h0)]
  · rw [if_neg h0]
    by_cases h1 : (s.size : Int) < at_
    · rw [if_pos h1, J _ rfl, hr (.inr h1)]
    · rw [if_neg h1]
      by_cases h2 : lim < 0
      · rw [J _ (decide_eq_true h2)]
        unfold getListS
        rw [if_pos h2]
      · rw [show decide (lim < 0) = false from decide_eq_false h2]
        simp only [camshaftref02_GetList.j0]
        unfold getListS
        rw [if_neg (by decide), if_neg h2]
        by_cases he : (getS s at_).2.2 = 0
        · rw [if_pos he, if_pos he]
          by_cases h3 : (getS s at_).1 < 0
          · rw [if_pos h3, if_pos h3]
          · rw [if_neg h3, if_neg h3]
            by_cases h4 : lim < (getS s at_).1
            · rw [if_pos h4, if_pos h4]
            · obtain ⟨h5, h6, h7⟩ := getS_step he
              have h8 := getS_I he
              unfold I64 at h8
              rw [if_neg (by omega), if_neg h4]
              exact rgetlist_l0 s hs (s.size + 2) _ [] _ 0 k (by omega) h6 (by omega) (by omega) (by omega) h8.2 (by simp; omega)
        · rw [if_neg he, if_neg he]
/-- How long a list may be that is read. -/
theorem readL_len (s : ByteArray) : ∀ (f : Nat) (at_ : Int) (acc : List Int) (n i : Int), 0 ≤ at_ → at_ ≤ s.size → (acc.length : Int) ≤ at_ → ((readL f s at_ acc n i).1.length : Int) ≤ s.size := by
  intro f
  induction f with
  | zero => intro at_ acc n i h0 h1 h2; simp [readL]
  | succ f ih =>
    intro at_ acc n i h0 h1 h2
    simp only [readL]
    split
    · split
      · rename_i he
        obtain ⟨h3, h4, _⟩ := getS_step he
        exact ih _ _ n (i + 1) (by omega) h4 (by simp; omega)
      · simp
    · exact Int.le_trans h2 h1
theorem getListS_len (s : ByteArray) (at_ lim : Int) : (getListS s at_ lim).1.length ≤ s.size := by
  unfold getListS
  split
  · simp
  · split
    · rename_i he
      split
      · simp
      · split
        · simp
        · obtain ⟨h5, h6, h7⟩ := getS_step he
          have := readL_len s (s.size + 2) (getS s at_).2.1 [] (getS s at_).1 0 (by omega) h6 (by simp; omega)
          omega
    · simp
theorem gets_all (k : Nat) (hk : 1000 ≤ k) (s : ByteArray) (at_ lim : Int) : camshaftlaw02_CodeGets.f (k + 1) s at_ lim = some true := by
  have K := known_gets (k := k + 1) (by omega)
  unfold camshaftlaw02_CodeGets.f
  by_cases h3 : (s.size : Int) > 300
  · rw [if_pos h3]
    exact Option.bind_eq_some_iff.2 ⟨_, K, rfl⟩
  · rw [if_neg h3]
    have hl := getListS_len s at_ lim
    refine Option.bind_eq_some_iff.2 ⟨_, get_eq s (by omega) at_ (by omega), ?_⟩
    refine Option.bind_eq_some_iff.2 ⟨_, rget_eq s (by omega) at_ (by omega), ?_⟩
    refine Option.bind_eq_some_iff.2 ⟨_, getlist_eq s (by omega) at_ lim (by omega), ?_⟩
    refine Option.bind_eq_some_iff.2 ⟨_, rgetlist_eq s (by omega) at_ lim (by omega), ?_⟩
    rw [if_pos rfl, if_pos rfl, if_pos rfl]
    refine Option.bind_eq_some_iff.2 ⟨_, same_eq _ _ (by omega) (by omega), ?_⟩
    rw [if_pos (decide_eq_true rfl), if_pos rfl, if_pos rfl]
    exact Option.bind_eq_some_iff.2 ⟨_, K, rfl⟩
theorem CodeGets : camshaftlaw02_CodeGets.Pure := fun s at_ lim _ _ _ => ⟨1000 + 1, gets_all 1000 (Nat.le_refl _) s at_ lim⟩

end Go.Proofs.Yteioenlkdidpgaa.Pure
