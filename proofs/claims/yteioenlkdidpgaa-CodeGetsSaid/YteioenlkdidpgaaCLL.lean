/- What the printed functions of the package code come to, in plain words: List, GetList; when two lists are the same. No conditions beyond those that each lemma states. -/
import Derived.Test.YteioenlkdidpgaaCL
import Derived.Test.YteioenlkdidpgaaPx1
import Derived.Test.YteioenlkdidpgaaPx3
import Derived.Test.YteioenlkdidpgaaPx3
namespace Go.Proofs.Yteioenlkdidpgaa.CL
open Go.RowKit Go.Proofs.Yteioenlkdidpgaa.P Go.Proofs.Yteioenlkdidpgaa.CM Go.Proofs.YteioenlkdidpgaaW.PrintWords Go.Proofs.YteioenlkdidpgaaW.PrintLast Go.Proofs.YteioenlkdidpgaaW.PrintMore

/-- The bytes of numbers, one behind the other. -/
def encL (l : List Int) : List UInt8 := l.flatMap fun n => enc (zz n)
def AllI (l : List Int) : Prop := ∀ x ∈ l, I64 x
theorem AllI_of {l : List Int} (h : ∀ x ∈ l, (Lit.int .i64 x).wf = true) : AllI l := fun x hx => I64_of (h x hx)
theorem encL_nil : encL [] = [] := rfl
theorem encL_cons (n : Int) (l : List Int) : encL (n :: l) = enc (zz n) ++ encL l := rfl
theorem encL_append (a b : List Int) : encL (a ++ b) = encL a ++ encL b := by simp [encL]
theorem encL_len {l : List Int} (h : AllI l) : (encL l).length ≤ 10 * l.length := by
  induction l with
  | nil => simp [encL]
  | cons n l ih =>
    rw [encL_cons, List.length_append, List.length_cons]
    have h1 := ih (fun x hx => h x (by simp [hx]))
    have h2 := enc_len_ten (zz_lt (h n (by simp)))
    omega
theorem rd_drop {l : List Int} {i : Nat} (h : i < l.length) : l.drop i = rd l (i : Int) :: l.drop (i + 1) := by
  rw [List.drop_eq_getElem_cons h]
  simp [rd, List.getD, h]
theorem rd_I {l : List Int} (hl : AllI l) {i : Nat} (h : i < l.length) : I64 (rd l (i : Int)) := by
  apply hl
  simp [rd, List.getD, h]

theorem list_l0 (l : List Int) (hl : AllI l) (hn : l.length ≤ 1000) : ∀ (d i k : Nat) (acc : ByteArray), i + d = l.length → d + 12 ≤ k → acc.size + 10 * d ≤ 100000 →
    code_List.l0 k acc l (l.length : Int) (i : Int) = some (ofL (bl acc ++ encL (l.drop i))) := by
  intro d
  induction d with
  | zero =>
    intro i k acc hi hk hb
    obtain ⟨k, rfl⟩ : ∃ m, k = m + 1 := ⟨k - 1, by omega⟩
    simp only [code_List.l0]
    rw [if_neg (by omega), List.drop_eq_nil_of_le (by omega), encL_nil, List.append_nil, ofL_bl]
  | succ d ih =>
    intro i k acc hi hk hb
    obtain ⟨k, rfl⟩ : ∃ m, k = m + 1 := ⟨k - 1, by omega⟩
    have hlt : i < l.length := by omega
    simp only [code_List.l0]
    have h10 := encB_le (rd_I hl hlt)
    rw [if_pos (by omega), if_pos (by omega), if_pos (by omega), put_eq (rd_I hl hlt) (by omega)]
    simp only [Option.bind_some]
    rw [if_pos (by omega), show wrap64 ((i : Int) + 1) = ((i + 1 : Nat) : Int) from by unfold wrap64; omega]
    rw [ih (i + 1) k _ (by omega) (by omega) (by rw [ByteArray.size_append]; omega), bl_app, bl_encB, rd_drop hlt, encL_cons, List.append_assoc]
/-- A list's bytes. -/
def encLB (l : List Int) : List UInt8 := enc (zz (l.length : Int)) ++ encL l
theorem len_I {l : List Int} (hn : l.length ≤ 1000) : I64 (l.length : Int) := by unfold I64; omega
theorem encLB_len {l : List Int} (h : AllI l) (hn : l.length ≤ 1000) : (encLB l).length ≤ 10 + 10 * l.length := by
  unfold encLB
  rw [List.length_append]
  have h1 := encL_len h
  have h2 := enc_len_ten (zz_lt (len_I hn))
  omega
theorem list_eq {l : List Int} (hl : AllI l) (hn : l.length ≤ 1000) {k : Nat} (hk : l.length + 12 ≤ k) : code_List.f k l = some (ofL (encLB l)) := by
  unfold code_List.f
  rw [put_eq (len_I hn) (by omega)]
  simp only [Option.bind_some]
  have h10 := encB_le (len_I hn)
  have := list_l0 l hl hn l.length 0 k (encB (l.length : Int)) (by omega) hk (by omega)
  rw [List.drop_zero] at this
  exact this

/-! ### Same -/
theorem same_l0 (a b : List Int) (hab : a.length = b.length) (hn : a.length ≤ 1000000) : ∀ (d i k : Nat), i + d = a.length → d < k →
    camshaftref02_Same.l0 k a b (i : Int) = some (decide (a.drop i = b.drop i)) := by
  intro d
  induction d with
  | zero =>
    intro i k hi hk
    obtain ⟨k, rfl⟩ : ∃ m, k = m + 1 := ⟨k - 1, by omega⟩
    simp only [camshaftref02_Same.l0]
    rw [if_neg (by omega), List.drop_eq_nil_of_le (by omega), List.drop_eq_nil_of_le (by omega)]
    rfl
  | succ d ih =>
    intro i k hi hk
    obtain ⟨k, rfl⟩ : ∃ m, k = m + 1 := ⟨k - 1, by omega⟩
    simp only [camshaftref02_Same.l0]
    rw [if_pos (by omega), if_pos (by omega), if_pos (by omega), rd_drop (show i < a.length by omega), rd_drop (show i < b.length by omega)]
    by_cases h : rd a (i : Int) = rd b (i : Int)
    · rw [if_pos h, show wrap64 ((i : Int) + 1) = ((i + 1 : Nat) : Int) from by unfold wrap64; omega, ih (i + 1) k (by omega) (by omega)]
      congr 1
      simp [h]
    · rw [if_neg h]
      congr 1
      simp [h]
theorem same_eq (a b : List Int) (hn : a.length ≤ 1000000) {k : Nat} (hk : a.length < k) : camshaftref02_Same.f k a b = some (decide (a = b)) := by
  unfold camshaftref02_Same.f
  by_cases h : a.length = b.length
  · rw [if_pos (by omega)]
    have := same_l0 a b h hn a.length 0 k (by omega) hk
    simpa using this
  · rw [if_neg (by omega)]
    congr 1
    symm
    exact decide_eq_false (fun e => h (by rw [e]))

/-! ### GetList -/
def readL : Nat → ByteArray → Int → List Int → Int → Int → List Int × Int × Int
  | 0, _, _, _, _, _ => ([], 0, 2)
  | f + 1, s, at_, acc, n, i => if i < n then (if (getS s at_).2.2 = 0 then readL f s (getS s at_).2.1 (acc ++ [(getS s at_).1]) n (i + 1) else ([], 0, (getS s at_).2.2)) else (acc, at_, 0)
theorem getS_step {s : ByteArray} {at_ : Int} (h : (getS s at_).2.2 = 0) : at_ < (getS s at_).2.1 ∧ (getS s at_).2.1 ≤ (s.size : Int) ∧ 0 ≤ at_ := by
  have e : getS s at_ = ((getS s at_).1, (getS s at_).2.1, 0) := by rw [← h]
  obtain ⟨h1, h2, h3, h4, _⟩ := getS_ok e
  have := enc_pos (zz (getS s at_).1)
  omega
theorem getlist_l0 (s : ByteArray) (hs : s.size ≤ 1000000) : ∀ (f : Nat) (at_ : Int) (acc : List Int) (n i : Int) (k : Nat), 0 ≤ at_ → at_ ≤ s.size → (s.size : Int) + 1 ≤ f + at_ →
    f + 14 ≤ k → 0 ≤ i → n ≤ 9223372036854775807 → (acc.length : Int) ≤ at_ → code_GetList.l0 k s at_ acc n i = some (readL f s at_ acc n i) := by
  intro f
  induction f with
  | zero => intro at_ acc n i k h0 h1 h2 _ _ _ _; omega
  | succ f ih =>
    intro at_ acc n i k h0 h1 h2 hk hi hn ha
    obtain ⟨k, rfl⟩ : ∃ m, k = m + 1 := ⟨k - 1, by omega⟩
    simp only [code_GetList.l0, readL]
    by_cases hlt : i < n
    · rw [if_pos hlt, if_pos hlt, get_eq s (by omega) at_ (by omega)]
      simp only [Option.bind_some]
      by_cases he : (getS s at_).2.2 = 0
      · obtain ⟨h3, h4, _⟩ := getS_step he
        rw [if_pos he, if_pos he, if_pos (by omega), show wrap64 (i + 1) = i + 1 from by unfold wrap64; omega]
        exact ih _ _ n (i + 1) k (by omega) h4 (by omega) (by omega) (by omega) hn (by simp; omega)
      · rw [if_neg he, if_neg he]
    · rw [if_neg hlt, if_neg hlt]
/-- The list that stands at a place. -/
def getListS (s : ByteArray) (at_ lim : Int) : List Int × Int × Int :=
  if lim < 0 then ([], 0, 1) else if (getS s at_).2.2 = 0 then
    (if (getS s at_).1 < 0 then ([], 0, 3) else if lim < (getS s at_).1 then ([], 0, 4) else readL (s.size + 2) s (getS s at_).2.1 [] (getS s at_).1 0)
  else ([], 0, (getS s at_).2.2)
theorem getS_I {s : ByteArray} {at_ : Int} (h : (getS s at_).2.2 = 0) : I64 (getS s at_).1 := by
  have e : getS s at_ = ((getS s at_).1, (getS s at_).2.1, 0) := by rw [← h]
  exact (getS_ok e).2.1
theorem getlist_eq (s : ByteArray) (hs : s.size ≤ 1000000) (at_ lim : Int) {k : Nat} (hk : s.size + 20 ≤ k) : code_GetList.f k s at_ lim = some (getListS s at_ lim) := by
  unfold code_GetList.f getListS
  by_cases h0 : lim < 0
  · rw [if_pos h0, if_pos h0]
  · rw [if_neg h0, if_neg h0, get_eq s (by omega) at_ (by omega)]
    simp only [Option.bind_some]
    by_cases he : (getS s at_).2.2 = 0
    · rw [if_pos he, if_pos he]
      by_cases h1 : (getS s at_).1 < 0
      · rw [if_pos h1, if_pos h1]
      · rw [if_neg h1, if_neg h1]
        by_cases h2 : lim < (getS s at_).1
        · rw [if_pos h2, if_pos h2]
        · obtain ⟨h3, h4, h5⟩ := getS_step he
          have h6 := getS_I he
          unfold I64 at h6
          rw [if_neg (by omega), if_neg h2]
          exact getlist_l0 s hs (s.size + 2) _ [] _ 0 k (by omega) h4 (by omega) (by omega) (by omega) h6.2 (by simp; omega)
    · rw [if_neg he, if_neg he]

/-- What is put is got: the list's numbers, one behind the other. -/
theorem readL_encL (s : ByteArray) : ∀ (l : List Int) (f : Nat) (A r : List UInt8) (acc : List Int) (at_ n i : Int), AllI l → bl s = A ++ encL l ++ r → at_ = (A.length : Int) → n = i + (l.length : Int) →
    l.length < f → readL f s at_ acc n i = (acc ++ l, at_ + ((encL l).length : Int), 0) := by
  intro l
  induction l with
  | nil =>
    intro f A r acc at_ n i _ _ _ hn hf
    obtain ⟨f, rfl⟩ : ∃ m, f = m + 1 := ⟨f - 1, by omega⟩
    simp only [readL]
    rw [if_neg (by simp at hn; omega)]
    simp [encL]
  | cons x l ih =>
    intro f A r acc at_ n i hl hs ha hn hf
    obtain ⟨f, rfl⟩ : ∃ m, f = m + 1 := ⟨f - 1, by omega⟩
    rw [encL_cons] at hs ⊢
    have hx : I64 x := hl x (by simp)
    have e := getS_put (s := s) (A := A) (r := encL l ++ r) hx (by rw [hs]; simp) ha
    simp only [List.length_cons] at hn hf
    simp only [readL]
    rw [if_pos (by omega), e]
    simp only [if_true]
    rw [ih f (A ++ enc (zz x)) r (acc ++ [x]) _ n (i + 1) (fun y hy => hl y (by simp [hy])) (by rw [hs]; simp) (by rw [ha]; simp) (by omega) (by omega)]
    simp [Int.add_assoc]
/-- Cut off inside the list it is short. -/
theorem readL_cut (s : ByteArray) : ∀ (l : List Int) (f : Nat) (A p q : List UInt8) (acc : List Int) (at_ n i : Int), AllI l → encL l = p ++ q → q ≠ [] → bl s = A ++ p → at_ = (A.length : Int) → n = i + (l.length : Int) →
    p.length + 1 ≤ f → readL f s at_ acc n i = ([], 0, 2) := by
  intro l
  induction l with
  | nil =>
    intro f A p q acc at_ n i _ he hq
    rw [encL_nil] at he
    have := congrArg List.length he
    simp at this
    exact absurd (List.length_eq_zero_iff.1 (by omega)) hq
  | cons x l ih =>
    intro f A p q acc at_ n i hl he hq hs ha hn hf
    rw [encL_cons] at he
    have hx : I64 x := hl x (by simp)
    simp only [List.length_cons] at hn
    obtain ⟨f, rfl⟩ : ∃ m, f = m + 1 := ⟨f - 1, by omega⟩
    rcases List.append_eq_append_iff.1 he with ⟨t, h1, h2⟩ | ⟨t, h1, h2⟩
    · have e := getS_put (s := s) (A := A) (r := t) hx (by rw [hs, h1]; simp) ha
      simp only [readL]
      rw [if_pos (by omega), e]
      simp only [if_true]
      exact ih f (A ++ enc (zz x)) t q (acc ++ [x]) _ n (i + 1) (fun y hy => hl y (by simp [hy])) h2 hq (by rw [hs, h1]; simp) (by rw [ha]; simp) (by omega) (by
        have h3 := enc_pos (zz x)
        have h4 := congrArg List.length h1
        rw [List.length_append] at h4
        generalize (enc (zz x)).length = q1 at *
        omega)
    · by_cases ht : t = []
      · subst ht
        simp only [List.append_nil, List.nil_append] at h1 h2
        have e := getS_put (s := s) (A := A) (r := []) hx (by rw [hs, ← h1]; simp) ha
        simp only [readL]
        rw [if_pos (by omega), e]
        simp only [if_true]
        exact ih f (A ++ enc (zz x)) [] q (acc ++ [x]) _ n (i + 1) (fun y hy => hl y (by simp [hy])) (by simp [h2]) hq (by rw [hs, ← h1]; simp) (by rw [ha]; simp) (by omega) (by
          have h3 := enc_pos (zz x)
          rw [h1] at h3
          simp only [List.length_nil]
          omega)
      · have e := getS_cut (s := s) hx hs h1 ht ha
        simp only [readL]
        rw [if_pos (by omega), e, if_neg (by decide)]

end Go.Proofs.Yteioenlkdidpgaa.CL
