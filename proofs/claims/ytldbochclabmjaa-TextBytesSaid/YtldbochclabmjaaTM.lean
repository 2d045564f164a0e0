/- Numbers as text, in plain words: the digits of a number; the program's and the document's; what is read of them is the number. For every number of 64 bits. -/
import Derived.Test.YtldbochclabmjaaG9
import Derived.OpenShut
namespace Go.Proofs.Ytldbochclabmjaa.P
open Go.RowKit Go.Proofs.Ytldbochclabmjaa.C Go.Proofs.YtldbochclabmjaaW.PrintWords Go.Proofs.YtldbochclabmjaaW.PrintLast Go.Proofs.YtldbochclabmjaaW.PrintMore
set_option linter.unusedVariables false
set_option linter.unusedSimpArgs false

abbrev bl (s : ByteArray) : List UInt8 := s.data.toList
def ofL (l : List UInt8) : ByteArray := ⟨l.toArray⟩
theorem bl_ofL (l : List UInt8) : bl (ofL l) = l := rfl
theorem ofL_bl (s : ByteArray) : ofL (bl s) = s := rfl
theorem bl_size (s : ByteArray) : s.size = (bl s).length := (Array.length_toList (xs := s.data)).symm
theorem bl_app (a b : ByteArray) : bl (a ++ b) = bl a ++ bl b := by
  show (a ++ b).data.toList = _
  rw [ByteArray.data_append, Array.toList_append]
theorem bl_extract (s : ByteArray) (a b : Nat) : bl (s.extract a b) = ((bl s).take b).drop a := by
  show (s.extract a b).data.toList = _
  rw [ByteArray.data_extract, Array.toList_extract, List.extract_eq_take_drop, List.drop_take]
theorem bl_inj {s t : ByteArray} (h : bl s = bl t) : s = t := by rw [← ofL_bl s, h, ofL_bl]
theorem toList_bl (s : ByteArray) : s.toList = bl s := ByteArray.toList_eq s
/-- What an int holds. -/
def I64 (n : Int) : Prop := -9223372036854775808 ≤ n ∧ n ≤ 9223372036854775807
theorem wrap64_id {n : Int} (h : I64 n) : wrap64 n = n := by unfold wrap64 I64 at *; omega
theorem wrap64_I64 (n : Int) : I64 (wrap64 n) := by unfold wrap64 I64; omega

/-- The digits of a whole number (of f places at most), the highest first. -/
def dg : Nat → Nat → List UInt8
  | 0, _ => []
  | f + 1, m => if m < 10 then [UInt8.ofNat (48 + m)] else dg f (m / 10) ++ [UInt8.ofNat (48 + m % 10)]
/-- A number's text. -/
def digL (n : Int) : List UInt8 := if n < 0 then 45 :: dg 20 n.natAbs else dg 20 n.natAbs
def digS (n : Int) : ByteArray := ofL (digL n)
theorem dg_small {f m : Nat} (h : m < 10) : dg (f + 1) m = [UInt8.ofNat (48 + m)] := by rw [dg, if_pos h]
theorem dg_big {f m : Nat} (h : ¬ m < 10) : dg (f + 1) m = dg f (m / 10) ++ [UInt8.ofNat (48 + m % 10)] := by rw [dg, if_neg h]
theorem dg_more : ∀ (f m : Nat), m < 10 ^ (f + 1) → dg (f + 2) m = dg (f + 1) m
  | 0, m, h => by rw [dg_small (by simpa using h), dg_small (by simpa using h)]
  | f + 1, m, h => by
    by_cases hm : m < 10
    · rw [dg_small hm, dg_small hm]
    · rw [dg_big hm, dg_big (f := f + 1) hm, dg_more f (m / 10) (by rw [Nat.div_lt_iff_lt_mul (by decide)]; rw [Nat.pow_succ] at h; exact h)]
theorem dg_le : ∀ (f g m : Nat), m < 10 ^ (f + 1) → dg (f + 1 + g) m = dg (f + 1) m
  | _, 0, _, _ => rfl
  | f, g + 1, m, h => by
    rw [show f + 1 + (g + 1) = (f + g) + 2 by omega, dg_more (f + g) m (Nat.lt_of_lt_of_le h (Nat.pow_le_pow_right (by decide) (by omega))), show f + g + 1 = f + 1 + g by omega, dg_le f g m h]
theorem dg_len : ∀ (f m : Nat), (dg f m).length ≤ f
  | 0, _ => Nat.le_refl _
  | f + 1, m => by
    by_cases hm : m < 10
    · rw [dg_small hm]; simp
    · rw [dg_big hm]; have := dg_len f (m / 10); simp; omega
theorem dg_ne (f m : Nat) : dg (f + 1) m ≠ [] := by
  by_cases hm : m < 10
  · rw [dg_small hm]; simp
  · rw [dg_big hm]; simp
theorem digL_len (n : Int) : (digL n).length ≤ 21 := by
  have := dg_len 20 n.natAbs
  unfold digL
  split
  · simp; omega
  · omega
/-- The last digit, as both reckon it. -/
theorem last_digit (n : Int) (h : I64 n) : (wrap64 (48 + (mx (Int.tmod n 10) (wrap64 (-(Int.tmod n 10)))))) % 256 = ((48 + n.natAbs % 10 : Nat) : Int) := by
  have h1 : Int.tmod n 10 = (if n < 0 then -((n.natAbs % 10 : Nat) : Int) else ((n.natAbs % 10 : Nat) : Int)) := by
    split
    · rw [show n = -((n.natAbs : Nat) : Int) by omega, Int.neg_tmod, Int.ofNat_tmod]
      simp
    · rw [show n = ((n.natAbs : Nat) : Int) by omega, Int.ofNat_tmod]
      simp
  rw [h1]
  clear h1
  have hd : n.natAbs % 10 < 10 := Nat.mod_lt _ (by decide)
  generalize n.natAbs % 10 = d at hd ⊢
  clear h
  split
  · have e : wrap64 (-(-(d : Int))) = (d : Int) := by unfold wrap64; omega
    rw [e]
    have e2 : mx (-(d : Int)) (d : Int) = (d : Int) := by unfold mx; split <;> omega
    rw [e2]
    have e3 : wrap64 (48 + (d : Int)) = 48 + (d : Int) := by unfold wrap64; omega
    rw [e3]; omega
  · have e : wrap64 (-(d : Int)) = -(d : Int) := by unfold wrap64; omega
    rw [e]
    have e2 : mx (d : Int) (-(d : Int)) = (d : Int) := by unfold mx; split <;> omega
    rw [e2]
    have e3 : wrap64 (48 + (d : Int)) = 48 + (d : Int) := by unfold wrap64; omega
    rw [e3]; omega
theorem tdiv_abs (n : Int) (h : I64 n) : (wrap64 (Int.tdiv n 10)).natAbs = n.natAbs / 10 ∧ I64 (wrap64 (Int.tdiv n 10)) ∧ (wrap64 (Int.tdiv n 10) < 0 → n < 0) := by
  have h1 : Int.tdiv n 10 = (if n < 0 then -((n.natAbs / 10 : Nat) : Int) else ((n.natAbs / 10 : Nat) : Int)) := by
    split
    · rw [show n = -((n.natAbs : Nat) : Int) by omega, Int.neg_tdiv, Int.ofNat_tdiv]
      simp
    · rw [show n = ((n.natAbs : Nat) : Int) by omega, Int.ofNat_tdiv]
      simp
  have hb : n.natAbs ≤ 9223372036854775808 := by unfold I64 at h; omega
  have hw : wrap64 (Int.tdiv n 10) = Int.tdiv n 10 := wrap64_id (by rw [h1]; unfold I64; split <;> omega)
  refine ⟨by rw [hw, h1]; split <;> omega, wrap64_I64 _, ?_⟩
  rw [hw, h1]
  split
  · exact fun _ => by assumption
  · intro h; omega
theorem strOf_app (xs ys : List Int) : bl (strOfNums (xs ++ ys)) = bl (strOfNums xs) ++ bl (strOfNums ys) := by
  show (strOfNums (xs ++ ys)).data.toList = (strOfNums xs).data.toList ++ (strOfNums ys).data.toList
  rw [strOfNums_data, strOfNums_data, strOfNums_data, List.map_append]
theorem strOf_one (x : Nat) : bl (strOfNums [(x : Int)]) = [UInt8.ofNat x] := rfl
/-- What stands behind the digits that are there. -/
theorem digits_end (k : Nat) (n : Int) (b : List Int) (hb : b ≠ []) (hl : b.length ≤ 100) : text_digits.l0 (k + 1) n b 0 = some (ofL ((if n < 0 then [45] else []) ++ bl (strOfNums b))) := by
  rw [text_digits.l0, if_pos rfl, if_neg (show ¬ ((b.length : Int) = 0) from fun h => hb (List.length_eq_zero_iff.1 (by omega)))]
  by_cases hn : n < 0
  · rw [if_pos hn, if_pos hn, if_pos (show 1 + (strOfNums b).size ≤ 9223372036854775807 by rw [strOfNums_size]; omega)]
    refine congrArg some (bl_inj ?_)
    rw [bl_app, bl_ofL]
  · rw [if_neg hn, if_neg hn]
    exact congrArg some (bl_inj (by rw [bl_ofL]; rfl))
theorem digits_go : ∀ (f k : Nat) (n m : Int) (b : List Int), I64 m → m.natAbs < 10 ^ f → m ≠ 0 → b.length + f ≤ 100 → text_digits.l0 (k + f + 1) n b m = some (ofL ((if n < 0 then [45] else []) ++ (dg f m.natAbs ++ bl (strOfNums b))))
  | 0, _, _, m, _, _, h, h0, _ => by simp at h; exact absurd h h0
  | f + 1, k, n, m, b, hm, h, h0, hl => by
    obtain ⟨t1, t2, _⟩ := tdiv_abs m hm
    have hlast := last_digit m hm
    rw [show k + (f + 1) + 1 = (k + f + 1) + 1 by omega, text_digits.l0, if_neg h0, Option.bind_some, if_pos (show [(wrap64 (48 + (mx (Int.tmod m 10) (wrap64 (-(Int.tmod m 10)))))) % 256].length + b.length < 140737488355328 by simp; omega), hlast]
    by_cases hs : m.natAbs < 10
    · have hz : wrap64 (Int.tdiv m 10) = 0 := by
        have : (wrap64 (Int.tdiv m 10)).natAbs = 0 := by rw [t1]; omega
        omega
      rw [hz, show k + f + 1 = (k + f) + 1 from rfl, digits_end _ _ _ (by simp) (by simp; omega), dg_small hs, strOf_app, strOf_one, Nat.mod_eq_of_lt hs]
    · have hz : wrap64 (Int.tdiv m 10) ≠ 0 := by
        intro e
        have : (wrap64 (Int.tdiv m 10)).natAbs = 0 := by rw [e]; rfl
        omega
      rw [digits_go f k n _ _ t2 (by rw [t1, Nat.div_lt_iff_lt_mul (by decide)]; rw [Nat.pow_succ] at h; exact h) hz (by simp; omega), t1, dg_big hs, strOf_app, strOf_one, List.append_assoc]
theorem digits_eq (n : Int) (h : I64 n) (k : Nat) : text_digits.f (k + 21) n = some (digS n) := by
  have hb : n.natAbs < 10 ^ 20 := by unfold I64 at h; omega
  unfold text_digits.f
  by_cases h0 : n = 0
  · subst h0
    rw [show k + 21 = (k + 19) + 1 + 1 from rfl, text_digits.l0, if_pos rfl, if_pos (by simp), Option.bind_some, if_pos (by simp), last_digit 0 (by unfold I64; omega)]
    rw [show (wrap64 (Int.tdiv 0 10)) = 0 by simp [wrap64], show k + 19 + 1 = (k + 19) + 1 from rfl, digits_end _ _ _ (by simp) (by simp)]
    rfl
  · rw [show k + 21 = k + 20 + 1 from rfl, digits_go 20 k n n [] h hb h0 (by simp)]
    refine congrArg some ?_
    unfold digS digL
    congr 1
    split
    · simp [strOfNums]
    · simp [strOfNums]

/-! ### The document's -/
theorem rdigit (n : Int) (k : Nat) : camshaftref05_Digits.f (k + 1) n = camshaftref05_Digits.j0 k n ((n.natAbs % 10 : Nat) : Int) := by
  rw [camshaftref05_Digits.f]
  have h1 : Int.tmod n 10 = (if n < 0 then -((n.natAbs % 10 : Nat) : Int) else ((n.natAbs % 10 : Nat) : Int)) := by
    split
    · rw [show n = -((n.natAbs : Nat) : Int) by omega, Int.neg_tmod, Int.ofNat_tmod]
      simp
    · rw [show n = ((n.natAbs : Nat) : Int) by omega, Int.ofNat_tmod]
      simp
  rw [h1]
  have hd : n.natAbs % 10 < 10 := Nat.mod_lt _ (by decide)
  generalize n.natAbs % 10 = d at hd ⊢
  by_cases hn : n < 0
  · rw [if_pos hn]
    by_cases hz : d = 0
    · subst hz; rfl
    · rw [if_pos (by omega)]
      congr 1
      unfold wrap64; omega
  · rw [if_neg hn, if_neg (by omega)]
theorem rdigits_go : ∀ (f k : Nat) (n : Int), I64 n → n.natAbs < 10 ^ (f + 1) → f ≤ 50 → camshaftref05_Digits.f (k + 2 * f + 2) n = some (ofL ((if n < 0 then [45] else []) ++ dg (f + 1) n.natAbs))
  | f, k, n, h, hb, hf => by
    obtain ⟨t1, t2, t3⟩ := tdiv_abs n h
    have hd : n.natAbs % 10 < 10 := Nat.mod_lt _ (by decide)
    have e : (wrap64 (48 + ((n.natAbs % 10 : Nat) : Int))) % 256 = ((48 + n.natAbs % 10 : Nat) : Int) := by
      generalize n.natAbs % 10 = d at hd ⊢
      clear t1 t2 t3 h hb
      unfold wrap64; omega
    rw [show k + 2 * f + 2 = (k + 2 * f + 1) + 1 from rfl, rdigit n, show k + 2 * f + 1 = (k + 2 * f) + 1 from rfl, camshaftref05_Digits.j0, Option.bind_some, e]
    by_cases hs : n.natAbs < 10
    · have hz : wrap64 (Int.tdiv n 10) = 0 := by
        have : (wrap64 (Int.tdiv n 10)).natAbs = 0 := by rw [t1]; omega
        omega
      rw [if_pos hz, dg_small hs, Nat.mod_eq_of_lt hs]
      by_cases hn : n < 0
      · rw [if_pos hn, if_pos hn, if_pos (by rw [strOfNums_size]; simp)]
        exact congrArg some (bl_inj (by rw [bl_app, strOf_one]; rfl))
      · rw [if_neg hn, if_neg hn]
        exact congrArg some (bl_inj (by rw [strOf_one]; rfl))
    · have hz : ¬ wrap64 (Int.tdiv n 10) = 0 := by
        intro e
        have : (wrap64 (Int.tdiv n 10)).natAbs = 0 := by rw [e]; rfl
        omega
      cases f with
      | zero => simp at hb; omega
      | succ f =>
        rw [if_neg hz, show k + 2 * (f + 1) = k + 2 * f + 2 by omega, rdigits_go f k _ t2 (by rw [t1, Nat.div_lt_iff_lt_mul (by decide)]; rw [Nat.pow_succ] at hb; exact hb) (by omega), Option.bind_some, t1]
        have hlen : (ofL ((if wrap64 (Int.tdiv n 10) < 0 then [45] else []) ++ dg (f + 1) (n.natAbs / 10))).size ≤ 100 := by
          have := dg_len (f + 1) (n.natAbs / 10)
          rw [bl_size, bl_ofL]
          split
          · simp; omega
          · simp; omega
        rw [if_pos (by rw [strOfNums_size]; simp; omega), dg_big hs]
        refine congrArg some (bl_inj ?_)
        rw [bl_app, strOf_one, bl_ofL, bl_ofL, List.append_assoc]
        congr 1
        have : (wrap64 (Int.tdiv n 10) < 0) ↔ n < 0 := ⟨t3, fun hn => by
          have hq : (wrap64 (Int.tdiv n 10)).natAbs = n.natAbs / 10 := t1
          have hw : wrap64 (Int.tdiv n 10) = Int.tdiv n 10 := by
            have h5 : Int.tdiv n 10 = -((n.natAbs / 10 : Nat) : Int) := by
              rw [show n = -((n.natAbs : Nat) : Int) by omega, Int.neg_tdiv, Int.ofNat_tdiv]
              simp
            refine wrap64_id ?_
            rw [h5]; unfold I64 at *; omega
          have h5 : Int.tdiv n 10 = -((n.natAbs / 10 : Nat) : Int) := by
            rw [show n = -((n.natAbs : Nat) : Int) by omega, Int.neg_tdiv, Int.ofNat_tdiv]
            simp
          rw [hw, h5]; omega⟩
        simp only [this]
theorem rdigits_eq (n : Int) (h : I64 n) (k : Nat) : camshaftref05_Digits.f (k + 40) n = some (digS n) := by
  have hb : n.natAbs < 10 ^ (19 + 1) := by unfold I64 at h; omega
  rw [show k + 40 = k + 2 * 19 + 2 from rfl, rdigits_go 19 k n h hb (by omega)]
  refine congrArg some ?_
  unfold digS digL
  congr 1
  split <;> rfl

/-! ### Read back -/
theorem numAcc_snoc : ∀ (l : List UInt8) (n : Int) (c : UInt8), numAcc n (l ++ [c]) = (numAcc n l).bind fun m => if 48 ≤ (c.toNat : Int) ∧ (c.toNat : Int) ≤ 57 then some (wrap64 (wrap64 (10 * m) - ((c.toNat : Int) - 48))) else none
  | [], _, _ => rfl
  | d :: l, n, c => by
    simp only [List.cons_append, numAcc]
    by_cases h : 48 ≤ (d.toNat : Int) ∧ (d.toNat : Int) ≤ 57
    · rw [if_pos h, if_pos h, numAcc_snoc l]
    · rw [if_neg h, if_neg h]; rfl
theorem toNat_dig {d : Nat} (h : d < 10) : (UInt8.ofNat (48 + d)).toNat = 48 + d := by
  rw [UInt8.toNat_ofNat']; omega
theorem numAcc_dg : ∀ (f m : Nat), m < 10 ^ (f + 1) → m ≤ 9223372036854775808 → numAcc 0 (dg (f + 1) m) = some (-(m : Int))
  | f, m, hb, hm => by
    by_cases hs : m < 10
    · rw [dg_small hs]
      simp only [numAcc, toNat_dig hs]
      rw [if_pos (by omega)]
      refine congrArg some ?_
      unfold wrap64; omega
    · cases f with
      | zero => simp at hb; omega
      | succ f =>
        have hd : m % 10 < 10 := Nat.mod_lt _ (by decide)
        rw [dg_big hs, numAcc_snoc, numAcc_dg f (m / 10) (by rw [Nat.div_lt_iff_lt_mul (by decide)]; rw [Nat.pow_succ] at hb; exact hb) (by omega), Option.bind_some, toNat_dig hd, if_pos (by omega)]
        refine congrArg some ?_
        rw [show wrap64 (10 * -((m / 10 : Nat) : Int)) = -(10 * ((m / 10 : Nat) : Int)) from by unfold wrap64; omega, show -(10 * ((m / 10 : Nat) : Int)) - (((48 + m % 10 : Nat) : Int) - 48) = -(m : Int) by omega]
        unfold wrap64; omega
theorem dg_head : ∀ (f m : Nat), ∃ d r, d < 10 ∧ dg (f + 1) m = UInt8.ofNat (48 + d) :: r
  | f, m => by
    by_cases hs : m < 10
    · exact ⟨m, [], hs, dg_small hs⟩
    · cases f with
      | zero => exact ⟨m % 10, [], Nat.mod_lt _ (by decide), by rw [dg_big hs]; rfl⟩
      | succ f =>
        obtain ⟨d, r, hd, e⟩ := dg_head f (m / 10)
        exact ⟨d, r ++ [UInt8.ofNat (48 + m % 10)], hd, by rw [dg_big hs, e]; rfl⟩
theorem ofNat_ne45 {d : Nat} (h : d < 10) : UInt8.ofNat (48 + d) ≠ 45 := by
  intro e
  have := congrArg UInt8.toNat e
  rw [toNat_dig h] at this
  simp at this
  omega
/-- A text's number, if it is one's. -/
def numVal (l : List UInt8) : Option Int := if l.head? = some 45 then numAcc 0 l.tail else (numAcc 0 l).map fun n => wrap64 (-n)
def numberL (l : List UInt8) : Int × Int :=
  match numVal l with
  | none => (0, 3)
  | some n => if digL n = l then (n, 0) else (0, 3)
def numberS (s : ByteArray) : Int × Int := numberL (bl s)
theorem numAcc_I64 : ∀ (l : List UInt8) (n m : Int), I64 n → numAcc n l = some m → I64 m
  | [], n, m, hn, h => by cases h; exact hn
  | c :: l, n, m, _, h => by
    simp only [numAcc] at h
    split at h
    · exact numAcc_I64 l _ m (wrap64_I64 _) h
    · cases h
theorem numVal_I64 {l : List UInt8} {n : Int} (h : numVal l = some n) : I64 n := by
  unfold numVal at h
  split at h
  · exact numAcc_I64 _ 0 n (by unfold I64; omega) h
  · obtain ⟨m, _, e⟩ := Option.map_eq_some_iff.1 h
    rw [← e]; exact wrap64_I64 _
theorem numVal_dig {n : Int} (h : I64 n) : numVal (digL n) = some n := by
  have hb : n.natAbs < 10 ^ (19 + 1) := by unfold I64 at h; omega
  have hm : n.natAbs ≤ 9223372036854775808 := by unfold I64 at h; omega
  have hr := numAcc_dg 19 n.natAbs hb hm
  unfold numVal digL
  by_cases hn : n < 0
  · rw [if_pos hn, if_pos (by rfl), List.tail_cons, hr]
    exact congrArg some (by omega)
  · rw [if_neg hn]
    obtain ⟨d, r, hd, e⟩ := dg_head 19 n.natAbs
    rw [if_neg (by rw [show dg 20 n.natAbs = dg (19 + 1) n.natAbs from rfl, e]; simpa using ofNat_ne45 hd), hr]
    refine congrArg some ?_
    show wrap64 (-(-(n.natAbs : Int))) = n
    rw [show -(-(n.natAbs : Int)) = n by omega]
    exact wrap64_id h
theorem numberL_dig {n : Int} (h : I64 n) : numberL (digL n) = (n, 0) := by
  unfold numberL
  rw [numVal_dig h]
  exact if_pos rfl
theorem numberL_cases (l : List UInt8) : (∃ n, I64 n ∧ l = digL n ∧ numberL l = (n, 0)) ∨ ((∀ n, I64 n → l ≠ digL n) ∧ numberL l = (0, 3)) := by
  by_cases h : ∃ n, I64 n ∧ l = digL n
  · obtain ⟨n, hn, e⟩ := h
    exact .inl ⟨n, hn, e, by rw [e]; exact numberL_dig hn⟩
  · refine .inr ⟨fun n hn e => h ⟨n, hn, e⟩, ?_⟩
    unfold numberL
    cases hv : numVal l with
    | none => rfl
    | some n => exact if_neg (fun e => h ⟨n, numVal_I64 hv, e.symm⟩)
theorem digL_inj {n m : Int} (hn : I64 n) (hm : I64 m) (h : digL n = digL m) : n = m := by
  have a := numberL_dig hn
  rw [h, numberL_dig hm] at a
  exact (Prod.mk.inj a).1.symm
theorem number_eq (s : ByteArray) (h : s.size ≤ 9223372036854775807) (k : Nat) : numK.f (k + 21) s = some (numberS s) := by
  unfold numK.f
  rw [if_pos h]
  have key : ∀ (b : Bool) (l : List UInt8) (n : Int), numAcc 0 l = some n → I64 (if b = true then n else wrap64 (-n)) := by
    intro b l n hn
    cases b
    · exact wrap64_I64 _
    · exact numAcc_I64 l 0 n (by unfold I64; omega) hn
  unfold numberS numberL numVal
  have fin : ∀ n, I64 n → numEnd (k + 21) s n = some (if digL n = bl s then (n, 0) else (0, 3)) := by
    intro n hn
    unfold numEnd
    rw [digits_eq n hn k, Option.bind_some, toList_bl, toList_bl]
    rfl
  by_cases h45 : s.data.toList.head? = some 45
  · rw [if_pos h45, if_pos h45]
    unfold numOf
    cases hv : numAcc 0 s.data.toList.tail with
    | none => rfl
    | some n => exact fin n (key true _ n hv)
  · rw [if_neg h45, if_neg h45]
    unfold numOf
    cases hv : numAcc 0 s.data.toList with
    | none => rfl
    | some n => exact fin _ (key false _ n hv)
theorem number_calls (s : ByteArray) (h : s.size ≤ 9223372036854775807) (w : World) :
    Calls Try.prog 17 #[.string s] w fun e w' => e = .returned (.tuple #[.int .i64 (numberS s).1, .int .i64 (numberS s).2]) ∧ Below w.heap.size w w' :=
  numK.calls 21 s _ _ w (number_eq s h 0)

end Go.Proofs.Ytldbochclabmjaa.P
