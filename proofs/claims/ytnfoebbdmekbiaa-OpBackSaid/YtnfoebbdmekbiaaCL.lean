/- What the printed functions of the package code come to, in plain words: Put, Size, Get. No conditions beyond those that each lemma states. -/
import Derived.Test.YtnfoebbdmekbiaaCx1
import Derived.Test.YtnfoebbdmekbiaaCx1
import Derived.Test.YtnfoebbdmekbiaaCM
import Derived.OpenShut
namespace Go.Proofs.Ytnfoebbdmekbiaa.CL
open Go.RowKit Go.Proofs.Ytnfoebbdmekbiaa.C Go.Proofs.Ytnfoebbdmekbiaa.CM Go.Proofs.YtnfoebbdmekbiaaW.PrintWords Go.Proofs.YtnfoebbdmekbiaaW.PrintLast Go.Proofs.YtnfoebbdmekbiaaW.PrintMore

/-! ### Strings as lists of bytes -/
abbrev bl (s : ByteArray) : List UInt8 := s.data.toList
def ofL (l : List UInt8) : ByteArray := ⟨l.toArray⟩
theorem bl_ofL (l : List UInt8) : bl (ofL l) = l := rfl
theorem ofL_bl (s : ByteArray) : ofL (bl s) = s := rfl
theorem bl_size (s : ByteArray) : s.size = (bl s).length := (Array.length_toList (xs := s.data)).symm
theorem bl_app (a b : ByteArray) : bl (a ++ b) = bl a ++ bl b := by
  show (a ++ b).data.toList = _
  rw [ByteArray.data_append, Array.toList_append]
theorem bl_extract (s : ByteArray) (a b : Nat) : bl (s.extract a b) = ((bl s).take b).drop a := by
  show (s.extract a b).data.toList = _
  rw [ByteArray.data_extract, Array.toList_extract, List.extract_eq_take_drop, List.drop_take]
theorem bl_inj {s t : ByteArray} (h : bl s = bl t) : s = t := by rw [← ofL_bl s, h, ofL_bl]
theorem toList_bl (s : ByteArray) : s.toList = bl s := ByteArray.toList_eq s
theorem bt_bl (s : ByteArray) (i : Int) : bt s i = (((bl s).getD i.toNat 0).toNat : Int) := by
  unfold bt
  split
  · rename_i h
    have h' : i.toNat < (bl s).length := by rw [← bl_size]; exact h
    simp only [List.getD_eq_getElem?_getD, List.getElem?_eq_getElem h', Option.getD_some]
    rfl
  · rename_i h
    rw [List.getD_eq_getElem?_getD, List.getElem?_eq_none (by rw [← bl_size]; omega)]
    rfl
theorem bt_at_list {s : ByteArray} {A r : List UInt8} {c : UInt8} (h : bl s = A ++ c :: r) {i : Int} (hi : i = (A.length : Int)) : bt s i = (c.toNat : Int) := by
  rw [bt_bl, h, hi]
  simp [List.getD]

/-! ### Numbers of 64 bits -/
theorem I64_of {n : Int} (h : (Lit.int .i64 n).wf = true) : I64 n := bounds_i64 h
theorem wrap_u64 (n : Int) : IntKind.u64.wrap n = n % 18446744073709551616 := by simp [IntKind.wrap, IntKind.bits, IntKind.signed]
theorem wrap64_id {n : Int} (h : I64 n) : wrap64 n = n := by unfold wrap64 I64 at *; omega
theorem bits_xor_u64 (x y : Int) : bits .xor .u64 x y = IntKind.u64.wrap (((BitVec.ofInt 64 x) ^^^ (BitVec.ofInt 64 y)).toNat : Int) := rfl
theorem bits_xor_i64 (x y : Int) : bits .xor .i64 x y = IntKind.i64.wrap (((BitVec.ofInt 64 x) ^^^ (BitVec.ofInt 64 y)).toNat : Int) := rfl
theorem ofInt_zero : BitVec.ofInt 64 0 = 0#64 := by decide
theorem ofInt_ones : BitVec.ofInt 64 18446744073709551615 = BitVec.allOnes 64 := by decide
theorem ofInt_neg1 : BitVec.ofInt 64 (-1) = BitVec.allOnes 64 := by decide
theorem bits_u64_xor0 (x : Int) (h0 : 0 ≤ x) (h1 : x < 18446744073709551616) : bits .xor .u64 x 0 = x := by
  rw [bits_xor_u64, ofInt_zero, BitVec.xor_zero, wrap_u64, BitVec.toNat_ofInt]
  omega
theorem bits_u64_xor1 (x : Int) (h0 : 0 ≤ x) (h1 : x < 18446744073709551616) : bits .xor .u64 x 18446744073709551615 = 18446744073709551615 - x := by
  rw [bits_xor_u64, ofInt_ones, BitVec.xor_allOnes, wrap_u64, BitVec.toNat_not, BitVec.toNat_ofInt]
  omega
theorem bits_i64_xor0 (x : Int) (h0 : 0 ≤ x) (h1 : x < 9223372036854775808) : bits .xor .i64 x 0 = x := by
  rw [bits_xor_i64, ofInt_zero, BitVec.xor_zero, IntKind.wrap_i64, BitVec.toNat_ofInt]
  omega
theorem bits_i64_xor1 (x : Int) (h0 : 0 ≤ x) (h1 : x < 9223372036854775808) : bits .xor .i64 x (-1) = -x - 1 := by
  rw [bits_xor_i64, ofInt_neg1, BitVec.xor_allOnes, IntKind.wrap_i64, BitVec.toNat_not, BitVec.toNat_ofInt]
  omega
theorem wraps_u64 (n : Int) (h₀ : 0 ≤ n) (h₁ : n < 2 ^ 64) : IntKind.u64.wrap n = n := by rw [wrap_u64]; omega
theorem bits_u64_and1 (x : Int) (h0 : 0 ≤ x) (h1 : x < 18446744073709551616) : bits .and .u64 x 1 = x % 2 := by
  have := bits_mask .u64 64 (by decide) wraps_u64 1 (by decide) x h0 (by omega)
  simpa using this
theorem pow7 (i : Nat) : 2 ^ (7 * i) = 128 ^ i := by rw [Nat.pow_mul]
theorem or_shl (i v c : Nat) (hi : i ≤ 9) (hv : v < 128 ^ i) (hc : c < 128) (h9 : i = 9 → c ≤ 1) :
    bits .or .u64 (v : Int) (shl .u64 (c : Int) ((i : Int) * 7)) = ((v + 128 ^ i * c : Nat) : Int) := by
  have hb : 128 ^ i * c < 18446744073709551616 := by
    by_cases h : i = 9
    · have := h9 h; subst h
      have : 128 ^ 9 * c ≤ 128 ^ 9 * 1 := Nat.mul_le_mul_left _ this
      omega
    · have a1 : 128 ^ i ≤ 128 ^ 8 := Nat.pow_le_pow_right (by decide) (by omega)
      have a2 : 128 ^ i * c ≤ 128 ^ 8 * 127 := Nat.mul_le_mul a1 (by omega)
      omega
  have hv' : v < 18446744073709551616 := by
    have a1 : 128 ^ i ≤ 128 ^ 9 := Nat.pow_le_pow_right (by decide) hi
    omega
  have e1 : shl .u64 (c : Int) ((i : Int) * 7) = ((128 ^ i * c : Nat) : Int) := by
    unfold shl
    have : min ((i : Int) * 7).toNat (IntKind.bits .u64) = 7 * i := by
      simp only [IntKind.bits]; omega
    rw [this, wrap_u64]
    have e2 : ((c : Int) * 2 ^ (7 * i)) = ((128 ^ i * c : Nat) : Int) := by
      rw [← pow7]; push_cast; rw [Int.mul_comm]
    rw [e2]
    omega
  rw [e1]
  have := (bits_nat .u64 64 (by decide) wraps_u64 v (128 ^ i * c) (by omega) (by omega)).2
  rw [this, Nat.or_comm, ← pow7, ← Nat.two_pow_add_eq_or_of_lt (by rw [pow7]; exact hv), Nat.add_comm]

/-! ### turn, back -/
theorem turn_eq {n : Int} (h : I64 n) : code_turn.f n = some (zz n : Int) := by
  unfold code_turn.f
  congr 1
  unfold I64 at h
  unfold zz
  by_cases h0 : 0 ≤ n
  · rw [if_pos h0]
    have e1 : IntKind.u64.wrap (n / 9223372036854775808) = 0 := by rw [wrap_u64]; omega
    have e2 : IntKind.u64.wrap (IntKind.u64.wrap n * 2) = 2 * n := by rw [wrap_u64, wrap_u64]; omega
    rw [e1, e2, bits_u64_xor0 _ (by omega) (by omega)]
    omega
  · rw [if_neg h0]
    have e1 : IntKind.u64.wrap (n / 9223372036854775808) = 18446744073709551615 := by rw [wrap_u64]; omega
    have e2 : IntKind.u64.wrap (IntKind.u64.wrap n * 2) = 2 * n + 18446744073709551616 := by rw [wrap_u64, wrap_u64]; omega
    rw [e1, e2, bits_u64_xor1 _ (by omega) (by omega)]
    omega
theorem back_eq {u : Nat} (h : u < 18446744073709551616) : code_back.f (u : Int) = some (unzz u) := by
  unfold code_back.f
  congr 1
  rw [bits_u64_and1 _ (by omega) (by omega)]
  unfold unzz
  have e1 : wrap64 ((u : Int) / 2) = (u : Int) / 2 := by unfold wrap64; omega
  rw [e1]
  by_cases h0 : u % 2 = 0
  · have e2 : wrap64 (-(wrap64 ((u : Int) % 2))) = 0 := by unfold wrap64; omega
    rw [if_pos h0, e2, bits_i64_xor0 _ (by omega) (by omega)]
    omega
  · have e2 : wrap64 (-(wrap64 ((u : Int) % 2))) = -1 := by unfold wrap64; omega
    rw [if_neg h0, e2, bits_i64_xor1 _ (by omega) (by omega)]
    omega

/-! ### Put, Size -/
theorem bl_strOfNums (xs : List Int) : bl (strOfNums xs) = xs.map fun n => UInt8.ofNat n.toNat := rfl
theorem put_l0 : ∀ (f u k : Nat) (xs : List Int), u < 128 ^ (f + 1) → f < k → u < 18446744073709551616 → xs.length + f < 1000 →
    code_Put.l0 k xs (u : Int) = some (ofL (bl (strOfNums xs) ++ enc u)) := by
  intro f
  induction f with
  | zero =>
    intro u k xs hu hk hb hx
    obtain ⟨k, rfl⟩ : ∃ m, k = m + 1 := ⟨k - 1, by omega⟩
    have hu' : u < 128 := by simpa using hu
    simp only [code_Put.l0]
    rw [if_neg (by omega), if_pos (by omega), enc_small hu']
    congr 1
    apply bl_inj
    rw [bl_ofL, bl_strOfNums, bl_strOfNums, List.map_append]
    simp only [List.map_cons, List.map_nil]
    rw [show ((u : Int) % 256).toNat = u by omega]
  | succ f ih =>
    intro u k xs hu hk hb hx
    obtain ⟨k, rfl⟩ : ∃ m, k = m + 1 := ⟨k - 1, by omega⟩
    simp only [code_Put.l0]
    by_cases hu' : u < 128
    · rw [if_neg (by omega), if_pos (by omega), enc_small hu']
      congr 1
      apply bl_inj
      rw [bl_ofL, bl_strOfNums, bl_strOfNums, List.map_append]
      simp only [List.map_cons, List.map_nil]
      rw [show ((u : Int) % 256).toNat = u by omega]
    · rw [if_pos (by omega), if_pos (by omega)]
      have e1 : Int.tmod (u : Int) 128 = ((u % 128 : Nat) : Int) := by rw [Int.tmod_eq_emod_of_nonneg (by omega)]; omega
      have e2 : Int.tdiv (u : Int) 128 = ((u / 128 : Nat) : Int) := by rw [Int.tdiv_eq_ediv_of_nonneg (by omega)]; omega
      have e3 : IntKind.u64.wrap (((u % 128 : Nat) : Int) + 128) % 256 = ((u % 128 + 128 : Nat) : Int) := by rw [wrap_u64]; omega
      have e4 : IntKind.u64.wrap ((u / 128 : Nat) : Int) = ((u / 128 : Nat) : Int) := by rw [wrap_u64]; omega
      rw [e1, e2, e3, e4, ih (u / 128) k _ (by rw [Nat.div_lt_iff_lt_mul (by decide)]; rw [Nat.pow_succ] at hu; exact hu) (by omega) (by omega) (by simp; omega)]
      congr 1
      apply bl_inj
      rw [bl_ofL, bl_ofL, bl_strOfNums, bl_strOfNums, List.map_append, enc_big hu']
      simp only [List.map_cons, List.map_nil, Int.toNat_natCast, List.append_assoc, List.cons_append, List.nil_append]
/-- A number's bytes. -/
def encB (n : Int) : ByteArray := ofL (enc (zz n))
theorem bl_encB (n : Int) : bl (encB n) = enc (zz n) := rfl
theorem put_eq {n : Int} (h : I64 n) {k : Nat} (hk : 10 ≤ k) : code_Put.f k n = some (encB n) := by
  unfold code_Put.f
  rw [turn_eq h]
  simp only [Option.bind_some]
  have := zz_lt h
  rw [put_l0 9 (zz n) k [] (by omega) (by omega) this (by simp)]
  rfl
theorem encB_size (n : Int) : (encB n).size = (enc (zz n)).length := by rw [bl_size]; rfl
theorem encB_le {n : Int} (h : I64 n) : (encB n).size ≤ 10 := by rw [encB_size]; exact enc_len_ten (zz_lt h)

/-! ### Get -/
def conv (at_ : Int) (r : Int × Int × Int) : Int × Int × Int := (r.1, if r.2.2 = 0 then at_ + r.2.1 else 0, r.2.2)
theorem conv_err (at_ : Int) {e : Int} (h : e ≠ 0) : conv at_ (0, 0, e) = (0, 0, e) := by simp [conv, h]
theorem get_l0 (s : ByteArray) (hs : s.size ≤ 4611686018427387904) (L : List UInt8) : ∀ (A pre : List UInt8) (k : Nat) (u : Int), bl s = A ++ pre ++ L → Hi pre → pre.length ≤ 10 →
    (pre.length ≤ 9 → u = (val pre : Int)) → 12 ≤ k + pre.length →
    code_Get.l0 k s (A.length : Int) u ((s.size : Int) - (A.length : Int)) 3 (pre.length : Int) = some (conv (A.length : Int) (getGo pre L)) := by
  induction L with
  | nil =>
    intro A pre k u hL hp hl hu hk
    obtain ⟨k, rfl⟩ : ∃ m, k = m + 1 := ⟨k - 1, by omega⟩
    have hsz : s.size = A.length + pre.length := by rw [bl_size, hL]; simp
    simp only [code_Get.l0, getGo]
    by_cases h10 : 10 ≤ pre.length
    · rw [if_neg (by omega), if_pos h10, conv_err _ (by decide)]
    · rw [if_pos (by omega), if_pos (by omega), if_neg h10, conv_err _ (by decide)]
  | cons c r ih =>
    intro A pre k u hL hp hl hu hk
    obtain ⟨k, rfl⟩ : ∃ m, k = m + 1 := ⟨k - 1, by omega⟩
    have hsz : s.size = A.length + pre.length + (r.length + 1) := by rw [bl_size, hL]; simp; omega
    have hbt : bt s ((A.length : Int) + (pre.length : Int)) = (c.toNat : Int) := bt_at_list (A := A ++ pre) (r := r) (by rw [hL]) (by simp)
    have hc256 : c.toNat < 256 := c.toNat_lt
    simp only [code_Get.l0, getGo]
    by_cases h10 : 10 ≤ pre.length
    · rw [if_neg (by omega), if_pos h10, conv_err _ (by decide)]
    · have hp9 : pre.length ≤ 9 := Nat.le_of_lt_succ (Nat.lt_of_not_le h10)
      have hu' := hu hp9
      clear hu
      rw [if_pos (by omega), if_neg (by omega), if_neg h10]
      rw [show wrap64 ((A.length : Int) + (pre.length : Int)) = (A.length : Int) + (pre.length : Int) from by unfold wrap64; omega]
      rw [show wrap64 ((pre.length : Int) * 7) = (pre.length : Int) * 7 from by unfold wrap64; omega]
      rw [show wrap64 ((pre.length : Int) + 1) = ((pre ++ [c]).length : Int) from by unfold wrap64; simp; omega]
      rw [show wrap64 ((A.length : Int) + (pre.length : Int) + 1) = (A.length : Int) + ((pre.length + 1 : Nat) : Int) from by unfold wrap64; omega]
      rw [hbt, if_pos (by omega), if_pos (by omega), if_pos (by omega)]
      rw [show IntKind.u64.wrap (Int.tmod (c.toNat : Int) 128) = ((c.toNat % 128 : Nat) : Int) from by rw [Int.tmod_eq_emod_of_nonneg (by omega), wrap_u64]; omega]
      by_cases hc : 128 ≤ c.toNat
      · rw [if_pos (by omega), if_pos hc]
        exact ih A (pre ++ [c]) k _ (by rw [hL]; simp) (Hi_snoc hp hc) (by simp; omega) (fun h9 => by
          simp at h9
          rw [hu', or_shl _ _ _ (by omega) (val_lt pre) (by omega) (by omega), val_append]
          simp [val]) (by simp; omega)
      · rw [if_neg (by omega), if_neg hc]
        have hcm : c.toNat % 128 = c.toNat := by omega
        have fin : ¬ (pre.length = 9 ∧ 1 < c.toNat) → (code_back.f (bits .or .u64 u (shl .u64 ((c.toNat % 128 : Nat) : Int) ((pre.length : Int) * 7)))) = some (unzz (val (pre ++ [c]))) := by
          intro h9
          rw [hu', or_shl _ _ _ (by omega) (val_lt pre) (by omega) (by omega), hcm]
          have hv : val (pre ++ [c]) = val pre + 128 ^ pre.length * c.toNat := by rw [val_append]; simp only [val, Nat.mul_zero, Nat.add_zero, hcm]
          rw [← hv, back_eq]
          rw [hv]
          have hvl := val_lt pre
          by_cases h : pre.length = 9
          · have : c.toNat ≤ 1 := by omega
            rw [h] at hvl ⊢
            have : 128 ^ 9 * c.toNat ≤ 128 ^ 9 * 1 := Nat.mul_le_mul_left _ this
            omega
          · have a1 : 128 ^ pre.length ≤ 128 ^ 8 := Nat.pow_le_pow_right (by decide) (by omega)
            have a2 : 128 ^ pre.length * c.toNat ≤ 128 ^ 8 * 127 := Nat.mul_le_mul a1 (by omega)
            omega
        have hne : pre ≠ [] ↔ 0 < pre.length := by rw [List.length_pos_iff]
        by_cases g1 : (pre.length : Int) > 0
        · rw [if_pos g1]
          by_cases g2 : (c.toNat : Int) = 0
          · rw [if_pos g2, if_pos (.inl ⟨hne.2 (by omega), by omega⟩), conv_err _ (by decide)]
          · rw [if_neg g2]
            by_cases g3 : (pre.length : Int) = 9
            · rw [if_pos g3]
              by_cases g4 : (c.toNat : Int) > 1
              · rw [if_pos g4, if_pos (.inr ⟨by omega, by omega⟩), conv_err _ (by decide)]
              · rw [if_neg g4, if_neg (by omega), fin (by omega)]
                simp [conv]
            · rw [if_neg g3, if_neg (by omega), fin (by omega)]
              simp [conv]
        · rw [if_neg g1]
          have hn0 : pre = [] := by
            have : pre.length = 0 := by omega
            exact List.length_eq_zero_iff.1 this
          rw [if_neg (by omega), if_neg (by rw [hn0]; simp), fin (by omega)]
          simp [conv]

/-- The number that stands at a place. -/
def getS (s : ByteArray) (at_ : Int) : Int × Int × Int :=
  if at_ < 0 ∨ (s.size : Int) < at_ then (0, 0, 1) else conv at_ (getGo [] ((bl s).drop at_.toNat))
theorem get_eq (s : ByteArray) (hs : s.size ≤ 4611686018427387904) (at_ : Int) {k : Nat} (hk : 13 ≤ k) : code_Get.f k s at_ = some (getS s at_) := by
  unfold code_Get.f getS
  obtain ⟨k, rfl⟩ : ∃ m, k = m + 1 := ⟨k - 1, by omega⟩
  by_cases h0 : at_ < 0
  · rw [if_pos h0, if_pos (.inl h0)]
    simp only [code_Get.j0, if_true]
  · rw [if_neg h0]
    simp only [code_Get.j0]
    by_cases h1 : (s.size : Int) < at_
    · rw [if_pos (show at_ < 0 ∨ (s.size : Int) < at_ from .inr h1), if_pos (show decide (at_ > (s.size : Int)) = true from decide_eq_true h1)]
    · rw [if_neg (show ¬ (at_ < 0 ∨ (s.size : Int) < at_) by omega), if_neg (show ¬ decide (at_ > (s.size : Int)) = true by simpa using h1)]
      have e : wrap64 ((s.size : Int) - at_) = (s.size : Int) - at_ := by unfold wrap64; omega
      rw [e]
      have hlen : ((bl s).take at_.toNat).length = at_.toNat := by rw [List.length_take, ← bl_size]; omega
      have := get_l0 s hs ((bl s).drop at_.toNat) ((bl s).take at_.toNat) [] k 0 (by simp) Hi_nil (by simp) (fun _ => rfl) (by simp; omega)
      rw [hlen] at this
      have e2 : ((at_.toNat : Nat) : Int) = at_ := by omega
      rw [e2] at this
      exact this

/-- What is put is got, wherever it stands, and whatever stands behind it. -/
theorem getS_put {s : ByteArray} {A r : List UInt8} {n : Int} (hn : I64 n) (h : bl s = A ++ enc (zz n) ++ r) {at_ : Int} (ha : at_ = (A.length : Int)) :
    getS s at_ = (n, at_ + ((enc (zz n)).length : Int), 0) := by
  unfold getS
  rw [if_neg (by rw [bl_size, h, ha]; simp; omega)]
  have : (bl s).drop at_.toNat = enc (zz n) ++ r := by rw [h, ha]; simp
  rw [this, getGo_enc (zz_lt hn)]
  simp [conv, unzz_zz]
theorem getS_cut {s : ByteArray} {A p q : List UInt8} {n : Int} (hn : I64 n) (h : bl s = A ++ p) (he : enc (zz n) = p ++ q) (hq : q ≠ []) {at_ : Int} (ha : at_ = (A.length : Int)) :
    getS s at_ = (0, 0, 2) := by
  unfold getS
  rw [if_neg (by rw [bl_size, h, ha]; simp; omega)]
  have : (bl s).drop at_.toNat = p := by rw [h, ha]; simp
  rw [this, getGo_cut (zz_lt hn) he hq, conv_err _ (by decide)]
theorem getS_ok {s : ByteArray} {at_ n nx : Int} (h : getS s at_ = (n, nx, 0)) :
    0 ≤ at_ ∧ I64 n ∧ nx = at_ + ((enc (zz n)).length : Int) ∧ nx ≤ (s.size : Int) ∧ ∃ r, bl s = (bl s).take at_.toNat ++ enc (zz n) ++ r := by
  unfold getS at h
  split at h
  · simp at h
  · rename_i hr
    cases hg : getGo [] ((bl s).drop at_.toNat) with
    | mk a b => cases b with
      | mk b c =>
        rw [hg] at h
        simp only [conv, Prod.mk.injEq] at h
        obtain ⟨h1, h2, h3⟩ := h
        subst h3
        simp only [if_true] at h2
        subst h1
        obtain ⟨r, e1, e2, e3⟩ := getGo_ok hg
        have e4 : bl s = (bl s).take at_.toNat ++ enc (zz a) ++ r := by rw [List.append_assoc, ← e1, List.take_append_drop]
        refine ⟨by omega, e3, by omega, ?_, r, e4⟩
        have e5 := congrArg List.length e1
        rw [List.length_drop, List.length_append, ← bl_size] at e5
        omega
theorem getS_err {s : ByteArray} {at_ n nx e : Int} (h : getS s at_ = (n, nx, e)) (he : e ≠ 0) : n = 0 ∧ nx = 0 ∧ (e = 1 ∨ e = 2 ∨ e = 3) := by
  unfold getS at h
  split at h
  · simp only [Prod.mk.injEq] at h; exact ⟨h.1.symm, h.2.1.symm, .inl h.2.2.symm⟩
  · cases hg : getGo [] ((bl s).drop at_.toNat) with
    | mk a b => cases b with
      | mk b c =>
        rw [hg] at h
        simp only [conv, Prod.mk.injEq] at h
        obtain ⟨h1, h2, h3⟩ := h
        subst h3
        obtain ⟨e1, e2, e3⟩ := getGo_err hg he
        rw [if_neg he] at h2
        exact ⟨by rw [← h1, e1], h2.symm, .inr e3⟩

end Go.Proofs.Ytnfoebbdmekbiaa.CL
