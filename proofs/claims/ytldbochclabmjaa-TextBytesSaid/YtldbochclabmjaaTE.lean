/- Instructions' bytes (op.Encode, op.Code) in plain words; no two rows have the same ones. For all rows. -/
import Derived.Test.YtldbochclabmjaaTS
import Derived.Test.YtldbochclabmjaaCM
import Derived.Test.YtldbochclabmjaaG4
import Derived.Test.YtldbochclabmjaaCx1
import Derived.Test.YtldbochclabmjaaPx14
namespace Go.Proofs.Ytldbochclabmjaa.TL
open Go.RowKit Go.Proofs.Ytldbochclabmjaa.C Go.Proofs.Ytldbochclabmjaa.P Go.Proofs.YtldbochclabmjaaW.PrintWords Go.Proofs.YtldbochclabmjaaW.PrintLast Go.Proofs.YtldbochclabmjaaW.PrintMore
open Go.Proofs.Ytldbochclabmjaa.CM hiding I64
set_option linter.unusedVariables false
set_option linter.unusedSimpArgs false

theorem wrap_u64 (n : Int) : IntKind.u64.wrap n = n % 18446744073709551616 := by simp [IntKind.wrap, IntKind.bits, IntKind.signed]
theorem bits_xor_u64 (x y : Int) : bits .xor .u64 x y = IntKind.u64.wrap (((BitVec.ofInt 64 x) ^^^ (BitVec.ofInt 64 y)).toNat : Int) := rfl
theorem ofInt_zero : BitVec.ofInt 64 0 = 0#64 := by decide
theorem ofInt_ones : BitVec.ofInt 64 18446744073709551615 = BitVec.allOnes 64 := by decide
theorem bits_u64_xor0 (x : Int) (h0 : 0 ≤ x) (h1 : x < 18446744073709551616) : bits .xor .u64 x 0 = x := by
  rw [bits_xor_u64, ofInt_zero, BitVec.xor_zero, wrap_u64, BitVec.toNat_ofInt]
  omega
theorem bits_u64_xor1 (x : Int) (h0 : 0 ≤ x) (h1 : x < 18446744073709551616) : bits .xor .u64 x 18446744073709551615 = 18446744073709551615 - x := by
  rw [bits_xor_u64, ofInt_ones, BitVec.xor_allOnes, wrap_u64, BitVec.toNat_not, BitVec.toNat_ofInt]
  omega
theorem turn_eq {n : Int} (h : I64 n) : code_turn.f n = some (zz n : Int) := by
  unfold code_turn.f
  congr 1
  unfold I64 at h
  unfold zz
  by_cases h0 : 0 ≤ n
  · rw [if_pos h0]
    have e1 : IntKind.u64.wrap (n / 9223372036854775808) = 0 := by rw [wrap_u64]; omega
    have e2 : IntKind.u64.wrap (IntKind.u64.wrap n * 2) = 2 * n := by rw [wrap_u64, wrap_u64]; omega
    rw [e1, e2, bits_u64_xor0 _ (by omega) (by omega)]
    omega
  · rw [if_neg h0]
    have e1 : IntKind.u64.wrap (n / 9223372036854775808) = 18446744073709551615 := by rw [wrap_u64]; omega
    have e2 : IntKind.u64.wrap (IntKind.u64.wrap n * 2) = 2 * n + 18446744073709551616 := by rw [wrap_u64, wrap_u64]; omega
    rw [e1, e2, bits_u64_xor1 _ (by omega) (by omega)]
    omega
theorem bl_strOfNums (xs : List Int) : bl (strOfNums xs) = xs.map fun n => UInt8.ofNat n.toNat := rfl
theorem put_l0 : ∀ (f u k : Nat) (xs : List Int), u < 128 ^ (f + 1) → f < k → u < 18446744073709551616 → xs.length + f < 1000 →
    code_Put.l0 k xs (u : Int) = some (ofL (bl (strOfNums xs) ++ enc u)) := by
  intro f
  induction f with
  | zero =>
    intro u k xs hu hk hb hx
    obtain ⟨k, rfl⟩ : ∃ m, k = m + 1 := ⟨k - 1, by omega⟩
    have hu' : u < 128 := by simpa using hu
    simp only [code_Put.l0]
    rw [if_neg (by omega), if_pos (by omega), enc_small hu']
    congr 1
    apply bl_inj
    rw [bl_ofL, bl_strOfNums, bl_strOfNums, List.map_append]
    simp only [List.map_cons, List.map_nil]
    rw [show ((u : Int) % 256).toNat = u by omega]
  | succ f ih =>
    intro u k xs hu hk hb hx
    obtain ⟨k, rfl⟩ : ∃ m, k = m + 1 := ⟨k - 1, by omega⟩
    simp only [code_Put.l0]
    by_cases hu' : u < 128
    · rw [if_neg (by omega), if_pos (by omega), enc_small hu']
      congr 1
      apply bl_inj
      rw [bl_ofL, bl_strOfNums, bl_strOfNums, List.map_append]
      simp only [List.map_cons, List.map_nil]
      rw [show ((u : Int) % 256).toNat = u by omega]
    · rw [if_pos (by omega), if_pos (by omega)]
      have e1 : Int.tmod (u : Int) 128 = ((u % 128 : Nat) : Int) := by rw [Int.tmod_eq_emod_of_nonneg (by omega)]; omega
      have e2 : Int.tdiv (u : Int) 128 = ((u / 128 : Nat) : Int) := by rw [Int.tdiv_eq_ediv_of_nonneg (by omega)]; omega
      have e3 : IntKind.u64.wrap (((u % 128 : Nat) : Int) + 128) % 256 = ((u % 128 + 128 : Nat) : Int) := by rw [wrap_u64]; omega
      have e4 : IntKind.u64.wrap ((u / 128 : Nat) : Int) = ((u / 128 : Nat) : Int) := by rw [wrap_u64]; omega
      rw [e1, e2, e3, e4, ih (u / 128) k _ (by rw [Nat.div_lt_iff_lt_mul (by decide)]; rw [Nat.pow_succ] at hu; exact hu) (by omega) (by omega) (by simp; omega)]
      congr 1
      apply bl_inj
      rw [bl_ofL, bl_ofL, bl_strOfNums, bl_strOfNums, List.map_append, enc_big hu']
      simp only [List.map_cons, List.map_nil, Int.toNat_natCast, List.append_assoc, List.cons_append, List.nil_append]
/-- A number's bytes. -/
def encB (n : Int) : ByteArray := ofL (enc (zz n))
theorem bl_encB (n : Int) : bl (encB n) = enc (zz n) := rfl
theorem put_eq {n : Int} (h : I64 n) {k : Nat} (hk : 10 ≤ k) : code_Put.f k n = some (encB n) := by
  unfold code_Put.f
  rw [turn_eq h]
  simp only [Option.bind_some]
  have := zz_lt (n := n) h
  rw [put_l0 9 (zz n) k [] (by omega) (by omega) this (by simp)]
  rfl
theorem encB_size (n : Int) : (encB n).size = (enc (zz n)).length := by rw [bl_size]; rfl
theorem encB_le {n : Int} (h : I64 n) : (encB n).size ≤ 10 := by rw [encB_size]; exact enc_len_ten (zz_lt (n := n) h)


def encI (a b c : Int) : List UInt8 := UInt8.ofNat a.toNat :: ((if (kindOf a).2.1 = 0 then [] else enc (zz b)) ++ (if (kindOf a).2.1 = 2 then enc (zz c) else []))
theorem one_op {a : Int} (h : 1 ≤ a ∧ a ≤ 25) : bl (strOfNums [a % 256]) = [UInt8.ofNat a.toNat] := by
  rw [bl_strOfNums]
  simp only [List.map_cons, List.map_nil]
  rw [show (a % 256).toNat = a.toNat by omega]
def encS (a b c : Int) : ByteArray := if rightK (kindOf a) b c = true then ofL (encI a b c) else ofL []
theorem encode_eq {a b c : Int} (hb : I64 b) (hc : I64 c) {k : Nat} (hk : 10 ≤ k) : op_Encode.f k a b c = some (encS a b c) := by
  have e1 := encB_le hb
  have e2 := encB_le hc
  unfold op_Encode.f encS
  by_cases hR : rightK (kindOf a) b c = true
  · have hr := right_range hR
    rw [if_pos hR, if_pos hR]
    have s1 : (strOfNums [a % 256]).size = 1 := by rw [bl_size, one_op hr]; rfl
    by_cases h0 : (kindOf a).2.1 = 0
    · rw [if_pos h0]
      congr 1
      apply bl_inj
      rw [one_op hr, bl_ofL]
      unfold encI
      rw [if_pos h0, if_neg (show ¬ (kindOf a).2.1 = 2 by omega)]
      rfl
    · rw [if_neg h0]
      refine Option.bind_eq_some_iff.2 ⟨_, put_eq hb (by omega), (if_pos (by omega)).trans ?_⟩
      by_cases h1 : (kindOf a).2.1 = 1
      · rw [if_pos h1]
        congr 1
        apply bl_inj
        rw [bl_app, one_op hr, bl_ofL, bl_encB]
        unfold encI
        rw [if_neg h0, if_neg (show ¬ (kindOf a).2.1 = 2 by omega), List.append_nil]
        rfl
      · rw [if_neg h1]
        refine Option.bind_eq_some_iff.2 ⟨_, put_eq hc (by omega), (if_pos (by rw [ByteArray.size_append]; omega)).trans ?_⟩
        have h2 : (kindOf a).2.1 = 2 := by
          rcases right_argsL hR with h | h | h
          · exact absurd h h0
          · exact absurd h h1
          · exact h
        congr 1
        apply bl_inj
        rw [bl_app, bl_app, one_op hr, bl_ofL, bl_encB, bl_encB]
        unfold encI
        rw [if_neg h0, if_pos h2, List.append_assoc]
        rfl
  · rw [if_neg hR, if_neg hR]
    rfl
def encX (x : Ins) : List UInt8 := encI x.f0 x.f1 x.f2
def encR (l : List Ins) : List UInt8 := l.flatMap encX
theorem encR_cons (x : Ins) (l : List Ins) : encR (x :: l) = encX x ++ encR l := rfl
theorem encX_len {x : Ins} (h : InI x) : 1 ≤ (encX x).length ∧ (encX x).length ≤ 21 := by
  have h1 := enc_len_ten (zz_lt (n := x.f1) h.2.1)
  have h2 := enc_len_ten (zz_lt (n := x.f2) h.2.2)
  unfold encX encI
  rw [List.length_cons, List.length_append]
  refine ⟨by omega, ?_⟩
  split <;> split <;> simp <;> omega
theorem encS_nil {a b c : Int} : (encS a b c).toList = ([] : List UInt8) ↔ ¬ rightK (kindOf a) b c = true := by
  rw [toList_bl]
  unfold encS
  by_cases h : rightK (kindOf a) b c = true
  · rw [if_pos h, bl_ofL]
    exact ⟨fun e => by simp [encI] at e, fun e => absurd h e⟩
  · rw [if_neg h, bl_ofL]
    exact ⟨fun _ => h, fun _ => rfl⟩
theorem encS_ok {x : Ins} (h : okI x = true) : encS x.f0 x.f1 x.f2 = ofL (encX x) := by unfold encS; rw [if_pos (show rightK (kindOf x.f0) x.f1 x.f2 = true from h)]; rfl
theorem code_l0 (l : List Ins) (hw : ∀ x ∈ l, InI x) (hn : l.length ≤ 200) : ∀ (d i k : Nat) (acc : ByteArray), i + d = l.length → d + 20 ≤ k → acc.size + 21 * d ≤ 100000 →
    op_Code.l0 k acc l (l.length : Int) (i : Int) = some (if (l.drop i).all okI = true then ofL (bl acc ++ encR (l.drop i)) else ofL []) := by
  intro d
  induction d with
  | zero =>
    intro i k acc hi hk hb
    obtain ⟨k, rfl⟩ : ∃ m, k = m + 1 := ⟨k - 1, by omega⟩
    simp only [op_Code.l0]
    rw [if_neg (by omega), List.drop_eq_nil_of_le (by omega), if_pos (show ([] : List Ins).all okI = true from rfl)]
    congr 1
    rw [show encR [] = [] from rfl, List.append_nil, ofL_bl]
  | succ d ih =>
    intro i k acc hi hk hb
    obtain ⟨k, rfl⟩ : ∃ m, k = m + 1 := ⟨k - 1, by omega⟩
    have hlt : i < l.length := by omega
    have hx := hw _ (rdT_mem hlt)
    simp only [op_Code.l0]
    rw [if_pos (by omega), if_pos (by omega), if_pos (by omega), rdT_drop hlt]
    refine Option.bind_eq_some_iff.2 ⟨_, encode_eq hx.2.1 hx.2.2 (by omega), ?_⟩
    by_cases hR : okI (rd_T24 l (i : Int)) = true
    · rw [if_neg (fun e => encS_nil.1 e hR), encS_ok hR]
      have hl := encX_len hx
      have hsz : (ofL (encX (rd_T24 l (i : Int)))).size = (encX (rd_T24 l (i : Int))).length := by rw [bl_size, bl_ofL]
      rw [if_pos (by omega), show wrap64 ((i : Int) + 1) = ((i + 1 : Nat) : Int) from by clear hl hsz; unfold wrap64; omega]
      rw [ih (i + 1) k _ (by omega) (by omega) (by rw [ByteArray.size_append]; omega)]
      rw [bl_app, bl_ofL, List.all_cons, hR, Bool.true_and, encR_cons, List.append_assoc]
    · rw [if_pos (encS_nil.2 hR), if_neg (by rw [List.all_cons, Bool.and_eq_true]; exact fun h => hR h.1)]
      rfl
/-- op.Code. -/
def codeS (l : List Ins) : ByteArray := if l.length ≤ 200 ∧ l.all okI = true then ofL (encR l) else ofL []
theorem code_eq {l : List Ins} (hw : ∀ x ∈ l, InI x) {k : Nat} (hk : 300 ≤ k) : op_Code.f k l = some (codeS l) := by
  unfold op_Code.f codeS
  by_cases h : l.length ≤ 200
  · rw [if_neg (by omega)]
    have := code_l0 l hw h l.length 0 k ⟨#[]⟩ (by omega) (by omega) (by show 0 + _ ≤ _; omega)
    rw [List.drop_zero] at this
    refine this.trans ?_
    by_cases h2 : l.all okI = true
    · rw [if_pos h2, if_pos ⟨h, h2⟩]; rfl
    · rw [if_neg h2, if_neg (fun h3 => h2 h3.2)]
  · rw [if_pos (by omega), if_neg (fun h3 => h h3.1)]
    rfl
theorem enc_both {u v : Nat} (hu : u < 18446744073709551616) (hv : v < 18446744073709551616) {x y : List UInt8} (h : enc u ++ x = enc v ++ y) : u = v ∧ x = y := by
  rcases List.append_eq_append_iff.1 h with ⟨t, t1, t2⟩ | ⟨t, t1, t2⟩
  · have e := enc_prefix hu hv t1.symm
    subst e
    obtain rfl : t = [] := List.append_right_eq_self.1 t1.symm
    exact ⟨rfl, t2⟩
  · have e := enc_prefix hv hu t1.symm
    subst e
    obtain rfl : t = [] := List.append_right_eq_self.1 t1.symm
    exact ⟨rfl, t2.symm⟩
theorem zz_inj {n m : Int} (h : zz n = zz m) : n = m := by rw [← unzz_zz n, h, unzz_zz]
theorem encX_both {x y : Ins} (hx : InI x) (hy : InI y) (ox : okI x = true) (oy : okI y = true) {r s : List UInt8} (h : encX x ++ r = encX y ++ s) : x = y ∧ r = s := by
  obtain ⟨a, b, c⟩ := x
  obtain ⟨a', b', c'⟩ := y
  unfold okI at ox oy
  dsimp only at ox oy
  unfold encX encI at h
  dsimp only at h
  rw [List.cons_append, List.cons_append] at h
  obtain ⟨h1, h2⟩ := List.cons.inj h
  have ra := right_range ox
  have ra' := right_range oy
  have ea : a = a' := by
    have := congrArg UInt8.toNat h1
    rw [toNat_ofNat (by omega), toNat_ofNat (by omega)] at this
    omega
  subst ea
  have za := right_zero ox
  have za' := right_zero oy
  have lb := zz_lt (n := b) hx.2.1
  have lb' := zz_lt (n := b') hy.2.1
  have lc := zz_lt (n := c) hx.2.2
  have lc' := zz_lt (n := c') hy.2.2
  rcases right_argsL ox with g | g | g
  · rw [if_pos g, if_neg (by omega)] at h2
    rw [if_pos g, if_neg (by omega)] at h2
    obtain rfl := za.1 g
    obtain rfl := za.2 (by omega)
    obtain rfl := za'.1 g
    obtain rfl := za'.2 (by omega)
    exact ⟨rfl, by simpa using h2⟩
  · rw [if_neg (show ¬ (kindOf a).2.1 = 0 by omega), if_neg (show ¬ (kindOf a).2.1 = 0 by omega), if_neg (show ¬ (kindOf a).2.1 = 2 by omega), if_neg (show ¬ (kindOf a).2.1 = 2 by omega), List.append_nil, List.append_nil] at h2
    obtain ⟨e1, e2⟩ := enc_both lb lb' h2
    obtain rfl := zz_inj e1
    obtain rfl := za.2 (by omega)
    obtain rfl := za'.2 (by omega)
    exact ⟨rfl, e2⟩
  · rw [if_neg (show ¬ (kindOf a).2.1 = 0 by omega), if_neg (show ¬ (kindOf a).2.1 = 0 by omega), if_pos g, if_pos g, List.append_assoc, List.append_assoc] at h2
    obtain ⟨e1, e2⟩ := enc_both lb lb' h2
    obtain ⟨e3, e4⟩ := enc_both lc lc' e2
    obtain rfl := zz_inj e1
    obtain rfl := zz_inj e3
    exact ⟨rfl, e4⟩
theorem encR_inj : ∀ (l m : List Ins), (∀ x ∈ l, InI x ∧ okI x = true) → (∀ x ∈ m, InI x ∧ okI x = true) → encR l = encR m → l = m
  | [], [], _, _, _ => rfl
  | [], y :: m, _, hm, h => by
    have := encX_len (hm y List.mem_cons_self).1
    have e := congrArg List.length h
    rw [encR_cons, List.length_append] at e
    simp [encR] at e
    omega
  | x :: l, [], hl, _, h => by
    have := encX_len (hl x List.mem_cons_self).1
    have e : (encX x).length + (encR l).length = 0 := by have e := congrArg List.length h; rw [encR_cons, List.length_append] at e; exact e
    omega
  | x :: l, y :: m, hl, hm, h => by
    rw [encR_cons, encR_cons] at h
    obtain ⟨e1, e2⟩ := encX_both (hl x List.mem_cons_self).1 (hm y List.mem_cons_self).1 (hl x List.mem_cons_self).2 (hm y List.mem_cons_self).2 h
    rw [e1, encR_inj l m (fun z hz => hl z (List.mem_cons_of_mem _ hz)) (fun z hz => hm z (List.mem_cons_of_mem _ hz)) e2]
theorem encR_nil {l : List Ins} (hw : ∀ x ∈ l, InI x) : encR l = [] ↔ l = [] := by
  cases l with
  | nil => exact ⟨fun _ => rfl, fun _ => rfl⟩
  | cons x l =>
    refine ⟨fun e => ?_, fun e => by cases e⟩
    have := encX_len (hw x List.mem_cons_self)
    have e : (encX x).length + (encR l).length = 0 := by have e := congrArg List.length e; rw [encR_cons, List.length_append] at e; exact e
    omega

end Go.Proofs.Ytldbochclabmjaa.TL
