/- CodeSizes: a number nearer to 0 has no more bytes; one of 2^6k has one more than one below it; none has more than ten; for all ints and every k. -/
import Derived.Test.YteioenlkdidpgaaCL
import Derived.Test.YteioenlkdidpgaaPx4
import Derived.Test.YteioenlkdidpgaaPx9
namespace Go.Proofs.Yteioenlkdidpgaa.Pure
open Go.RowKit Go.Proofs.Yteioenlkdidpgaa.P Go.Proofs.YteioenlkdidpgaaW.PrintWords Go.Proofs.YteioenlkdidpgaaW.PrintLast Go.Proofs.YteioenlkdidpgaaW.PrintMore Go.Proofs.Yteioenlkdidpgaa.CM Go.Proofs.Yteioenlkdidpgaa.CL

theorem known_sizes {k : Nat} (hk : 60 ≤ k) : camshaftlaw02_known.f k = some true := at_rounds camshaftlaw02_known.mono hk camshaftlaw02_known.run
theorem bound_u8 {n : Int} (h : (Lit.int .u8 n).wf = true) : 0 ≤ n ∧ n ≤ 255 := by
  simp only [Lit.wf, IntKind.min, IntKind.max, IntKind.signed, IntKind.bits, Bool.and_eq_true] at h
  simpa using h
/-- How far from 0: the greater one of n and -(n + 1). -/
def far (n : Int) : Int := if n < -(n + 1) then -(n + 1) else n
theorem zz_far (n : Int) : (zz n : Int) = 2 * far n ∨ (zz n : Int) = 2 * far n + 1 := by
  unfold zz far; split <;> split <;> omega
theorem zz_far0 {n : Int} : far n = if 0 ≤ n then n else -n - 1 := by
  unfold far; split <;> split <;> omega
theorem mx_far {n : Int} (h : I64 n) : mx n (wrap64 (-(wrap64 (n + 1)))) = far n := by
  unfold I64 at h
  have e : wrap64 (-(wrap64 (n + 1))) = -(n + 1) := by unfold wrap64; omega
  rw [e]
  rfl
/-- Numbers as far or nearer have no more bytes. -/
theorem enc_div (u : Nat) (h : 128 ≤ u) : (enc u).length = (enc (u / 128)).length + 1 := by rw [enc_big (by omega)]; simp
theorem len_pair (m : Nat) : (enc (2 * m)).length = (enc (2 * m + 1)).length := by
  by_cases hm : m < 64
  · rw [enc_small (by omega), enc_small (by omega)]; rfl
  · rw [enc_div (2 * m) (by omega), enc_div (2 * m + 1) (by omega), show 2 * m / 128 = m / 64 by omega, show (2 * m + 1) / 128 = m / 64 by omega]
theorem size_mono {a b : Int} (h : far a ≤ far b) : (enc (zz a)).length ≤ (enc (zz b)).length := by
  have ha := zz_far a
  have hb := zz_far b
  have h0 : 0 ≤ far a := by rw [zz_far0]; split <;> omega
  have h1 : 0 ≤ far b := by rw [zz_far0]; split <;> omega
  obtain ⟨p, hp⟩ := Int.eq_ofNat_of_zero_le h0
  obtain ⟨q, hq⟩ := Int.eq_ofNat_of_zero_le h1
  have l1 : (enc (zz a)).length = (enc (2 * p)).length := by
    rcases ha with ha | ha
    · rw [show zz a = 2 * p by omega]
    · rw [show zz a = 2 * p + 1 by omega, len_pair p]
  have l2 : (enc (zz b)).length = (enc (2 * q)).length := by
    rcases hb with hb | hb
    · rw [show zz b = 2 * q by omega]
    · rw [show zz b = 2 * q + 1 by omega, len_pair q]
  rw [l1, l2]
  exact enc_len_mono _ _ _ (Nat.le_refl _) (by omega)
theorem far_pow (j : Nat) : (enc (zz (128 ^ j * 64 : Nat))).length = j + 2 ∧ (enc (zz ((128 ^ j * 64 : Nat) - 1 : Int))).length = j + 1 ∧ (enc (zz (-((128 ^ j * 64 : Nat) : Int)))).length = j + 1 := by
  have hp : 1 ≤ 128 ^ j := Nat.pow_pos (by decide)
  have e1 : zz (128 ^ j * 64 : Nat) = 128 ^ (j + 1) := by
    unfold zz
    rw [if_pos (by omega), Nat.pow_succ]
    omega
  have e2 : zz ((128 ^ j * 64 : Nat) - 1 : Int) = 128 ^ (j + 1) - 2 := by
    unfold zz
    rw [if_pos (by omega), Nat.pow_succ]
    omega
  have e3 : zz (-((128 ^ j * 64 : Nat) : Int)) = 128 ^ (j + 1) - 1 := by
    unfold zz
    rw [if_neg (by omega), Nat.pow_succ]
    omega
  have hs : 128 ^ (j + 1) = 128 ^ j * 128 := Nat.pow_succ ..
  refine ⟨?_, ?_, ?_⟩
  · rw [e1]
    have := enc_len_ge (j + 1) (128 ^ (j + 1)) (Nat.le_refl _)
    have := enc_len_le (j + 1) (128 ^ (j + 1)) (Nat.pow_lt_pow_right (by decide) (by omega))
    omega
  · rw [e2]
    have h1 := enc_len_ge j (128 ^ (j + 1) - 2) (by omega)
    have h2 := enc_len_le j (128 ^ (j + 1) - 2) (by omega)
    omega
  · rw [e3]
    have h1 := enc_len_ge j (128 ^ (j + 1) - 1) (by omega)
    have h2 := enc_len_le j (128 ^ (j + 1) - 1) (by omega)
    omega

theorem shift_of {c : Int} (hc : 0 ≤ c ∧ c ≤ 255) : ∃ j : Nat, j < 8 ∧ wrap64 (6 + wrap64 (7 * Int.tmod (wrap64 c) 8)) = ((6 + 7 * j : Nat) : Int) := by
  refine ⟨(c % 8).toNat, by omega, ?_⟩
  rw [show wrap64 c = c from by unfold wrap64; omega, Int.tmod_eq_emod_of_nonneg (by omega)]
  rw [show wrap64 (7 * (c % 8)) = 7 * (c % 8) from by unfold wrap64; omega]
  unfold wrap64
  omega
theorem pow_of (j : Nat) : 2 ^ (6 + 7 * j) = 128 ^ j * 64 := by
  rw [Nat.pow_add, pow7, Nat.mul_comm]
theorem shl_of {j : Nat} (hj : j < 8) : shl .i64 1 ((6 + 7 * j : Nat) : Int) = ((128 ^ j * 64 : Nat) : Int) := by
  have hpow : 128 ^ j * 64 ≤ 128 ^ 7 * 64 := Nat.mul_le_mul_right _ (Nat.pow_le_pow_right (by decide) (by omega))
  unfold shl
  rw [show min ((6 + 7 * j : Nat) : Int).toNat (IntKind.bits .i64) = 6 + 7 * j by simp only [IntKind.bits]; omega, IntKind.wrap_i64]
  rw [show (1 : Int) * 2 ^ (6 + 7 * j) = ((128 ^ j * 64 : Nat) : Int) by rw [Int.one_mul, ← pow_of]; push_cast; rfl]
  generalize 128 ^ j * 64 = p at *
  omega
/-- What is left, at numbers whose sizes are told. -/
theorem sizes_rest (k : Nat) (hk : 60 ≤ k) (a p : Int) (ha : I64 a) (j : Nat) (hj : j < 8) (S1 : code_Size.f k p = some ((j + 2 : Nat) : Int)) (S2 : code_Size.f k (p - 1) = some ((j + 1 : Nat) : Int)) (S3 : code_Size.f k (-p) = some ((j + 1 : Nat) : Int)) :
    ((code_Size.f k a).bind fun t236 => (if t236 ≥ 1 then ((code_Size.f k a).bind fun t237 => (if t237 ≤ 10 then ((code_Size.f k p).bind fun t238 => ((code_Size.f k (p - 1)).bind fun t239 => (if t238 = (wrap64 (t239 + 1)) then ((code_Size.f k (-p)).bind fun t240 => ((code_Size.f k (p - 1)).bind fun t241 => (if t240 = t241 then ((code_Put.f k a).bind fun t242 => ((code_Size.f k a).bind fun t243 => (if (t242.size : Int) = t243 then ((camshaftlaw02_known.f k).bind fun t244 => (some t244)) else (some false)))) else (some false)))) else (some false)))) else (some false))) else (some false))) = some true := by
  have w : ((j + 2 : Nat) : Int) = wrap64 (((j + 1 : Nat) : Int) + 1) := by clear S1 S2 S3 hk; unfold wrap64; omega
  have T := size_eq ha (k := k) (by omega)
  have P := put_eq ha (k := k) (by omega)
  have t0 : ((enc (zz a)).length : Int) ≥ 1 := by have := enc_pos (zz a); omega
  have t1 : ((enc (zz a)).length : Int) ≤ 10 := by have := enc_len_ten (zz_lt ha); omega
  have t2 : ((encB a).size : Int) = ((enc (zz a)).length : Int) := by rw [encB_size]
  refine Option.bind_eq_some_iff.2 ⟨_, T, (if_pos t0).trans ?_⟩
  refine Option.bind_eq_some_iff.2 ⟨_, T, (if_pos t1).trans ?_⟩
  refine Option.bind_eq_some_iff.2 ⟨_, S1, ?_⟩
  refine Option.bind_eq_some_iff.2 ⟨_, S2, (if_pos w).trans ?_⟩
  refine Option.bind_eq_some_iff.2 ⟨_, S3, ?_⟩
  refine Option.bind_eq_some_iff.2 ⟨_, S2, (if_pos rfl).trans ?_⟩
  refine Option.bind_eq_some_iff.2 ⟨_, P, ?_⟩
  refine Option.bind_eq_some_iff.2 ⟨_, T, (if_pos t2).trans ?_⟩
  exact Option.bind_eq_some_iff.2 ⟨_, known_sizes hk, rfl⟩

theorem sizes_all (k : Nat) (hk : 60 ≤ k) (a b c : Int) (ha : I64 a) (hb : I64 b) (hc : 0 ≤ c ∧ c ≤ 255) : camshaftlaw02_CodeSizes.f k a b c = some true := by
  unfold camshaftlaw02_CodeSizes.f
  obtain ⟨j, hj, e0⟩ := shift_of hc
  rw [e0, shl_of hj, if_pos (by omega), mx_far ha, mx_far hb]
  clear e0
  obtain ⟨p1, p2, p3⟩ := far_pow j
  have hp0 : 64 ≤ 128 ^ j * 64 ∧ 128 ^ j * 64 ≤ 36028797018963968 := by
    constructor
    · have : 1 * 64 ≤ 128 ^ j * 64 := Nat.mul_le_mul_right _ (Nat.pow_pos (by decide))
      omega
    · have hpow : 128 ^ j * 64 ≤ 128 ^ 7 * 64 := Nat.mul_le_mul_right _ (Nat.pow_le_pow_right (by decide) (by omega))
      omega
  generalize hP : (128 ^ j * 64 : Nat) = p at *
  rw [show wrap64 ((p : Int) - 1) = (p : Int) - 1 from by unfold wrap64; omega, show wrap64 (-(p : Int)) = -(p : Int) from by unfold wrap64; omega]
  have q1 : I64 (p : Int) := by clear p1 p2 p3; unfold I64; omega
  have q2 : I64 ((p : Int) - 1) := by clear p1 p2 p3; unfold I64; omega
  have q3 : I64 (-(p : Int)) := by clear p1 p2 p3; unfold I64; omega
  have rest := sizes_rest k hk a (p : Int) ha j hj (by rw [← p1]; exact size_eq q1 (by omega)) (by rw [← p2]; exact size_eq q2 (by omega)) (by rw [← p3]; exact size_eq q3 (by omega))
  clear p1 p2 p3 q1 q2 q3
  by_cases hf : far a > far b
  · rw [if_pos hf]
    exact rest
  · rw [if_neg hf]
    have := size_mono (a := a) (b := b) (by omega)
    refine Option.bind_eq_some_iff.2 ⟨_, size_eq ha (by omega), ?_⟩
    refine Option.bind_eq_some_iff.2 ⟨_, size_eq hb (by omega), (if_pos (by omega)).trans ?_⟩
    exact rest

theorem CodeSizes : camshaftlaw02_CodeSizes.Pure := fun a b c wa wb wc => ⟨60, sizes_all 60 (Nat.le_refl _) a b c (I64_of wa) (I64_of wb) (bound_u8 wc)⟩

end Go.Proofs.Yteioenlkdidpgaa.Pure
