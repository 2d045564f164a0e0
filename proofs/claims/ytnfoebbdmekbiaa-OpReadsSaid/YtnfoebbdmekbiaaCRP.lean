/- What the reference's printed Put comes to: the number's bytes. No conditions beyond those that each lemma states. -/
import Derived.Test.YtnfoebbdmekbiaaCL
import Derived.Test.YtnfoebbdmekbiaaCx2
namespace Go.Proofs.Ytnfoebbdmekbiaa.CL
open Go.RowKit Go.Proofs.Ytnfoebbdmekbiaa.C Go.Proofs.Ytnfoebbdmekbiaa.CM Go.Proofs.YtnfoebbdmekbiaaW.PrintWords Go.Proofs.YtnfoebbdmekbiaaW.PrintLast Go.Proofs.YtnfoebbdmekbiaaW.PrintMore

theorem rturned_eq {n : Int} (h : I64 n) : camshaftref02_turned.f n = some (zz n : Int) := by
  unfold camshaftref02_turned.f
  unfold I64 at h
  unfold zz
  by_cases h0 : n ≥ 0
  · rw [if_pos h0, if_pos h0]
    congr 1
    rw [wrap_u64, wrap_u64]
    omega
  · rw [if_neg h0, if_neg h0]
    congr 1
    rw [show wrap64 (n + 1) = n + 1 from by unfold wrap64; omega, show wrap64 (-(n + 1)) = -(n + 1) from by unfold wrap64; omega, wrap_u64, wrap_u64, wrap_u64]
    omega
theorem one_byte {n : Int} {u : Nat} (h : n = (u : Int)) : bl (strOfNums [n]) = [UInt8.ofNat u] := by
  rw [bl_strOfNums, h]; rfl
theorem one_size (n : Int) : (strOfNums [n]).size = 1 := by rw [bl_size, bl_strOfNums]; rfl
theorem rput_l0 : ∀ (f u k : Nat) (acc : ByteArray), u < 128 ^ (f + 1) → f < k → u < 18446744073709551616 → acc.size + f < 1000 →
    camshaftref02_Put.l0 k (u : Int) acc = some (ofL (bl acc ++ enc u)) := by
  intro f
  induction f with
  | zero =>
    intro u k acc hu hk hb hx
    obtain ⟨k, rfl⟩ : ∃ m, k = m + 1 := ⟨k - 1, by omega⟩
    have hu' : u < 128 := by simpa using hu
    simp only [camshaftref02_Put.l0]
    rw [if_neg (by omega)]
    refine Option.bind_eq_some_iff.2 ⟨_, rfl, ?_⟩
    rw [one_size, if_pos (by omega), enc_small hu']
    congr 1
    apply bl_inj
    rw [bl_app, bl_ofL, one_byte (u := u) (by omega)]
  | succ f ih =>
    intro u k acc hu hk hb hx
    obtain ⟨k, rfl⟩ : ∃ m, k = m + 1 := ⟨k - 1, by omega⟩
    simp only [camshaftref02_Put.l0]
    by_cases hu' : u < 128
    · rw [if_neg (by omega)]
      refine Option.bind_eq_some_iff.2 ⟨_, rfl, ?_⟩
      rw [one_size, if_pos (by omega), enc_small hu']
      congr 1
      apply bl_inj
      rw [bl_app, bl_ofL, one_byte (u := u) (by omega)]
    · rw [if_pos (by omega)]
      refine Option.bind_eq_some_iff.2 ⟨_, rfl, ?_⟩
      rw [one_size, if_pos (by omega)]
      rw [show IntKind.u64.wrap (Int.tdiv (u : Int) 128) = ((u / 128 : Nat) : Int) from by rw [Int.tdiv_eq_ediv_of_nonneg (by omega), wrap_u64]; omega]
      rw [ih (u / 128) k _ (by rw [Nat.div_lt_iff_lt_mul (by decide)]; rw [Nat.pow_succ] at hu; exact hu) (by omega) (by omega) (by rw [ByteArray.size_append, one_size]; omega)]
      congr 1
      apply bl_inj
      rw [bl_ofL, bl_ofL, bl_app, one_byte (u := u % 128 + 128) (by rw [Int.tmod_eq_emod_of_nonneg (by omega), wrap_u64]; omega), enc_big hu', List.append_assoc]
      rfl
theorem rput_eq {n : Int} (h : I64 n) {k : Nat} (hk : 10 ≤ k) : camshaftref02_Put.f k n = some (encB n) := by
  unfold camshaftref02_Put.f
  refine Option.bind_eq_some_iff.2 ⟨_, rturned_eq h, ?_⟩
  have := zz_lt h
  exact rput_l0 9 (zz n) k _ (by omega) (by omega) this (by decide)

end Go.Proofs.Ytnfoebbdmekbiaa.CL
