/- OpSizes: an instruction has a byte, and at most ten for each number; none but Push has a number of more than two bytes; for all instructions. -/
import Derived.Test.YtnfoebbdmekbiaaON
import Derived.Test.YtnfoebbdmekbiaaPx6
import Derived.Test.YtnfoebbdmekbiaaPx12
namespace Go.Proofs.Ytnfoebbdmekbiaa.Pure
open Go.RowKit Go.Proofs.Ytnfoebbdmekbiaa.C Go.Proofs.Ytnfoebbdmekbiaa.P Go.Proofs.Ytnfoebbdmekbiaa.CM Go.Proofs.Ytnfoebbdmekbiaa.CL Go.Proofs.Ytnfoebbdmekbiaa.OL Go.Proofs.YtnfoebbdmekbiaaW.PrintWords Go.Proofs.YtnfoebbdmekbiaaW.PrintLast Go.Proofs.YtnfoebbdmekbiaaW.PrintMore

theorem known_sizes {k : Nat} (hk : 60 ≤ k) : camshaftlaw04_known.f k = some true := at_rounds camshaftlaw04_known.mono hk camshaftlaw04_known.run
/-- How long an instruction is. -/
theorem encI_sizes {a b c : Int} (hR : rightI a b c = true) (hb : I64 b) (hc : I64 c) : 1 + argsOf a ≤ ((encI a b c).length : Int) ∧ ((encI a b c).length : Int) ≤ 1 + 10 * argsOf a ∧ (a ≠ 1 → ((encI a b c).length : Int) ≤ 1 + 2 * argsOf a) := by
  have b1 := enc_pos (zz b)
  have c1 := enc_pos (zz c)
  have b2 := enc_len_ten (zz_lt hb)
  have c2 := enc_len_ten (zz_lt hc)
  have b3 : a ≠ 1 → (enc (zz b)).length ≤ 2 := fun h => by have := right_small hR h; exact enc_two ⟨this.1, this.2.1⟩
  have c3 : a ≠ 1 → (enc (zz c)).length ≤ 2 := fun h => by have := right_small hR h; exact enc_two this.2.2
  unfold encI
  rw [List.length_cons, List.length_append]
  rcases right_argsOf hR with h0 | h0 | h0
  · rw [if_pos h0, if_neg (by omega), h0]; simp
  · rw [if_neg (by omega), if_neg (by omega), h0]
    generalize (enc (zz b)).length = lb at *
    simp only [List.length_nil]
    refine ⟨by omega, by omega, fun h => ?_⟩
    have := b3 h
    omega
  · rw [if_neg (by omega), if_pos h0, h0]
    generalize (enc (zz b)).length = lb at *
    generalize (enc (zz c)).length = lc at *
    refine ⟨by omega, by omega, fun h => ?_⟩
    have := b3 h
    have := c3 h
    omega
theorem sizes_all (k : Nat) (hk : 60 ≤ k) (a b c : Int) (hb : I64 b) (hc : I64 c) : camshaftlaw04_OpSizes.f k a b c = some true := by
  have K := known_sizes hk
  have KK : ((camshaftlaw04_known.f k).bind fun t => (some t)) = some true := by rw [K]; rfl
  unfold camshaftlaw04_OpSizes.f
  refine Option.bind_eq_some_iff.2 ⟨_, encode_eq hb hc (by omega), ?_⟩
  refine Option.bind_eq_some_iff.2 ⟨argsOf a, rfl, ?_⟩
  by_cases hn : (encS a b c).toList = ([] : List UInt8)
  · rw [if_pos hn]
    refine Option.bind_eq_some_iff.2 ⟨rightI a b c, rfl, ?_⟩
    rw [if_neg (encS_nil.1 hn)]
    exact KK
  · rw [if_neg hn]
    have hR : rightI a b c = true := Classical.byContradiction fun h => hn (encS_nil.2 h)
    have hr := right_range hR
    have hs : ((encS a b c).size : Int) = ((encI a b c).length : Int) := by unfold encS; rw [if_pos hR, bl_size, bl_ofL]
    obtain ⟨s1, s2, s3⟩ := encI_sizes hR hb hc
    have ha : argsOf a = 0 ∨ argsOf a = 1 ∨ argsOf a = 2 := right_argsOf hR
    have hbt : wrap64 (bt (encS a b c) 0) = a := by
      have : bl (encS a b c) = [] ++ UInt8.ofNat a.toNat :: ((if argsOf a = 0 then [] else enc (zz b)) ++ (if argsOf a = 2 then enc (zz c) else [])) := by
        unfold encS; rw [if_pos hR, bl_ofL]; rfl
      rw [bt_at_list (i := 0) this rfl, toNat_ofNat (by omega)]
      unfold wrap64
      omega
    have nm : ((op_Name.f a).bind fun t282 => (if t282.toList = ([] : List UInt8) then (some false) else ((camshaftlaw04_known.f k).bind fun t283 => (some t283)))) = some true := by
      refine Option.bind_eq_some_iff.2 ⟨_, rfl, ?_⟩
      rw [if_neg (fun h => (name_nil a).1 h hr)]
      exact KK
    rw [hs, hbt]
    clear hs hbt hn
    have w1 : wrap64 (1 + argsOf a) = 1 + argsOf a := by unfold wrap64; omega
    have w2 : wrap64 (10 * argsOf a) = 10 * argsOf a := by clear w1; unfold wrap64; omega
    have w3 : wrap64 (2 * argsOf a) = 2 * argsOf a := by clear w1 w2; unfold wrap64; omega
    have w4 : wrap64 (1 + 10 * argsOf a) = 1 + 10 * argsOf a := by clear w1 w2 w3; unfold wrap64; omega
    have w5 : wrap64 (1 + 2 * argsOf a) = 1 + 2 * argsOf a := by clear w1 w2 w3 w4; unfold wrap64; omega
    rw [w1, w2, w3, w4, w5]
    clear w1 w2 w3 w4 w5
    rw [if_pos (by omega), if_pos (by omega), if_pos s1, if_pos s2]
    by_cases h1 : a = 1
    · rw [if_pos h1, if_pos (by omega), if_pos rfl]
      exact nm
    · rw [if_neg h1, if_pos (s3 h1), if_pos (by omega), if_pos rfl]
      exact nm
theorem OpSizes : camshaftlaw04_OpSizes.Pure := fun a b c _ wb wc => ⟨60, sizes_all 60 (Nat.le_refl _) a b c (I64_of wb) (I64_of wc)⟩

end Go.Proofs.Ytnfoebbdmekbiaa.Pure
