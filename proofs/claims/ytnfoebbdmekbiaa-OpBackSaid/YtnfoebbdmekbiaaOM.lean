/- An instruction's bytes, and what stands at a place, in plain words: what the contracts of op.Encode and op.Decode come to. No conditions beyond those that each lemma states. -/
import Derived.Test.YtnfoebbdmekbiaaCL
import Derived.Test.YtnfoebbdmekbiaaG6
namespace Go.Proofs.Ytnfoebbdmekbiaa.OL
open Go.RowKit Go.Proofs.Ytnfoebbdmekbiaa.C Go.Proofs.Ytnfoebbdmekbiaa.P Go.Proofs.Ytnfoebbdmekbiaa.CM Go.Proofs.Ytnfoebbdmekbiaa.CL Go.Proofs.YtnfoebbdmekbiaaW.PrintWords Go.Proofs.YtnfoebbdmekbiaaW.PrintLast Go.Proofs.YtnfoebbdmekbiaaW.PrintMore

/-- How many numbers an operation has. -/
def argsOf (a : Int) : Int := (kindOf a).2.1
def rightI (a b c : Int) : Bool := rightK (kindOf a) b c
/-- The bytes of an instruction that can be. -/
def encI (a b c : Int) : List UInt8 := UInt8.ofNat a.toNat :: ((if argsOf a = 0 then [] else enc (zz b)) ++ (if argsOf a = 2 then enc (zz c) else []))
theorem right_range {a b c : Int} (h : rightI a b c = true) : 1 ≤ a ∧ a ≤ 25 := by
  by_cases h1 : 1 ≤ a ∧ a ≤ 25
  · exact h1
  · unfold rightI rightK at h
    rw [kindOf_none (by omega)] at h
    simp at h
theorem right_argsOf {a b c : Int} (h : rightI a b c = true) : argsOf a = 0 ∨ argsOf a = 1 ∨ argsOf a = 2 := right_args h
theorem argsOf_range (a : Int) : -1 ≤ argsOf a ∧ argsOf a ≤ 2 := by
  unfold argsOf
  by_cases h1 : 1 ≤ a ∧ a ≤ 25
  · rcases op_cases h1.1 h1.2 with rfl | rfl | rfl | rfl | rfl | rfl | rfl | rfl | rfl | rfl | rfl | rfl | rfl | rfl | rfl | rfl | rfl | rfl | rfl | rfl | rfl | rfl | rfl | rfl | rfl <;> decide
  · rw [kindOf_none (by omega)]; decide
theorem right_zero {a b c : Int} (h : rightI a b c = true) : (argsOf a = 0 → b = 0) ∧ (argsOf a ≤ 1 → c = 0) := by
  unfold rightI rightK at h
  unfold argsOf
  split at h
  · rw [Bool.and_eq_true, decide_eq_true_eq, decide_eq_true_eq] at h
    exact ⟨fun _ => h.1, fun _ => h.2⟩
  · split at h
    · rw [Bool.and_eq_true, decide_eq_true_eq] at h
      exact ⟨fun e => absurd e ‹_›, fun _ => h.2⟩
    · split at h
      · exact ⟨fun e => absurd e ‹_›, fun e => by omega⟩
      · cases h
theorem one_op {a : Int} (h : 1 ≤ a ∧ a ≤ 25) : bl (strOfNums [a % 256]) = [UInt8.ofNat a.toNat] := by
  rw [bl_strOfNums]
  simp only [List.map_cons, List.map_nil]
  rw [show (a % 256).toNat = a.toNat by omega]
theorem encI_len {a b c : Int} (hb : I64 b) (hc : I64 c) : 1 ≤ (encI a b c).length ∧ (encI a b c).length ≤ 21 := by
  have h1 := enc_len_ten (zz_lt hb)
  have h2 := enc_len_ten (zz_lt hc)
  unfold encI
  rw [List.length_cons, List.length_append]
  refine ⟨by omega, ?_⟩
  split <;> split <;> simp <;> omega
/-- op.Encode. -/
def encS (a b c : Int) : ByteArray := if rightI a b c = true then ofL (encI a b c) else ofL []
theorem encode_eq {a b c : Int} (hb : I64 b) (hc : I64 c) {k : Nat} (hk : 10 ≤ k) : op_Encode.f k a b c = some (encS a b c) := by
  have e1 := encB_le hb
  have e2 := encB_le hc
  unfold op_Encode.f encS
  by_cases hR : rightI a b c = true
  · have hr := right_range hR
    rw [if_pos (show rightK (kindOf a) b c = true from hR), if_pos hR]
    have s1 : (strOfNums [a % 256]).size = 1 := by rw [bl_size, one_op hr]; rfl
    by_cases h0 : (kindOf a).2.1 = 0
    · rw [if_pos h0]
      congr 1
      apply bl_inj
      rw [one_op hr, bl_ofL]
      unfold encI
      rw [if_pos (show argsOf a = 0 from h0), if_neg (show ¬ argsOf a = 2 by unfold argsOf; omega)]
      rfl
    · rw [if_neg h0]
      refine Option.bind_eq_some_iff.2 ⟨_, put_eq hb (by omega), (if_pos (by omega)).trans ?_⟩
      by_cases h1 : (kindOf a).2.1 = 1
      · rw [if_pos h1]
        congr 1
        apply bl_inj
        rw [bl_app, one_op hr, bl_ofL, bl_encB]
        unfold encI
        rw [if_neg (show ¬ argsOf a = 0 from h0), if_neg (show ¬ argsOf a = 2 by unfold argsOf; omega), List.append_nil]
        rfl
      · rw [if_neg h1]
        refine Option.bind_eq_some_iff.2 ⟨_, put_eq hc (by omega), (if_pos (by rw [ByteArray.size_append]; omega)).trans ?_⟩
        have h2 : argsOf a = 2 := by
          rcases right_argsOf hR with h | h | h
          · exact absurd h h0
          · exact absurd h h1
          · exact h
        congr 1
        apply bl_inj
        rw [bl_app, bl_app, one_op hr, bl_ofL, bl_encB, bl_encB]
        unfold encI
        rw [if_neg (show ¬ argsOf a = 0 from h0), if_pos h2, List.append_assoc]
        rfl
  · rw [if_neg (show ¬ rightK (kindOf a) b c = true from hR), if_neg hR]
    rfl
/-- op.Decode. -/
def decS (s : ByteArray) (a1 : Int) : Int × Int × Int × Int × Int :=
  if a1 < 0 then (0, 0, 0, 0, 1) else if (s.size : Int) < a1 then (0, 0, 0, 0, 1) else if a1 = (s.size : Int) then (0, 0, 0, 0, 2) else
    if argsOf (bt s a1) ≤ 0 then finI (bt s a1) 0 0 (a1 + 1) else
      if (getS s (a1 + 1)).2.2 = 0 then
        (if argsOf (bt s a1) ≤ 1 then finI (bt s a1) (getS s (a1 + 1)).1 0 (getS s (a1 + 1)).2.1 else
          if (getS s (getS s (a1 + 1)).2.1).2.2 = 0 then finI (bt s a1) (getS s (a1 + 1)).1 (getS s (getS s (a1 + 1)).2.1).1 (getS s (getS s (a1 + 1)).2.1).2.1 else (0, 0, 0, 0, (getS s (getS s (a1 + 1)).2.1).2.2))
        else (0, 0, 0, 0, (getS s (a1 + 1)).2.2)
theorem decode_eq (s : ByteArray) (hs : s.size ≤ 1000000) (a1 : Int) {k : Nat} (hk : 13 ≤ k) : op_Decode.f k s a1 = some (decS s a1) := by
  unfold op_Decode.f decS argsOf
  by_cases h0 : a1 < 0
  · rw [if_pos h0, if_pos h0]
  rw [if_neg h0, if_neg h0]
  by_cases h1 : (s.size : Int) < a1
  · rw [if_pos h1, if_pos h1]
  rw [if_neg h1, if_neg h1]
  by_cases h2 : a1 = (s.size : Int)
  · rw [if_pos h2, if_pos h2]
  rw [if_neg h2, if_neg h2]
  rw [show wrap64 (a1 + 1) = a1 + 1 from by unfold wrap64; omega]
  by_cases h3 : (kindOf (bt s a1)).2.1 ≤ 0
  · rw [if_pos h3, if_pos h3]
  rw [if_neg h3, if_neg h3]
  refine Option.bind_eq_some_iff.2 ⟨_, get_eq s (by omega) (a1 + 1) (by omega), ?_⟩
  by_cases h4 : (getS s (a1 + 1)).2.2 = 0
  · rw [if_pos h4, if_pos h4]
    by_cases h5 : (kindOf (bt s a1)).2.1 ≤ 1
    · rw [if_pos h5, if_pos h5]
    · rw [if_neg h5, if_neg h5]
      refine Option.bind_eq_some_iff.2 ⟨_, get_eq s (by omega) _ (by omega), ?_⟩
      by_cases h6 : (getS s (getS s (a1 + 1)).2.1).2.2 = 0
      · rw [if_pos h6, if_pos h6]
      · rw [if_neg h6, if_neg h6]
  · rw [if_neg h4, if_neg h4]

/-- What is put is got. -/
theorem decS_enc {s : ByteArray} {A r : List UInt8} {a b c : Int} (hR : rightI a b c = true) (hb : I64 b) (hc : I64 c) (h : bl s = A ++ encI a b c ++ r) {at_ : Int} (ha : at_ = (A.length : Int)) :
    decS s at_ = (a, b, c, at_ + ((encI a b c).length : Int), 0) := by
  have hr := right_range hR
  obtain ⟨z1, z2⟩ := right_zero hR
  have hlen : s.size = A.length + (encI a b c).length + r.length := by rw [bl_size, h]; simp only [List.length_append]
  have hl := encI_len (a := a) hb hc
  have hbt : bt s at_ = a := by
    have e : bl s = A ++ UInt8.ofNat a.toNat :: (((if argsOf a = 0 then [] else enc (zz b)) ++ (if argsOf a = 2 then enc (zz c) else [])) ++ r) := by
      rw [h]; unfold encI; simp only [List.append_assoc, List.cons_append]
    rw [bt_at_list e ha, toNat_ofNat (by omega)]
    omega
  have hfin : ∀ nx, finI a b c nx = (a, b, c, nx, 0) := fun nx => by unfold finI; rw [if_pos (show rightK (kindOf a) b c = true from hR)]
  unfold decS
  rw [if_neg (by omega), if_neg (by omega), if_neg (by omega), hbt]
  rcases right_argsOf hR with h0 | h0 | h0
  · rw [if_pos (by omega)]
    have hb0 := z1 h0
    have hc0 := z2 (by omega)
    have hl1 : (encI a b c).length = 1 := by unfold encI; rw [if_pos h0, if_neg (by omega)]; rfl
    rw [hl1]
    rw [hb0, hc0] at hfin ⊢
    exact hfin _
  · rw [if_neg (by omega)]
    have e1 : bl s = (A ++ [UInt8.ofNat a.toNat]) ++ enc (zz b) ++ r := by
      rw [h]; unfold encI; rw [if_neg (by omega), if_neg (by omega)]; simp
    have g1 := getS_put hb e1 (at_ := at_ + 1) (by rw [ha]; simp)
    have hl1 : (encI a b c).length = 1 + (enc (zz b)).length := by unfold encI; rw [if_neg (by omega), if_neg (by omega)]; simp; omega
    rw [g1]
    simp only [if_true]
    rw [if_pos (by omega), hl1]
    have hc0 := z2 (by omega)
    rw [hc0] at hfin ⊢
    rw [hfin]
    simp [Int.add_assoc]
  · rw [if_neg (by omega)]
    have e1 : bl s = (A ++ [UInt8.ofNat a.toNat]) ++ enc (zz b) ++ (enc (zz c) ++ r) := by
      rw [h]; unfold encI; rw [if_neg (by omega), if_pos h0]; simp
    have e2 : bl s = (A ++ [UInt8.ofNat a.toNat] ++ enc (zz b)) ++ enc (zz c) ++ r := by rw [e1]; simp
    have g1 := getS_put hb e1 (at_ := at_ + 1) (by rw [ha]; simp)
    have g2 := getS_put hc e2 (at_ := at_ + 1 + ((enc (zz b)).length : Int)) (by rw [ha]; simp; omega)
    have hl1 : (encI a b c).length = 1 + (enc (zz b)).length + (enc (zz c)).length := by unfold encI; rw [if_neg (by omega), if_pos h0]; simp; omega
    rw [g1]
    simp only [if_true]
    rw [if_neg (by omega), g2]
    simp only [if_true]
    rw [hfin, hl1]
    simp [Int.add_assoc]

end Go.Proofs.Ytnfoebbdmekbiaa.OL
