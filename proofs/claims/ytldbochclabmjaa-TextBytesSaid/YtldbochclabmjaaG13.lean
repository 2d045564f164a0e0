/- The contracts that the printed functions call, without a count of rounds: text.Line, text.Number. -/
import Derived.Test.YtldbochclabmjaaG8
import Derived.Test.YtldbochclabmjaaG12
namespace Go.Proofs.Ytldbochclabmjaa.P
open Go.RowKit Go.Proofs.Ytldbochclabmjaa.C Go.Proofs.YtldbochclabmjaaW.PrintWords Go.Proofs.YtldbochclabmjaaW.PrintLast Go.Proofs.YtldbochclabmjaaW.PrintMore
set_option linter.unusedVariables false
set_option linter.unusedSimpArgs false

def text_Number.f (a0 : ByteArray) : Option (Int × Int) := if a0.size ≤ 9223372036854775807 then some (numberS a0) else none
theorem text_Number.calls (a0 : ByteArray) (r1 : Int) (r2 : Int) (w : World) (h : text_Number.f a0 = some (r1, r2)) :
    Calls Try.prog 17 #[.string a0] w fun e w' => e = .returned (.tuple #[.int .i64 r1, .int .i64 r2]) ∧ Below w.heap.size w w' := by
  unfold text_Number.f at h
  by_cases hs : a0.size ≤ 9223372036854775807
  · rw [if_pos hs] at h
    have e := Option.some.inj h
    have := number_calls a0 hs w
    rw [e] at this
    exact this
  · rw [if_neg hs] at h; cases h
/-- An instruction's line. -/
def lineL (a b c : Int) : List UInt8 :=
  if rightK (kindOf a) b c = true then bl (kindOf a).1 ++ ((if (kindOf a).2.1 = 0 then [] else 32 :: digL b) ++ ((if (kindOf a).2.1 = 2 then 32 :: digL c else []) ++ [10])) else []
theorem name_size (a : Int) : (kindOf a).1.size ≤ 6 := by
  by_cases h : 1 ≤ a ∧ a ≤ 25
  · rcases op_cases h.1 h.2 with rfl | rfl | rfl | rfl | rfl | rfl | rfl | rfl | rfl | rfl | rfl | rfl | rfl | rfl | rfl | rfl | rfl | rfl | rfl | rfl | rfl | rfl | rfl | rfl | rfl <;> decide
  · unfold kindOf; rw [if_neg h]; decide
theorem lineK_eq (a b c : Int) (hb : I64 b) (hc : I64 c) (k : Nat) : lineK.f (k + 21) a b c = some (ofL (lineL a b c)) := by
  have hn := name_size a
  have lb := digL_len b
  have lc := digL_len c
  have s10 : (strOfNums [10]).size = 1 := rfl
  have s32 : (strOfNums [32]).size = 1 := rfl
  have zb : (digS b).size ≤ 21 := by rw [bl_size]; exact lb
  have zc : (digS c).size ≤ 21 := by rw [bl_size]; exact lc
  unfold lineK.f lineL
  by_cases hR : rightK (kindOf a) b c = true
  · rw [if_pos hR, if_pos hR]
    by_cases h0 : (kindOf a).2.1 = 0
    · rw [if_pos h0, if_pos h0, if_neg (by rw [h0]; decide)]
      unfold lineEnd
      rw [if_pos (by omega)]
      exact congrArg some (bl_inj (by rw [bl_app, bl_ofL]; rfl))
    · rw [if_neg h0, if_neg h0]
      unfold lineMore
      rw [digits_eq b hb, Option.bind_some, if_pos (by omega), if_pos (by rw [ByteArray.size_append]; omega)]
      dsimp only
      by_cases h1 : (kindOf a).2.1 = 1
      · rw [if_pos h1, if_neg (by rw [h1]; decide)]
        unfold lineEnd
        rw [if_pos (by simp only [ByteArray.size_append]; omega)]
        refine congrArg some (bl_inj ?_)
        rw [bl_app, bl_app, bl_app, bl_ofL, List.append_assoc]
        rfl
      · have h2 : (kindOf a).2.1 = 2 := by
          rcases right_argsL hR with h' | h' | h'
          · exact absurd h' h0
          · exact absurd h' h1
          · exact h'
        rw [if_neg h1, if_pos h2, digits_eq c hc, Option.bind_some, if_pos (by omega), if_pos (by simp only [ByteArray.size_append]; omega)]
        unfold lineEnd
        rw [if_pos (by simp only [ByteArray.size_append]; omega)]
        refine congrArg some (bl_inj ?_)
        simp only [bl_app, bl_ofL, List.append_assoc]
        rfl
  · rw [if_neg hR, if_neg hR]
    rfl
instance (n : Int) : Decidable (I64 n) := by unfold I64; infer_instance
def text_Line.f (a0_0 : Int) (a0_1 : Int) (a0_2 : Int) : Option (ByteArray) := if I64 a0_1 ∧ I64 a0_2 then some (ofL (lineL a0_0 a0_1 a0_2)) else none
theorem text_Line.calls (a0_0 : Int) (a0_1 : Int) (a0_2 : Int) (r : ByteArray) (w : World) (h : text_Line.f a0_0 a0_1 a0_2 = some r) :
    Calls Try.prog 11 #[.agg #[.int .i64 a0_0, .int .i64 a0_1, .int .i64 a0_2]] w fun e w' => e = .returned (.string r) ∧ Below w.heap.size w w' := by
  unfold text_Line.f at h
  by_cases hs : I64 a0_1 ∧ I64 a0_2
  · rw [if_pos hs] at h
    exact lineK.calls 21 a0_0 a0_1 a0_2 r w ((lineK_eq _ _ _ hs.1 hs.2 0).trans h)
  · rw [if_neg hs] at h; cases h

end Go.Proofs.Ytldbochclabmjaa.P
