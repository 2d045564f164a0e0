/- text.Line's contract, in the print's form: an instruction's line; for every instruction. No conditions. -/
import Derived.Test.YtldbochclabmjaaG7
namespace Go.Proofs.Ytldbochclabmjaa.P
open Go.RowKit Go.Proofs.Ytldbochclabmjaa.C Go.Proofs.YtldbochclabmjaaW.PrintWords Go.Proofs.YtldbochclabmjaaW.PrintLast Go.Proofs.YtldbochclabmjaaW.PrintMore
set_option linter.unusedVariables false
set_option linter.unusedSimpArgs false

/-- A line behind a text that is begun: one number more; the end. -/
def lineEnd (s : ByteArray) : Option ByteArray := if s.size + (strOfNums [10]).size ≤ 9223372036854775807 then some (s ++ strOfNums [10]) else none
def lineMore (k : Nat) (s : ByteArray) (n : Int) (f : ByteArray → Option ByteArray) : Option ByteArray :=
  (text_digits.f k n).bind fun d => if (strOfNums [32]).size + d.size ≤ 9223372036854775807 then (if s.size + (strOfNums [32] ++ d).size ≤ 9223372036854775807 then f (s ++ (strOfNums [32] ++ d)) else none) else none
def lineK.f (k : Nat) (a0_0 : Int) (a0_1 : Int) (a0_2 : Int) : Option (ByteArray) :=
  if rightK (kindOf a0_0) a0_1 a0_2 = true then
    (if (kindOf a0_0).2.1 = 0 then lineEnd (kindOf a0_0).1 else
      lineMore k (kindOf a0_0).1 a0_1 fun s => if (kindOf a0_0).2.1 = 1 then lineEnd s else lineMore k s a0_2 lineEnd)
  else some (⟨#[]⟩ : ByteArray)
theorem lineMore.mono (s : ByteArray) (n : Int) (k : Nat) {f g : ByteArray → Option ByteArray} (h : ∀ x, LeO (f x) (g x)) : LeO (lineMore k s n f) (lineMore (k + 1) s n g) := by
  unfold lineMore
  refine LeO.bind (text_digits.mono _ _) (fun d => ?_)
  refine LeO.ite ?_ (LeO.refl _)
  exact LeO.ite (h _) (LeO.refl _)
theorem lineK.mono : ∀ a0 a1 a2 k, LeO (lineK.f k a0 a1 a2) (lineK.f (k + 1) a0 a1 a2) := by
  intro a0 a1 a2 k
  unfold lineK.f
  refine LeO.ite ?_ (LeO.refl _)
  refine LeO.ite (LeO.refl _) ?_
  refine lineMore.mono _ _ k (fun s => ?_)
  exact LeO.ite (LeO.refl _) (lineMore.mono _ _ k (fun s => LeO.refl _))
theorem right_argsL {a b c : Int} (h : rightK (kindOf a) b c = true) : (kindOf a).2.1 = 0 ∨ (kindOf a).2.1 = 1 ∨ (kindOf a).2.1 = 2 := by
  unfold rightK at h
  split at h
  · exact .inl ‹_›
  · split at h
    · exact .inr (.inl ‹_›)
    · split at h
      · exact .inr (.inr ‹_›)
      · cases h
theorem lineEnd_some {s r : ByteArray} (h : lineEnd s = some r) : s.size + (strOfNums [10]).size ≤ 9223372036854775807 ∧ r = s ++ strOfNums [10] := by
  unfold lineEnd at h
  by_cases h1 : s.size + (strOfNums [10]).size ≤ 9223372036854775807
  · rw [if_pos h1] at h
    exact ⟨h1, (Option.some.inj h).symm⟩
  · rw [if_neg h1] at h; cases h
theorem lineMore_some {k : Nat} {s r : ByteArray} {n : Int} {f : ByteArray → Option ByteArray} (h : lineMore k s n f = some r) :
    ∃ d, text_digits.f k n = some d ∧ (strOfNums [32]).size + d.size ≤ 9223372036854775807 ∧ s.size + (strOfNums [32] ++ d).size ≤ 9223372036854775807 ∧ f (s ++ (strOfNums [32] ++ d)) = some r := by
  unfold lineMore at h
  obtain ⟨d, h1, h⟩ := Option.bind_eq_some_iff.1 h
  by_cases h2 : (strOfNums [32]).size + d.size ≤ 9223372036854775807
  · rw [if_pos h2] at h
    by_cases h3 : s.size + (strOfNums [32] ++ d).size ≤ 9223372036854775807
    · rw [if_pos h3] at h
      exact ⟨d, h1, h2, h3, h⟩
    · rw [if_neg h3] at h; cases h
  · rw [if_neg h2] at h; cases h
theorem lineK.calls (k : Nat) (a0_0 : Int) (a0_1 : Int) (a0_2 : Int) (r : ByteArray) (w : World) (h : lineK.f k a0_0 a0_1 a0_2 = some r) :
    Calls Try.prog 11 #[.agg #[.int .i64 a0_0, .int .i64 a0_1, .int .i64 a0_2]] w fun e w' => e = .returned (.string r) ∧ Below w.heap.size w w' := by
  unfold lineK.f at h
  by_cases hR : rightK (kindOf a0_0) a0_1 a0_2 = true
  · have hR' : op_Right.f a0_0 a0_1 a0_2 = some true := congrArg some hR
    rw [if_pos hR] at h
    by_cases h0 : (kindOf a0_0).2.1 = 0
    · rw [if_pos h0] at h
      obtain ⟨z, rfl⟩ := lineEnd_some h
      exact line_0 a0_0 a0_1 a0_2 _ w hR' rfl (congrArg some h0) z
    · rw [if_neg h0] at h
      obtain ⟨d1, P1, hs1, ht1, h⟩ := lineMore_some h
      by_cases h1 : (kindOf a0_0).2.1 = 1
      · rw [if_pos h1] at h
        obtain ⟨z, rfl⟩ := lineEnd_some h
        exact line_1 k a0_0 a0_1 a0_2 _ w hR' rfl (congrArg some h1) d1 ⟨P1⟩ hs1 ht1 z
      · rw [if_neg h1] at h
        obtain ⟨d2, P2, hs2, ht2, h⟩ := lineMore_some h
        have h2 : (kindOf a0_0).2.1 = 2 := by
          rcases right_argsL hR with h' | h' | h'
          · exact absurd h' h0
          · exact absurd h' h1
          · exact h'
        obtain ⟨z, rfl⟩ := lineEnd_some h
        exact line_2 k a0_0 a0_1 a0_2 _ w hR' rfl (congrArg some h2) d1 ⟨P1⟩ hs1 ht1 d2 ⟨P2⟩ hs2 ht2 z
  · rw [if_neg hR] at h
    obtain rfl := Option.some.inj h
    exact line_no a0_0 a0_1 a0_2 w (congrArg some (by cases hh : rightK (kindOf a0_0) a0_1 a0_2 <;> simp_all))

end Go.Proofs.Ytldbochclabmjaa.P
