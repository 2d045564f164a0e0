/- The reference's Takes, fits and Gives answer what the program's do. No conditions beyond those that each lemma states. -/
import Derived.Test.YtdhlhbhclggheaaTF
import Derived.Test.YtdhlhbhclggheaaNR7
import Derived.Test.YtdhlhbhclggheaaQx8
import Derived.Test.YtdhlhbhclggheaaQx9
namespace Go.Proofs.Ytdhlhbhclggheaa.NL
open Go.RowKit Go.Proofs.Ytdhlhbhclggheaa.P Go.Proofs.Ytdhlhbhclggheaa.D Go.Proofs.Ytdhlhbhclggheaa.Q Go.Proofs.YtdhlhbhclggheaaW.PrintWords Go.Proofs.YtdhlhbhclggheaaW.PrintLast Go.Proofs.YtdhlhbhclggheaaW.PrintMore
set_option linter.unusedVariables false
set_option linter.unusedSimpArgs false

theorem cases25 {a : Int} (h1 : 1 ≤ a) (h2 : a ≤ 25) : a = 1 ∨ a = 2 ∨ a = 3 ∨ a = 4 ∨ a = 5 ∨ a = 6 ∨ a = 7 ∨ a = 8 ∨ a = 9 ∨ a = 10 ∨ a = 11 ∨ a = 12 ∨ a = 13 ∨ a = 14 ∨ a = 15 ∨ a = 16 ∨ a = 17 ∨ a = 18 ∨ a = 19 ∨ a = 20 ∨ a = 21 ∨ a = 22 ∨ a = 23 ∨ a = 24 ∨ a = 25 := by omega
theorem rtakes_eq {a b c : Int} (hb : I64 b) {k : Nat} : camshaftref07_Takes.f (k + 4) a b c = some (takesS a b c) := by
  unfold camshaftref07_Takes.f takesS
  rw [rright_eq hb, Option.bind_some]
  show (if rightI a b c = true then _ else _) = some (if rightI a b c = true then _ else _)
  by_cases h : rightI a b c = true
  · rw [if_pos h, if_pos h]
    obtain ⟨h1, h2⟩ := right_range h
    clear h hb
    rcases cases25 h1 h2 with rfl | rfl | rfl | rfl | rfl | rfl | rfl | rfl | rfl | rfl | rfl | rfl | rfl | rfl | rfl | rfl | rfl | rfl | rfl | rfl | rfl | rfl | rfl | rfl | rfl <;> kernel_rfl
  · rw [if_neg h, if_neg h]; rfl
theorem takes_le (a b c : Int) : (takesS a b c).size ≤ 2 := by
  unfold takesS
  split
  · unfold tkS keyE
    split
    · decide
    · rename_i e he
      (repeat' split at he) <;> first | (obtain rfl := Option.some.inj he; decide) | cases he
  · decide
theorem rfits_l0 (t u : ByteArray) (hn : u.size ≤ 1000) (he : t.size = u.size) : ∀ (f i k : Nat), i + f = u.size → f + 1 ≤ k → camshaftref07_fits.l0 k t u (i : Int) = some (fitsFrom t u f (i : Int)) := by
  intro f
  induction f with
  | zero =>
    intro i k hi hk
    obtain ⟨k, rfl⟩ : ∃ m, k = m + 1 := ⟨k - 1, by omega⟩
    simp only [camshaftref07_fits.l0, fitsFrom]
    rw [if_neg (by omega)]
  | succ f ih =>
    intro i k hi hk
    obtain ⟨k, rfl⟩ : ∃ m, k = m + 1 := ⟨k - 1, by omega⟩
    simp only [camshaftref07_fits.l0, fitsFrom]
    rw [if_pos (by omega), if_pos (by omega), show wrap64 ((i : Int) + 1) = ((i + 1 : Nat) : Int) from by unfold wrap64; omega, ih (i + 1) k (by omega) (by omega), show ((i + 1 : Nat) : Int) = (i : Int) + 1 from by omega]
    have hit : (i : Int) < (t.size : Int) := by omega
    by_cases h32 : bt u (i : Int) = 32
    · rw [if_pos h32, if_pos h32]
    · rw [if_neg h32, if_neg h32, if_pos hit]
      by_cases h2 : bt u (i : Int) = bt t (i : Int)
      · rw [if_pos h2, if_pos h2]
      · rw [if_neg h2, if_neg h2]
theorem rfits_eq (t u : ByteArray) (hn : u.size ≤ 1000) {k : Nat} (hk : u.size + 1 ≤ k) : camshaftref07_fits.f k t u = some (fitsS t u) := by
  unfold camshaftref07_fits.f fitsS
  by_cases h : t.size = u.size
  · have := rfits_l0 t u hn h u.size 0 k (by omega) hk
    rw [Int.natCast_zero] at this
    rw [if_pos (by omega), this, decide_eq_true h, Bool.true_and]
  · rw [if_neg (by omega), decide_eq_false h]
    rfl
theorem fits_size {t u : ByteArray} (h : fitsS t u = true) : t.size = u.size := by
  unfold fitsS at h
  rw [Bool.and_eq_true] at h
  exact of_decide_eq_true h.1
theorem right_two {b c : Int} (h : rightI 5 b c = true) : 1 ≤ b ∧ b ≤ 12 := by
  have : rightI 5 b c = (inB 1 12 b && decide (c = 0)) := rfl
  rw [this] at h
  simp [inB] at h
  omega
theorem rgives_eq {a b c : Int} (hb : I64 b) (took : ByteArray) (ht : took.size ≤ 1000) {k : Nat} : camshaftref07_Gives.f (k + 10) a b c took = some (givesS a b c took) := by
  unfold camshaftref07_Gives.f
  rw [rright_eq (k := k + 6) hb, Option.bind_some]
  by_cases h : rightI a b c = true
  · rw [if_pos h, rtakes_eq (k := k + 6) hb, Option.bind_some, rfits_eq _ _ (by have := takes_le a b c; omega) (by have := takes_le a b c; omega), Option.bind_some]
    have hk : rightK (kindOf a) b c = true := h
    have e1 : takesS a b c = tkS (keyE a) := if_pos hk
    by_cases hf : fitsS took (takesS a b c) = true
    · have hz := fits_size hf
      have h2 : a = 5 → 1 ≤ b ∧ b ≤ 12 := fun e => right_two (by rw [← e]; exact h)
      obtain ⟨r1, r2⟩ := right_range h
      have hg : givesS a b c took = match keyE a with
        | none => ByteArray.empty
        | some e => resS b e.2 took := by
        unfold givesS
        cases hke : keyE a with
        | none => rfl
        | some e =>
          rw [e1, hke] at hf
          exact (if_pos hk).trans (if_pos hf)
      rw [hg, hf]
      rw [e1] at hz
      clear h hb hk e1 hf hg
      rcases cases25 r1 r2 with rfl | rfl | rfl | rfl | rfl | rfl | rfl | rfl | rfl | rfl | rfl | rfl | rfl | rfl | rfl | rfl | rfl | rfl | rfl | rfl | rfl | rfl | rfl | rfl | rfl
      case inr.inr.inl =>
        show (if took.size + took.size ≤ 9223372036854775807 then some (took ++ took) else none) = _
        rw [if_pos (by omega)]; rfl
      case inr.inr.inr.inl =>
        have hz2 : took.size = 2 := hz
        show (if 1 ≤ (took.size : Int) then (if 0 ≤ 1 then (if (took.extract 1 took.size).size + (took.extract 0 1).size ≤ 9223372036854775807 then some (took.extract 1 took.size ++ took.extract 0 1) else none) else none) else none) = _
        rw [if_pos (by omega), if_pos (by decide), if_pos (by simp only [ByteArray.size_extract]; omega)]; rfl
      case inr.inr.inr.inr.inl =>
        have hb2 := h2 rfl
        show (if b ≥ 11 then some (⟨#[98]⟩ : ByteArray) else some (⟨#[105]⟩ : ByteArray)) = some (twoS b)
        unfold twoS
        by_cases h11 : b ≥ 11
        · rw [if_pos h11, if_pos (by omega)]; rfl
        · rw [if_neg h11, if_neg (by omega)]; rfl
      all_goals rfl
    · have hg : givesS a b c took = ByteArray.empty := by
        unfold givesS
        cases hke : keyE a with
        | none => rfl
        | some e =>
          rw [e1, hke] at hf
          exact (if_pos hk).trans (if_neg hf)
      rw [hg, show fitsS took (takesS a b c) = false from by simpa using hf]
      rfl
  · rw [if_neg h]
    have hg : givesS a b c took = ByteArray.empty := by
      unfold givesS
      cases hke : keyE a with
      | none => rfl
      | some e => exact if_neg h
    rw [hg]
    rfl
end Go.Proofs.Ytdhlhbhclggheaa.NL
