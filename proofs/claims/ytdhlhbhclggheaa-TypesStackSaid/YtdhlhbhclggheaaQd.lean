-- Written by a program of this session (wip/tools: patched print) for this claim. Not trusted: Lean checks it.
import Derived.Test.YtdhlhbhclggheaaQx0
import Derived.Test.YtdhlhbhclggheaaQx5
import Derived.Test.YtdhlhbhclggheaaQx7
import Derived.Test.YtdhlhbhclggheaaQx8
import Derived.Test.YtdhlhbhclggheaaQx9
import Derived.Test.YtdhlhbhclggheaaQx10
namespace Go.Proofs.Ytdhlhbhclggheaa.Q
open Go.RowKit Go.Proofs.Ytdhlhbhclggheaa.P Go.Proofs.Ytdhlhbhclggheaa.D Go.Proofs.YtdhlhbhclggheaaW.PrintWords Go.Proofs.YtdhlhbhclggheaaW.PrintLast Go.Proofs.YtdhlhbhclggheaaW.PrintMore
attribute [local go_sem] max2_int min2_int max_two min_two max_three min_three max_four min_four   -- for this text's walks alone
set_option linter.unusedVariables false
set_option linter.unusedSimpArgs false

/-! ### camshaftref07_Stacks: function 10 -/
mutual
def camshaftref07_Stacks.l0 : Nat → List (S37) → List Int → List ByteArray → List Bool → List Bool → Int → Option (List ByteArray × Int)
  | 0, _, _, _, _, _, _ => none
  | k + 1, x0, x5, x7, x8, x9, x10 => if x10 < (x0.length : Int) then (if 0 ≤ x10 then (if x10 < (x8.length : Int) then (if rdOf false x8 x10 = true then (if x10 < (x9.length : Int) then (if rdOf false x9 x10 = true then (camshaftref07_Stacks.j1 k x0 x5 x7 x8 x9 x10 true) else (if ((rd_T37 x0 x10).f0) = 22 then (if x10 < (x7.length : Int) then (if x10 < (x5.length : Int) then (if 0 ≤ (rd x5 x10) then (if (rd x5 x10) < (x7.length : Int) then (camshaftref07_Stacks.j1 k x0 x5 x7 x8 x9 x10 ((rdOf ByteArray.empty x7 x10).toList != (rdOf ByteArray.empty x7 (rd x5 x10)).toList)) else (none)) else (none)) else (none)) else (none)) else (camshaftref07_Stacks.j1 k x0 x5 x7 x8 x9 x10 false))) else (none)) else (some (([] : List ByteArray), 8))) else (none)) else (none)) else (some (x7, 0))
def camshaftref07_Stacks.j1 : Nat → List (S37) → List Int → List ByteArray → List Bool → List Bool → Int → Bool → Option (List ByteArray × Int)
  | 0, _, _, _, _, _, _, _ => none
  | k + 1, x0, x5, x7, x8, x9, x10, x73 => if x73 = true then (some (([] : List ByteArray), 10)) else (if 0 ≤ x10 then (if x10 < (x7.length : Int) then (if x10 < (x0.length : Int) then ((camshaftref07_Takes.f k ((rd_T37 x0 x10).f0) ((rd_T37 x0 x10).f1) ((rd_T37 x0 x10).f2)).bind fun t255 => (if (wrap64 (((rdOf ByteArray.empty x7 x10).size : Int) - (t255.size : Int))) < 0 then (some (([] : List ByteArray), 9)) else (if 0 ≤ (wrap64 (((rdOf ByteArray.empty x7 x10).size : Int) - (t255.size : Int))) then (if (wrap64 (((rdOf ByteArray.empty x7 x10).size : Int) - (t255.size : Int))) ≤ ((rdOf ByteArray.empty x7 x10).size : Int) then ((camshaftref07_Takes.f k ((rd_T37 x0 x10).f0) ((rd_T37 x0 x10).f1) ((rd_T37 x0 x10).f2)).bind fun t258 => ((camshaftref07_fits.f k ((rdOf ByteArray.empty x7 x10).extract ((wrap64 (((rdOf ByteArray.empty x7 x10).size : Int) - (t255.size : Int))) : Int).toNat (rdOf ByteArray.empty x7 x10).size) t258).bind fun t259 => (if t259 = true then ((camshaftref07_Gives.f k ((rd_T37 x0 x10).f0) ((rd_T37 x0 x10).f1) ((rd_T37 x0 x10).f2) ((rdOf ByteArray.empty x7 x10).extract ((wrap64 (((rdOf ByteArray.empty x7 x10).size : Int) - (t255.size : Int))) : Int).toNat (rdOf ByteArray.empty x7 x10).size)).bind fun t262 => (if ((rdOf ByteArray.empty x7 x10).extract 0 ((wrap64 (((rdOf ByteArray.empty x7 x10).size : Int) - (t255.size : Int))) : Int).toNat).size + t262.size ≤ 9223372036854775807 then (if ((((rdOf ByteArray.empty x7 x10).extract 0 ((wrap64 (((rdOf ByteArray.empty x7 x10).size : Int) - (t255.size : Int))) : Int).toNat) ++ t262).size : Int) > 16 then (some (([] : List ByteArray), 9)) else ((camshaftref07_nexts.f x0 x10).bind fun t263 => (camshaftref07_Stacks.l1 k x0 x5 x7 x8 x9 x10 (((rdOf ByteArray.empty x7 x10).extract 0 ((wrap64 (((rdOf ByteArray.empty x7 x10).size : Int) - (t255.size : Int))) : Int).toNat) ++ t262) t263 0))) else (none))) else (some (([] : List ByteArray), 10))))) else (none)) else (none)))) else (none)) else (none)) else (none))
def camshaftref07_Stacks.l1 : Nat → List (S37) → List Int → List ByteArray → List Bool → List Bool → Int → ByteArray → List Int → Int → Option (List ByteArray × Int)
  | 0, _, _, _, _, _, _, _, _, _ => none
  | k + 1, x0, x5, x7, x8, x9, x10, x13, x14, x15 => if x15 < (x14.length : Int) then (if 0 ≤ x15 then (if 0 ≤ (rd x14 x15) then (if (rd x14 x15) < (x9.length : Int) then (if rdOf false x9 (rd x14 x15) = true then (if (rd x14 x15) < (x8.length : Int) then (if (rd x14 x15) < (x7.length : Int) then (camshaftref07_Stacks.l1 k x0 x5 (x7.set ((rd x14 x15) : Int).toNat x13) (x8.set ((rd x14 x15) : Int).toNat true) (x9.set ((rd x14 x15) : Int).toNat true) x10 x13 x14 (wrap64 (x15 + 1))) else (none)) else (none)) else (if (rd x14 x15) < (x8.length : Int) then (if rdOf false x8 (rd x14 x15) = true then (if (rd x14 x15) < (x7.length : Int) then (camshaftref07_Stacks.l1 k x0 x5 (x7.set ((rd x14 x15) : Int).toNat x13) (x8.set ((rd x14 x15) : Int).toNat true) (x9.set ((rd x14 x15) : Int).toNat ((rdOf ByteArray.empty x7 (rd x14 x15)).toList != x13.toList)) x10 x13 x14 (wrap64 (x15 + 1))) else (none)) else (if (rd x14 x15) < (x7.length : Int) then (camshaftref07_Stacks.l1 k x0 x5 (x7.set ((rd x14 x15) : Int).toNat x13) (x8.set ((rd x14 x15) : Int).toNat true) (x9.set ((rd x14 x15) : Int).toNat false) x10 x13 x14 (wrap64 (x15 + 1))) else (none))) else (none))) else (none)) else (none)) else (none)) else (camshaftref07_Stacks.l0 k x0 x5 x7 x8 x9 (wrap64 (x10 + 1)))
end
def camshaftref07_Stacks.f (k : Nat) (l0 : List (S37)) : Option (List ByteArray × Int) := (camshaftref06_Whole.f k l0).bind fun t232 => (if t232 = 0 then ((camshaftref06_Match.f k l0).bind fun bt233 => (if 0 ≤ (l0.length : Int) then (if ((l0.length : Int) : Int).toNat ≤ 17592186044416 then (if ((l0.length : Int) : Int).toNat ≤ 281474976710656 then ((some (List.replicate ((l0.length : Int) : Int).toNat false : List Bool)).bind fun y240 => (if 0 < (y240.length : Int) then (camshaftref07_Stacks.l0 k l0 bt233.1 (List.replicate ((l0.length : Int) : Int).toNat (⟨#[]⟩ : ByteArray)) (y240.set (0 : Int).toNat true) (List.replicate ((l0.length : Int) : Int).toNat false) 0) else (none))) else (none)) else (none)) else (none))) else (some (([] : List ByteArray), t232)))
theorem camshaftref07_Stacks.mono_l : ∀ k, (∀ y0 y1 y2 y3 y4 y5, LeO (camshaftref07_Stacks.l0 k y0 y1 y2 y3 y4 y5) (camshaftref07_Stacks.l0 (k + 1) y0 y1 y2 y3 y4 y5)) ∧ (∀ y0 y1 y2 y3 y4 y5 y6, LeO (camshaftref07_Stacks.j1 k y0 y1 y2 y3 y4 y5 y6) (camshaftref07_Stacks.j1 (k + 1) y0 y1 y2 y3 y4 y5 y6)) ∧ (∀ y0 y1 y2 y3 y4 y5 y6 y7 y8, LeO (camshaftref07_Stacks.l1 k y0 y1 y2 y3 y4 y5 y6 y7 y8) (camshaftref07_Stacks.l1 (k + 1) y0 y1 y2 y3 y4 y5 y6 y7 y8))
  | 0 => ⟨fun _ _ _ _ _ _ r h => by simp [camshaftref07_Stacks.l0] at h, fun _ _ _ _ _ _ _ r h => by simp [camshaftref07_Stacks.j1] at h, fun _ _ _ _ _ _ _ _ _ r h => by simp [camshaftref07_Stacks.l1] at h⟩
  | k + 1 => by
    obtain ⟨ih0, ih1, ih2⟩ := camshaftref07_Stacks.mono_l k
    refine ⟨?_, ?_, ?_⟩
    · intro y0 y1 y2 y3 y4 y5
      unfold camshaftref07_Stacks.l0
      repeat' first
      | (with_reducible exact ih0 _ _ _ _ _ _)
      | (with_reducible exact ih1 _ _ _ _ _ _ _)
      | (with_reducible exact ih2 _ _ _ _ _ _ _ _ _)
      | (with_reducible exact camshaftref06_Match.mono _ _)
      | (with_reducible exact camshaftref06_Whole.mono _ _)
      | (with_reducible exact camshaftref07_Gives.mono _ _ _ _ _)
      | (with_reducible exact camshaftref07_Takes.mono _ _ _ _)
      | (with_reducible exact camshaftref07_fits.mono _ _ _)
      | (with_reducible exact LeO.refl _)
      | (with_reducible exact LeO.none _)
      | (with_reducible refine LeO.ite ?_ ?_)
      | (with_reducible refine LeO.bind ?_ (fun _ => ?_))
      | exact ih0 _ _ _ _ _ _
      | exact ih1 _ _ _ _ _ _ _
      | exact ih2 _ _ _ _ _ _ _ _ _
      | exact camshaftref06_Match.mono _ _
      | exact camshaftref06_Whole.mono _ _
      | exact camshaftref07_Gives.mono _ _ _ _ _
      | exact camshaftref07_Takes.mono _ _ _ _
      | exact camshaftref07_fits.mono _ _ _
      | exact LeO.none _
      | refine LeO.ite ?_ ?_
      | refine LeO.bind ?_ (fun _ => ?_)
    · intro y0 y1 y2 y3 y4 y5 y6
      unfold camshaftref07_Stacks.j1
      repeat' first
      | (with_reducible exact ih0 _ _ _ _ _ _)
      | (with_reducible exact ih1 _ _ _ _ _ _ _)
      | (with_reducible exact ih2 _ _ _ _ _ _ _ _ _)
      | (with_reducible exact camshaftref06_Match.mono _ _)
      | (with_reducible exact camshaftref06_Whole.mono _ _)
      | (with_reducible exact camshaftref07_Gives.mono _ _ _ _ _)
      | (with_reducible exact camshaftref07_Takes.mono _ _ _ _)
      | (with_reducible exact camshaftref07_fits.mono _ _ _)
      | (with_reducible exact LeO.refl _)
      | (with_reducible exact LeO.none _)
      | (with_reducible refine LeO.ite ?_ ?_)
      | (with_reducible refine LeO.bind ?_ (fun _ => ?_))
      | exact ih0 _ _ _ _ _ _
      | exact ih1 _ _ _ _ _ _ _
      | exact ih2 _ _ _ _ _ _ _ _ _
      | exact camshaftref06_Match.mono _ _
      | exact camshaftref06_Whole.mono _ _
      | exact camshaftref07_Gives.mono _ _ _ _ _
      | exact camshaftref07_Takes.mono _ _ _ _
      | exact camshaftref07_fits.mono _ _ _
      | exact LeO.none _
      | refine LeO.ite ?_ ?_
      | refine LeO.bind ?_ (fun _ => ?_)
    · intro y0 y1 y2 y3 y4 y5 y6 y7 y8
      unfold camshaftref07_Stacks.l1
      repeat' first
      | (with_reducible exact ih0 _ _ _ _ _ _)
      | (with_reducible exact ih1 _ _ _ _ _ _ _)
      | (with_reducible exact ih2 _ _ _ _ _ _ _ _ _)
      | (with_reducible exact camshaftref06_Match.mono _ _)
      | (with_reducible exact camshaftref06_Whole.mono _ _)
      | (with_reducible exact camshaftref07_Gives.mono _ _ _ _ _)
      | (with_reducible exact camshaftref07_Takes.mono _ _ _ _)
      | (with_reducible exact camshaftref07_fits.mono _ _ _)
      | (with_reducible exact LeO.refl _)
      | (with_reducible exact LeO.none _)
      | (with_reducible refine LeO.ite ?_ ?_)
      | (with_reducible refine LeO.bind ?_ (fun _ => ?_))
      | exact ih0 _ _ _ _ _ _
      | exact ih1 _ _ _ _ _ _ _
      | exact ih2 _ _ _ _ _ _ _ _ _
      | exact camshaftref06_Match.mono _ _
      | exact camshaftref06_Whole.mono _ _
      | exact camshaftref07_Gives.mono _ _ _ _ _
      | exact camshaftref07_Takes.mono _ _ _ _
      | exact camshaftref07_fits.mono _ _ _
      | exact LeO.none _
      | refine LeO.ite ?_ ?_
      | refine LeO.bind ?_ (fun _ => ?_)
theorem camshaftref07_Stacks.mono : ∀ a0 k, LeO (camshaftref07_Stacks.f k a0) (camshaftref07_Stacks.f (k + 1) a0) := by
  intro a0 k
  obtain ⟨ih0, ih1, ih2⟩ := camshaftref07_Stacks.mono_l k
  unfold camshaftref07_Stacks.f
  repeat' first
      | (with_reducible exact ih0 _ _ _ _ _ _)
      | (with_reducible exact ih1 _ _ _ _ _ _ _)
      | (with_reducible exact ih2 _ _ _ _ _ _ _ _ _)
      | (with_reducible exact camshaftref06_Match.mono _ _)
      | (with_reducible exact camshaftref06_Whole.mono _ _)
      | (with_reducible exact camshaftref07_Gives.mono _ _ _ _ _)
      | (with_reducible exact camshaftref07_Takes.mono _ _ _ _)
      | (with_reducible exact camshaftref07_fits.mono _ _ _)
      | (with_reducible exact LeO.refl _)
      | (with_reducible exact LeO.none _)
      | (with_reducible refine LeO.ite ?_ ?_)
      | (with_reducible refine LeO.bind ?_ (fun _ => ?_))
      | exact ih0 _ _ _ _ _ _
      | exact ih1 _ _ _ _ _ _ _
      | exact ih2 _ _ _ _ _ _ _ _ _
      | exact camshaftref06_Match.mono _ _
      | exact camshaftref06_Whole.mono _ _
      | exact camshaftref07_Gives.mono _ _ _ _ _
      | exact camshaftref07_Takes.mono _ _ _ _
      | exact camshaftref07_fits.mono _ _ _
      | exact LeO.none _
      | refine LeO.ite ?_ ?_
      | refine LeO.bind ?_ (fun _ => ?_)
end Go.Proofs.Ytdhlhbhclggheaa.Q
