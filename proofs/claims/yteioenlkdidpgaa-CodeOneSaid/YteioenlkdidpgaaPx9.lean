-- Written by a program of this session (wip/tools: patched print) for this claim. Not trusted: Lean checks it.
import Derived.Test.YteioenlkdidpgaaPx0
import Derived.Test.YteioenlkdidpgaaPx1
import Derived.Test.YteioenlkdidpgaaPx4
namespace Go.Proofs.Yteioenlkdidpgaa.P
open Go.RowKit Go.Proofs.YteioenlkdidpgaaW.PrintWords Go.Proofs.YteioenlkdidpgaaW.PrintLast Go.Proofs.YteioenlkdidpgaaW.PrintMore
attribute [local go_sem] max2_int min2_int max_two min_two max_three min_three max_four min_four   -- for this text's walks alone
set_option linter.unusedVariables false
set_option linter.unusedSimpArgs false

/-! ### camshaftlaw02_CodeSizes: function 6 -/
def camshaftlaw02_CodeSizes.f (k : Nat) (a0 : Int) (a1 : Int) (a2 : Int) : Option (Bool) := if 0 ≤ (wrap64 (6 + (wrap64 (7 * (Int.tmod (wrap64 (a2)) 8))))) then (if (mx a0 (wrap64 (-(wrap64 (a0 + 1))))) > (mx a1 (wrap64 (-(wrap64 (a1 + 1))))) then ((code_Size.f k a0).bind fun t236 => (if t236 ≥ 1 then ((code_Size.f k a0).bind fun t237 => (if t237 ≤ 10 then ((code_Size.f k (shl .i64 1 (wrap64 (6 + (wrap64 (7 * (Int.tmod (wrap64 (a2)) 8))))))).bind fun t238 => ((code_Size.f k (wrap64 ((shl .i64 1 (wrap64 (6 + (wrap64 (7 * (Int.tmod (wrap64 (a2)) 8)))))) - 1))).bind fun t239 => (if t238 = (wrap64 (t239 + 1)) then ((code_Size.f k (wrap64 (-(shl .i64 1 (wrap64 (6 + (wrap64 (7 * (Int.tmod (wrap64 (a2)) 8))))))))).bind fun t240 => ((code_Size.f k (wrap64 ((shl .i64 1 (wrap64 (6 + (wrap64 (7 * (Int.tmod (wrap64 (a2)) 8)))))) - 1))).bind fun t241 => (if t240 = t241 then ((code_Put.f k a0).bind fun t242 => ((code_Size.f k a0).bind fun t243 => (if (t242.size : Int) = t243 then ((camshaftlaw02_known.f k).bind fun t244 => (some t244)) else (some false)))) else (some false)))) else (some false)))) else (some false))) else (some false))) else ((code_Size.f k a0).bind fun t245 => ((code_Size.f k a1).bind fun t246 => (if t245 ≤ t246 then ((code_Size.f k a0).bind fun t247 => (if t247 ≥ 1 then ((code_Size.f k a0).bind fun t248 => (if t248 ≤ 10 then ((code_Size.f k (shl .i64 1 (wrap64 (6 + (wrap64 (7 * (Int.tmod (wrap64 (a2)) 8))))))).bind fun t249 => ((code_Size.f k (wrap64 ((shl .i64 1 (wrap64 (6 + (wrap64 (7 * (Int.tmod (wrap64 (a2)) 8)))))) - 1))).bind fun t250 => (if t249 = (wrap64 (t250 + 1)) then ((code_Size.f k (wrap64 (-(shl .i64 1 (wrap64 (6 + (wrap64 (7 * (Int.tmod (wrap64 (a2)) 8))))))))).bind fun t251 => ((code_Size.f k (wrap64 ((shl .i64 1 (wrap64 (6 + (wrap64 (7 * (Int.tmod (wrap64 (a2)) 8)))))) - 1))).bind fun t252 => (if t251 = t252 then ((code_Put.f k a0).bind fun t253 => ((code_Size.f k a0).bind fun t254 => (if (t253.size : Int) = t254 then ((camshaftlaw02_known.f k).bind fun t255 => (some t255)) else (some false)))) else (some false)))) else (some false)))) else (some false))) else (some false))) else (some false))))) else (none)
theorem camshaftlaw02_CodeSizes.mono : ∀ a0 a1 a2 k, LeO (camshaftlaw02_CodeSizes.f k a0 a1 a2) (camshaftlaw02_CodeSizes.f (k + 1) a0 a1 a2) := by
  intro a0 a1 a2 k
  unfold camshaftlaw02_CodeSizes.f
  repeat' first
      | (with_reducible exact camshaftlaw02_known.mono _)
      | (with_reducible exact code_Put.mono _ _)
      | (with_reducible exact code_Size.mono _ _)
      | (with_reducible exact LeO.refl _)
      | (with_reducible exact LeO.none _)
      | (with_reducible refine LeO.ite ?_ ?_)
      | (with_reducible refine LeO.bind ?_ (fun _ => ?_))
      | exact camshaftlaw02_known.mono _
      | exact code_Put.mono _ _
      | exact code_Size.mono _ _
      | exact LeO.none _
      | refine LeO.ite ?_ ?_
      | refine LeO.bind ?_ (fun _ => ?_)
set_option maxHeartbeats 8000000 in
set_option maxRecDepth 100000 in
theorem camshaftlaw02_CodeSizes.calls (k : Nat) (a0 : Int) (a1 : Int) (a2 : Int) (r : Bool) (w : World) (h : camshaftlaw02_CodeSizes.f k a0 a1 a2 = some r) (ht : r = true) :
    Calls Try.prog 6 #[.int .i64 a0, .int .i64 a1, .int .u8 a2] w fun e w' => e = .returned (.bool r) ∧ Below w.heap.size w w' := by
  have HT := Aside0.mk ht
  clear ht
  have HB := Aside0.mk (Below.refl w.heap.size w)
  have H : (if 0 ≤ (wrap64 (6 + (wrap64 (7 * (Int.tmod (wrap64 (a2)) 8))))) then (if (mx a0 (wrap64 (-(wrap64 (a0 + 1))))) > (mx a1 (wrap64 (-(wrap64 (a1 + 1))))) then ((code_Size.f k a0).bind fun t236 => (if t236 ≥ 1 then ((code_Size.f k a0).bind fun t237 => (if t237 ≤ 10 then ((code_Size.f k (shl .i64 1 (wrap64 (6 + (wrap64 (7 * (Int.tmod (wrap64 (a2)) 8))))))).bind fun t238 => ((code_Size.f k (wrap64 ((shl .i64 1 (wrap64 (6 + (wrap64 (7 * (Int.tmod (wrap64 (a2)) 8)))))) - 1))).bind fun t239 => (if t238 = (wrap64 (t239 + 1)) then ((code_Size.f k (wrap64 (-(shl .i64 1 (wrap64 (6 + (wrap64 (7 * (Int.tmod (wrap64 (a2)) 8))))))))).bind fun t240 => ((code_Size.f k (wrap64 ((shl .i64 1 (wrap64 (6 + (wrap64 (7 * (Int.tmod (wrap64 (a2)) 8)))))) - 1))).bind fun t241 => (if t240 = t241 then ((code_Put.f k a0).bind fun t242 => ((code_Size.f k a0).bind fun t243 => (if (t242.size : Int) = t243 then ((camshaftlaw02_known.f k).bind fun t244 => (some t244)) else (some false)))) else (some false)))) else (some false)))) else (some false))) else (some false))) else ((code_Size.f k a0).bind fun t245 => ((code_Size.f k a1).bind fun t246 => (if t245 ≤ t246 then ((code_Size.f k a0).bind fun t247 => (if t247 ≥ 1 then ((code_Size.f k a0).bind fun t248 => (if t248 ≤ 10 then ((code_Size.f k (shl .i64 1 (wrap64 (6 + (wrap64 (7 * (Int.tmod (wrap64 (a2)) 8))))))).bind fun t249 => ((code_Size.f k (wrap64 ((shl .i64 1 (wrap64 (6 + (wrap64 (7 * (Int.tmod (wrap64 (a2)) 8)))))) - 1))).bind fun t250 => (if t249 = (wrap64 (t250 + 1)) then ((code_Size.f k (wrap64 (-(shl .i64 1 (wrap64 (6 + (wrap64 (7 * (Int.tmod (wrap64 (a2)) 8))))))))).bind fun t251 => ((code_Size.f k (wrap64 ((shl .i64 1 (wrap64 (6 + (wrap64 (7 * (Int.tmod (wrap64 (a2)) 8)))))) - 1))).bind fun t252 => (if t251 = t252 then ((code_Put.f k a0).bind fun t253 => ((code_Size.f k a0).bind fun t254 => (if (t253.size : Int) = t254 then ((camshaftlaw02_known.f k).bind fun t255 => (some t255)) else (some false)))) else (some false)))) else (some false)))) else (some false))) else (some false))) else (some false))))) else (none)) = some r := h
  clear h
  obtain ⟨ji4, hji4⟩ : ∃ j_ : Int, (mx a0 (wrap64 (-(wrap64 (a0 + 1))))) = j_ := ⟨_, rfl⟩
  replace H : (if 0 ≤ (wrap64 (6 + (wrap64 (7 * (Int.tmod (wrap64 (a2)) 8))))) then (if (ji4) > (mx a1 (wrap64 (-(wrap64 (a1 + 1))))) then ((code_Size.f k a0).bind fun t236 => (if t236 ≥ 1 then ((code_Size.f k a0).bind fun t237 => (if t237 ≤ 10 then ((code_Size.f k (shl .i64 1 (wrap64 (6 + (wrap64 (7 * (Int.tmod (wrap64 (a2)) 8))))))).bind fun t238 => ((code_Size.f k (wrap64 ((shl .i64 1 (wrap64 (6 + (wrap64 (7 * (Int.tmod (wrap64 (a2)) 8)))))) - 1))).bind fun t239 => (if t238 = (wrap64 (t239 + 1)) then ((code_Size.f k (wrap64 (-(shl .i64 1 (wrap64 (6 + (wrap64 (7 * (Int.tmod (wrap64 (a2)) 8))))))))).bind fun t240 => ((code_Size.f k (wrap64 ((shl .i64 1 (wrap64 (6 + (wrap64 (7 * (Int.tmod (wrap64 (a2)) 8)))))) - 1))).bind fun t241 => (if t240 = t241 then ((code_Put.f k a0).bind fun t242 => ((code_Size.f k a0).bind fun t243 => (if (t242.size : Int) = t243 then ((camshaftlaw02_known.f k).bind fun t244 => (some t244)) else (some false)))) else (some false)))) else (some false)))) else (some false))) else (some false))) else ((code_Size.f k a0).bind fun t245 => ((code_Size.f k a1).bind fun t246 => (if t245 ≤ t246 then ((code_Size.f k a0).bind fun t247 => (if t247 ≥ 1 then ((code_Size.f k a0).bind fun t248 => (if t248 ≤ 10 then ((code_Size.f k (shl .i64 1 (wrap64 (6 + (wrap64 (7 * (Int.tmod (wrap64 (a2)) 8))))))).bind fun t249 => ((code_Size.f k (wrap64 ((shl .i64 1 (wrap64 (6 + (wrap64 (7 * (Int.tmod (wrap64 (a2)) 8)))))) - 1))).bind fun t250 => (if t249 = (wrap64 (t250 + 1)) then ((code_Size.f k (wrap64 (-(shl .i64 1 (wrap64 (6 + (wrap64 (7 * (Int.tmod (wrap64 (a2)) 8))))))))).bind fun t251 => ((code_Size.f k (wrap64 ((shl .i64 1 (wrap64 (6 + (wrap64 (7 * (Int.tmod (wrap64 (a2)) 8)))))) - 1))).bind fun t252 => (if t251 = t252 then ((code_Put.f k a0).bind fun t253 => ((code_Size.f k a0).bind fun t254 => (if (t253.size : Int) = t254 then ((camshaftlaw02_known.f k).bind fun t255 => (some t255)) else (some false)))) else (some false)))) else (some false)))) else (some false))) else (some false))) else (some false))))) else (none)) = some r := by first | (rw [hji4] at H; exact H) | (simp only [hji4] at H ⊢; exact H)
  have hji4_ : (if a0 < (wrap64 (-(wrap64 (a0 + 1)))) then (wrap64 (-(wrap64 (a0 + 1)))) else a0) = ji4 := hji4
  obtain ⟨ji5, hji5⟩ : ∃ j_ : Int, (mx a1 (wrap64 (-(wrap64 (a1 + 1))))) = j_ := ⟨_, rfl⟩
  replace H : (if 0 ≤ (wrap64 (6 + (wrap64 (7 * (Int.tmod (wrap64 (a2)) 8))))) then (if (ji4) > (ji5) then ((code_Size.f k a0).bind fun t236 => (if t236 ≥ 1 then ((code_Size.f k a0).bind fun t237 => (if t237 ≤ 10 then ((code_Size.f k (shl .i64 1 (wrap64 (6 + (wrap64 (7 * (Int.tmod (wrap64 (a2)) 8))))))).bind fun t238 => ((code_Size.f k (wrap64 ((shl .i64 1 (wrap64 (6 + (wrap64 (7 * (Int.tmod (wrap64 (a2)) 8)))))) - 1))).bind fun t239 => (if t238 = (wrap64 (t239 + 1)) then ((code_Size.f k (wrap64 (-(shl .i64 1 (wrap64 (6 + (wrap64 (7 * (Int.tmod (wrap64 (a2)) 8))))))))).bind fun t240 => ((code_Size.f k (wrap64 ((shl .i64 1 (wrap64 (6 + (wrap64 (7 * (Int.tmod (wrap64 (a2)) 8)))))) - 1))).bind fun t241 => (if t240 = t241 then ((code_Put.f k a0).bind fun t242 => ((code_Size.f k a0).bind fun t243 => (if (t242.size : Int) = t243 then ((camshaftlaw02_known.f k).bind fun t244 => (some t244)) else (some false)))) else (some false)))) else (some false)))) else (some false))) else (some false))) else ((code_Size.f k a0).bind fun t245 => ((code_Size.f k a1).bind fun t246 => (if t245 ≤ t246 then ((code_Size.f k a0).bind fun t247 => (if t247 ≥ 1 then ((code_Size.f k a0).bind fun t248 => (if t248 ≤ 10 then ((code_Size.f k (shl .i64 1 (wrap64 (6 + (wrap64 (7 * (Int.tmod (wrap64 (a2)) 8))))))).bind fun t249 => ((code_Size.f k (wrap64 ((shl .i64 1 (wrap64 (6 + (wrap64 (7 * (Int.tmod (wrap64 (a2)) 8)))))) - 1))).bind fun t250 => (if t249 = (wrap64 (t250 + 1)) then ((code_Size.f k (wrap64 (-(shl .i64 1 (wrap64 (6 + (wrap64 (7 * (Int.tmod (wrap64 (a2)) 8))))))))).bind fun t251 => ((code_Size.f k (wrap64 ((shl .i64 1 (wrap64 (6 + (wrap64 (7 * (Int.tmod (wrap64 (a2)) 8)))))) - 1))).bind fun t252 => (if t251 = t252 then ((code_Put.f k a0).bind fun t253 => ((code_Size.f k a0).bind fun t254 => (if (t253.size : Int) = t254 then ((camshaftlaw02_known.f k).bind fun t255 => (some t255)) else (some false)))) else (some false)))) else (some false)))) else (some false))) else (some false))) else (some false))))) else (none)) = some r := by first | (rw [hji5] at H; exact H) | (simp only [hji5] at H ⊢; exact H)
  have hji5_ : (if a1 < (wrap64 (-(wrap64 (a1 + 1)))) then (wrap64 (-(wrap64 (a1 + 1)))) else a1) = ji5 := hji5
  obtain ⟨ji6, hji6⟩ : ∃ j_ : Int, (wrap64 (6 + (wrap64 (7 * (Int.tmod (wrap64 (a2)) 8))))) = j_ := ⟨_, rfl⟩
  replace H : (if 0 ≤ (ji6) then (if (ji4) > (ji5) then ((code_Size.f k a0).bind fun t236 => (if t236 ≥ 1 then ((code_Size.f k a0).bind fun t237 => (if t237 ≤ 10 then ((code_Size.f k (shl .i64 1 (ji6))).bind fun t238 => ((code_Size.f k (wrap64 ((shl .i64 1 (ji6)) - 1))).bind fun t239 => (if t238 = (wrap64 (t239 + 1)) then ((code_Size.f k (wrap64 (-(shl .i64 1 (ji6))))).bind fun t240 => ((code_Size.f k (wrap64 ((shl .i64 1 (ji6)) - 1))).bind fun t241 => (if t240 = t241 then ((code_Put.f k a0).bind fun t242 => ((code_Size.f k a0).bind fun t243 => (if (t242.size : Int) = t243 then ((camshaftlaw02_known.f k).bind fun t244 => (some t244)) else (some false)))) else (some false)))) else (some false)))) else (some false))) else (some false))) else ((code_Size.f k a0).bind fun t245 => ((code_Size.f k a1).bind fun t246 => (if t245 ≤ t246 then ((code_Size.f k a0).bind fun t247 => (if t247 ≥ 1 then ((code_Size.f k a0).bind fun t248 => (if t248 ≤ 10 then ((code_Size.f k (shl .i64 1 (ji6))).bind fun t249 => ((code_Size.f k (wrap64 ((shl .i64 1 (ji6)) - 1))).bind fun t250 => (if t249 = (wrap64 (t250 + 1)) then ((code_Size.f k (wrap64 (-(shl .i64 1 (ji6))))).bind fun t251 => ((code_Size.f k (wrap64 ((shl .i64 1 (ji6)) - 1))).bind fun t252 => (if t251 = t252 then ((code_Put.f k a0).bind fun t253 => ((code_Size.f k a0).bind fun t254 => (if (t253.size : Int) = t254 then ((camshaftlaw02_known.f k).bind fun t255 => (some t255)) else (some false)))) else (some false)))) else (some false)))) else (some false))) else (some false))) else (some false))))) else (none)) = some r := by first | (rw [hji6] at H; exact H) | (simp only [hji6] at H ⊢; exact H)
  have hji6w : (IntKind.i64.wrap (6 + (wrap64 (7 * (Int.tmod (wrap64 (a2)) 8))))) = ji6 := (i64_w _).trans hji6
  by_cases c7 : 0 ≤ (ji6)
  · rw [if_pos c7] at H
    have c7b0 := eq_true c7
    have c7b1 : decide (0 ≤ (ji6)) = true := decide_eq_true c7
    clear c7
    obtain ⟨ji8, hji8⟩ : ∃ j_ : Int, (shl .i64 1 (ji6)) = j_ := ⟨_, rfl⟩
    replace H : (if (ji4) > (ji5) then ((code_Size.f k a0).bind fun t236 => (if t236 ≥ 1 then ((code_Size.f k a0).bind fun t237 => (if t237 ≤ 10 then ((code_Size.f k (ji8)).bind fun t238 => ((code_Size.f k (wrap64 ((ji8) - 1))).bind fun t239 => (if t238 = (wrap64 (t239 + 1)) then ((code_Size.f k (wrap64 (-(ji8)))).bind fun t240 => ((code_Size.f k (wrap64 ((ji8) - 1))).bind fun t241 => (if t240 = t241 then ((code_Put.f k a0).bind fun t242 => ((code_Size.f k a0).bind fun t243 => (if (t242.size : Int) = t243 then ((camshaftlaw02_known.f k).bind fun t244 => (some t244)) else (some false)))) else (some false)))) else (some false)))) else (some false))) else (some false))) else ((code_Size.f k a0).bind fun t245 => ((code_Size.f k a1).bind fun t246 => (if t245 ≤ t246 then ((code_Size.f k a0).bind fun t247 => (if t247 ≥ 1 then ((code_Size.f k a0).bind fun t248 => (if t248 ≤ 10 then ((code_Size.f k (ji8)).bind fun t249 => ((code_Size.f k (wrap64 ((ji8) - 1))).bind fun t250 => (if t249 = (wrap64 (t250 + 1)) then ((code_Size.f k (wrap64 (-(ji8)))).bind fun t251 => ((code_Size.f k (wrap64 ((ji8) - 1))).bind fun t252 => (if t251 = t252 then ((code_Put.f k a0).bind fun t253 => ((code_Size.f k a0).bind fun t254 => (if (t253.size : Int) = t254 then ((camshaftlaw02_known.f k).bind fun t255 => (some t255)) else (some false)))) else (some false)))) else (some false)))) else (some false))) else (some false))) else (some false))))) = some r := by first | (rw [hji8] at H; exact H) | (simp only [hji8] at H ⊢; exact H)
    have hji8_ : (IntKind.i64.wrap (1 * 2 ^ min (ji6).toNat 64)) = ji8 := hji8
    have hji8z : (ji6) ≤ 64 → (IntKind.i64.wrap (1 * 2 ^ (ji6).toNat)) = ji8 := shl_small hji8
    have hji8u : (IntKind.i64.wrap (2 ^ min (ji6).toNat 64)) = ji8 := by have h_ := hji8_; rw [Int.one_mul] at h_; exact h_
    have hji8v : (ji6) ≤ 64 → (IntKind.i64.wrap (2 ^ (ji6).toNat)) = ji8 := fun hle_ => by have h_ := hji8z hle_; rw [Int.one_mul] at h_; exact h_
    have hji8y : (wrap64 (1 * 2 ^ min (ji6).toNat 64)) = ji8 := (i64_w _).symm.trans hji8_
    have hji8x : (ji6) ≤ 64 → (wrap64 (1 * 2 ^ (ji6).toNat)) = ji8 := fun h_ => (i64_w _).symm.trans (hji8z h_)
    by_cases c9 : (ji4) > (ji5)
    · rw [if_pos c9] at H
      have c9b0 : decide ((ji5) < (ji4)) = true := decide_eq_true c9
      clear c9
      replace H := Option.bind_eq_some_iff.mp H
      obtain ⟨t236, A100, H⟩ := H
      replace H : (if t236 ≥ 1 then ((code_Size.f k a0).bind fun t237 => (if t237 ≤ 10 then ((code_Size.f k (ji8)).bind fun t238 => ((code_Size.f k (wrap64 ((ji8) - 1))).bind fun t239 => (if t238 = (wrap64 (t239 + 1)) then ((code_Size.f k (wrap64 (-(ji8)))).bind fun t240 => ((code_Size.f k (wrap64 ((ji8) - 1))).bind fun t241 => (if t240 = t241 then ((code_Put.f k a0).bind fun t242 => ((code_Size.f k a0).bind fun t243 => (if (t242.size : Int) = t243 then ((camshaftlaw02_known.f k).bind fun t244 => (some t244)) else (some false)))) else (some false)))) else (some false)))) else (some false))) else (some false)) = some r := H
      have A10 := Aside0.mk A100
      clear A100
      by_cases c11 : t236 ≥ 1
      · rw [if_pos c11] at H
        have c11b0 : decide (1 ≤ t236) = true := decide_eq_true c11
        clear c11
        replace H := Option.bind_eq_some_iff.mp H
        obtain ⟨t237, A120, H⟩ := H
        replace H : (if t237 ≤ 10 then ((code_Size.f k (ji8)).bind fun t238 => ((code_Size.f k (wrap64 ((ji8) - 1))).bind fun t239 => (if t238 = (wrap64 (t239 + 1)) then ((code_Size.f k (wrap64 (-(ji8)))).bind fun t240 => ((code_Size.f k (wrap64 ((ji8) - 1))).bind fun t241 => (if t240 = t241 then ((code_Put.f k a0).bind fun t242 => ((code_Size.f k a0).bind fun t243 => (if (t242.size : Int) = t243 then ((camshaftlaw02_known.f k).bind fun t244 => (some t244)) else (some false)))) else (some false)))) else (some false)))) else (some false)) = some r := H
        have A12 := Aside0.mk A120
        clear A120
        by_cases c13 : t237 ≤ 10
        · rw [if_pos c13] at H
          have c13b0 : decide (t237 ≤ 10) = true := decide_eq_true c13
          clear c13
          replace H := Option.bind_eq_some_iff.mp H
          obtain ⟨t238, A140, H⟩ := H
          replace H : ((code_Size.f k (wrap64 ((ji8) - 1))).bind fun t239 => (if t238 = (wrap64 (t239 + 1)) then ((code_Size.f k (wrap64 (-(ji8)))).bind fun t240 => ((code_Size.f k (wrap64 ((ji8) - 1))).bind fun t241 => (if t240 = t241 then ((code_Put.f k a0).bind fun t242 => ((code_Size.f k a0).bind fun t243 => (if (t242.size : Int) = t243 then ((camshaftlaw02_known.f k).bind fun t244 => (some t244)) else (some false)))) else (some false)))) else (some false))) = some r := H
          have A14 := Aside0.mk A140
          clear A140
          replace H := Option.bind_eq_some_iff.mp H
          obtain ⟨t239, A150, H⟩ := H
          replace H : (if t238 = (wrap64 (t239 + 1)) then ((code_Size.f k (wrap64 (-(ji8)))).bind fun t240 => ((code_Size.f k (wrap64 ((ji8) - 1))).bind fun t241 => (if t240 = t241 then ((code_Put.f k a0).bind fun t242 => ((code_Size.f k a0).bind fun t243 => (if (t242.size : Int) = t243 then ((camshaftlaw02_known.f k).bind fun t244 => (some t244)) else (some false)))) else (some false)))) else (some false)) = some r := H
          have A15 := Aside0.mk A150
          clear A150
          by_cases c16 : t238 = (wrap64 (t239 + 1))
          · rw [if_pos c16] at H
            have c16b0 : (t238 == (wrap64 (t239 + 1))) = true := beq_iff_eq.mpr c16
            have c16b1 : (t238 != (wrap64 (t239 + 1))) = false := bne_eq_false_iff_eq.mpr c16
            clear c16
            replace H := Option.bind_eq_some_iff.mp H
            obtain ⟨t240, A170, H⟩ := H
            replace H : ((code_Size.f k (wrap64 ((ji8) - 1))).bind fun t241 => (if t240 = t241 then ((code_Put.f k a0).bind fun t242 => ((code_Size.f k a0).bind fun t243 => (if (t242.size : Int) = t243 then ((camshaftlaw02_known.f k).bind fun t244 => (some t244)) else (some false)))) else (some false))) = some r := H
            have A17 := Aside0.mk A170
            clear A170
            replace H := Option.bind_eq_some_iff.mp H
            obtain ⟨t241, A180, H⟩ := H
            replace H : (if t240 = t241 then ((code_Put.f k a0).bind fun t242 => ((code_Size.f k a0).bind fun t243 => (if (t242.size : Int) = t243 then ((camshaftlaw02_known.f k).bind fun t244 => (some t244)) else (some false)))) else (some false)) = some r := H
            have A18 := Aside0.mk A180
            clear A180
            by_cases c19 : t240 = t241
            · rw [if_pos c19] at H
              have c19b0 : (t240 == t241) = true := beq_iff_eq.mpr c19
              have c19b1 : (t240 != t241) = false := bne_eq_false_iff_eq.mpr c19
              clear c19
              replace H := Option.bind_eq_some_iff.mp H
              obtain ⟨t242, A200, H⟩ := H
              replace H : ((code_Size.f k a0).bind fun t243 => (if (t242.size : Int) = t243 then ((camshaftlaw02_known.f k).bind fun t244 => (some t244)) else (some false))) = some r := H
              have A20 := Aside0.mk A200
              clear A200
              replace H := Option.bind_eq_some_iff.mp H
              obtain ⟨t243, A210, H⟩ := H
              replace H : (if (t242.size : Int) = t243 then ((camshaftlaw02_known.f k).bind fun t244 => (some t244)) else (some false)) = some r := H
              have A21 := Aside0.mk A210
              clear A210
              by_cases c22 : (t242.size : Int) = t243
              · rw [if_pos c22] at H
                have c22b0 : ((t242.size : Int) == t243) = true := beq_iff_eq.mpr c22
                have c22b1 : ((t242.size : Int) != t243) = false := bne_eq_false_iff_eq.mpr c22
                clear c22
                replace H := Option.bind_eq_some_iff.mp H
                obtain ⟨t244, A230, H⟩ := H
                replace H : (some t244) = some r := H
                have A23 := Aside0.mk A230
                clear A230
                obtain rfl := Option.some.inj H
                go_enter Try.func6, Try.ntmps6
                go_wp2_with (first | ((with_reducible refine gate_callee (f := 13) rfl ?_); (with_reducible refine gate_dst (N := 38) rfl ?_); (refine gate_guard (by rfl) ?_; dsimp only); refine goesL_ (some 38) rfl rfl Try.func13 (by kernel_rfl) rfl #[.int .i64 a0] rfl (by (try simp only [List.map_toArray, List.map_cons, List.map_nil]); first | done | rfl | (simp only [List.length_drop, List.length_take]; rfl)) ?_; (with_reducible refine (code_Size.calls k a0 t236 _ A10.out).mono ?_); rintro e w24 ⟨rfl, hb⟩; refine ⟨_, rfl, ?_⟩; have n0_ := Aside0.mk (below_step (by repeat (first | (with_reducible first | exact HB.out | apply below_alloc | apply pw_below_drewN | apply below_drew1) | exact HB.out)) hb); clear HB; have HB := n0_; clear n0_; (try clear hb); (try clear hb2); (try clear hk); (try clear hi)) | ((with_reducible refine gate_callee (f := 13) rfl ?_); (with_reducible refine gate_dst (N := 43) rfl ?_); (refine gate_guard (by rfl) ?_; dsimp only); refine goesL_ (some 43) rfl rfl Try.func13 (by kernel_rfl) rfl #[.int .i64 a0] rfl (by (try simp only [List.map_toArray, List.map_cons, List.map_nil]); first | done | rfl | (simp only [List.length_drop, List.length_take]; rfl)) ?_; (with_reducible refine (code_Size.calls k a0 t237 _ A12.out).mono ?_); rintro e w25 ⟨rfl, hb⟩; refine ⟨_, rfl, ?_⟩; have n0_ := Aside0.mk (below_step (by repeat (first | (with_reducible first | exact HB.out | apply below_alloc | apply pw_below_drewN | apply below_drew1) | exact HB.out)) hb); clear HB; have HB := n0_; clear n0_; (try clear hb); (try clear hb2); (try clear hk); (try clear hi)) | ((with_reducible refine gate_callee (f := 13) rfl ?_); (with_reducible refine gate_dst (N := 48) rfl ?_); (refine gate_guard (by rfl) ?_; dsimp only); refine goesL_ (some 48) rfl rfl Try.func13 (by kernel_rfl) rfl #[.int .i64 ji8] rfl (by (try simp only [List.map_toArray, List.map_cons, List.map_nil]); first | done | (simp only [hji8]; rfl) | rfl | (simp only [List.length_drop, List.length_take]; rfl)) ?_; (with_reducible refine (code_Size.calls k ji8 t238 _ A14.out).mono ?_); rintro e w26 ⟨rfl, hb⟩; refine ⟨_, rfl, ?_⟩; have n0_ := Aside0.mk (below_step (by repeat (first | (with_reducible first | exact HB.out | apply below_alloc | apply pw_below_drewN | apply below_drew1) | exact HB.out)) hb); clear HB; have HB := n0_; clear n0_; (try clear hb); (try clear hb2); (try clear hk); (try clear hi)) | ((with_reducible refine gate_callee (f := 13) rfl ?_); (with_reducible refine gate_dst (N := 51) rfl ?_); (refine gate_guard (by rfl) ?_; dsimp only); refine goesL_ (some 51) rfl rfl Try.func13 (by kernel_rfl) rfl #[.int .i64 (wrap64 ((ji8) - 1))] rfl (by (try simp only [List.map_toArray, List.map_cons, List.map_nil]); first | done | (simp only [hji8]; rfl) | rfl | (simp only [List.length_drop, List.length_take]; rfl)) ?_; (with_reducible refine (code_Size.calls k (wrap64 ((ji8) - 1)) t239 _ A15.out).mono ?_); rintro e w27 ⟨rfl, hb⟩; refine ⟨_, rfl, ?_⟩; have n0_ := Aside0.mk (below_step (by repeat (first | (with_reducible first | exact HB.out | apply below_alloc | apply pw_below_drewN | apply below_drew1) | exact HB.out)) hb); clear HB; have HB := n0_; clear n0_; (try clear hb); (try clear hb2); (try clear hk); (try clear hi)) | ((with_reducible refine gate_callee (f := 13) rfl ?_); (with_reducible refine gate_dst (N := 58) rfl ?_); (refine gate_guard (by rfl) ?_; dsimp only); refine goesL_ (some 58) rfl rfl Try.func13 (by kernel_rfl) rfl #[.int .i64 (wrap64 (-(ji8)))] rfl (by (try simp only [List.map_toArray, List.map_cons, List.map_nil]); first | done | (simp only [hji8]; rfl) | rfl | (simp only [List.length_drop, List.length_take]; rfl)) ?_; (with_reducible refine (code_Size.calls k (wrap64 (-(ji8))) t240 _ A17.out).mono ?_); rintro e w28 ⟨rfl, hb⟩; refine ⟨_, rfl, ?_⟩; have n0_ := Aside0.mk (below_step (by repeat (first | (with_reducible first | exact HB.out | apply below_alloc | apply pw_below_drewN | apply below_drew1) | exact HB.out)) hb); clear HB; have HB := n0_; clear n0_; (try clear hb); (try clear hb2); (try clear hk); (try clear hi)) | ((with_reducible refine gate_callee (f := 13) rfl ?_); (with_reducible refine gate_dst (N := 61) rfl ?_); (refine gate_guard (by rfl) ?_; dsimp only); refine goesL_ (some 61) rfl rfl Try.func13 (by kernel_rfl) rfl #[.int .i64 (wrap64 ((ji8) - 1))] rfl (by (try simp only [List.map_toArray, List.map_cons, List.map_nil]); first | done | (simp only [hji8]; rfl) | rfl | (simp only [List.length_drop, List.length_take]; rfl)) ?_; (with_reducible refine (code_Size.calls k (wrap64 ((ji8) - 1)) t241 _ A18.out).mono ?_); rintro e w29 ⟨rfl, hb⟩; refine ⟨_, rfl, ?_⟩; have n0_ := Aside0.mk (below_step (by repeat (first | (with_reducible first | exact HB.out | apply below_alloc | apply pw_below_drewN | apply below_drew1) | exact HB.out)) hb); clear HB; have HB := n0_; clear n0_; (try clear hb); (try clear hb2); (try clear hk); (try clear hi)) | ((with_reducible refine gate_callee (f := 11) rfl ?_); (with_reducible refine gate_dst (N := 66) rfl ?_); (refine gate_guard (by rfl) ?_; dsimp only); refine goesL_ (some 66) rfl rfl Try.func11 (by kernel_rfl) rfl #[.int .i64 a0] rfl (by (try simp only [List.map_toArray, List.map_cons, List.map_nil]); first | done | rfl | (simp only [List.length_drop, List.length_take]; rfl)) ?_; (with_reducible refine (code_Put.calls k a0 t242 _ A20.out).mono ?_); rintro e w30 ⟨rfl, hb⟩; refine ⟨_, rfl, ?_⟩; have n0_ := Aside0.mk (below_step (by repeat (first | (with_reducible first | exact HB.out | apply below_alloc | apply pw_below_drewN | apply below_drew1) | exact HB.out)) hb); clear HB; have HB := n0_; clear n0_; (try clear hb); (try clear hb2); (try clear hk); (try clear hi)) | ((with_reducible refine gate_callee (f := 13) rfl ?_); (with_reducible refine gate_dst (N := 69) rfl ?_); (refine gate_guard (by rfl) ?_; dsimp only); refine goesL_ (some 69) rfl rfl Try.func13 (by kernel_rfl) rfl #[.int .i64 a0] rfl (by (try simp only [List.map_toArray, List.map_cons, List.map_nil]); first | done | rfl | (simp only [List.length_drop, List.length_take]; rfl)) ?_; (with_reducible refine (code_Size.calls k a0 t243 _ A21.out).mono ?_); rintro e w31 ⟨rfl, hb⟩; refine ⟨_, rfl, ?_⟩; have n0_ := Aside0.mk (below_step (by repeat (first | (with_reducible first | exact HB.out | apply below_alloc | apply pw_below_drewN | apply below_drew1) | exact HB.out)) hb); clear HB; have HB := n0_; clear n0_; (try clear hb); (try clear hb2); (try clear hk); (try clear hi)) | ((with_reducible refine gate_callee (f := 10) rfl ?_); (with_reducible refine gate_dst (N := 73) rfl ?_); (refine gate_guard (by rfl) ?_; dsimp only); refine goesL_ (some 73) rfl rfl Try.func10 (by kernel_rfl) rfl #[] rfl (by (try simp only [List.map_toArray, List.map_cons, List.map_nil]); first | done | rfl | (simp only [List.length_drop, List.length_take]; rfl)) ?_; (with_reducible refine (camshaftlaw02_known.calls k  t244 _ A23.out).mono ?_); rintro e w32 ⟨rfl, hb⟩; refine ⟨_, rfl, ?_⟩; have n0_ := Aside0.mk (below_step (by repeat (first | (with_reducible first | exact HB.out | apply below_alloc | apply pw_below_drewN | apply below_drew1) | exact HB.out)) hb); clear HB; have HB := n0_; clear n0_; (try clear hb); (try clear hb2); (try clear hk); (try clear hi)))
                go_ret
                exact ⟨by first | rfl | (simp [errW_none, errW_some] <;> rfl) | (simp only [← hji4, ← hji5, ← hji6, ← hji8]; first | rfl | (simp [errW_none, errW_some] <;> rfl)) | (simp [*, errW_none, errW_some] <;> rfl), by repeat (first | (with_reducible first | exact HB.out | apply below_alloc | apply pw_below_drewN | apply below_drew1) | exact HB.out | exact Below.refl _ _)⟩
              · rw [if_neg c22] at H
                have c22b0 : ((t242.size : Int) == t243) = false := beq_eq_false_iff_ne.mpr c22
                have c22b1 : ((t242.size : Int) != t243) = true := bne_iff_ne.mpr c22
                exact absurd ((Option.some.inj H).trans HT.out) (by decide)
            · rw [if_neg c19] at H
              have c19b0 : (t240 == t241) = false := beq_eq_false_iff_ne.mpr c19
              have c19b1 : (t240 != t241) = true := bne_iff_ne.mpr c19
              exact absurd ((Option.some.inj H).trans HT.out) (by decide)
          · rw [if_neg c16] at H
            have c16b0 : (t238 == (wrap64 (t239 + 1))) = false := beq_eq_false_iff_ne.mpr c16
            have c16b1 : (t238 != (wrap64 (t239 + 1))) = true := bne_iff_ne.mpr c16
            exact absurd ((Option.some.inj H).trans HT.out) (by decide)
        · rw [if_neg c13] at H
          have c13b0 : decide (t237 ≤ 10) = false := decide_eq_false c13
          clear c13
          exact absurd ((Option.some.inj H).trans HT.out) (by decide)
      · rw [if_neg c11] at H
        have c11b0 : decide (1 ≤ t236) = false := decide_eq_false c11
        clear c11
        exact absurd ((Option.some.inj H).trans HT.out) (by decide)
    · rw [if_neg c9] at H
      have c9b0 : decide ((ji5) < (ji4)) = false := decide_eq_false c9
      clear c9
      replace H := Option.bind_eq_some_iff.mp H
      obtain ⟨t245, A330, H⟩ := H
      replace H : ((code_Size.f k a1).bind fun t246 => (if t245 ≤ t246 then ((code_Size.f k a0).bind fun t247 => (if t247 ≥ 1 then ((code_Size.f k a0).bind fun t248 => (if t248 ≤ 10 then ((code_Size.f k (ji8)).bind fun t249 => ((code_Size.f k (wrap64 ((ji8) - 1))).bind fun t250 => (if t249 = (wrap64 (t250 + 1)) then ((code_Size.f k (wrap64 (-(ji8)))).bind fun t251 => ((code_Size.f k (wrap64 ((ji8) - 1))).bind fun t252 => (if t251 = t252 then ((code_Put.f k a0).bind fun t253 => ((code_Size.f k a0).bind fun t254 => (if (t253.size : Int) = t254 then ((camshaftlaw02_known.f k).bind fun t255 => (some t255)) else (some false)))) else (some false)))) else (some false)))) else (some false))) else (some false))) else (some false))) = some r := H
      have A33 := Aside0.mk A330
      clear A330
      replace H := Option.bind_eq_some_iff.mp H
      obtain ⟨t246, A340, H⟩ := H
      replace H : (if t245 ≤ t246 then ((code_Size.f k a0).bind fun t247 => (if t247 ≥ 1 then ((code_Size.f k a0).bind fun t248 => (if t248 ≤ 10 then ((code_Size.f k (ji8)).bind fun t249 => ((code_Size.f k (wrap64 ((ji8) - 1))).bind fun t250 => (if t249 = (wrap64 (t250 + 1)) then ((code_Size.f k (wrap64 (-(ji8)))).bind fun t251 => ((code_Size.f k (wrap64 ((ji8) - 1))).bind fun t252 => (if t251 = t252 then ((code_Put.f k a0).bind fun t253 => ((code_Size.f k a0).bind fun t254 => (if (t253.size : Int) = t254 then ((camshaftlaw02_known.f k).bind fun t255 => (some t255)) else (some false)))) else (some false)))) else (some false)))) else (some false))) else (some false))) else (some false)) = some r := H
      have A34 := Aside0.mk A340
      clear A340
      by_cases c35 : t245 ≤ t246
      · rw [if_pos c35] at H
        have c35b0 : decide (t245 ≤ t246) = true := decide_eq_true c35
        clear c35
        replace H := Option.bind_eq_some_iff.mp H
        obtain ⟨t247, A360, H⟩ := H
        replace H : (if t247 ≥ 1 then ((code_Size.f k a0).bind fun t248 => (if t248 ≤ 10 then ((code_Size.f k (ji8)).bind fun t249 => ((code_Size.f k (wrap64 ((ji8) - 1))).bind fun t250 => (if t249 = (wrap64 (t250 + 1)) then ((code_Size.f k (wrap64 (-(ji8)))).bind fun t251 => ((code_Size.f k (wrap64 ((ji8) - 1))).bind fun t252 => (if t251 = t252 then ((code_Put.f k a0).bind fun t253 => ((code_Size.f k a0).bind fun t254 => (if (t253.size : Int) = t254 then ((camshaftlaw02_known.f k).bind fun t255 => (some t255)) else (some false)))) else (some false)))) else (some false)))) else (some false))) else (some false)) = some r := H
        have A36 := Aside0.mk A360
        clear A360
        by_cases c37 : t247 ≥ 1
        · rw [if_pos c37] at H
          have c37b0 : decide (1 ≤ t247) = true := decide_eq_true c37
          clear c37
          replace H := Option.bind_eq_some_iff.mp H
          obtain ⟨t248, A380, H⟩ := H
          replace H : (if t248 ≤ 10 then ((code_Size.f k (ji8)).bind fun t249 => ((code_Size.f k (wrap64 ((ji8) - 1))).bind fun t250 => (if t249 = (wrap64 (t250 + 1)) then ((code_Size.f k (wrap64 (-(ji8)))).bind fun t251 => ((code_Size.f k (wrap64 ((ji8) - 1))).bind fun t252 => (if t251 = t252 then ((code_Put.f k a0).bind fun t253 => ((code_Size.f k a0).bind fun t254 => (if (t253.size : Int) = t254 then ((camshaftlaw02_known.f k).bind fun t255 => (some t255)) else (some false)))) else (some false)))) else (some false)))) else (some false)) = some r := H
          have A38 := Aside0.mk A380
          clear A380
          by_cases c39 : t248 ≤ 10
          · rw [if_pos c39] at H
            have c39b0 : decide (t248 ≤ 10) = true := decide_eq_true c39
            clear c39
            replace H := Option.bind_eq_some_iff.mp H
            obtain ⟨t249, A400, H⟩ := H
            replace H : ((code_Size.f k (wrap64 ((ji8) - 1))).bind fun t250 => (if t249 = (wrap64 (t250 + 1)) then ((code_Size.f k (wrap64 (-(ji8)))).bind fun t251 => ((code_Size.f k (wrap64 ((ji8) - 1))).bind fun t252 => (if t251 = t252 then ((code_Put.f k a0).bind fun t253 => ((code_Size.f k a0).bind fun t254 => (if (t253.size : Int) = t254 then ((camshaftlaw02_known.f k).bind fun t255 => (some t255)) else (some false)))) else (some false)))) else (some false))) = some r := H
            have A40 := Aside0.mk A400
            clear A400
            replace H := Option.bind_eq_some_iff.mp H
            obtain ⟨t250, A410, H⟩ := H
            replace H : (if t249 = (wrap64 (t250 + 1)) then ((code_Size.f k (wrap64 (-(ji8)))).bind fun t251 => ((code_Size.f k (wrap64 ((ji8) - 1))).bind fun t252 => (if t251 = t252 then ((code_Put.f k a0).bind fun t253 => ((code_Size.f k a0).bind fun t254 => (if (t253.size : Int) = t254 then ((camshaftlaw02_known.f k).bind fun t255 => (some t255)) else (some false)))) else (some false)))) else (some false)) = some r := H
            have A41 := Aside0.mk A410
            clear A410
            by_cases c42 : t249 = (wrap64 (t250 + 1))
            · rw [if_pos c42] at H
              have c42b0 : (t249 == (wrap64 (t250 + 1))) = true := beq_iff_eq.mpr c42
              have c42b1 : (t249 != (wrap64 (t250 + 1))) = false := bne_eq_false_iff_eq.mpr c42
              clear c42
              replace H := Option.bind_eq_some_iff.mp H
              obtain ⟨t251, A430, H⟩ := H
              replace H : ((code_Size.f k (wrap64 ((ji8) - 1))).bind fun t252 => (if t251 = t252 then ((code_Put.f k a0).bind fun t253 => ((code_Size.f k a0).bind fun t254 => (if (t253.size : Int) = t254 then ((camshaftlaw02_known.f k).bind fun t255 => (some t255)) else (some false)))) else (some false))) = some r := H
              have A43 := Aside0.mk A430
              clear A430
              replace H := Option.bind_eq_some_iff.mp H
              obtain ⟨t252, A440, H⟩ := H
              replace H : (if t251 = t252 then ((code_Put.f k a0).bind fun t253 => ((code_Size.f k a0).bind fun t254 => (if (t253.size : Int) = t254 then ((camshaftlaw02_known.f k).bind fun t255 => (some t255)) else (some false)))) else (some false)) = some r := H
              have A44 := Aside0.mk A440
              clear A440
              by_cases c45 : t251 = t252
              · rw [if_pos c45] at H
                have c45b0 : (t251 == t252) = true := beq_iff_eq.mpr c45
                have c45b1 : (t251 != t252) = false := bne_eq_false_iff_eq.mpr c45
                clear c45
                replace H := Option.bind_eq_some_iff.mp H
                obtain ⟨t253, A460, H⟩ := H
                replace H : ((code_Size.f k a0).bind fun t254 => (if (t253.size : Int) = t254 then ((camshaftlaw02_known.f k).bind fun t255 => (some t255)) else (some false))) = some r := H
                have A46 := Aside0.mk A460
                clear A460
                replace H := Option.bind_eq_some_iff.mp H
                obtain ⟨t254, A470, H⟩ := H
                replace H : (if (t253.size : Int) = t254 then ((camshaftlaw02_known.f k).bind fun t255 => (some t255)) else (some false)) = some r := H
                have A47 := Aside0.mk A470
                clear A470
                by_cases c48 : (t253.size : Int) = t254
                · rw [if_pos c48] at H
                  have c48b0 : ((t253.size : Int) == t254) = true := beq_iff_eq.mpr c48
                  have c48b1 : ((t253.size : Int) != t254) = false := bne_eq_false_iff_eq.mpr c48
                  clear c48
                  replace H := Option.bind_eq_some_iff.mp H
                  obtain ⟨t255, A490, H⟩ := H
                  replace H : (some t255) = some r := H
                  have A49 := Aside0.mk A490
                  clear A490
                  obtain rfl := Option.some.inj H
                  go_enter Try.func6, Try.ntmps6
                  go_wp2_with (first | ((with_reducible refine gate_callee (f := 13) rfl ?_); (with_reducible refine gate_dst (N := 31) rfl ?_); (refine gate_guard (by rfl) ?_; dsimp only); refine goesL_ (some 31) rfl rfl Try.func13 (by kernel_rfl) rfl #[.int .i64 a0] rfl (by (try simp only [List.map_toArray, List.map_cons, List.map_nil]); first | done | rfl | (simp only [List.length_drop, List.length_take]; rfl)) ?_; (with_reducible refine (code_Size.calls k a0 t245 _ A33.out).mono ?_); rintro e w50 ⟨rfl, hb⟩; refine ⟨_, rfl, ?_⟩; have n0_ := Aside0.mk (below_step (by repeat (first | (with_reducible first | exact HB.out | apply below_alloc | apply pw_below_drewN | apply below_drew1) | exact HB.out)) hb); clear HB; have HB := n0_; clear n0_; (try clear hb); (try clear hb2); (try clear hk); (try clear hi)) | ((with_reducible refine gate_callee (f := 13) rfl ?_); (with_reducible refine gate_dst (N := 33) rfl ?_); (refine gate_guard (by rfl) ?_; dsimp only); refine goesL_ (some 33) rfl rfl Try.func13 (by kernel_rfl) rfl #[.int .i64 a1] rfl (by (try simp only [List.map_toArray, List.map_cons, List.map_nil]); first | done | rfl | (simp only [List.length_drop, List.length_take]; rfl)) ?_; (with_reducible refine (code_Size.calls k a1 t246 _ A34.out).mono ?_); rintro e w51 ⟨rfl, hb⟩; refine ⟨_, rfl, ?_⟩; have n0_ := Aside0.mk (below_step (by repeat (first | (with_reducible first | exact HB.out | apply below_alloc | apply pw_below_drewN | apply below_drew1) | exact HB.out)) hb); clear HB; have HB := n0_; clear n0_; (try clear hb); (try clear hb2); (try clear hk); (try clear hi)) | ((with_reducible refine gate_callee (f := 13) rfl ?_); (with_reducible refine gate_dst (N := 38) rfl ?_); (refine gate_guard (by rfl) ?_; dsimp only); refine goesL_ (some 38) rfl rfl Try.func13 (by kernel_rfl) rfl #[.int .i64 a0] rfl (by (try simp only [List.map_toArray, List.map_cons, List.map_nil]); first | done | rfl | (simp only [List.length_drop, List.length_take]; rfl)) ?_; (with_reducible refine (code_Size.calls k a0 t247 _ A36.out).mono ?_); rintro e w52 ⟨rfl, hb⟩; refine ⟨_, rfl, ?_⟩; have n0_ := Aside0.mk (below_step (by repeat (first | (with_reducible first | exact HB.out | apply below_alloc | apply pw_below_drewN | apply below_drew1) | exact HB.out)) hb); clear HB; have HB := n0_; clear n0_; (try clear hb); (try clear hb2); (try clear hk); (try clear hi)) | ((with_reducible refine gate_callee (f := 13) rfl ?_); (with_reducible refine gate_dst (N := 43) rfl ?_); (refine gate_guard (by rfl) ?_; dsimp only); refine goesL_ (some 43) rfl rfl Try.func13 (by kernel_rfl) rfl #[.int .i64 a0] rfl (by (try simp only [List.map_toArray, List.map_cons, List.map_nil]); first | done | rfl | (simp only [List.length_drop, List.length_take]; rfl)) ?_; (with_reducible refine (code_Size.calls k a0 t248 _ A38.out).mono ?_); rintro e w53 ⟨rfl, hb⟩; refine ⟨_, rfl, ?_⟩; have n0_ := Aside0.mk (below_step (by repeat (first | (with_reducible first | exact HB.out | apply below_alloc | apply pw_below_drewN | apply below_drew1) | exact HB.out)) hb); clear HB; have HB := n0_; clear n0_; (try clear hb); (try clear hb2); (try clear hk); (try clear hi)) | ((with_reducible refine gate_callee (f := 13) rfl ?_); (with_reducible refine gate_dst (N := 48) rfl ?_); (refine gate_guard (by rfl) ?_; dsimp only); refine goesL_ (some 48) rfl rfl Try.func13 (by kernel_rfl) rfl #[.int .i64 ji8] rfl (by (try simp only [List.map_toArray, List.map_cons, List.map_nil]); first | done | (simp only [hji8]; rfl) | rfl | (simp only [List.length_drop, List.length_take]; rfl)) ?_; (with_reducible refine (code_Size.calls k ji8 t249 _ A40.out).mono ?_); rintro e w54 ⟨rfl, hb⟩; refine ⟨_, rfl, ?_⟩; have n0_ := Aside0.mk (below_step (by repeat (first | (with_reducible first | exact HB.out | apply below_alloc | apply pw_below_drewN | apply below_drew1) | exact HB.out)) hb); clear HB; have HB := n0_; clear n0_; (try clear hb); (try clear hb2); (try clear hk); (try clear hi)) | ((with_reducible refine gate_callee (f := 13) rfl ?_); (with_reducible refine gate_dst (N := 51) rfl ?_); (refine gate_guard (by rfl) ?_; dsimp only); refine goesL_ (some 51) rfl rfl Try.func13 (by kernel_rfl) rfl #[.int .i64 (wrap64 ((ji8) - 1))] rfl (by (try simp only [List.map_toArray, List.map_cons, List.map_nil]); first | done | (simp only [hji8]; rfl) | rfl | (simp only [List.length_drop, List.length_take]; rfl)) ?_; (with_reducible refine (code_Size.calls k (wrap64 ((ji8) - 1)) t250 _ A41.out).mono ?_); rintro e w55 ⟨rfl, hb⟩; refine ⟨_, rfl, ?_⟩; have n0_ := Aside0.mk (below_step (by repeat (first | (with_reducible first | exact HB.out | apply below_alloc | apply pw_below_drewN | apply below_drew1) | exact HB.out)) hb); clear HB; have HB := n0_; clear n0_; (try clear hb); (try clear hb2); (try clear hk); (try clear hi)) | ((with_reducible refine gate_callee (f := 13) rfl ?_); (with_reducible refine gate_dst (N := 58) rfl ?_); (refine gate_guard (by rfl) ?_; dsimp only); refine goesL_ (some 58) rfl rfl Try.func13 (by kernel_rfl) rfl #[.int .i64 (wrap64 (-(ji8)))] rfl (by (try simp only [List.map_toArray, List.map_cons, List.map_nil]); first | done | (simp only [hji8]; rfl) | rfl | (simp only [List.length_drop, List.length_take]; rfl)) ?_; (with_reducible refine (code_Size.calls k (wrap64 (-(ji8))) t251 _ A43.out).mono ?_); rintro e w56 ⟨rfl, hb⟩; refine ⟨_, rfl, ?_⟩; have n0_ := Aside0.mk (below_step (by repeat (first | (with_reducible first | exact HB.out | apply below_alloc | apply pw_below_drewN | apply below_drew1) | exact HB.out)) hb); clear HB; have HB := n0_; clear n0_; (try clear hb); (try clear hb2); (try clear hk); (try clear hi)) | ((with_reducible refine gate_callee (f := 13) rfl ?_); (with_reducible refine gate_dst (N := 61) rfl ?_); (refine gate_guard (by rfl) ?_; dsimp only); refine goesL_ (some 61) rfl rfl Try.func13 (by kernel_rfl) rfl #[.int .i64 (wrap64 ((ji8) - 1))] rfl (by (try simp only [List.map_toArray, List.map_cons, List.map_nil]); first | done | (simp only [hji8]; rfl) | rfl | (simp only [List.length_drop, List.length_take]; rfl)) ?_; (with_reducible refine (code_Size.calls k (wrap64 ((ji8) - 1)) t252 _ A44.out).mono ?_); rintro e w57 ⟨rfl, hb⟩; refine ⟨_, rfl, ?_⟩; have n0_ := Aside0.mk (below_step (by repeat (first | (with_reducible first | exact HB.out | apply below_alloc | apply pw_below_drewN | apply below_drew1) | exact HB.out)) hb); clear HB; have HB := n0_; clear n0_; (try clear hb); (try clear hb2); (try clear hk); (try clear hi)) | ((with_reducible refine gate_callee (f := 11) rfl ?_); (with_reducible refine gate_dst (N := 66) rfl ?_); (refine gate_guard (by rfl) ?_; dsimp only); refine goesL_ (some 66) rfl rfl Try.func11 (by kernel_rfl) rfl #[.int .i64 a0] rfl (by (try simp only [List.map_toArray, List.map_cons, List.map_nil]); first | done | rfl | (simp only [List.length_drop, List.length_take]; rfl)) ?_; (with_reducible refine (code_Put.calls k a0 t253 _ A46.out).mono ?_); rintro e w58 ⟨rfl, hb⟩; refine ⟨_, rfl, ?_⟩; have n0_ := Aside0.mk (below_step (by repeat (first | (with_reducible first | exact HB.out | apply below_alloc | apply pw_below_drewN | apply below_drew1) | exact HB.out)) hb); clear HB; have HB := n0_; clear n0_; (try clear hb); (try clear hb2); (try clear hk); (try clear hi)) | ((with_reducible refine gate_callee (f := 13) rfl ?_); (with_reducible refine gate_dst (N := 69) rfl ?_); (refine gate_guard (by rfl) ?_; dsimp only); refine goesL_ (some 69) rfl rfl Try.func13 (by kernel_rfl) rfl #[.int .i64 a0] rfl (by (try simp only [List.map_toArray, List.map_cons, List.map_nil]); first | done | rfl | (simp only [List.length_drop, List.length_take]; rfl)) ?_; (with_reducible refine (code_Size.calls k a0 t254 _ A47.out).mono ?_); rintro e w59 ⟨rfl, hb⟩; refine ⟨_, rfl, ?_⟩; have n0_ := Aside0.mk (below_step (by repeat (first | (with_reducible first | exact HB.out | apply below_alloc | apply pw_below_drewN | apply below_drew1) | exact HB.out)) hb); clear HB; have HB := n0_; clear n0_; (try clear hb); (try clear hb2); (try clear hk); (try clear hi)) | ((with_reducible refine gate_callee (f := 10) rfl ?_); (with_reducible refine gate_dst (N := 73) rfl ?_); (refine gate_guard (by rfl) ?_; dsimp only); refine goesL_ (some 73) rfl rfl Try.func10 (by kernel_rfl) rfl #[] rfl (by (try simp only [List.map_toArray, List.map_cons, List.map_nil]); first | done | rfl | (simp only [List.length_drop, List.length_take]; rfl)) ?_; (with_reducible refine (camshaftlaw02_known.calls k  t255 _ A49.out).mono ?_); rintro e w60 ⟨rfl, hb⟩; refine ⟨_, rfl, ?_⟩; have n0_ := Aside0.mk (below_step (by repeat (first | (with_reducible first | exact HB.out | apply below_alloc | apply pw_below_drewN | apply below_drew1) | exact HB.out)) hb); clear HB; have HB := n0_; clear n0_; (try clear hb); (try clear hb2); (try clear hk); (try clear hi)))
                  go_ret
                  exact ⟨by first | rfl | (simp [errW_none, errW_some] <;> rfl) | (simp only [← hji4, ← hji5, ← hji6, ← hji8]; first | rfl | (simp [errW_none, errW_some] <;> rfl)) | (simp [*, errW_none, errW_some] <;> rfl), by repeat (first | (with_reducible first | exact HB.out | apply below_alloc | apply pw_below_drewN | apply below_drew1) | exact HB.out | exact Below.refl _ _)⟩
                · rw [if_neg c48] at H
                  have c48b0 : ((t253.size : Int) == t254) = false := beq_eq_false_iff_ne.mpr c48
                  have c48b1 : ((t253.size : Int) != t254) = true := bne_iff_ne.mpr c48
                  exact absurd ((Option.some.inj H).trans HT.out) (by decide)
              · rw [if_neg c45] at H
                have c45b0 : (t251 == t252) = false := beq_eq_false_iff_ne.mpr c45
                have c45b1 : (t251 != t252) = true := bne_iff_ne.mpr c45
                exact absurd ((Option.some.inj H).trans HT.out) (by decide)
            · rw [if_neg c42] at H
              have c42b0 : (t249 == (wrap64 (t250 + 1))) = false := beq_eq_false_iff_ne.mpr c42
              have c42b1 : (t249 != (wrap64 (t250 + 1))) = true := bne_iff_ne.mpr c42
              exact absurd ((Option.some.inj H).trans HT.out) (by decide)
          · rw [if_neg c39] at H
            have c39b0 : decide (t248 ≤ 10) = false := decide_eq_false c39
            clear c39
            exact absurd ((Option.some.inj H).trans HT.out) (by decide)
        · rw [if_neg c37] at H
          have c37b0 : decide (1 ≤ t247) = false := decide_eq_false c37
          clear c37
          exact absurd ((Option.some.inj H).trans HT.out) (by decide)
      · rw [if_neg c35] at H
        have c35b0 : decide (t245 ≤ t246) = false := decide_eq_false c35
        clear c35
        exact absurd ((Option.some.inj H).trans HT.out) (by decide)
  · rw [if_neg c7] at H
    exact absurd H (by simp)

/-- THE ONE PURE STATEMENT of camshaftlaw02_CodeSizes: yours. -/
def camshaftlaw02_CodeSizes.Pure : Prop := ∀ (a0 : Int) (a1 : Int) (a2 : Int), (Lit.int .i64 a0).wf = true → (Lit.int .i64 a1).wf = true → (Lit.int .u8 a2).wf = true → ∃ k, camshaftlaw02_CodeSizes.f k a0 a1 a2 = some true
theorem camshaftlaw02_CodeSizes.walk (P : camshaftlaw02_CodeSizes.Pure) (a0 : Int) (a1 : Int) (a2 : Int) (w : World) (w0 : (Lit.int .i64 a0).wf = true) (w1 : (Lit.int .i64 a1).wf = true) (w2 : (Lit.int .u8 a2).wf = true) :
    Calls Try.prog 6 #[.int .i64 a0, .int .i64 a1, .int .u8 a2] w fun e w' => e = .returned (.bool true) ∧ Below w.heap.size w w' := by
  obtain ⟨k, h⟩ := P a0 a1 a2 w0 w1 w2
  refine (camshaftlaw02_CodeSizes.calls k a0 a1 a2 true w h rfl).mono ?_
  rintro e w' ⟨rfl, hd⟩
  exact ⟨rfl, hd⟩

/-! ### camshaftlaw02_CodeOne: function 7 -/
def camshaftlaw02_CodeOne.f (k : Nat) (a0 : Int) (a1 : Int) : Option (Bool) := (code_Put.f k a0).bind fun t256 => ((code_Put.f k a1).bind fun t257 => (if (t256.size : Int) ≤ (t257.size : Int) then (if 0 ≤ (t256.size : Int) then (if (t257.extract 0 t256.size).toList = t256.toList then (if (true == (a0 == a1)) = true then ((camshaftlaw02_known.f k).bind fun t258 => (some t258)) else (some false)) else (if (t257.size : Int) ≤ (t256.size : Int) then (if 0 ≤ (t257.size : Int) then (if (((t256.extract 0 t257.size).toList == t257.toList) == (a0 == a1)) = true then ((camshaftlaw02_known.f k).bind fun t259 => (some t259)) else (some false)) else (none)) else (if (false == (a0 == a1)) = true then ((camshaftlaw02_known.f k).bind fun t260 => (some t260)) else (some false)))) else (none)) else (if (t257.size : Int) ≤ (t256.size : Int) then (if 0 ≤ (t257.size : Int) then (if (((t256.extract 0 t257.size).toList == t257.toList) == (a0 == a1)) = true then ((camshaftlaw02_known.f k).bind fun t261 => (some t261)) else (some false)) else (none)) else (if (false == (a0 == a1)) = true then ((camshaftlaw02_known.f k).bind fun t262 => (some t262)) else (some false)))))
theorem camshaftlaw02_CodeOne.mono : ∀ a0 a1 k, LeO (camshaftlaw02_CodeOne.f k a0 a1) (camshaftlaw02_CodeOne.f (k + 1) a0 a1) := by
  intro a0 a1 k
  unfold camshaftlaw02_CodeOne.f
  repeat' first
      | (with_reducible exact camshaftlaw02_known.mono _)
      | (with_reducible exact code_Put.mono _ _)
      | (with_reducible exact LeO.refl _)
      | (with_reducible exact LeO.none _)
      | (with_reducible refine LeO.ite ?_ ?_)
      | (with_reducible refine LeO.bind ?_ (fun _ => ?_))
      | exact camshaftlaw02_known.mono _
      | exact code_Put.mono _ _
      | exact LeO.none _
      | refine LeO.ite ?_ ?_
      | refine LeO.bind ?_ (fun _ => ?_)
set_option maxHeartbeats 8000000 in
set_option maxRecDepth 100000 in
theorem camshaftlaw02_CodeOne.calls (k : Nat) (a0 : Int) (a1 : Int) (r : Bool) (w : World) (h : camshaftlaw02_CodeOne.f k a0 a1 = some r) (ht : r = true) :
    Calls Try.prog 7 #[.int .i64 a0, .int .i64 a1] w fun e w' => e = .returned (.bool r) ∧ Below w.heap.size w w' := by
  have HT := Aside0.mk ht
  clear ht
  have HB := Aside0.mk (Below.refl w.heap.size w)
  have H : ((code_Put.f k a0).bind fun t256 => ((code_Put.f k a1).bind fun t257 => (if (t256.size : Int) ≤ (t257.size : Int) then (if 0 ≤ (t256.size : Int) then (if (t257.extract 0 t256.size).toList = t256.toList then (if (true == (a0 == a1)) = true then ((camshaftlaw02_known.f k).bind fun t258 => (some t258)) else (some false)) else (if (t257.size : Int) ≤ (t256.size : Int) then (if 0 ≤ (t257.size : Int) then (if (((t256.extract 0 t257.size).toList == t257.toList) == (a0 == a1)) = true then ((camshaftlaw02_known.f k).bind fun t259 => (some t259)) else (some false)) else (none)) else (if (false == (a0 == a1)) = true then ((camshaftlaw02_known.f k).bind fun t260 => (some t260)) else (some false)))) else (none)) else (if (t257.size : Int) ≤ (t256.size : Int) then (if 0 ≤ (t257.size : Int) then (if (((t256.extract 0 t257.size).toList == t257.toList) == (a0 == a1)) = true then ((camshaftlaw02_known.f k).bind fun t261 => (some t261)) else (some false)) else (none)) else (if (false == (a0 == a1)) = true then ((camshaftlaw02_known.f k).bind fun t262 => (some t262)) else (some false)))))) = some r := h
  clear h
  replace H := Option.bind_eq_some_iff.mp H
  obtain ⟨t256, A30, H⟩ := H
  replace H : ((code_Put.f k a1).bind fun t257 => (if (t256.size : Int) ≤ (t257.size : Int) then (if 0 ≤ (t256.size : Int) then (if (t257.extract 0 t256.size).toList = t256.toList then (if (true == (a0 == a1)) = true then ((camshaftlaw02_known.f k).bind fun t258 => (some t258)) else (some false)) else (if (t257.size : Int) ≤ (t256.size : Int) then (if 0 ≤ (t257.size : Int) then (if (((t256.extract 0 t257.size).toList == t257.toList) == (a0 == a1)) = true then ((camshaftlaw02_known.f k).bind fun t259 => (some t259)) else (some false)) else (none)) else (if (false == (a0 == a1)) = true then ((camshaftlaw02_known.f k).bind fun t260 => (some t260)) else (some false)))) else (none)) else (if (t257.size : Int) ≤ (t256.size : Int) then (if 0 ≤ (t257.size : Int) then (if (((t256.extract 0 t257.size).toList == t257.toList) == (a0 == a1)) = true then ((camshaftlaw02_known.f k).bind fun t261 => (some t261)) else (some false)) else (none)) else (if (false == (a0 == a1)) = true then ((camshaftlaw02_known.f k).bind fun t262 => (some t262)) else (some false))))) = some r := H
  have A3 := Aside0.mk A30
  clear A30
  replace H := Option.bind_eq_some_iff.mp H
  obtain ⟨t257, A40, H⟩ := H
  replace H : (if (t256.size : Int) ≤ (t257.size : Int) then (if 0 ≤ (t256.size : Int) then (if (t257.extract 0 t256.size).toList = t256.toList then (if (true == (a0 == a1)) = true then ((camshaftlaw02_known.f k).bind fun t258 => (some t258)) else (some false)) else (if (t257.size : Int) ≤ (t256.size : Int) then (if 0 ≤ (t257.size : Int) then (if (((t256.extract 0 t257.size).toList == t257.toList) == (a0 == a1)) = true then ((camshaftlaw02_known.f k).bind fun t259 => (some t259)) else (some false)) else (none)) else (if (false == (a0 == a1)) = true then ((camshaftlaw02_known.f k).bind fun t260 => (some t260)) else (some false)))) else (none)) else (if (t257.size : Int) ≤ (t256.size : Int) then (if 0 ≤ (t257.size : Int) then (if (((t256.extract 0 t257.size).toList == t257.toList) == (a0 == a1)) = true then ((camshaftlaw02_known.f k).bind fun t261 => (some t261)) else (some false)) else (none)) else (if (false == (a0 == a1)) = true then ((camshaftlaw02_known.f k).bind fun t262 => (some t262)) else (some false)))) = some r := H
  have A4 := Aside0.mk A40
  clear A40
  by_cases c5 : (t256.size : Int) ≤ (t257.size : Int)
  · rw [if_pos c5] at H
    have c5b0 : decide ((t256.size : Int) ≤ (t257.size : Int)) = true := decide_eq_true c5
    have c5b1 : decide (t256.size ≤ t257.size) = true := decide_eq_true (Int.ofNat_le.mp c5)
    clear c5
    by_cases c6 : 0 ≤ (t256.size : Int)
    · rw [if_pos c6] at H
      have c6b0 := eq_true c6
      have c6b1 : decide (0 ≤ (t256.size : Int)) = true := decide_eq_true c6
      clear c6
      have c7b0 := eq_true (of_decide_eq_true (by first | (with_reducible assumption) | assumption) : (t256.size : Int) ≤ (t257.size : Int))
      by_cases c8 : (t257.extract 0 t256.size).toList = t256.toList
      · rw [if_pos c8] at H
        have c8b0 : ((t257.extract 0 t256.size).toList == t256.toList) = true := beq_iff_eq.mpr c8
        have c8b1 : ((t257.extract 0 t256.size).toList != t256.toList) = false := bne_eq_false_iff_eq.mpr c8
        clear c8
        by_cases c9 : (true == (a0 == a1)) = true
        · rw [if_pos c9] at H
          have c9b0 : (true == (a0 == a1)) = true := c9
          (try (have c9b1 : decide (true = (a0 == a1)) = true := by simpa using c9))
          (try (have c9b2 : (true == (a0 == a1)) = true := by simpa using c9))
          clear c9
          replace H := Option.bind_eq_some_iff.mp H
          obtain ⟨t258, A100, H⟩ := H
          replace H : (some t258) = some r := H
          have A10 := Aside0.mk A100
          clear A100
          obtain rfl := Option.some.inj H
          go_enter Try.func7, Try.ntmps7
          go_wp2_with (first | ((with_reducible refine gate_callee (f := 11) rfl ?_); refine goesL_ (some 9) rfl rfl Try.func11 (by kernel_rfl) rfl #[.int .i64 a0] rfl (by (try simp only [List.map_toArray, List.map_cons, List.map_nil]); first | done | rfl | (simp only [List.length_drop, List.length_take]; rfl)) ?_; (with_reducible refine (code_Put.calls k a0 t256 _ A3.out).mono ?_); rintro e w11 ⟨rfl, hb⟩; refine ⟨_, rfl, ?_⟩; have n0_ := Aside0.mk (below_step (by repeat (first | (with_reducible first | exact HB.out | apply below_alloc | apply pw_below_drewN | apply below_drew1) | exact HB.out)) hb); clear HB; have HB := n0_; clear n0_; (try clear hb); (try clear hb2); (try clear hk); (try clear hi)) | ((with_reducible refine gate_callee (f := 11) rfl ?_); refine goesL_ (some 11) rfl rfl Try.func11 (by kernel_rfl) rfl #[.int .i64 a1] rfl (by (try simp only [List.map_toArray, List.map_cons, List.map_nil]); first | done | rfl | (simp only [List.length_drop, List.length_take]; rfl)) ?_; (with_reducible refine (code_Put.calls k a1 t257 _ A4.out).mono ?_); rintro e w12 ⟨rfl, hb⟩; refine ⟨_, rfl, ?_⟩; have n0_ := Aside0.mk (below_step (by repeat (first | (with_reducible first | exact HB.out | apply below_alloc | apply pw_below_drewN | apply below_drew1) | exact HB.out)) hb); clear HB; have HB := n0_; clear n0_; (try clear hb); (try clear hb2); (try clear hk); (try clear hi)) | ((with_reducible refine gate_callee (f := 10) rfl ?_); (with_reducible refine gate_dst (N := 46) rfl ?_); (refine gate_guard (by rfl) ?_; dsimp only); refine goesL_ (some 46) rfl rfl Try.func10 (by kernel_rfl) rfl #[] rfl (by (try simp only [List.map_toArray, List.map_cons, List.map_nil]); first | done | rfl | (simp only [List.length_drop, List.length_take]; rfl)) ?_; (with_reducible refine (camshaftlaw02_known.calls k  t258 _ A10.out).mono ?_); rintro e w13 ⟨rfl, hb⟩; refine ⟨_, rfl, ?_⟩; have n0_ := Aside0.mk (below_step (by repeat (first | (with_reducible first | exact HB.out | apply below_alloc | apply pw_below_drewN | apply below_drew1) | exact HB.out)) hb); clear HB; have HB := n0_; clear n0_; (try clear hb); (try clear hb2); (try clear hk); (try clear hi)))
          go_ret
          exact ⟨by first | rfl | (simp [errW_none, errW_some] <;> rfl) | (simp [*, errW_none, errW_some] <;> rfl), by repeat (first | (with_reducible first | exact HB.out | apply below_alloc | apply pw_below_drewN | apply below_drew1) | exact HB.out | exact Below.refl _ _)⟩
        · rw [if_neg c9] at H
          have c9b0 : (true == (a0 == a1)) = false := by simpa using c9
          (try (have c9b1 : decide (true = (a0 == a1)) = false := by simpa using c9))
          (try (have c9b2 : (true == (a0 == a1)) = false := by simpa using c9))
          (try (have c9b3 : ¬ (true = (a0 == a1)) := by simpa using c9))
          clear c9
          exact absurd ((Option.some.inj H).trans HT.out) (by decide)
      · rw [if_neg c8] at H
        have c8b0 : ((t257.extract 0 t256.size).toList == t256.toList) = false := beq_eq_false_iff_ne.mpr c8
        have c8b1 : ((t257.extract 0 t256.size).toList != t256.toList) = true := bne_iff_ne.mpr c8
        by_cases c14 : (t257.size : Int) ≤ (t256.size : Int)
        · rw [if_pos c14] at H
          have c14b0 : decide ((t257.size : Int) ≤ (t256.size : Int)) = true := decide_eq_true c14
          have c14b1 : decide (t257.size ≤ t256.size) = true := decide_eq_true (Int.ofNat_le.mp c14)
          clear c14
          by_cases c15 : 0 ≤ (t257.size : Int)
          · rw [if_pos c15] at H
            have c15b0 := eq_true c15
            have c15b1 : decide (0 ≤ (t257.size : Int)) = true := decide_eq_true c15
            clear c15
            have c16b0 := eq_true (of_decide_eq_true (by first | (with_reducible assumption) | assumption) : (t257.size : Int) ≤ (t256.size : Int))
            by_cases c17 : (((t256.extract 0 t257.size).toList == t257.toList) == (a0 == a1)) = true
            · rw [if_pos c17] at H
              have c17b0 : (((t256.extract 0 t257.size).toList == t257.toList) == (a0 == a1)) = true := c17
              (try (have c17b1 : decide (((t256.extract 0 t257.size).toList == t257.toList) = (a0 == a1)) = true := by simpa using c17))
              (try (have c17b2 : (((t256.extract 0 t257.size).toList == t257.toList) == (a0 == a1)) = true := by simpa using c17))
              clear c17
              replace H := Option.bind_eq_some_iff.mp H
              obtain ⟨t259, A180, H⟩ := H
              replace H : (some t259) = some r := H
              have A18 := Aside0.mk A180
              clear A180
              obtain rfl := Option.some.inj H
              go_enter Try.func7, Try.ntmps7
              go_wp2_with (first | ((with_reducible refine gate_callee (f := 11) rfl ?_); refine goesL_ (some 9) rfl rfl Try.func11 (by kernel_rfl) rfl #[.int .i64 a0] rfl (by (try simp only [List.map_toArray, List.map_cons, List.map_nil]); first | done | rfl | (simp only [List.length_drop, List.length_take]; rfl)) ?_; (with_reducible refine (code_Put.calls k a0 t256 _ A3.out).mono ?_); rintro e w19 ⟨rfl, hb⟩; refine ⟨_, rfl, ?_⟩; have n0_ := Aside0.mk (below_step (by repeat (first | (with_reducible first | exact HB.out | apply below_alloc | apply pw_below_drewN | apply below_drew1) | exact HB.out)) hb); clear HB; have HB := n0_; clear n0_; (try clear hb); (try clear hb2); (try clear hk); (try clear hi)) | ((with_reducible refine gate_callee (f := 11) rfl ?_); refine goesL_ (some 11) rfl rfl Try.func11 (by kernel_rfl) rfl #[.int .i64 a1] rfl (by (try simp only [List.map_toArray, List.map_cons, List.map_nil]); first | done | rfl | (simp only [List.length_drop, List.length_take]; rfl)) ?_; (with_reducible refine (code_Put.calls k a1 t257 _ A4.out).mono ?_); rintro e w20 ⟨rfl, hb⟩; refine ⟨_, rfl, ?_⟩; have n0_ := Aside0.mk (below_step (by repeat (first | (with_reducible first | exact HB.out | apply below_alloc | apply pw_below_drewN | apply below_drew1) | exact HB.out)) hb); clear HB; have HB := n0_; clear n0_; (try clear hb); (try clear hb2); (try clear hk); (try clear hi)) | ((with_reducible refine gate_callee (f := 10) rfl ?_); (with_reducible refine gate_dst (N := 46) rfl ?_); (refine gate_guard (by rfl) ?_; dsimp only); refine goesL_ (some 46) rfl rfl Try.func10 (by kernel_rfl) rfl #[] rfl (by (try simp only [List.map_toArray, List.map_cons, List.map_nil]); first | done | rfl | (simp only [List.length_drop, List.length_take]; rfl)) ?_; (with_reducible refine (camshaftlaw02_known.calls k  t259 _ A18.out).mono ?_); rintro e w21 ⟨rfl, hb⟩; refine ⟨_, rfl, ?_⟩; have n0_ := Aside0.mk (below_step (by repeat (first | (with_reducible first | exact HB.out | apply below_alloc | apply pw_below_drewN | apply below_drew1) | exact HB.out)) hb); clear HB; have HB := n0_; clear n0_; (try clear hb); (try clear hb2); (try clear hk); (try clear hi)))
              go_ret
              exact ⟨by first | rfl | (simp [errW_none, errW_some] <;> rfl) | (simp [*, errW_none, errW_some] <;> rfl), by repeat (first | (with_reducible first | exact HB.out | apply below_alloc | apply pw_below_drewN | apply below_drew1) | exact HB.out | exact Below.refl _ _)⟩
            · rw [if_neg c17] at H
              have c17b0 : (((t256.extract 0 t257.size).toList == t257.toList) == (a0 == a1)) = false := by simpa using c17
              (try (have c17b1 : decide (((t256.extract 0 t257.size).toList == t257.toList) = (a0 == a1)) = false := by simpa using c17))
              (try (have c17b2 : (((t256.extract 0 t257.size).toList == t257.toList) == (a0 == a1)) = false := by simpa using c17))
              (try (have c17b3 : ¬ (((t256.extract 0 t257.size).toList == t257.toList) = (a0 == a1)) := by simpa using c17))
              clear c17
              exact absurd ((Option.some.inj H).trans HT.out) (by decide)
          · rw [if_neg c15] at H
            exact absurd H (by simp)
        · rw [if_neg c14] at H
          have c14b0 : decide ((t257.size : Int) ≤ (t256.size : Int)) = false := decide_eq_false c14
          have c14b1 : decide (t257.size ≤ t256.size) = false := decide_eq_false (fun h => c14 (Int.ofNat_le.mpr h))
          clear c14
          by_cases c22 : (false == (a0 == a1)) = true
          · rw [if_pos c22] at H
            have c22b0 : (false == (a0 == a1)) = true := c22
            (try (have c22b1 : decide (false = (a0 == a1)) = true := by simpa using c22))
            (try (have c22b2 : (false == (a0 == a1)) = true := by simpa using c22))
            clear c22
            replace H := Option.bind_eq_some_iff.mp H
            obtain ⟨t260, A230, H⟩ := H
            replace H : (some t260) = some r := H
            have A23 := Aside0.mk A230
            clear A230
            obtain rfl := Option.some.inj H
            go_enter Try.func7, Try.ntmps7
            go_wp2_with (first | ((with_reducible refine gate_callee (f := 11) rfl ?_); refine goesL_ (some 9) rfl rfl Try.func11 (by kernel_rfl) rfl #[.int .i64 a0] rfl (by (try simp only [List.map_toArray, List.map_cons, List.map_nil]); first | done | rfl | (simp only [List.length_drop, List.length_take]; rfl)) ?_; (with_reducible refine (code_Put.calls k a0 t256 _ A3.out).mono ?_); rintro e w24 ⟨rfl, hb⟩; refine ⟨_, rfl, ?_⟩; have n0_ := Aside0.mk (below_step (by repeat (first | (with_reducible first | exact HB.out | apply below_alloc | apply pw_below_drewN | apply below_drew1) | exact HB.out)) hb); clear HB; have HB := n0_; clear n0_; (try clear hb); (try clear hb2); (try clear hk); (try clear hi)) | ((with_reducible refine gate_callee (f := 11) rfl ?_); refine goesL_ (some 11) rfl rfl Try.func11 (by kernel_rfl) rfl #[.int .i64 a1] rfl (by (try simp only [List.map_toArray, List.map_cons, List.map_nil]); first | done | rfl | (simp only [List.length_drop, List.length_take]; rfl)) ?_; (with_reducible refine (code_Put.calls k a1 t257 _ A4.out).mono ?_); rintro e w25 ⟨rfl, hb⟩; refine ⟨_, rfl, ?_⟩; have n0_ := Aside0.mk (below_step (by repeat (first | (with_reducible first | exact HB.out | apply below_alloc | apply pw_below_drewN | apply below_drew1) | exact HB.out)) hb); clear HB; have HB := n0_; clear n0_; (try clear hb); (try clear hb2); (try clear hk); (try clear hi)) | ((with_reducible refine gate_callee (f := 10) rfl ?_); (with_reducible refine gate_dst (N := 46) rfl ?_); (refine gate_guard (by rfl) ?_; dsimp only); refine goesL_ (some 46) rfl rfl Try.func10 (by kernel_rfl) rfl #[] rfl (by (try simp only [List.map_toArray, List.map_cons, List.map_nil]); first | done | rfl | (simp only [List.length_drop, List.length_take]; rfl)) ?_; (with_reducible refine (camshaftlaw02_known.calls k  t260 _ A23.out).mono ?_); rintro e w26 ⟨rfl, hb⟩; refine ⟨_, rfl, ?_⟩; have n0_ := Aside0.mk (below_step (by repeat (first | (with_reducible first | exact HB.out | apply below_alloc | apply pw_below_drewN | apply below_drew1) | exact HB.out)) hb); clear HB; have HB := n0_; clear n0_; (try clear hb); (try clear hb2); (try clear hk); (try clear hi)))
            go_ret
            exact ⟨by first | rfl | (simp [errW_none, errW_some] <;> rfl) | (simp [*, errW_none, errW_some] <;> rfl), by repeat (first | (with_reducible first | exact HB.out | apply below_alloc | apply pw_below_drewN | apply below_drew1) | exact HB.out | exact Below.refl _ _)⟩
          · rw [if_neg c22] at H
            have c22b0 : (false == (a0 == a1)) = false := by simpa using c22
            (try (have c22b1 : decide (false = (a0 == a1)) = false := by simpa using c22))
            (try (have c22b2 : (false == (a0 == a1)) = false := by simpa using c22))
            (try (have c22b3 : ¬ (false = (a0 == a1)) := by simpa using c22))
            clear c22
            exact absurd ((Option.some.inj H).trans HT.out) (by decide)
    · rw [if_neg c6] at H
      exact absurd H (by simp)
  · rw [if_neg c5] at H
    have c5b0 : decide ((t256.size : Int) ≤ (t257.size : Int)) = false := decide_eq_false c5
    have c5b1 : decide (t256.size ≤ t257.size) = false := decide_eq_false (fun h => c5 (Int.ofNat_le.mpr h))
    clear c5
    by_cases c27 : (t257.size : Int) ≤ (t256.size : Int)
    · rw [if_pos c27] at H
      have c27b0 : decide ((t257.size : Int) ≤ (t256.size : Int)) = true := decide_eq_true c27
      have c27b1 : decide (t257.size ≤ t256.size) = true := decide_eq_true (Int.ofNat_le.mp c27)
      clear c27
      by_cases c28 : 0 ≤ (t257.size : Int)
      · rw [if_pos c28] at H
        have c28b0 := eq_true c28
        have c28b1 : decide (0 ≤ (t257.size : Int)) = true := decide_eq_true c28
        clear c28
        have c29b0 := eq_true (of_decide_eq_true (by first | (with_reducible assumption) | assumption) : (t257.size : Int) ≤ (t256.size : Int))
        by_cases c30 : (((t256.extract 0 t257.size).toList == t257.toList) == (a0 == a1)) = true
        · rw [if_pos c30] at H
          have c30b0 : (((t256.extract 0 t257.size).toList == t257.toList) == (a0 == a1)) = true := c30
          (try (have c30b1 : decide (((t256.extract 0 t257.size).toList == t257.toList) = (a0 == a1)) = true := by simpa using c30))
          (try (have c30b2 : (((t256.extract 0 t257.size).toList == t257.toList) == (a0 == a1)) = true := by simpa using c30))
          clear c30
          replace H := Option.bind_eq_some_iff.mp H
          obtain ⟨t261, A310, H⟩ := H
          replace H : (some t261) = some r := H
          have A31 := Aside0.mk A310
          clear A310
          obtain rfl := Option.some.inj H
          go_enter Try.func7, Try.ntmps7
          go_wp2_with (first | ((with_reducible refine gate_callee (f := 11) rfl ?_); refine goesL_ (some 9) rfl rfl Try.func11 (by kernel_rfl) rfl #[.int .i64 a0] rfl (by (try simp only [List.map_toArray, List.map_cons, List.map_nil]); first | done | rfl | (simp only [List.length_drop, List.length_take]; rfl)) ?_; (with_reducible refine (code_Put.calls k a0 t256 _ A3.out).mono ?_); rintro e w32 ⟨rfl, hb⟩; refine ⟨_, rfl, ?_⟩; have n0_ := Aside0.mk (below_step (by repeat (first | (with_reducible first | exact HB.out | apply below_alloc | apply pw_below_drewN | apply below_drew1) | exact HB.out)) hb); clear HB; have HB := n0_; clear n0_; (try clear hb); (try clear hb2); (try clear hk); (try clear hi)) | ((with_reducible refine gate_callee (f := 11) rfl ?_); refine goesL_ (some 11) rfl rfl Try.func11 (by kernel_rfl) rfl #[.int .i64 a1] rfl (by (try simp only [List.map_toArray, List.map_cons, List.map_nil]); first | done | rfl | (simp only [List.length_drop, List.length_take]; rfl)) ?_; (with_reducible refine (code_Put.calls k a1 t257 _ A4.out).mono ?_); rintro e w33 ⟨rfl, hb⟩; refine ⟨_, rfl, ?_⟩; have n0_ := Aside0.mk (below_step (by repeat (first | (with_reducible first | exact HB.out | apply below_alloc | apply pw_below_drewN | apply below_drew1) | exact HB.out)) hb); clear HB; have HB := n0_; clear n0_; (try clear hb); (try clear hb2); (try clear hk); (try clear hi)) | ((with_reducible refine gate_callee (f := 10) rfl ?_); (with_reducible refine gate_dst (N := 46) rfl ?_); (refine gate_guard (by rfl) ?_; dsimp only); refine goesL_ (some 46) rfl rfl Try.func10 (by kernel_rfl) rfl #[] rfl (by (try simp only [List.map_toArray, List.map_cons, List.map_nil]); first | done | rfl | (simp only [List.length_drop, List.length_take]; rfl)) ?_; (with_reducible refine (camshaftlaw02_known.calls k  t261 _ A31.out).mono ?_); rintro e w34 ⟨rfl, hb⟩; refine ⟨_, rfl, ?_⟩; have n0_ := Aside0.mk (below_step (by repeat (first | (with_reducible first | exact HB.out | apply below_alloc | apply pw_below_drewN | apply below_drew1) | exact HB.out)) hb); clear HB; have HB := n0_; clear n0_; (try clear hb); (try clear hb2); (try clear hk); (try clear hi)))
          go_ret
          exact ⟨by first | rfl | (simp [errW_none, errW_some] <;> rfl) | (simp [*, errW_none, errW_some] <;> rfl), by repeat (first | (with_reducible first | exact HB.out | apply below_alloc | apply pw_below_drewN | apply below_drew1) | exact HB.out | exact Below.refl _ _)⟩
        · rw [if_neg c30] at H
          have c30b0 : (((t256.extract 0 t257.size).toList == t257.toList) == (a0 == a1)) = false := by simpa using c30
          (try (have c30b1 : decide (((t256.extract 0 t257.size).toList == t257.toList) = (a0 == a1)) = false := by simpa using c30))
          (try (have c30b2 : (((t256.extract 0 t257.size).toList == t257.toList) == (a0 == a1)) = false := by simpa using c30))
          (try (have c30b3 : ¬ (((t256.extract 0 t257.size).toList == t257.toList) = (a0 == a1)) := by simpa using c30))
          clear c30
          exact absurd ((Option.some.inj H).trans HT.out) (by decide)
      · rw [if_neg c28] at H
        exact absurd H (by simp)
    · rw [if_neg c27] at H
      have c27b0 : decide ((t257.size : Int) ≤ (t256.size : Int)) = false := decide_eq_false c27
      have c27b1 : decide (t257.size ≤ t256.size) = false := decide_eq_false (fun h => c27 (Int.ofNat_le.mpr h))
      clear c27
      by_cases c35 : (false == (a0 == a1)) = true
      · rw [if_pos c35] at H
        have c35b0 : (false == (a0 == a1)) = true := c35
        (try (have c35b1 : decide (false = (a0 == a1)) = true := by simpa using c35))
        (try (have c35b2 : (false == (a0 == a1)) = true := by simpa using c35))
        clear c35
        replace H := Option.bind_eq_some_iff.mp H
        obtain ⟨t262, A360, H⟩ := H
        replace H : (some t262) = some r := H
        have A36 := Aside0.mk A360
        clear A360
        obtain rfl := Option.some.inj H
        go_enter Try.func7, Try.ntmps7
        go_wp2_with (first | ((with_reducible refine gate_callee (f := 11) rfl ?_); refine goesL_ (some 9) rfl rfl Try.func11 (by kernel_rfl) rfl #[.int .i64 a0] rfl (by (try simp only [List.map_toArray, List.map_cons, List.map_nil]); first | done | rfl | (simp only [List.length_drop, List.length_take]; rfl)) ?_; (with_reducible refine (code_Put.calls k a0 t256 _ A3.out).mono ?_); rintro e w37 ⟨rfl, hb⟩; refine ⟨_, rfl, ?_⟩; have n0_ := Aside0.mk (below_step (by repeat (first | (with_reducible first | exact HB.out | apply below_alloc | apply pw_below_drewN | apply below_drew1) | exact HB.out)) hb); clear HB; have HB := n0_; clear n0_; (try clear hb); (try clear hb2); (try clear hk); (try clear hi)) | ((with_reducible refine gate_callee (f := 11) rfl ?_); refine goesL_ (some 11) rfl rfl Try.func11 (by kernel_rfl) rfl #[.int .i64 a1] rfl (by (try simp only [List.map_toArray, List.map_cons, List.map_nil]); first | done | rfl | (simp only [List.length_drop, List.length_take]; rfl)) ?_; (with_reducible refine (code_Put.calls k a1 t257 _ A4.out).mono ?_); rintro e w38 ⟨rfl, hb⟩; refine ⟨_, rfl, ?_⟩; have n0_ := Aside0.mk (below_step (by repeat (first | (with_reducible first | exact HB.out | apply below_alloc | apply pw_below_drewN | apply below_drew1) | exact HB.out)) hb); clear HB; have HB := n0_; clear n0_; (try clear hb); (try clear hb2); (try clear hk); (try clear hi)) | ((with_reducible refine gate_callee (f := 10) rfl ?_); (with_reducible refine gate_dst (N := 46) rfl ?_); (refine gate_guard (by rfl) ?_; dsimp only); refine goesL_ (some 46) rfl rfl Try.func10 (by kernel_rfl) rfl #[] rfl (by (try simp only [List.map_toArray, List.map_cons, List.map_nil]); first | done | rfl | (simp only [List.length_drop, List.length_take]; rfl)) ?_; (with_reducible refine (camshaftlaw02_known.calls k  t262 _ A36.out).mono ?_); rintro e w39 ⟨rfl, hb⟩; refine ⟨_, rfl, ?_⟩; have n0_ := Aside0.mk (below_step (by repeat (first | (with_reducible first | exact HB.out | apply below_alloc | apply pw_below_drewN | apply below_drew1) | exact HB.out)) hb); clear HB; have HB := n0_; clear n0_; (try clear hb); (try clear hb2); (try clear hk); (try clear hi)))
        go_ret
        exact ⟨by first | rfl | (simp [errW_none, errW_some] <;> rfl) | (simp [*, errW_none, errW_some] <;> rfl), by repeat (first | (with_reducible first | exact HB.out | apply below_alloc | apply pw_below_drewN | apply below_drew1) | exact HB.out | exact Below.refl _ _)⟩
      · rw [if_neg c35] at H
        have c35b0 : (false == (a0 == a1)) = false := by simpa using c35
        (try (have c35b1 : decide (false = (a0 == a1)) = false := by simpa using c35))
        (try (have c35b2 : (false == (a0 == a1)) = false := by simpa using c35))
        (try (have c35b3 : ¬ (false = (a0 == a1)) := by simpa using c35))
        clear c35
        exact absurd ((Option.some.inj H).trans HT.out) (by decide)

/-- THE ONE PURE STATEMENT of camshaftlaw02_CodeOne: yours. -/
def camshaftlaw02_CodeOne.Pure : Prop := ∀ (a0 : Int) (a1 : Int), (Lit.int .i64 a0).wf = true → (Lit.int .i64 a1).wf = true → ∃ k, camshaftlaw02_CodeOne.f k a0 a1 = some true
theorem camshaftlaw02_CodeOne.walk (P : camshaftlaw02_CodeOne.Pure) (a0 : Int) (a1 : Int) (w : World) (w0 : (Lit.int .i64 a0).wf = true) (w1 : (Lit.int .i64 a1).wf = true) :
    Calls Try.prog 7 #[.int .i64 a0, .int .i64 a1] w fun e w' => e = .returned (.bool true) ∧ Below w.heap.size w w' := by
  obtain ⟨k, h⟩ := P a0 a1 w0 w1
  refine (camshaftlaw02_CodeOne.calls k a0 a1 true w h rfl).mono ?_
  rintro e w' ⟨rfl, hd⟩
  exact ⟨rfl, hd⟩

end Go.Proofs.Yteioenlkdidpgaa.P
