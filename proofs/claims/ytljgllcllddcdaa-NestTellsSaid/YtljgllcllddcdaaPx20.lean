-- Written by a program of this session (wip/tools: patched print) for this claim. Not trusted: Lean checks it.
import Derived.Test.YtljgllcllddcdaaPx0
import Derived.Test.YtljgllcllddcdaaPx4
import Derived.Test.YtljgllcllddcdaaPx5
import Derived.Test.YtljgllcllddcdaaPx6
import Derived.Test.YtljgllcllddcdaaPx8
import Derived.Test.YtljgllcllddcdaaPx9
import Derived.Test.YtljgllcllddcdaaPx13
import Derived.Test.YtljgllcllddcdaaPx14
import Derived.Test.YtljgllcllddcdaaPx15
import Derived.Test.YtljgllcllddcdaaPx18
import Derived.Test.YtljgllcllddcdaaPx19
namespace Go.Proofs.Ytljgllcllddcdaa.P
open Go.RowKit Go.Proofs.YtljgllcllddcdaaW.PrintWords Go.Proofs.YtljgllcllddcdaaW.PrintLast Go.Proofs.YtljgllcllddcdaaW.PrintMore
attribute [local go_sem] max2_int min2_int max_two min_two max_three min_three max_four min_four   -- for this text's walks alone
set_option linter.unusedVariables false
set_option linter.unusedSimpArgs false

/-! ### camshaftlaw06_NestTells: function 3 -/
def camshaftlaw06_NestTells.f (k : Nat) (l0 : List (S32)) : Option (Bool) := if (l0.length : Int) > 250 then ((camshaftlaw06_known.f k).bind fun t371 => (some t371)) else ((nest_Match.f k l0).bind fun bt372 => ((camshaftref06_Match.f k l0).bind fun bt376 => ((nest_Home.f k l0).bind fun bt380 => ((camshaftref06_Home.f k l0).bind fun bt384 => ((nest_Locks.f k l0).bind fun bt388 => ((camshaftref06_Locks.f k l0).bind fun bt392 => ((nest_Held.f k l0).bind fun bt396 => ((camshaftref06_Held.f k l0).bind fun bt400 => ((camshaftref02_Same.f k bt372.1 bt376.1).bind fun t404 => (if t404 = true then (if bt372.2 = bt376.2 then ((camshaftref02_Same.f k bt380.1 bt384.1).bind fun t405 => (if t405 = true then (if bt380.2 = bt384.2 then ((camshaftref02_Same.f k bt388.1 bt392.1).bind fun t406 => (if t406 = true then (if bt388.2 = bt392.2 then ((camshaftref02_Same.f k bt396.1 bt400.1).bind fun t407 => (if t407 = true then (if bt396.2 = bt400.2 then ((nest_Whole.f k l0).bind fun t408 => ((camshaftref06_Whole.f k l0).bind fun t409 => (if t408 = t409 then ((camshaftlaw06_known.f k).bind fun t410 => (some t410)) else (some false)))) else (some false)) else (some false))) else (some false)) else (some false))) else (some false)) else (some false))) else (some false)) else (some false)))))))))))
theorem camshaftlaw06_NestTells.mono : ∀ a0 k, LeO (camshaftlaw06_NestTells.f k a0) (camshaftlaw06_NestTells.f (k + 1) a0) := by
 intro a0 k
 unfold camshaftlaw06_NestTells.f
 repeat' first
   | (with_reducible exact camshaftlaw06_known.mono _)
   | (with_reducible exact camshaftref02_Same.mono _ _ _)
   | (with_reducible exact camshaftref06_Held.mono _ _)
   | (with_reducible exact camshaftref06_Home.mono _ _)
   | (with_reducible exact camshaftref06_Locks.mono _ _)
   | (with_reducible exact camshaftref06_Match.mono _ _)
   | (with_reducible exact camshaftref06_Whole.mono _ _)
   | (with_reducible exact nest_Held.mono _ _)
   | (with_reducible exact nest_Home.mono _ _)
   | (with_reducible exact nest_Locks.mono _ _)
   | (with_reducible exact nest_Match.mono _ _)
   | (with_reducible exact nest_Whole.mono _ _)
   | (with_reducible exact LeO.refl _)
   | (with_reducible exact LeO.none _)
   | (with_reducible refine LeO.ite ?_ ?_)
   | (with_reducible refine LeO.bind ?_ (fun _ => ?_))
   | exact camshaftlaw06_known.mono _
   | exact camshaftref02_Same.mono _ _ _
   | exact camshaftref06_Held.mono _ _
   | exact camshaftref06_Home.mono _ _
   | exact camshaftref06_Locks.mono _ _
   | exact camshaftref06_Match.mono _ _
   | exact camshaftref06_Whole.mono _ _
   | exact nest_Held.mono _ _
   | exact nest_Home.mono _ _
   | exact nest_Locks.mono _ _
   | exact nest_Match.mono _ _
   | exact nest_Whole.mono _ _
   | exact LeO.none _
   | refine LeO.ite ?_ ?_
   | refine LeO.bind ?_ (fun _ => ?_)
set_option maxHeartbeats 8000000 in
set_option maxRecDepth 100000 in
theorem camshaftlaw06_NestTells.calls (k : Nat) (A0 : Option Addr) (c0 : Nat) (l0 : List (S32)) (r : Bool) (w : World) (hr0 : Kd.C k32 w A0 l0.length l0) (hc0 : l0.length ≤ c0) (h : camshaftlaw06_NestTells.f k l0 = some r) (ht : r = true) :
  Calls Try.prog 3 #[.slice A0 l0.length c0] w fun e w' => e = .returned (.bool r) ∧ Below w.heap.size w w' := by
 have HT := Aside0.mk ht
 clear ht
 have HR0 := Aside0.mk hr0
 have HC0 := Aside0.mk hc0
 clear hr0 hc0
 have HB := Aside0.mk (Below.refl w.heap.size w)
 have H : (if (l0.length : Int) > 250 then ((camshaftlaw06_known.f k).bind fun t371 => (some t371)) else ((nest_Match.f k l0).bind fun bt372 => ((camshaftref06_Match.f k l0).bind fun bt376 => ((nest_Home.f k l0).bind fun bt380 => ((camshaftref06_Home.f k l0).bind fun bt384 => ((nest_Locks.f k l0).bind fun bt388 => ((camshaftref06_Locks.f k l0).bind fun bt392 => ((nest_Held.f k l0).bind fun bt396 => ((camshaftref06_Held.f k l0).bind fun bt400 => ((camshaftref02_Same.f k bt372.1 bt376.1).bind fun t404 => (if t404 = true then (if bt372.2 = bt376.2 then ((camshaftref02_Same.f k bt380.1 bt384.1).bind fun t405 => (if t405 = true then (if bt380.2 = bt384.2 then ((camshaftref02_Same.f k bt388.1 bt392.1).bind fun t406 => (if t406 = true then (if bt388.2 = bt392.2 then ((camshaftref02_Same.f k bt396.1 bt400.1).bind fun t407 => (if t407 = true then (if bt396.2 = bt400.2 then ((nest_Whole.f k l0).bind fun t408 => ((camshaftref06_Whole.f k l0).bind fun t409 => (if t408 = t409 then ((camshaftlaw06_known.f k).bind fun t410 => (some t410)) else (some false)))) else (some false)) else (some false))) else (some false)) else (some false))) else (some false)) else (some false))) else (some false)) else (some false)))))))))))) = some r := h
 clear h
 by_cases c2 : (l0.length : Int) > 250
 ·rw [if_pos c2] at H
  have c2b0 : decide (250 < (l0.length : Int)) = true := decide_eq_true c2
  have c2b1 : decide (250 < l0.length) = true := decide_eq_true (by omega)
  clear c2
  replace H := Option.bind_eq_some_iff.mp H
  obtain ⟨t371, A30, H⟩ := H
  replace H : (some t371) = some r := H
  have A3 := Aside0.mk A30
  clear A30
  obtain rfl := Option.some.inj H
  go_enter Try.func3, Try.ntmps3
  go_wp2_with (first | ((with_reducible refine gate_callee (f := 10) rfl ?_); refine goesL_ (some 22) rfl rfl Try.func10 (by kernel_rfl) rfl #[] rfl (by (try simp only [List.map_toArray, List.map_cons, List.map_nil]); first | done | rfl | (simp only [List.length_drop, List.length_take]; rfl)) ?_; (with_reducible refine (camshaftlaw06_known.calls k  t371 _ A3.out).mono ?_); rintro e w4 ⟨rfl, hb⟩; refine ⟨_, rfl, ?_⟩; have n0_ := Aside0.mk (below_step (by repeat (first | (with_reducible first | exact HB.out | apply below_alloc | apply pw_below_drewN | apply below_drew1) | exact HB.out)) hb); clear HB; have HB := n0_; clear n0_; (try clear hb); (try clear hb2); (try clear hk); (try clear hi)))
  go_ret
  exact ⟨by first | rfl | (simp [errW_none, errW_some] <;> rfl) | (simp [*, errW_none, errW_some] <;> rfl), by repeat (first | (with_reducible first | exact HB.out | apply below_alloc | apply pw_below_drewN | apply below_drew1) | exact HB.out | exact Below.refl _ _)⟩
 rw [if_neg c2] at H
 have c2b0 : decide (250 < (l0.length : Int)) = false := decide_eq_false c2
 have c2b1 : decide (250 < l0.length) = false := decide_eq_false (by omega)
 clear c2
 replace H := Option.bind_eq_some_iff.mp H
 obtain ⟨⟨t372, t373⟩, A50, H⟩ := H
 replace H : ((camshaftref06_Match.f k l0).bind fun bt376 => ((nest_Home.f k l0).bind fun bt380 => ((camshaftref06_Home.f k l0).bind fun bt384 => ((nest_Locks.f k l0).bind fun bt388 => ((camshaftref06_Locks.f k l0).bind fun bt392 => ((nest_Held.f k l0).bind fun bt396 => ((camshaftref06_Held.f k l0).bind fun bt400 => ((camshaftref02_Same.f k t372 bt376.1).bind fun t404 => (if t404 = true then (if t373 = bt376.2 then ((camshaftref02_Same.f k bt380.1 bt384.1).bind fun t405 => (if t405 = true then (if bt380.2 = bt384.2 then ((camshaftref02_Same.f k bt388.1 bt392.1).bind fun t406 => (if t406 = true then (if bt388.2 = bt392.2 then ((camshaftref02_Same.f k bt396.1 bt400.1).bind fun t407 => (if t407 = true then (if bt396.2 = bt400.2 then ((nest_Whole.f k l0).bind fun t408 => ((camshaftref06_Whole.f k l0).bind fun t409 => (if t408 = t409 then ((camshaftlaw06_known.f k).bind fun t410 => (some t410)) else (some false)))) else (some false)) else (some false))) else (some false)) else (some false))) else (some false)) else (some false))) else (some false)) else (some false)))))))))) = some r := H
 have A5 := Aside0.mk A50
 clear A50
 replace H := Option.bind_eq_some_iff.mp H
 obtain ⟨⟨t376, t377⟩, A60, H⟩ := H
 replace H : ((nest_Home.f k l0).bind fun bt380 => ((camshaftref06_Home.f k l0).bind fun bt384 => ((nest_Locks.f k l0).bind fun bt388 => ((camshaftref06_Locks.f k l0).bind fun bt392 => ((nest_Held.f k l0).bind fun bt396 => ((camshaftref06_Held.f k l0).bind fun bt400 => ((camshaftref02_Same.f k t372 t376).bind fun t404 => (if t404 = true then (if t373 = t377 then ((camshaftref02_Same.f k bt380.1 bt384.1).bind fun t405 => (if t405 = true then (if bt380.2 = bt384.2 then ((camshaftref02_Same.f k bt388.1 bt392.1).bind fun t406 => (if t406 = true then (if bt388.2 = bt392.2 then ((camshaftref02_Same.f k bt396.1 bt400.1).bind fun t407 => (if t407 = true then (if bt396.2 = bt400.2 then ((nest_Whole.f k l0).bind fun t408 => ((camshaftref06_Whole.f k l0).bind fun t409 => (if t408 = t409 then ((camshaftlaw06_known.f k).bind fun t410 => (some t410)) else (some false)))) else (some false)) else (some false))) else (some false)) else (some false))) else (some false)) else (some false))) else (some false)) else (some false))))))))) = some r := H
 have A6 := Aside0.mk A60
 clear A60
 replace H := Option.bind_eq_some_iff.mp H
 obtain ⟨⟨t380, t381⟩, A70, H⟩ := H
 replace H : ((camshaftref06_Home.f k l0).bind fun bt384 => ((nest_Locks.f k l0).bind fun bt388 => ((camshaftref06_Locks.f k l0).bind fun bt392 => ((nest_Held.f k l0).bind fun bt396 => ((camshaftref06_Held.f k l0).bind fun bt400 => ((camshaftref02_Same.f k t372 t376).bind fun t404 => (if t404 = true then (if t373 = t377 then ((camshaftref02_Same.f k t380 bt384.1).bind fun t405 => (if t405 = true then (if t381 = bt384.2 then ((camshaftref02_Same.f k bt388.1 bt392.1).bind fun t406 => (if t406 = true then (if bt388.2 = bt392.2 then ((camshaftref02_Same.f k bt396.1 bt400.1).bind fun t407 => (if t407 = true then (if bt396.2 = bt400.2 then ((nest_Whole.f k l0).bind fun t408 => ((camshaftref06_Whole.f k l0).bind fun t409 => (if t408 = t409 then ((camshaftlaw06_known.f k).bind fun t410 => (some t410)) else (some false)))) else (some false)) else (some false))) else (some false)) else (some false))) else (some false)) else (some false))) else (some false)) else (some false)))))))) = some r := H
 have A7 := Aside0.mk A70
 clear A70
 replace H := Option.bind_eq_some_iff.mp H
 obtain ⟨⟨t384, t385⟩, A80, H⟩ := H
 replace H : ((nest_Locks.f k l0).bind fun bt388 => ((camshaftref06_Locks.f k l0).bind fun bt392 => ((nest_Held.f k l0).bind fun bt396 => ((camshaftref06_Held.f k l0).bind fun bt400 => ((camshaftref02_Same.f k t372 t376).bind fun t404 => (if t404 = true then (if t373 = t377 then ((camshaftref02_Same.f k t380 t384).bind fun t405 => (if t405 = true then (if t381 = t385 then ((camshaftref02_Same.f k bt388.1 bt392.1).bind fun t406 => (if t406 = true then (if bt388.2 = bt392.2 then ((camshaftref02_Same.f k bt396.1 bt400.1).bind fun t407 => (if t407 = true then (if bt396.2 = bt400.2 then ((nest_Whole.f k l0).bind fun t408 => ((camshaftref06_Whole.f k l0).bind fun t409 => (if t408 = t409 then ((camshaftlaw06_known.f k).bind fun t410 => (some t410)) else (some false)))) else (some false)) else (some false))) else (some false)) else (some false))) else (some false)) else (some false))) else (some false)) else (some false))))))) = some r := H
 have A8 := Aside0.mk A80
 clear A80
 replace H := Option.bind_eq_some_iff.mp H
 obtain ⟨⟨t388, t389⟩, A90, H⟩ := H
 replace H : ((camshaftref06_Locks.f k l0).bind fun bt392 => ((nest_Held.f k l0).bind fun bt396 => ((camshaftref06_Held.f k l0).bind fun bt400 => ((camshaftref02_Same.f k t372 t376).bind fun t404 => (if t404 = true then (if t373 = t377 then ((camshaftref02_Same.f k t380 t384).bind fun t405 => (if t405 = true then (if t381 = t385 then ((camshaftref02_Same.f k t388 bt392.1).bind fun t406 => (if t406 = true then (if t389 = bt392.2 then ((camshaftref02_Same.f k bt396.1 bt400.1).bind fun t407 => (if t407 = true then (if bt396.2 = bt400.2 then ((nest_Whole.f k l0).bind fun t408 => ((camshaftref06_Whole.f k l0).bind fun t409 => (if t408 = t409 then ((camshaftlaw06_known.f k).bind fun t410 => (some t410)) else (some false)))) else (some false)) else (some false))) else (some false)) else (some false))) else (some false)) else (some false))) else (some false)) else (some false)))))) = some r := H
 have A9 := Aside0.mk A90
 clear A90
 replace H := Option.bind_eq_some_iff.mp H
 obtain ⟨⟨t392, t393⟩, A100, H⟩ := H
 replace H : ((nest_Held.f k l0).bind fun bt396 => ((camshaftref06_Held.f k l0).bind fun bt400 => ((camshaftref02_Same.f k t372 t376).bind fun t404 => (if t404 = true then (if t373 = t377 then ((camshaftref02_Same.f k t380 t384).bind fun t405 => (if t405 = true then (if t381 = t385 then ((camshaftref02_Same.f k t388 t392).bind fun t406 => (if t406 = true then (if t389 = t393 then ((camshaftref02_Same.f k bt396.1 bt400.1).bind fun t407 => (if t407 = true then (if bt396.2 = bt400.2 then ((nest_Whole.f k l0).bind fun t408 => ((camshaftref06_Whole.f k l0).bind fun t409 => (if t408 = t409 then ((camshaftlaw06_known.f k).bind fun t410 => (some t410)) else (some false)))) else (some false)) else (some false))) else (some false)) else (some false))) else (some false)) else (some false))) else (some false)) else (some false))))) = some r := H
 have A10 := Aside0.mk A100
 clear A100
 replace H := Option.bind_eq_some_iff.mp H
 obtain ⟨⟨t396, t397⟩, A110, H⟩ := H
 replace H : ((camshaftref06_Held.f k l0).bind fun bt400 => ((camshaftref02_Same.f k t372 t376).bind fun t404 => (if t404 = true then (if t373 = t377 then ((camshaftref02_Same.f k t380 t384).bind fun t405 => (if t405 = true then (if t381 = t385 then ((camshaftref02_Same.f k t388 t392).bind fun t406 => (if t406 = true then (if t389 = t393 then ((camshaftref02_Same.f k t396 bt400.1).bind fun t407 => (if t407 = true then (if t397 = bt400.2 then ((nest_Whole.f k l0).bind fun t408 => ((camshaftref06_Whole.f k l0).bind fun t409 => (if t408 = t409 then ((camshaftlaw06_known.f k).bind fun t410 => (some t410)) else (some false)))) else (some false)) else (some false))) else (some false)) else (some false))) else (some false)) else (some false))) else (some false)) else (some false)))) = some r := H
 have A11 := Aside0.mk A110
 clear A110
 replace H := Option.bind_eq_some_iff.mp H
 obtain ⟨⟨t400, t401⟩, A120, H⟩ := H
 replace H : ((camshaftref02_Same.f k t372 t376).bind fun t404 => (if t404 = true then (if t373 = t377 then ((camshaftref02_Same.f k t380 t384).bind fun t405 => (if t405 = true then (if t381 = t385 then ((camshaftref02_Same.f k t388 t392).bind fun t406 => (if t406 = true then (if t389 = t393 then ((camshaftref02_Same.f k t396 t400).bind fun t407 => (if t407 = true then (if t397 = t401 then ((nest_Whole.f k l0).bind fun t408 => ((camshaftref06_Whole.f k l0).bind fun t409 => (if t408 = t409 then ((camshaftlaw06_known.f k).bind fun t410 => (some t410)) else (some false)))) else (some false)) else (some false))) else (some false)) else (some false))) else (some false)) else (some false))) else (some false)) else (some false))) = some r := H
 have A12 := Aside0.mk A120
 clear A120
 replace H := Option.bind_eq_some_iff.mp H
 obtain ⟨t404, A130, H⟩ := H
 replace H : (if t404 = true then (if t373 = t377 then ((camshaftref02_Same.f k t380 t384).bind fun t405 => (if t405 = true then (if t381 = t385 then ((camshaftref02_Same.f k t388 t392).bind fun t406 => (if t406 = true then (if t389 = t393 then ((camshaftref02_Same.f k t396 t400).bind fun t407 => (if t407 = true then (if t397 = t401 then ((nest_Whole.f k l0).bind fun t408 => ((camshaftref06_Whole.f k l0).bind fun t409 => (if t408 = t409 then ((camshaftlaw06_known.f k).bind fun t410 => (some t410)) else (some false)))) else (some false)) else (some false))) else (some false)) else (some false))) else (some false)) else (some false))) else (some false)) else (some false)) = some r := H
 have A13 := Aside0.mk A130
 clear A130
 by_cases c14 : t404 = true
 rotate_left
 ·replace c14 := Bool.eq_false_iff.mpr c14
  subst c14
  have H1 : (some false) = some r := by rw [if_neg (show ¬ (false = true) by decide)] at H; exact H
  clear H
  have H := H1
  clear H1
  exact absurd ((Option.some.inj H).trans HT.out) (by decide)
 subst c14
 have H1 : (if t373 = t377 then ((camshaftref02_Same.f k t380 t384).bind fun t405 => (if t405 = true then (if t381 = t385 then ((camshaftref02_Same.f k t388 t392).bind fun t406 => (if t406 = true then (if t389 = t393 then ((camshaftref02_Same.f k t396 t400).bind fun t407 => (if t407 = true then (if t397 = t401 then ((nest_Whole.f k l0).bind fun t408 => ((camshaftref06_Whole.f k l0).bind fun t409 => (if t408 = t409 then ((camshaftlaw06_known.f k).bind fun t410 => (some t410)) else (some false)))) else (some false)) else (some false))) else (some false)) else (some false))) else (some false)) else (some false))) else (some false)) = some r := by rw [if_pos rfl] at H; exact H
 clear H
 have H := H1
 clear H1
 by_cases c15 : t373 = t377
 rotate_left
 ·rw [if_neg c15] at H
  have c15b0 : (t373 == t377) = false := beq_eq_false_iff_ne.mpr c15
  have c15b1 : (t373 != t377) = true := bne_iff_ne.mpr c15
  exact absurd ((Option.some.inj H).trans HT.out) (by decide)
 rw [if_pos c15] at H
 have c15b0 : (t373 == t377) = true := beq_iff_eq.mpr c15
 have c15b1 : (t373 != t377) = false := bne_eq_false_iff_eq.mpr c15
 clear c15
 replace H := Option.bind_eq_some_iff.mp H
 obtain ⟨t405, A160, H⟩ := H
 replace H : (if t405 = true then (if t381 = t385 then ((camshaftref02_Same.f k t388 t392).bind fun t406 => (if t406 = true then (if t389 = t393 then ((camshaftref02_Same.f k t396 t400).bind fun t407 => (if t407 = true then (if t397 = t401 then ((nest_Whole.f k l0).bind fun t408 => ((camshaftref06_Whole.f k l0).bind fun t409 => (if t408 = t409 then ((camshaftlaw06_known.f k).bind fun t410 => (some t410)) else (some false)))) else (some false)) else (some false))) else (some false)) else (some false))) else (some false)) else (some false)) = some r := H
 have A16 := Aside0.mk A160
 clear A160
 by_cases c17 : t405 = true
 rotate_left
 ·replace c17 := Bool.eq_false_iff.mpr c17
  subst c17
  have H1 : (some false) = some r := by rw [if_neg (show ¬ (false = true) by decide)] at H; exact H
  clear H
  have H := H1
  clear H1
  exact absurd ((Option.some.inj H).trans HT.out) (by decide)
 subst c17
 have H1 : (if t381 = t385 then ((camshaftref02_Same.f k t388 t392).bind fun t406 => (if t406 = true then (if t389 = t393 then ((camshaftref02_Same.f k t396 t400).bind fun t407 => (if t407 = true then (if t397 = t401 then ((nest_Whole.f k l0).bind fun t408 => ((camshaftref06_Whole.f k l0).bind fun t409 => (if t408 = t409 then ((camshaftlaw06_known.f k).bind fun t410 => (some t410)) else (some false)))) else (some false)) else (some false))) else (some false)) else (some false))) else (some false)) = some r := by rw [if_pos rfl] at H; exact H
 clear H
 have H := H1
 clear H1
 by_cases c18 : t381 = t385
 rotate_left
 ·rw [if_neg c18] at H
  have c18b0 : (t381 == t385) = false := beq_eq_false_iff_ne.mpr c18
  have c18b1 : (t381 != t385) = true := bne_iff_ne.mpr c18
  exact absurd ((Option.some.inj H).trans HT.out) (by decide)
 rw [if_pos c18] at H
 have c18b0 : (t381 == t385) = true := beq_iff_eq.mpr c18
 have c18b1 : (t381 != t385) = false := bne_eq_false_iff_eq.mpr c18
 clear c18
 replace H := Option.bind_eq_some_iff.mp H
 obtain ⟨t406, A190, H⟩ := H
 replace H : (if t406 = true then (if t389 = t393 then ((camshaftref02_Same.f k t396 t400).bind fun t407 => (if t407 = true then (if t397 = t401 then ((nest_Whole.f k l0).bind fun t408 => ((camshaftref06_Whole.f k l0).bind fun t409 => (if t408 = t409 then ((camshaftlaw06_known.f k).bind fun t410 => (some t410)) else (some false)))) else (some false)) else (some false))) else (some false)) else (some false)) = some r := H
 have A19 := Aside0.mk A190
 clear A190
 by_cases c20 : t406 = true
 rotate_left
 ·replace c20 := Bool.eq_false_iff.mpr c20
  subst c20
  have H1 : (some false) = some r := by rw [if_neg (show ¬ (false = true) by decide)] at H; exact H
  clear H
  have H := H1
  clear H1
  exact absurd ((Option.some.inj H).trans HT.out) (by decide)
 subst c20
 have H1 : (if t389 = t393 then ((camshaftref02_Same.f k t396 t400).bind fun t407 => (if t407 = true then (if t397 = t401 then ((nest_Whole.f k l0).bind fun t408 => ((camshaftref06_Whole.f k l0).bind fun t409 => (if t408 = t409 then ((camshaftlaw06_known.f k).bind fun t410 => (some t410)) else (some false)))) else (some false)) else (some false))) else (some false)) = some r := by rw [if_pos rfl] at H; exact H
 clear H
 have H := H1
 clear H1
 by_cases c21 : t389 = t393
 rotate_left
 ·rw [if_neg c21] at H
  have c21b0 : (t389 == t393) = false := beq_eq_false_iff_ne.mpr c21
  have c21b1 : (t389 != t393) = true := bne_iff_ne.mpr c21
  exact absurd ((Option.some.inj H).trans HT.out) (by decide)
 rw [if_pos c21] at H
 have c21b0 : (t389 == t393) = true := beq_iff_eq.mpr c21
 have c21b1 : (t389 != t393) = false := bne_eq_false_iff_eq.mpr c21
 clear c21
 replace H := Option.bind_eq_some_iff.mp H
 obtain ⟨t407, A220, H⟩ := H
 replace H : (if t407 = true then (if t397 = t401 then ((nest_Whole.f k l0).bind fun t408 => ((camshaftref06_Whole.f k l0).bind fun t409 => (if t408 = t409 then ((camshaftlaw06_known.f k).bind fun t410 => (some t410)) else (some false)))) else (some false)) else (some false)) = some r := H
 have A22 := Aside0.mk A220
 clear A220
 by_cases c23 : t407 = true
 rotate_left
 ·replace c23 := Bool.eq_false_iff.mpr c23
  subst c23
  have H1 : (some false) = some r := by rw [if_neg (show ¬ (false = true) by decide)] at H; exact H
  clear H
  have H := H1
  clear H1
  exact absurd ((Option.some.inj H).trans HT.out) (by decide)
 subst c23
 have H1 : (if t397 = t401 then ((nest_Whole.f k l0).bind fun t408 => ((camshaftref06_Whole.f k l0).bind fun t409 => (if t408 = t409 then ((camshaftlaw06_known.f k).bind fun t410 => (some t410)) else (some false)))) else (some false)) = some r := by rw [if_pos rfl] at H; exact H
 clear H
 have H := H1
 clear H1
 by_cases c24 : t397 = t401
 rotate_left
 ·rw [if_neg c24] at H
  have c24b0 : (t397 == t401) = false := beq_eq_false_iff_ne.mpr c24
  have c24b1 : (t397 != t401) = true := bne_iff_ne.mpr c24
  exact absurd ((Option.some.inj H).trans HT.out) (by decide)
 rw [if_pos c24] at H
 have c24b0 : (t397 == t401) = true := beq_iff_eq.mpr c24
 have c24b1 : (t397 != t401) = false := bne_eq_false_iff_eq.mpr c24
 clear c24
 replace H := Option.bind_eq_some_iff.mp H
 obtain ⟨t408, A250, H⟩ := H
 replace H : ((camshaftref06_Whole.f k l0).bind fun t409 => (if t408 = t409 then ((camshaftlaw06_known.f k).bind fun t410 => (some t410)) else (some false))) = some r := H
 have A25 := Aside0.mk A250
 clear A250
 replace H := Option.bind_eq_some_iff.mp H
 obtain ⟨t409, A260, H⟩ := H
 replace H : (if t408 = t409 then ((camshaftlaw06_known.f k).bind fun t410 => (some t410)) else (some false)) = some r := H
 have A26 := Aside0.mk A260
 clear A260
 by_cases c27 : t408 = t409
 rotate_left
 ·rw [if_neg c27] at H
  have c27b0 : (t408 == t409) = false := beq_eq_false_iff_ne.mpr c27
  have c27b1 : (t408 != t409) = true := bne_iff_ne.mpr c27
  exact absurd ((Option.some.inj H).trans HT.out) (by decide)
 rw [if_pos c27] at H
 have c27b0 : (t408 == t409) = true := beq_iff_eq.mpr c27
 have c27b1 : (t408 != t409) = false := bne_eq_false_iff_eq.mpr c27
 clear c27
 replace H := Option.bind_eq_some_iff.mp H
 obtain ⟨t410, A280, H⟩ := H
 replace H : (some t410) = some r := H
 have A28 := Aside0.mk A280
 clear A280
 obtain rfl := Option.some.inj H
 go_enter Try.func3, Try.ntmps3
 go_wp2_with (first | ((with_reducible refine gate_callee (f := 11) rfl ?_); refine goesL_ (some 25) rfl rfl Try.func11 (by kernel_rfl) rfl #[.slice A0 l0.length c0] rfl (by (try simp only [List.map_toArray, List.map_cons, List.map_nil]); first | done | rfl | (simp only [List.length_drop, List.length_take]; rfl)) ?_; (with_reducible refine (nest_Match.calls k _ _ l0 t372 t373 _ ?side1 ?side2 A5.out).mono ?_); (case side1 => repeat (first | exact HR0.out | (with_reducible refine Kd.C_alloc ?_ _) | (with_reducible refine Kd.C_drewN ?_ _) | (with_reducible refine Kd.C_drew ?_))); (case side2 => exact HC0.out); rintro e w29 ⟨v374, rfl, ho0, hb⟩; refine ⟨_, rfl, ?_⟩; have n0_ := Aside0.mk (Kd.R_lower ho0 (below_size (by repeat (first | (with_reducible first | exact HB.out | apply below_alloc | apply pw_below_drewN | apply below_drew1) | exact HB.out)))); have n1_ := Aside0.mk (below_step (by repeat (first | (with_reducible first | exact HB.out | apply below_alloc | apply pw_below_drewN | apply below_drew1) | exact HB.out)) hb); clear HB; have HO375 := n0_; have HB := n1_; clear n0_ n1_; (try clear hb); (try clear hb2); (try clear hk); (try clear hi); (try clear ho0)) | ((with_reducible refine gate_callee (f := 12) rfl ?_); refine goesL_ (some 30) rfl rfl Try.func12 (by kernel_rfl) rfl #[.slice A0 l0.length c0] rfl (by (try simp only [List.map_toArray, List.map_cons, List.map_nil]); first | done | rfl | (simp only [List.length_drop, List.length_take]; rfl)) ?_; (with_reducible refine (camshaftref06_Match.calls k _ _ l0 t376 t377 _ ?side1 ?side2 A6.out).mono ?_); (case side1 => repeat (first | exact (Kd.C_below HR0.out HB.out) | (with_reducible refine Kd.C_alloc ?_ _) | (with_reducible refine Kd.C_drewN ?_ _) | (with_reducible refine Kd.C_drew ?_))); (case side2 => exact HC0.out); rintro e w30 ⟨v378, rfl, ho0, hb⟩; refine ⟨_, rfl, ?_⟩; have n0_ := Aside0.mk (Kd.R_elder' (by (with_reducible repeat (first | apply Kd.R_alloc | apply Kd.R_drewN | apply Kd.R_drew)); exact HO375.out) (Kd.R_base ho0) hb); have n1_ := Aside0.mk (Kd.R_lower (Kd.R_new' ho0 (Kd.R_lt (by (with_reducible repeat (first | apply Kd.R_alloc | apply Kd.R_drewN | apply Kd.R_drew)); exact HO375.out))) (below_size (by repeat (first | (with_reducible first | exact HB.out | apply below_alloc | apply pw_below_drewN | apply below_drew1) | exact HB.out)))); have n2_ := Aside0.mk (below_step (by repeat (first | (with_reducible first | exact HB.out | apply below_alloc | apply pw_below_drewN | apply below_drew1) | exact HB.out)) hb); clear HO375; clear HB; have HO375 := n0_; have HO379 := n1_; have HB := n2_; clear n0_ n1_ n2_; (try clear hb); (try clear hb2); (try clear hk); (try clear hi); (try clear ho0)) | ((with_reducible refine gate_callee (f := 13) rfl ?_); refine goesL_ (some 35) rfl rfl Try.func13 (by kernel_rfl) rfl #[.slice A0 l0.length c0] rfl (by (try simp only [List.map_toArray, List.map_cons, List.map_nil]); first | done | rfl | (simp only [List.length_drop, List.length_take]; rfl)) ?_; (with_reducible refine (nest_Home.calls k _ _ l0 t380 t381 _ ?side1 ?side2 A7.out).mono ?_); (case side1 => repeat (first | exact (Kd.C_below HR0.out HB.out) | (with_reducible refine Kd.C_alloc ?_ _) | (with_reducible refine Kd.C_drewN ?_ _) | (with_reducible refine Kd.C_drew ?_))); (case side2 => exact HC0.out); rintro e w31 ⟨v382, rfl, ho0, hb⟩; refine ⟨_, rfl, ?_⟩; have n0_ := Aside0.mk (Kd.R_elder' (by (with_reducible repeat (first | apply Kd.R_alloc | apply Kd.R_drewN | apply Kd.R_drew)); exact HO375.out) (Kd.R_base ho0) hb); have n1_ := Aside0.mk (Kd.R_elder' (by (with_reducible repeat (first | apply Kd.R_alloc | apply Kd.R_drewN | apply Kd.R_drew)); exact HO379.out) (Kd.R_base ho0) hb); have n2_ := Aside0.mk (Kd.R_lower (Kd.R_new' (Kd.R_new' ho0 (Kd.R_lt (by (with_reducible repeat (first | apply Kd.R_alloc | apply Kd.R_drewN | apply Kd.R_drew)); exact HO375.out))) (Kd.R_lt (by (with_reducible repeat (first | apply Kd.R_alloc | apply Kd.R_drewN | apply Kd.R_drew)); exact HO379.out))) (below_size (by repeat (first | (with_reducible first | exact HB.out | apply below_alloc | apply pw_below_drewN | apply below_drew1) | exact HB.out)))); have n3_ := Aside0.mk (below_step (by repeat (first | (with_reducible first | exact HB.out | apply below_alloc | apply pw_below_drewN | apply below_drew1) | exact HB.out)) hb); clear HO375; clear HO379; clear HB; have HO375 := n0_; have HO379 := n1_; have HO383 := n2_; have HB := n3_; clear n0_ n1_ n2_ n3_; (try clear hb); (try clear hb2); (try clear hk); (try clear hi); (try clear ho0)) | ((with_reducible refine gate_callee (f := 14) rfl ?_); refine goesL_ (some 40) rfl rfl Try.func14 (by kernel_rfl) rfl #[.slice A0 l0.length c0] rfl (by (try simp only [List.map_toArray, List.map_cons, List.map_nil]); first | done | rfl | (simp only [List.length_drop, List.length_take]; rfl)) ?_; (with_reducible refine (camshaftref06_Home.calls k _ _ l0 t384 t385 _ ?side1 ?side2 A8.out).mono ?_); (case side1 => repeat (first | exact (Kd.C_below HR0.out HB.out) | (with_reducible refine Kd.C_alloc ?_ _) | (with_reducible refine Kd.C_drewN ?_ _) | (with_reducible refine Kd.C_drew ?_))); (case side2 => exact HC0.out); rintro e w32 ⟨v386, rfl, ho0, hb⟩; refine ⟨_, rfl, ?_⟩; have n0_ := Aside0.mk (Kd.R_elder' (by (with_reducible repeat (first | apply Kd.R_alloc | apply Kd.R_drewN | apply Kd.R_drew)); exact HO375.out) (Kd.R_base ho0) hb); have n1_ := Aside0.mk (Kd.R_elder' (by (with_reducible repeat (first | apply Kd.R_alloc | apply Kd.R_drewN | apply Kd.R_drew)); exact HO379.out) (Kd.R_base ho0) hb); have n2_ := Aside0.mk (Kd.R_elder' (by (with_reducible repeat (first | apply Kd.R_alloc | apply Kd.R_drewN | apply Kd.R_drew)); exact HO383.out) (Kd.R_base ho0) hb); have n3_ := Aside0.mk (Kd.R_lower (Kd.R_new' (Kd.R_new' (Kd.R_new' ho0 (Kd.R_lt (by (with_reducible repeat (first | apply Kd.R_alloc | apply Kd.R_drewN | apply Kd.R_drew)); exact HO375.out))) (Kd.R_lt (by (with_reducible repeat (first | apply Kd.R_alloc | apply Kd.R_drewN | apply Kd.R_drew)); exact HO379.out))) (Kd.R_lt (by (with_reducible repeat (first | apply Kd.R_alloc | apply Kd.R_drewN | apply Kd.R_drew)); exact HO383.out))) (below_size (by repeat (first | (with_reducible first | exact HB.out | apply below_alloc | apply pw_below_drewN | apply below_drew1) | exact HB.out)))); have n4_ := Aside0.mk (below_step (by repeat (first | (with_reducible first | exact HB.out | apply below_alloc | apply pw_below_drewN | apply below_drew1) | exact HB.out)) hb); clear HO375; clear HO379; clear HO383; clear HB; have HO375 := n0_; have HO379 := n1_; have HO383 := n2_; have HO387 := n3_; have HB := n4_; clear n0_ n1_ n2_ n3_ n4_; (try clear hb); (try clear hb2); (try clear hk); (try clear hi); (try clear ho0)) | ((with_reducible refine gate_callee (f := 15) rfl ?_); refine goesL_ (some 45) rfl rfl Try.func15 (by kernel_rfl) rfl #[.slice A0 l0.length c0] rfl (by (try simp only [List.map_toArray, List.map_cons, List.map_nil]); first | done | rfl | (simp only [List.length_drop, List.length_take]; rfl)) ?_; (with_reducible refine (nest_Locks.calls k _ _ l0 t388 t389 _ ?side1 ?side2 A9.out).mono ?_); (case side1 => repeat (first | exact (Kd.C_below HR0.out HB.out) | (with_reducible refine Kd.C_alloc ?_ _) | (with_reducible refine Kd.C_drewN ?_ _) | (with_reducible refine Kd.C_drew ?_))); (case side2 => exact HC0.out); rintro e w33 ⟨v390, rfl, ho0, hb⟩; refine ⟨_, rfl, ?_⟩; have n0_ := Aside0.mk (Kd.R_elder' (by (with_reducible repeat (first | apply Kd.R_alloc | apply Kd.R_drewN | apply Kd.R_drew)); exact HO375.out) (Kd.R_base ho0) hb); have n1_ := Aside0.mk (Kd.R_elder' (by (with_reducible repeat (first | apply Kd.R_alloc | apply Kd.R_drewN | apply Kd.R_drew)); exact HO379.out) (Kd.R_base ho0) hb); have n2_ := Aside0.mk (Kd.R_elder' (by (with_reducible repeat (first | apply Kd.R_alloc | apply Kd.R_drewN | apply Kd.R_drew)); exact HO383.out) (Kd.R_base ho0) hb); have n3_ := Aside0.mk (Kd.R_elder' (by (with_reducible repeat (first | apply Kd.R_alloc | apply Kd.R_drewN | apply Kd.R_drew)); exact HO387.out) (Kd.R_base ho0) hb); have n4_ := Aside0.mk (Kd.R_lower (Kd.R_new' (Kd.R_new' (Kd.R_new' (Kd.R_new' ho0 (Kd.R_lt (by (with_reducible repeat (first | apply Kd.R_alloc | apply Kd.R_drewN | apply Kd.R_drew)); exact HO375.out))) (Kd.R_lt (by (with_reducible repeat (first | apply Kd.R_alloc | apply Kd.R_drewN | apply Kd.R_drew)); exact HO379.out))) (Kd.R_lt (by (with_reducible repeat (first | apply Kd.R_alloc | apply Kd.R_drewN | apply Kd.R_drew)); exact HO383.out))) (Kd.R_lt (by (with_reducible repeat (first | apply Kd.R_alloc | apply Kd.R_drewN | apply Kd.R_drew)); exact HO387.out))) (below_size (by repeat (first | (with_reducible first | exact HB.out | apply below_alloc | apply pw_below_drewN | apply below_drew1) | exact HB.out)))); have n5_ := Aside0.mk (below_step (by repeat (first | (with_reducible first | exact HB.out | apply below_alloc | apply pw_below_drewN | apply below_drew1) | exact HB.out)) hb); clear HO375; clear HO379; clear HO383; clear HO387; clear HB; have HO375 := n0_; have HO379 := n1_; have HO383 := n2_; have HO387 := n3_; have HO391 := n4_; have HB := n5_; clear n0_ n1_ n2_ n3_ n4_ n5_; (try clear hb); (try clear hb2); (try clear hk); (try clear hi); (try clear ho0)) | ((with_reducible refine gate_callee (f := 16) rfl ?_); refine goesL_ (some 50) rfl rfl Try.func16 (by kernel_rfl) rfl #[.slice A0 l0.length c0] rfl (by (try simp only [List.map_toArray, List.map_cons, List.map_nil]); first | done | rfl | (simp only [List.length_drop, List.length_take]; rfl)) ?_; (with_reducible refine (camshaftref06_Locks.calls k _ _ l0 t392 t393 _ ?side1 ?side2 A10.out).mono ?_); (case side1 => repeat (first | exact (Kd.C_below HR0.out HB.out) | (with_reducible refine Kd.C_alloc ?_ _) | (with_reducible refine Kd.C_drewN ?_ _) | (with_reducible refine Kd.C_drew ?_))); (case side2 => exact HC0.out); rintro e w34 ⟨v394, rfl, ho0, hb⟩; refine ⟨_, rfl, ?_⟩; have n0_ := Aside0.mk (Kd.R_elder' (by (with_reducible repeat (first | apply Kd.R_alloc | apply Kd.R_drewN | apply Kd.R_drew)); exact HO375.out) (Kd.R_base ho0) hb); have n1_ := Aside0.mk (Kd.R_elder' (by (with_reducible repeat (first | apply Kd.R_alloc | apply Kd.R_drewN | apply Kd.R_drew)); exact HO379.out) (Kd.R_base ho0) hb); have n2_ := Aside0.mk (Kd.R_elder' (by (with_reducible repeat (first | apply Kd.R_alloc | apply Kd.R_drewN | apply Kd.R_drew)); exact HO383.out) (Kd.R_base ho0) hb); have n3_ := Aside0.mk (Kd.R_elder' (by (with_reducible repeat (first | apply Kd.R_alloc | apply Kd.R_drewN | apply Kd.R_drew)); exact HO387.out) (Kd.R_base ho0) hb); have n4_ := Aside0.mk (Kd.R_elder' (by (with_reducible repeat (first | apply Kd.R_alloc | apply Kd.R_drewN | apply Kd.R_drew)); exact HO391.out) (Kd.R_base ho0) hb); have n5_ := Aside0.mk (Kd.R_lower (Kd.R_new' (Kd.R_new' (Kd.R_new' (Kd.R_new' (Kd.R_new' ho0 (Kd.R_lt (by (with_reducible repeat (first | apply Kd.R_alloc | apply Kd.R_drewN | apply Kd.R_drew)); exact HO375.out))) (Kd.R_lt (by (with_reducible repeat (first | apply Kd.R_alloc | apply Kd.R_drewN | apply Kd.R_drew)); exact HO379.out))) (Kd.R_lt (by (with_reducible repeat (first | apply Kd.R_alloc | apply Kd.R_drewN | apply Kd.R_drew)); exact HO383.out))) (Kd.R_lt (by (with_reducible repeat (first | apply Kd.R_alloc | apply Kd.R_drewN | apply Kd.R_drew)); exact HO387.out))) (Kd.R_lt (by (with_reducible repeat (first | apply Kd.R_alloc | apply Kd.R_drewN | apply Kd.R_drew)); exact HO391.out))) (below_size (by repeat (first | (with_reducible first | exact HB.out | apply below_alloc | apply pw_below_drewN | apply below_drew1) | exact HB.out)))); have n6_ := Aside0.mk (below_step (by repeat (first | (with_reducible first | exact HB.out | apply below_alloc | apply pw_below_drewN | apply below_drew1) | exact HB.out)) hb); clear HO375; clear HO379; clear HO383; clear HO387; clear HO391; clear HB; have HO375 := n0_; have HO379 := n1_; have HO383 := n2_; have HO387 := n3_; have HO391 := n4_; have HO395 := n5_; have HB := n6_; clear n0_ n1_ n2_ n3_ n4_ n5_ n6_; (try clear hb); (try clear hb2); (try clear hk); (try clear hi); (try clear ho0)) | ((with_reducible refine gate_callee (f := 17) rfl ?_); refine goesL_ (some 55) rfl rfl Try.func17 (by kernel_rfl) rfl #[.slice A0 l0.length c0] rfl (by (try simp only [List.map_toArray, List.map_cons, List.map_nil]); first | done | rfl | (simp only [List.length_drop, List.length_take]; rfl)) ?_; (with_reducible refine (nest_Held.calls k _ _ l0 t396 t397 _ ?side1 ?side2 A11.out).mono ?_); (case side1 => repeat (first | exact (Kd.C_below HR0.out HB.out) | (with_reducible refine Kd.C_alloc ?_ _) | (with_reducible refine Kd.C_drewN ?_ _) | (with_reducible refine Kd.C_drew ?_))); (case side2 => exact HC0.out); rintro e w35 ⟨v398, rfl, ho0, hb⟩; refine ⟨_, rfl, ?_⟩; have n0_ := Aside0.mk (Kd.R_elder' (by (with_reducible repeat (first | apply Kd.R_alloc | apply Kd.R_drewN | apply Kd.R_drew)); exact HO375.out) (Kd.R_base ho0) hb); have n1_ := Aside0.mk (Kd.R_elder' (by (with_reducible repeat (first | apply Kd.R_alloc | apply Kd.R_drewN | apply Kd.R_drew)); exact HO379.out) (Kd.R_base ho0) hb); have n2_ := Aside0.mk (Kd.R_elder' (by (with_reducible repeat (first | apply Kd.R_alloc | apply Kd.R_drewN | apply Kd.R_drew)); exact HO383.out) (Kd.R_base ho0) hb); have n3_ := Aside0.mk (Kd.R_elder' (by (with_reducible repeat (first | apply Kd.R_alloc | apply Kd.R_drewN | apply Kd.R_drew)); exact HO387.out) (Kd.R_base ho0) hb); have n4_ := Aside0.mk (Kd.R_elder' (by (with_reducible repeat (first | apply Kd.R_alloc | apply Kd.R_drewN | apply Kd.R_drew)); exact HO391.out) (Kd.R_base ho0) hb); have n5_ := Aside0.mk (Kd.R_elder' (by (with_reducible repeat (first | apply Kd.R_alloc | apply Kd.R_drewN | apply Kd.R_drew)); exact HO395.out) (Kd.R_base ho0) hb); have n6_ := Aside0.mk (Kd.R_lower (Kd.R_new' (Kd.R_new' (Kd.R_new' (Kd.R_new' (Kd.R_new' (Kd.R_new' ho0 (Kd.R_lt (by (with_reducible repeat (first | apply Kd.R_alloc | apply Kd.R_drewN | apply Kd.R_drew)); exact HO375.out))) (Kd.R_lt (by (with_reducible repeat (first | apply Kd.R_alloc | apply Kd.R_drewN | apply Kd.R_drew)); exact HO379.out))) (Kd.R_lt (by (with_reducible repeat (first | apply Kd.R_alloc | apply Kd.R_drewN | apply Kd.R_drew)); exact HO383.out))) (Kd.R_lt (by (with_reducible repeat (first | apply Kd.R_alloc | apply Kd.R_drewN | apply Kd.R_drew)); exact HO387.out))) (Kd.R_lt (by (with_reducible repeat (first | apply Kd.R_alloc | apply Kd.R_drewN | apply Kd.R_drew)); exact HO391.out))) (Kd.R_lt (by (with_reducible repeat (first | apply Kd.R_alloc | apply Kd.R_drewN | apply Kd.R_drew)); exact HO395.out))) (below_size (by repeat (first | (with_reducible first | exact HB.out | apply below_alloc | apply pw_below_drewN | apply below_drew1) | exact HB.out)))); have n7_ := Aside0.mk (below_step (by repeat (first | (with_reducible first | exact HB.out | apply below_alloc | apply pw_below_drewN | apply below_drew1) | exact HB.out)) hb); clear HO375; clear HO379; clear HO383; clear HO387; clear HO391; clear HO395; clear HB; have HO375 := n0_; have HO379 := n1_; have HO383 := n2_; have HO387 := n3_; have HO391 := n4_; have HO395 := n5_; have HO399 := n6_; have HB := n7_; clear n0_ n1_ n2_ n3_ n4_ n5_ n6_ n7_; (try clear hb); (try clear hb2); (try clear hk); (try clear hi); (try clear ho0)) | ((with_reducible refine gate_callee (f := 18) rfl ?_); refine goesL_ (some 60) rfl rfl Try.func18 (by kernel_rfl) rfl #[.slice A0 l0.length c0] rfl (by (try simp only [List.map_toArray, List.map_cons, List.map_nil]); first | done | rfl | (simp only [List.length_drop, List.length_take]; rfl)) ?_; (with_reducible refine (camshaftref06_Held.calls k _ _ l0 t400 t401 _ ?side1 ?side2 A12.out).mono ?_); (case side1 => repeat (first | exact (Kd.C_below HR0.out HB.out) | (with_reducible refine Kd.C_alloc ?_ _) | (with_reducible refine Kd.C_drewN ?_ _) | (with_reducible refine Kd.C_drew ?_))); (case side2 => exact HC0.out); rintro e w36 ⟨v402, rfl, ho0, hb⟩; refine ⟨_, rfl, ?_⟩; have n0_ := Aside0.mk (Kd.R_elder' (by (with_reducible repeat (first | apply Kd.R_alloc | apply Kd.R_drewN | apply Kd.R_drew)); exact HO375.out) (Kd.R_base ho0) hb); have n1_ := Aside0.mk (Kd.R_elder' (by (with_reducible repeat (first | apply Kd.R_alloc | apply Kd.R_drewN | apply Kd.R_drew)); exact HO379.out) (Kd.R_base ho0) hb); have n2_ := Aside0.mk (Kd.R_elder' (by (with_reducible repeat (first | apply Kd.R_alloc | apply Kd.R_drewN | apply Kd.R_drew)); exact HO383.out) (Kd.R_base ho0) hb); have n3_ := Aside0.mk (Kd.R_elder' (by (with_reducible repeat (first | apply Kd.R_alloc | apply Kd.R_drewN | apply Kd.R_drew)); exact HO387.out) (Kd.R_base ho0) hb); have n4_ := Aside0.mk (Kd.R_elder' (by (with_reducible repeat (first | apply Kd.R_alloc | apply Kd.R_drewN | apply Kd.R_drew)); exact HO391.out) (Kd.R_base ho0) hb); have n5_ := Aside0.mk (Kd.R_elder' (by (with_reducible repeat (first | apply Kd.R_alloc | apply Kd.R_drewN | apply Kd.R_drew)); exact HO395.out) (Kd.R_base ho0) hb); have n6_ := Aside0.mk (Kd.R_elder' (by (with_reducible repeat (first | apply Kd.R_alloc | apply Kd.R_drewN | apply Kd.R_drew)); exact HO399.out) (Kd.R_base ho0) hb); have n7_ := Aside0.mk (Kd.R_lower (Kd.R_new' (Kd.R_new' (Kd.R_new' (Kd.R_new' (Kd.R_new' (Kd.R_new' (Kd.R_new' ho0 (Kd.R_lt (by (with_reducible repeat (first | apply Kd.R_alloc | apply Kd.R_drewN | apply Kd.R_drew)); exact HO375.out))) (Kd.R_lt (by (with_reducible repeat (first | apply Kd.R_alloc | apply Kd.R_drewN | apply Kd.R_drew)); exact HO379.out))) (Kd.R_lt (by (with_reducible repeat (first | apply Kd.R_alloc | apply Kd.R_drewN | apply Kd.R_drew)); exact HO383.out))) (Kd.R_lt (by (with_reducible repeat (first | apply Kd.R_alloc | apply Kd.R_drewN | apply Kd.R_drew)); exact HO387.out))) (Kd.R_lt (by (with_reducible repeat (first | apply Kd.R_alloc | apply Kd.R_drewN | apply Kd.R_drew)); exact HO391.out))) (Kd.R_lt (by (with_reducible repeat (first | apply Kd.R_alloc | apply Kd.R_drewN | apply Kd.R_drew)); exact HO395.out))) (Kd.R_lt (by (with_reducible repeat (first | apply Kd.R_alloc | apply Kd.R_drewN | apply Kd.R_drew)); exact HO399.out))) (below_size (by repeat (first | (with_reducible first | exact HB.out | apply below_alloc | apply pw_below_drewN | apply below_drew1) | exact HB.out)))); have n8_ := Aside0.mk (below_step (by repeat (first | (with_reducible first | exact HB.out | apply below_alloc | apply pw_below_drewN | apply below_drew1) | exact HB.out)) hb); clear HO375; clear HO379; clear HO383; clear HO387; clear HO391; clear HO395; clear HO399; clear HB; have HO375 := n0_; have HO379 := n1_; have HO383 := n2_; have HO387 := n3_; have HO391 := n4_; have HO395 := n5_; have HO399 := n6_; have HO403 := n7_; have HB := n8_; clear n0_ n1_ n2_ n3_ n4_ n5_ n6_ n7_ n8_; (try clear hb); (try clear hb2); (try clear hk); (try clear hi); (try clear ho0); obtain ⟨Ao37, co37, eo37⟩ := Kd.R_slice HO375.out; subst eo37; obtain ⟨Ao38, co38, eo38⟩ := Kd.R_slice HO379.out; subst eo38) | ((with_reducible refine gate_callee (f := 19) rfl ?_); refine goesL_ (some 65) rfl rfl Try.func19 (by kernel_rfl) rfl #[.slice Ao37 t372.length co37, .slice Ao38 t376.length co38] rfl (by (try simp only [List.map_toArray, List.map_cons, List.map_nil]); first | done | rfl | (simp only [List.length_drop, List.length_take]; rfl)) ?_; (with_reducible refine (camshaftref02_Same.calls k _ _ t372 _ _ t376 true _ ?side1 ?side2 ?side3 ?side4 A13.out).mono ?_); (case side1 => repeat (first | exact (Kd.R_reads' HO375.out).2.2 | (with_reducible refine Kd.C_alloc ?_ _) | (with_reducible refine Kd.C_drewN ?_ _) | (with_reducible refine Kd.C_drew ?_))); (case side2 => exact (Kd.R_reads' HO375.out).2.1); (case side3 => repeat (first | exact (Kd.R_reads' HO379.out).2.2 | (with_reducible refine Kd.C_alloc ?_ _) | (with_reducible refine Kd.C_drewN ?_ _) | (with_reducible refine Kd.C_drew ?_))); (case side4 => exact (Kd.R_reads' HO379.out).2.1); rintro e w' ⟨rfl, ⟨nd, rfl⟩⟩; refine ⟨_, rfl, ?_⟩; obtain ⟨Ao39, co39, eo39⟩ := Kd.R_slice HO383.out; subst eo39; obtain ⟨Ao40, co40, eo40⟩ := Kd.R_slice HO387.out; subst eo40) | ((with_reducible refine gate_callee (f := 19) rfl ?_); (with_reducible refine gate_dst (N := 74) rfl ?_); (refine gate_guard (by rfl) ?_; dsimp only); refine goesL_ (some 74) rfl rfl Try.func19 (by kernel_rfl) rfl #[.slice Ao39 t380.length co39, .slice Ao40 t384.length co40] rfl (by (try simp only [List.map_toArray, List.map_cons, List.map_nil]); first | done | rfl | (simp only [List.length_drop, List.length_take]; rfl)) ?_; (with_reducible refine (camshaftref02_Same.calls k _ _ t380 _ _ t384 true _ ?side1 ?side2 ?side3 ?side4 A16.out).mono ?_); (case side1 => repeat (first | exact (Kd.R_reads' HO383.out).2.2 | (with_reducible refine Kd.C_alloc ?_ _) | (with_reducible refine Kd.C_drewN ?_ _) | (with_reducible refine Kd.C_drew ?_))); (case side2 => exact (Kd.R_reads' HO383.out).2.1); (case side3 => repeat (first | exact (Kd.R_reads' HO387.out).2.2 | (with_reducible refine Kd.C_alloc ?_ _) | (with_reducible refine Kd.C_drewN ?_ _) | (with_reducible refine Kd.C_drew ?_))); (case side4 => exact (Kd.R_reads' HO387.out).2.1); rintro e w' ⟨rfl, ⟨nd, rfl⟩⟩; refine ⟨_, rfl, ?_⟩; obtain ⟨Ao41, co41, eo41⟩ := Kd.R_slice HO391.out; subst eo41; obtain ⟨Ao42, co42, eo42⟩ := Kd.R_slice HO395.out; subst eo42) | ((with_reducible refine gate_callee (f := 19) rfl ?_); (with_reducible refine gate_dst (N := 84) rfl ?_); (refine gate_guard (by rfl) ?_; dsimp only); refine goesL_ (some 84) rfl rfl Try.func19 (by kernel_rfl) rfl #[.slice Ao41 t388.length co41, .slice Ao42 t392.length co42] rfl (by (try simp only [List.map_toArray, List.map_cons, List.map_nil]); first | done | rfl | (simp only [List.length_drop, List.length_take]; rfl)) ?_; (with_reducible refine (camshaftref02_Same.calls k _ _ t388 _ _ t392 true _ ?side1 ?side2 ?side3 ?side4 A19.out).mono ?_); (case side1 => repeat (first | exact (Kd.R_reads' HO391.out).2.2 | (with_reducible refine Kd.C_alloc ?_ _) | (with_reducible refine Kd.C_drewN ?_ _) | (with_reducible refine Kd.C_drew ?_))); (case side2 => exact (Kd.R_reads' HO391.out).2.1); (case side3 => repeat (first | exact (Kd.R_reads' HO395.out).2.2 | (with_reducible refine Kd.C_alloc ?_ _) | (with_reducible refine Kd.C_drewN ?_ _) | (with_reducible refine Kd.C_drew ?_))); (case side4 => exact (Kd.R_reads' HO395.out).2.1); rintro e w' ⟨rfl, ⟨nd, rfl⟩⟩; refine ⟨_, rfl, ?_⟩; obtain ⟨Ao43, co43, eo43⟩ := Kd.R_slice HO399.out; subst eo43; obtain ⟨Ao44, co44, eo44⟩ := Kd.R_slice HO403.out; subst eo44) | ((with_reducible refine gate_callee (f := 19) rfl ?_); (with_reducible refine gate_dst (N := 94) rfl ?_); (refine gate_guard (by rfl) ?_; dsimp only); refine goesL_ (some 94) rfl rfl Try.func19 (by kernel_rfl) rfl #[.slice Ao43 t396.length co43, .slice Ao44 t400.length co44] rfl (by (try simp only [List.map_toArray, List.map_cons, List.map_nil]); first | done | rfl | (simp only [List.length_drop, List.length_take]; rfl)) ?_; (with_reducible refine (camshaftref02_Same.calls k _ _ t396 _ _ t400 true _ ?side1 ?side2 ?side3 ?side4 A22.out).mono ?_); (case side1 => repeat (first | exact (Kd.R_reads' HO399.out).2.2 | (with_reducible refine Kd.C_alloc ?_ _) | (with_reducible refine Kd.C_drewN ?_ _) | (with_reducible refine Kd.C_drew ?_))); (case side2 => exact (Kd.R_reads' HO399.out).2.1); (case side3 => repeat (first | exact (Kd.R_reads' HO403.out).2.2 | (with_reducible refine Kd.C_alloc ?_ _) | (with_reducible refine Kd.C_drewN ?_ _) | (with_reducible refine Kd.C_drew ?_))); (case side4 => exact (Kd.R_reads' HO403.out).2.1); rintro e w' ⟨rfl, ⟨nd, rfl⟩⟩; refine ⟨_, rfl, ?_⟩) | ((with_reducible refine gate_callee (f := 20) rfl ?_); (with_reducible refine gate_dst (N := 103) rfl ?_); (refine gate_guard (by rfl) ?_; dsimp only); refine goesL_ (some 103) rfl rfl Try.func20 (by kernel_rfl) rfl #[.slice A0 l0.length c0] rfl (by (try simp only [List.map_toArray, List.map_cons, List.map_nil]); first | done | rfl | (simp only [List.length_drop, List.length_take]; rfl)) ?_; (with_reducible refine (nest_Whole.calls k _ _ l0 t408 _ ?side1 ?side2 A25.out).mono ?_); (case side1 => repeat (first | exact (Kd.C_below HR0.out (by repeat (first | (with_reducible first | exact HB.out | apply below_alloc | apply pw_below_drewN | apply below_drew1) | exact HB.out))) | (with_reducible refine Kd.C_alloc ?_ _) | (with_reducible refine Kd.C_drewN ?_ _) | (with_reducible refine Kd.C_drew ?_))); (case side2 => exact HC0.out); rintro e w45 ⟨rfl, hb⟩; refine ⟨_, rfl, ?_⟩; have n0_ := Aside0.mk (Kd.R_below (by (with_reducible repeat (first | apply Kd.R_alloc | apply Kd.R_drewN | apply Kd.R_drew)); exact HO375.out) hb); have n1_ := Aside0.mk (Kd.R_below (by (with_reducible repeat (first | apply Kd.R_alloc | apply Kd.R_drewN | apply Kd.R_drew)); exact HO379.out) hb); have n2_ := Aside0.mk (Kd.R_below (by (with_reducible repeat (first | apply Kd.R_alloc | apply Kd.R_drewN | apply Kd.R_drew)); exact HO383.out) hb); have n3_ := Aside0.mk (Kd.R_below (by (with_reducible repeat (first | apply Kd.R_alloc | apply Kd.R_drewN | apply Kd.R_drew)); exact HO387.out) hb); have n4_ := Aside0.mk (Kd.R_below (by (with_reducible repeat (first | apply Kd.R_alloc | apply Kd.R_drewN | apply Kd.R_drew)); exact HO391.out) hb); have n5_ := Aside0.mk (Kd.R_below (by (with_reducible repeat (first | apply Kd.R_alloc | apply Kd.R_drewN | apply Kd.R_drew)); exact HO395.out) hb); have n6_ := Aside0.mk (Kd.R_below (by (with_reducible repeat (first | apply Kd.R_alloc | apply Kd.R_drewN | apply Kd.R_drew)); exact HO399.out) hb); have n7_ := Aside0.mk (Kd.R_below (by (with_reducible repeat (first | apply Kd.R_alloc | apply Kd.R_drewN | apply Kd.R_drew)); exact HO403.out) hb); have n8_ := Aside0.mk (below_step (by repeat (first | (with_reducible first | exact HB.out | apply below_alloc | apply pw_below_drewN | apply below_drew1) | exact HB.out)) hb); clear HO375; clear HO379; clear HO383; clear HO387; clear HO391; clear HO395; clear HO399; clear HO403; clear HB; have HO375 := n0_; have HO379 := n1_; have HO383 := n2_; have HO387 := n3_; have HO391 := n4_; have HO395 := n5_; have HO399 := n6_; have HO403 := n7_; have HB := n8_; clear n0_ n1_ n2_ n3_ n4_ n5_ n6_ n7_ n8_; (try clear hb); (try clear hb2); (try clear hk); (try clear hi)) | ((with_reducible refine gate_callee (f := 21) rfl ?_); (with_reducible refine gate_dst (N := 105) rfl ?_); (refine gate_guard (by rfl) ?_; dsimp only); refine goesL_ (some 105) rfl rfl Try.func21 (by kernel_rfl) rfl #[.slice A0 l0.length c0] rfl (by (try simp only [List.map_toArray, List.map_cons, List.map_nil]); first | done | rfl | (simp only [List.length_drop, List.length_take]; rfl)) ?_; (with_reducible refine (camshaftref06_Whole.calls k _ _ l0 t409 _ ?side1 ?side2 A26.out).mono ?_); (case side1 => repeat (first | exact (Kd.C_below HR0.out HB.out) | (with_reducible refine Kd.C_alloc ?_ _) | (with_reducible refine Kd.C_drewN ?_ _) | (with_reducible refine Kd.C_drew ?_))); (case side2 => exact HC0.out); rintro e w46 ⟨rfl, hb⟩; refine ⟨_, rfl, ?_⟩; have n0_ := Aside0.mk (Kd.R_below (by (with_reducible repeat (first | apply Kd.R_alloc | apply Kd.R_drewN | apply Kd.R_drew)); exact HO375.out) hb); have n1_ := Aside0.mk (Kd.R_below (by (with_reducible repeat (first | apply Kd.R_alloc | apply Kd.R_drewN | apply Kd.R_drew)); exact HO379.out) hb); have n2_ := Aside0.mk (Kd.R_below (by (with_reducible repeat (first | apply Kd.R_alloc | apply Kd.R_drewN | apply Kd.R_drew)); exact HO383.out) hb); have n3_ := Aside0.mk (Kd.R_below (by (with_reducible repeat (first | apply Kd.R_alloc | apply Kd.R_drewN | apply Kd.R_drew)); exact HO387.out) hb); have n4_ := Aside0.mk (Kd.R_below (by (with_reducible repeat (first | apply Kd.R_alloc | apply Kd.R_drewN | apply Kd.R_drew)); exact HO391.out) hb); have n5_ := Aside0.mk (Kd.R_below (by (with_reducible repeat (first | apply Kd.R_alloc | apply Kd.R_drewN | apply Kd.R_drew)); exact HO395.out) hb); have n6_ := Aside0.mk (Kd.R_below (by (with_reducible repeat (first | apply Kd.R_alloc | apply Kd.R_drewN | apply Kd.R_drew)); exact HO399.out) hb); have n7_ := Aside0.mk (Kd.R_below (by (with_reducible repeat (first | apply Kd.R_alloc | apply Kd.R_drewN | apply Kd.R_drew)); exact HO403.out) hb); have n8_ := Aside0.mk (below_step (by repeat (first | (with_reducible first | exact HB.out | apply below_alloc | apply pw_below_drewN | apply below_drew1) | exact HB.out)) hb); clear HO375; clear HO379; clear HO383; clear HO387; clear HO391; clear HO395; clear HO399; clear HO403; clear HB; have HO375 := n0_; have HO379 := n1_; have HO383 := n2_; have HO387 := n3_; have HO391 := n4_; have HO395 := n5_; have HO399 := n6_; have HO403 := n7_; have HB := n8_; clear n0_ n1_ n2_ n3_ n4_ n5_ n6_ n7_ n8_; (try clear hb); (try clear hb2); (try clear hk); (try clear hi)) | ((with_reducible refine gate_callee (f := 10) rfl ?_); (with_reducible refine gate_dst (N := 109) rfl ?_); (refine gate_guard (by rfl) ?_; dsimp only); refine goesL_ (some 109) rfl rfl Try.func10 (by kernel_rfl) rfl #[] rfl (by (try simp only [List.map_toArray, List.map_cons, List.map_nil]); first | done | rfl | (simp only [List.length_drop, List.length_take]; rfl)) ?_; (with_reducible refine (camshaftlaw06_known.calls k  t410 _ A28.out).mono ?_); rintro e w47 ⟨rfl, hb⟩; refine ⟨_, rfl, ?_⟩; have n0_ := Aside0.mk (Kd.R_below (by (with_reducible repeat (first | apply Kd.R_alloc | apply Kd.R_drewN | apply Kd.R_drew)); exact HO375.out) hb); have n1_ := Aside0.mk (Kd.R_below (by (with_reducible repeat (first | apply Kd.R_alloc | apply Kd.R_drewN | apply Kd.R_drew)); exact HO379.out) hb); have n2_ := Aside0.mk (Kd.R_below (by (with_reducible repeat (first | apply Kd.R_alloc | apply Kd.R_drewN | apply Kd.R_drew)); exact HO383.out) hb); have n3_ := Aside0.mk (Kd.R_below (by (with_reducible repeat (first | apply Kd.R_alloc | apply Kd.R_drewN | apply Kd.R_drew)); exact HO387.out) hb); have n4_ := Aside0.mk (Kd.R_below (by (with_reducible repeat (first | apply Kd.R_alloc | apply Kd.R_drewN | apply Kd.R_drew)); exact HO391.out) hb); have n5_ := Aside0.mk (Kd.R_below (by (with_reducible repeat (first | apply Kd.R_alloc | apply Kd.R_drewN | apply Kd.R_drew)); exact HO395.out) hb); have n6_ := Aside0.mk (Kd.R_below (by (with_reducible repeat (first | apply Kd.R_alloc | apply Kd.R_drewN | apply Kd.R_drew)); exact HO399.out) hb); have n7_ := Aside0.mk (Kd.R_below (by (with_reducible repeat (first | apply Kd.R_alloc | apply Kd.R_drewN | apply Kd.R_drew)); exact HO403.out) hb); have n8_ := Aside0.mk (below_step (by repeat (first | (with_reducible first | exact HB.out | apply below_alloc | apply pw_below_drewN | apply below_drew1) | exact HB.out)) hb); clear HO375; clear HO379; clear HO383; clear HO387; clear HO391; clear HO395; clear HO399; clear HO403; clear HB; have HO375 := n0_; have HO379 := n1_; have HO383 := n2_; have HO387 := n3_; have HO391 := n4_; have HO395 := n5_; have HO399 := n6_; have HO403 := n7_; have HB := n8_; clear n0_ n1_ n2_ n3_ n4_ n5_ n6_ n7_ n8_; (try clear hb); (try clear hb2); (try clear hk); (try clear hi)))
 go_ret
 exact ⟨by first | rfl | (simp [errW_none, errW_some] <;> rfl) | (simp [*, errW_none, errW_some] <;> rfl), by repeat (first | (with_reducible first | exact HB.out | apply below_alloc | apply pw_below_drewN | apply below_drew1) | exact HB.out | exact Below.refl _ _)⟩

/-- THE ONE PURE STATEMENT of camshaftlaw06_NestTells. -/
def camshaftlaw06_NestTells.Pure : Prop := ∀ (l0 : List S32), l0.length * 24 ≤ 140737488351232 → (∀ x ∈ l0, (Lit.int .i64 x.f0).wf = true ∧ (Lit.int .i64 x.f1).wf = true ∧ (Lit.int .i64 x.f2).wf = true) → ∃ k, camshaftlaw06_NestTells.f k l0 = some true
theorem camshaftlaw06_NestTells.walk (P : camshaftlaw06_NestTells.Pure) (A0 : Option Addr) (c0 : Nat) (l0 : List S32) (w : World) (hr0 : Kd.C k32 w A0 l0.length l0) (hc0 : l0.length ≤ c0) (y0 : l0.length * 24 ≤ 140737488351232) (hw0 : ∀ x ∈ l0, (Lit.int .i64 x.f0).wf = true ∧ (Lit.int .i64 x.f1).wf = true ∧ (Lit.int .i64 x.f2).wf = true) :
  Calls Try.prog 3 #[.slice A0 l0.length c0] w fun e w' => e = .returned (.bool true) ∧ Below w.heap.size w w' := by
 obtain ⟨k, h⟩ := P l0 y0 hw0
 refine (camshaftlaw06_NestTells.calls k A0 c0 l0 true w hr0 hc0 h rfl).mono ?_
 rintro e w' ⟨rfl, hd⟩
 exact ⟨rfl, hd⟩

end Go.Proofs.Ytljgllcllddcdaa.P
