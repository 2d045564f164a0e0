-- Written by a program of this session (wip/tools: patched print) for this claim. Not trusted: Lean checks it.
import Derived.Test.YtljgllcllddcdaaPx0
import Derived.Test.YtljgllcllddcdaaPx4
import Derived.Test.YtljgllcllddcdaaPx9
namespace Go.Proofs.Ytljgllcllddcdaa.P
open Go.RowKit Go.Proofs.YtljgllcllddcdaaW.PrintWords Go.Proofs.YtljgllcllddcdaaW.PrintLast Go.Proofs.YtljgllcllddcdaaW.PrintMore
attribute [local go_sem] max2_int min2_int max_two min_two max_three min_three max_four min_four   -- for this text's walks alone
set_option linter.unusedVariables false
set_option linter.unusedSimpArgs false

/-! ### camshaftlaw06_NestMatches: function 4 -/
mutual
def camshaftlaw06_NestMatches.l0 : Nat → List (S32) → List Int → Int → Option (Bool)
  | 0, _, _, _ => none
  | k + 1, x0, x3, x5 => if x5 < (x0.length : Int) then (if 0 ≤ x5 then (if ((rd_T32 x0 x5).f0) = 21 then (camshaftlaw06_NestMatches.j1 k x0 x3 x5 true) else (camshaftlaw06_NestMatches.j1 k x0 x3 x5 (((rd_T32 x0 x5).f0) == 23))) else (none)) else ((camshaftlaw06_known.f k).bind fun t417 => (some t417))
def camshaftlaw06_NestMatches.j1 : Nat → List (S32) → List Int → Int → Bool → Option (Bool)
  | 0, _, _, _, _ => none
  | k + 1, x0, x3, x5, x6 => if 0 ≤ x5 then (if x5 < (x0.length : Int) then (if ((rd_T32 x0 x5).f0) = 22 then (camshaftlaw06_NestMatches.j2 k x0 x3 x5 x6 true) else (camshaftlaw06_NestMatches.j2 k x0 x3 x5 x6 (((rd_T32 x0 x5).f0) == 24))) else (none)) else (none)
def camshaftlaw06_NestMatches.j2 : Nat → List (S32) → List Int → Int → Bool → Bool → Option (Bool)
  | 0, _, _, _, _, _ => none
  | k + 1, x0, x3, x5, x6, x7 => if 0 ≤ x5 then (if x5 < (x3.length : Int) then (if x6 = true then (if ((decide ((rd x3 x5) ≥ 0)) != true) = true then (camshaftlaw06_NestMatches.j3 k x0 x3 x5 x6 true) else (if (rd x3 x5) ≥ (x0.length : Int) then (camshaftlaw06_NestMatches.j3 k x0 x3 x5 x6 true) else (if (rd x3 x5) ≥ 0 then (if 0 ≤ (rd x3 x5) then (if (rd x3 x5) < (x3.length : Int) then (if (rd x3 (rd x3 x5)) = x5 then (camshaftlaw06_NestMatches.j3 k x0 x3 x5 x6 (x6 != (decide ((rd x3 x5) > x5)))) else (camshaftlaw06_NestMatches.j3 k x0 x3 x5 x6 true)) else (none)) else (none)) else (camshaftlaw06_NestMatches.j3 k x0 x3 x5 x6 false)))) else (if ((decide ((rd x3 x5) ≥ 0)) != x7) = true then (camshaftlaw06_NestMatches.j3 k x0 x3 x5 x6 true) else (if (rd x3 x5) ≥ (x0.length : Int) then (camshaftlaw06_NestMatches.j3 k x0 x3 x5 x6 true) else (if (rd x3 x5) ≥ 0 then (if 0 ≤ (rd x3 x5) then (if (rd x3 x5) < (x3.length : Int) then (if (rd x3 (rd x3 x5)) = x5 then (camshaftlaw06_NestMatches.j3 k x0 x3 x5 x6 (x6 != (decide ((rd x3 x5) > x5)))) else (camshaftlaw06_NestMatches.j3 k x0 x3 x5 x6 true)) else (none)) else (none)) else (camshaftlaw06_NestMatches.j3 k x0 x3 x5 x6 false))))) else (none)) else (none)
def camshaftlaw06_NestMatches.j3 : Nat → List (S32) → List Int → Int → Bool → Bool → Option (Bool)
  | 0, _, _, _, _, _ => none
  | k + 1, x0, x3, x5, x6, x111 => if x111 = true then (some false) else (camshaftlaw06_NestMatches.l1 k x0 x3 x5 x6 0)
def camshaftlaw06_NestMatches.l1 : Nat → List (S32) → List Int → Int → Bool → Int → Option (Bool)
  | 0, _, _, _, _, _ => none
  | k + 1, x0, x3, x5, x6, x8 => if x6 = true then (camshaftlaw06_NestMatches.j5 k x0 x3 x5 x6 x8 (decide (x8 < x5))) else (camshaftlaw06_NestMatches.j5 k x0 x3 x5 x6 x8 false)
def camshaftlaw06_NestMatches.j5 : Nat → List (S32) → List Int → Int → Bool → Int → Bool → Option (Bool)
  | 0, _, _, _, _, _, _ => none
  | k + 1, x0, x3, x5, x6, x8, x117 => if x117 = true then (if 0 ≤ x8 then (if x8 < (x3.length : Int) then (if (rd x3 x8) > x5 then (if 0 ≤ x5 then (if x5 < (x3.length : Int) then (if (rd x3 x8) < (rd x3 x5) then (some false) else (camshaftlaw06_NestMatches.l1 k x0 x3 x5 x6 (wrap64 (x8 + 1)))) else (none)) else (none)) else (camshaftlaw06_NestMatches.l1 k x0 x3 x5 x6 (wrap64 (x8 + 1)))) else (none)) else (none)) else (camshaftlaw06_NestMatches.l0 k x0 x3 (wrap64 (x5 + 1)))
end
def camshaftlaw06_NestMatches.f (k : Nat) (l0 : List (S32)) : Option (Bool) := if (l0.length : Int) > 200 then ((camshaftlaw06_known.f k).bind fun t411 => (some t411)) else ((nest_Match.f k l0).bind fun bt412 => (if bt412.2 = 0 then (if (bt412.1.length : Int) = (l0.length : Int) then (camshaftlaw06_NestMatches.l0 k l0 bt412.1 0) else (some false)) else (if (bt412.1.length : Int) = 0 then ((camshaftlaw06_known.f k).bind fun t416 => (some t416)) else (some false))))
theorem camshaftlaw06_NestMatches.mono_l : ∀ k, (∀ y0 y1 y2, LeO (camshaftlaw06_NestMatches.l0 k y0 y1 y2) (camshaftlaw06_NestMatches.l0 (k + 1) y0 y1 y2)) ∧ (∀ y0 y1 y2 y3, LeO (camshaftlaw06_NestMatches.j1 k y0 y1 y2 y3) (camshaftlaw06_NestMatches.j1 (k + 1) y0 y1 y2 y3)) ∧ (∀ y0 y1 y2 y3 y4, LeO (camshaftlaw06_NestMatches.j2 k y0 y1 y2 y3 y4) (camshaftlaw06_NestMatches.j2 (k + 1) y0 y1 y2 y3 y4)) ∧ (∀ y0 y1 y2 y3 y4, LeO (camshaftlaw06_NestMatches.j3 k y0 y1 y2 y3 y4) (camshaftlaw06_NestMatches.j3 (k + 1) y0 y1 y2 y3 y4)) ∧ (∀ y0 y1 y2 y3 y4, LeO (camshaftlaw06_NestMatches.l1 k y0 y1 y2 y3 y4) (camshaftlaw06_NestMatches.l1 (k + 1) y0 y1 y2 y3 y4)) ∧ (∀ y0 y1 y2 y3 y4 y5, LeO (camshaftlaw06_NestMatches.j5 k y0 y1 y2 y3 y4 y5) (camshaftlaw06_NestMatches.j5 (k + 1) y0 y1 y2 y3 y4 y5))
  | 0 => ⟨fun _ _ _ r h => by simp [camshaftlaw06_NestMatches.l0] at h, fun _ _ _ _ r h => by simp [camshaftlaw06_NestMatches.j1] at h, fun _ _ _ _ _ r h => by simp [camshaftlaw06_NestMatches.j2] at h, fun _ _ _ _ _ r h => by simp [camshaftlaw06_NestMatches.j3] at h, fun _ _ _ _ _ r h => by simp [camshaftlaw06_NestMatches.l1] at h, fun _ _ _ _ _ _ r h => by simp [camshaftlaw06_NestMatches.j5] at h⟩
  | k + 1 => by
    obtain ⟨ih0, ih1, ih2, ih3, ih4, ih5⟩ := camshaftlaw06_NestMatches.mono_l k
    refine ⟨?_, ?_, ?_, ?_, ?_, ?_⟩
    · intro y0 y1 y2
      unfold camshaftlaw06_NestMatches.l0
      repeat' first
      | (with_reducible exact ih0 _ _ _)
      | (with_reducible exact ih1 _ _ _ _)
      | (with_reducible exact ih2 _ _ _ _ _)
      | (with_reducible exact ih3 _ _ _ _ _)
      | (with_reducible exact ih4 _ _ _ _ _)
      | (with_reducible exact ih5 _ _ _ _ _ _)
      | (with_reducible exact camshaftlaw06_known.mono _)
      | (with_reducible exact nest_Match.mono _ _)
      | (with_reducible exact LeO.refl _)
      | (with_reducible exact LeO.none _)
      | (with_reducible refine LeO.ite ?_ ?_)
      | (with_reducible refine LeO.bind ?_ (fun _ => ?_))
      | exact ih0 _ _ _
      | exact ih1 _ _ _ _
      | exact ih2 _ _ _ _ _
      | exact ih3 _ _ _ _ _
      | exact ih4 _ _ _ _ _
      | exact ih5 _ _ _ _ _ _
      | exact camshaftlaw06_known.mono _
      | exact nest_Match.mono _ _
      | exact LeO.none _
      | refine LeO.ite ?_ ?_
      | refine LeO.bind ?_ (fun _ => ?_)
    · intro y0 y1 y2 y3
      unfold camshaftlaw06_NestMatches.j1
      repeat' first
      | (with_reducible exact ih0 _ _ _)
      | (with_reducible exact ih1 _ _ _ _)
      | (with_reducible exact ih2 _ _ _ _ _)
      | (with_reducible exact ih3 _ _ _ _ _)
      | (with_reducible exact ih4 _ _ _ _ _)
      | (with_reducible exact ih5 _ _ _ _ _ _)
      | (with_reducible exact camshaftlaw06_known.mono _)
      | (with_reducible exact nest_Match.mono _ _)
      | (with_reducible exact LeO.refl _)
      | (with_reducible exact LeO.none _)
      | (with_reducible refine LeO.ite ?_ ?_)
      | (with_reducible refine LeO.bind ?_ (fun _ => ?_))
      | exact ih0 _ _ _
      | exact ih1 _ _ _ _
      | exact ih2 _ _ _ _ _
      | exact ih3 _ _ _ _ _
      | exact ih4 _ _ _ _ _
      | exact ih5 _ _ _ _ _ _
      | exact camshaftlaw06_known.mono _
      | exact nest_Match.mono _ _
      | exact LeO.none _
      | refine LeO.ite ?_ ?_
      | refine LeO.bind ?_ (fun _ => ?_)
    · intro y0 y1 y2 y3 y4
      unfold camshaftlaw06_NestMatches.j2
      repeat' first
      | (with_reducible exact ih0 _ _ _)
      | (with_reducible exact ih1 _ _ _ _)
      | (with_reducible exact ih2 _ _ _ _ _)
      | (with_reducible exact ih3 _ _ _ _ _)
      | (with_reducible exact ih4 _ _ _ _ _)
      | (with_reducible exact ih5 _ _ _ _ _ _)
      | (with_reducible exact camshaftlaw06_known.mono _)
      | (with_reducible exact nest_Match.mono _ _)
      | (with_reducible exact LeO.refl _)
      | (with_reducible exact LeO.none _)
      | (with_reducible refine LeO.ite ?_ ?_)
      | (with_reducible refine LeO.bind ?_ (fun _ => ?_))
      | exact ih0 _ _ _
      | exact ih1 _ _ _ _
      | exact ih2 _ _ _ _ _
      | exact ih3 _ _ _ _ _
      | exact ih4 _ _ _ _ _
      | exact ih5 _ _ _ _ _ _
      | exact camshaftlaw06_known.mono _
      | exact nest_Match.mono _ _
      | exact LeO.none _
      | refine LeO.ite ?_ ?_
      | refine LeO.bind ?_ (fun _ => ?_)
    · intro y0 y1 y2 y3 y4
      unfold camshaftlaw06_NestMatches.j3
      repeat' first
      | (with_reducible exact ih0 _ _ _)
      | (with_reducible exact ih1 _ _ _ _)
      | (with_reducible exact ih2 _ _ _ _ _)
      | (with_reducible exact ih3 _ _ _ _ _)
      | (with_reducible exact ih4 _ _ _ _ _)
      | (with_reducible exact ih5 _ _ _ _ _ _)
      | (with_reducible exact camshaftlaw06_known.mono _)
      | (with_reducible exact nest_Match.mono _ _)
      | (with_reducible exact LeO.refl _)
      | (with_reducible exact LeO.none _)
      | (with_reducible refine LeO.ite ?_ ?_)
      | (with_reducible refine LeO.bind ?_ (fun _ => ?_))
      | exact ih0 _ _ _
      | exact ih1 _ _ _ _
      | exact ih2 _ _ _ _ _
      | exact ih3 _ _ _ _ _
      | exact ih4 _ _ _ _ _
      | exact ih5 _ _ _ _ _ _
      | exact camshaftlaw06_known.mono _
      | exact nest_Match.mono _ _
      | exact LeO.none _
      | refine LeO.ite ?_ ?_
      | refine LeO.bind ?_ (fun _ => ?_)
    · intro y0 y1 y2 y3 y4
      unfold camshaftlaw06_NestMatches.l1
      repeat' first
      | (with_reducible exact ih0 _ _ _)
      | (with_reducible exact ih1 _ _ _ _)
      | (with_reducible exact ih2 _ _ _ _ _)
      | (with_reducible exact ih3 _ _ _ _ _)
      | (with_reducible exact ih4 _ _ _ _ _)
      | (with_reducible exact ih5 _ _ _ _ _ _)
      | (with_reducible exact camshaftlaw06_known.mono _)
      | (with_reducible exact nest_Match.mono _ _)
      | (with_reducible exact LeO.refl _)
      | (with_reducible exact LeO.none _)
      | (with_reducible refine LeO.ite ?_ ?_)
      | (with_reducible refine LeO.bind ?_ (fun _ => ?_))
      | exact ih0 _ _ _
      | exact ih1 _ _ _ _
      | exact ih2 _ _ _ _ _
      | exact ih3 _ _ _ _ _
      | exact ih4 _ _ _ _ _
      | exact ih5 _ _ _ _ _ _
      | exact camshaftlaw06_known.mono _
      | exact nest_Match.mono _ _
      | exact LeO.none _
      | refine LeO.ite ?_ ?_
      | refine LeO.bind ?_ (fun _ => ?_)
    · intro y0 y1 y2 y3 y4 y5
      unfold camshaftlaw06_NestMatches.j5
      repeat' first
      | (with_reducible exact ih0 _ _ _)
      | (with_reducible exact ih1 _ _ _ _)
      | (with_reducible exact ih2 _ _ _ _ _)
      | (with_reducible exact ih3 _ _ _ _ _)
      | (with_reducible exact ih4 _ _ _ _ _)
      | (with_reducible exact ih5 _ _ _ _ _ _)
      | (with_reducible exact camshaftlaw06_known.mono _)
      | (with_reducible exact nest_Match.mono _ _)
      | (with_reducible exact LeO.refl _)
      | (with_reducible exact LeO.none _)
      | (with_reducible refine LeO.ite ?_ ?_)
      | (with_reducible refine LeO.bind ?_ (fun _ => ?_))
      | exact ih0 _ _ _
      | exact ih1 _ _ _ _
      | exact ih2 _ _ _ _ _
      | exact ih3 _ _ _ _ _
      | exact ih4 _ _ _ _ _
      | exact ih5 _ _ _ _ _ _
      | exact camshaftlaw06_known.mono _
      | exact nest_Match.mono _ _
      | exact LeO.none _
      | refine LeO.ite ?_ ?_
      | refine LeO.bind ?_ (fun _ => ?_)
theorem camshaftlaw06_NestMatches.mono : ∀ a0 k, LeO (camshaftlaw06_NestMatches.f k a0) (camshaftlaw06_NestMatches.f (k + 1) a0) := by
  intro a0 k
  obtain ⟨ih0, ih1, ih2, ih3, ih4, ih5⟩ := camshaftlaw06_NestMatches.mono_l k
  unfold camshaftlaw06_NestMatches.f
  repeat' first
      | (with_reducible exact ih0 _ _ _)
      | (with_reducible exact ih1 _ _ _ _)
      | (with_reducible exact ih2 _ _ _ _ _)
      | (with_reducible exact ih3 _ _ _ _ _)
      | (with_reducible exact ih4 _ _ _ _ _)
      | (with_reducible exact ih5 _ _ _ _ _ _)
      | (with_reducible exact camshaftlaw06_known.mono _)
      | (with_reducible exact nest_Match.mono _ _)
      | (with_reducible exact LeO.refl _)
      | (with_reducible exact LeO.none _)
      | (with_reducible refine LeO.ite ?_ ?_)
      | (with_reducible refine LeO.bind ?_ (fun _ => ?_))
      | exact ih0 _ _ _
      | exact ih1 _ _ _ _
      | exact ih2 _ _ _ _ _
      | exact ih3 _ _ _ _ _
      | exact ih4 _ _ _ _ _
      | exact ih5 _ _ _ _ _ _
      | exact camshaftlaw06_known.mono _
      | exact nest_Match.mono _ _
      | exact LeO.none _
      | refine LeO.ite ?_ ?_
      | refine LeO.bind ?_ (fun _ => ?_)
set_option maxHeartbeats 8000000 in
set_option maxRecDepth 100000 in
theorem camshaftlaw06_NestMatches.calls (k : Nat) (A0 : Option Addr) (c0 : Nat) (l0 : List (S32)) (r : Bool) (w : World) (hr0 : Kd.C k32 w A0 l0.length l0) (hc0 : l0.length ≤ c0) (h : camshaftlaw06_NestMatches.f k l0 = some r) (ht : r = true) :
    Calls Try.prog 4 #[.slice A0 l0.length c0] w fun e w' => e = .returned (.bool r) ∧ Below w.heap.size w w' := by
  have HT := Aside0.mk ht
  clear ht
  have HR0 := Aside0.mk hr0
  have HC0 := Aside0.mk hc0
  clear hr0 hc0
  have HB := Aside0.mk (Below.refl w.heap.size w)
  have H : (if (l0.length : Int) > 200 then ((camshaftlaw06_known.f k).bind fun t411 => (some t411)) else ((nest_Match.f k l0).bind fun bt412 => (if bt412.2 = 0 then (if (bt412.1.length : Int) = (l0.length : Int) then (camshaftlaw06_NestMatches.l0 k l0 bt412.1 0) else (some false)) else (if (bt412.1.length : Int) = 0 then ((camshaftlaw06_known.f k).bind fun t416 => (some t416)) else (some false))))) = some r := h
  clear h
  by_cases c2 : (l0.length : Int) > 200
  · rw [if_pos c2] at H
    have c2b0 : decide (200 < (l0.length : Int)) = true := decide_eq_true c2
    have c2b1 : decide (200 < l0.length) = true := decide_eq_true (by omega)
    clear c2
    replace H := Option.bind_eq_some_iff.mp H
    obtain ⟨t411, A30, H⟩ := H
    replace H : (some t411) = some r := H
    have A3 := Aside0.mk A30
    clear A30
    obtain rfl := Option.some.inj H
    go_enter Try.func4, Try.ntmps4
    go_wp2_with (first | (go_at_call 10; (with_reducible refine (camshaftlaw06_known.calls k  t411 _ A3.out).mono ?_); rintro e w4 ⟨rfl, hb⟩; have n0_ := Aside0.mk (below_step (by repeat (first | (with_reducible first | exact HB.out | apply below_alloc | apply pw_below_drewN | apply below_drew1) | exact HB.out)) hb); clear HB; have HB := n0_; clear n0_; (try clear hb); (try clear hb2); (try clear hk); (try clear hi)))
    repeat (go_quiet (first | (go_at_call 10; (with_reducible refine (camshaftlaw06_known.calls k  t411 _ A3.out).mono ?_); rintro e w4 ⟨rfl, hb⟩; have n0_ := Aside0.mk (below_step (by repeat (first | (with_reducible first | exact HB.out | apply below_alloc | apply pw_below_drewN | apply below_drew1) | exact HB.out)) hb); clear HB; have HB := n0_; clear n0_; (try clear hb); (try clear hb2); (try clear hk); (try clear hi))); try go_wp2_with (first | (go_at_call 10; (with_reducible refine (camshaftlaw06_known.calls k  t411 _ A3.out).mono ?_); rintro e w4 ⟨rfl, hb⟩; have n0_ := Aside0.mk (below_step (by repeat (first | (with_reducible first | exact HB.out | apply below_alloc | apply pw_below_drewN | apply below_drew1) | exact HB.out)) hb); clear HB; have HB := n0_; clear n0_; (try clear hb); (try clear hb2); (try clear hk); (try clear hi))))
    go_ret
    exact ⟨by first | rfl | (simp [errW_none, errW_some] <;> rfl) | (simp [*, errW_none, errW_some] <;> rfl), by repeat (first | (with_reducible first | exact HB.out | apply below_alloc | apply pw_below_drewN | apply below_drew1) | exact HB.out | exact Below.refl _ _)⟩
  · rw [if_neg c2] at H
    have c2b0 : decide (200 < (l0.length : Int)) = false := decide_eq_false c2
    have c2b1 : decide (200 < l0.length) = false := decide_eq_false (by omega)
    clear c2
    replace H := Option.bind_eq_some_iff.mp H
    obtain ⟨⟨t412, t413⟩, A50, H⟩ := H
    replace H : (if t413 = 0 then (if (t412.length : Int) = (l0.length : Int) then (camshaftlaw06_NestMatches.l0 k l0 t412 0) else (some false)) else (if (t412.length : Int) = 0 then ((camshaftlaw06_known.f k).bind fun t416 => (some t416)) else (some false))) = some r := H
    have A5 := Aside0.mk A50
    clear A50
    by_cases c6 : t413 = 0
    · rw [if_pos c6] at H
      have c6b0 : (t413 == 0) = true := beq_iff_eq.mpr c6
      have c6b1 : (t413 != 0) = false := bne_eq_false_iff_eq.mpr c6
      clear c6
      by_cases c7 : (t412.length : Int) = (l0.length : Int)
      · rw [if_pos c7] at H
        have c7b0 : ((t412.length : Int) == (l0.length : Int)) = true := beq_iff_eq.mpr c7
        have c7b1 : ((t412.length : Int) != (l0.length : Int)) = false := bne_eq_false_iff_eq.mpr c7
        have c7b2 : (t412.length == l0.length) = true := by first | simpa using c7 | (simp at c7 ⊢; omega)
        clear c7
        have H' := Aside0.mk H
        clear H
        go_enter Try.func4, Try.ntmps4
        go_wp2_with (first | (go_at_call 11; (with_reducible refine (nest_Match.calls k _ _ l0 t412 t413 _ ?side1 ?side2 A5.out).mono ?_); (case side1 => repeat (first | exact HR0.out | (with_reducible refine Kd.C_alloc ?_ _) | (with_reducible refine Kd.C_drewN ?_ _) | (with_reducible refine Kd.C_drew ?_))); (case side2 => exact HC0.out); rintro e w8 ⟨v414, rfl, ho0, hb⟩; have n0_ := Aside0.mk (Kd.R_lower ho0 (below_size (by repeat (first | (with_reducible first | exact HB.out | apply below_alloc | apply pw_below_drewN | apply below_drew1) | exact HB.out)))); have n1_ := Aside0.mk (below_step (by repeat (first | (with_reducible first | exact HB.out | apply below_alloc | apply pw_below_drewN | apply below_drew1) | exact HB.out)) hb); clear HB; have HO415 := n0_; have HB := n1_; clear n0_ n1_; (try clear hb); (try clear hb2); (try clear hk); (try clear hi); (try clear ho0); obtain ⟨Ao9, co9, eo9⟩ := Kd.R_slice HO415.out; subst eo9))
        repeat (go_quiet (first | (go_at_call 11; (with_reducible refine (nest_Match.calls k _ _ l0 t412 t413 _ ?side1 ?side2 A5.out).mono ?_); (case side1 => repeat (first | exact HR0.out | (with_reducible refine Kd.C_alloc ?_ _) | (with_reducible refine Kd.C_drewN ?_ _) | (with_reducible refine Kd.C_drew ?_))); (case side2 => exact HC0.out); rintro e w8 ⟨v414, rfl, ho0, hb⟩; have n0_ := Aside0.mk (Kd.R_lower ho0 (below_size (by repeat (first | (with_reducible first | exact HB.out | apply below_alloc | apply pw_below_drewN | apply below_drew1) | exact HB.out)))); have n1_ := Aside0.mk (below_step (by repeat (first | (with_reducible first | exact HB.out | apply below_alloc | apply pw_below_drewN | apply below_drew1) | exact HB.out)) hb); clear HB; have HO415 := n0_; have HB := n1_; clear n0_ n1_; (try clear hb); (try clear hb2); (try clear hk); (try clear hi); (try clear ho0); obtain ⟨Ao9, co9, eo9⟩ := Kd.R_slice HO415.out; subst eo9)); try go_wp2_with (first | (go_at_call 11; (with_reducible refine (nest_Match.calls k _ _ l0 t412 t413 _ ?side1 ?side2 A5.out).mono ?_); (case side1 => repeat (first | exact HR0.out | (with_reducible refine Kd.C_alloc ?_ _) | (with_reducible refine Kd.C_drewN ?_ _) | (with_reducible refine Kd.C_drew ?_))); (case side2 => exact HC0.out); rintro e w8 ⟨v414, rfl, ho0, hb⟩; have n0_ := Aside0.mk (Kd.R_lower ho0 (below_size (by repeat (first | (with_reducible first | exact HB.out | apply below_alloc | apply pw_below_drewN | apply below_drew1) | exact HB.out)))); have n1_ := Aside0.mk (below_step (by repeat (first | (with_reducible first | exact HB.out | apply below_alloc | apply pw_below_drewN | apply below_drew1) | exact HB.out)) hb); clear HB; have HO415 := n0_; have HB := n1_; clear n0_ n1_; (try clear hb); (try clear hb2); (try clear hk); (try clear hi); (try clear ho0); obtain ⟨Ao9, co9, eo9⟩ := Kd.R_slice HO415.out; subst eo9)))
        go_loopg [5] k (fun kq v5 w' => ∃ (x5_1 : Int), v5 = .int .i64 x5_1 ∧ Aside0 (camshaftlaw06_NestMatches.l0 kq l0 t412 x5_1 = some r) ∧ Aside0 (kq ≤ k) ∧ Aside0 (Kd.R (Kd.int .i64) 3 w' w.heap.size (fun _ => True) (.slice Ao9 t412.length co9) t412) ∧ Aside0 (Below w.heap.size w w'))
        case atStart => exact ⟨(0), (by first | rfl | (simp; done) | (simp [*]; done)), H', ⟨Nat.le_refl _⟩, ⟨by (with_reducible repeat (first | apply Kd.R_alloc | apply Kd.R_drewN | apply Kd.R_drew)); exact HO415.out⟩, ⟨by repeat (first | (with_reducible first | exact HB.out | apply below_alloc | apply pw_below_drewN | apply below_drew1) | exact HB.out)⟩⟩
        case round =>
          clear H'
          try clear c2
          try clear c2b0
          try clear c2b1
          try clear p2
          try clear c4
          try clear c6
          try clear c6b0
          try clear c6b1
          try clear c7
          try clear c7b0
          try clear c7b1
          try clear c7b2
          obtain ⟨x5_1, rfl, HA, HK1, HO_3, HB⟩ := hrel
          cases gk with
          | zero => exact absurd HA.out (by simp [camshaftlaw06_NestMatches.l0])
          | succ k1 =>
            have H := HA.out
            clear HA
            simp only [camshaftlaw06_NestMatches.l0] at H
            by_cases c10 : x5_1 < (l0.length : Int)
            · rw [if_pos c10] at H
              have c10b0 : decide (x5_1 < (l0.length : Int)) = true := decide_eq_true c10
              clear c10
              have HC11 := Aside0.mk H
              clear H
              go_upto_region 11 with (fail)
              repeat (go_quiet (fail); go_upto_region 11 with (fail))
              go_cut [6] (fun v6 wc => ∃ (kq : Nat) (x6_10 : Bool), v6 = .bool x6_10 ∧ Aside0 (camshaftlaw06_NestMatches.j1 kq l0 t412 x5_1 x6_10 = some r) ∧ Aside0 (kq ≤ k1) ∧ Aside0 (Kd.R (Kd.int .i64) 3 wc w.heap.size (fun _ => True) (.slice Ao9 t412.length co9) t412) ∧ Aside0 (Below w.heap.size w wc))
              case first =>
                have H := HC11.out
                clear HC11
                by_cases c12 : 0 ≤ x5_1
                · rw [if_pos c12] at H
                  have c12b0 : decide (0 ≤ x5_1) = true := decide_eq_true c12
                  clear c12
                  (first | rw [c12b0] | (simp only [i64_w, i32_w]; rw [c12b0]) | rw [c12b1] | skip)
                  by_cases c13 : ((rd_T32 l0 x5_1).f0) = 21
                  · rw [if_pos c13] at H
                    have c13b0 : (((rd_T32 l0 x5_1).f0) == 21) = true := beq_iff_eq.mpr c13
                    have c13b1 : (((rd_T32 l0 x5_1).f0) != 21) = false := bne_eq_false_iff_eq.mpr c13
                    clear c13
                    have H' := Aside0.mk H
                    clear H
                    have p418 : 0 ≤ (x5_1 : Int) := of_decide_eq_true (by first | (with_reducible assumption) | assumption)
                    have q418 : x5_1 < (l0.length : Int) := of_decide_eq_true (by first | (with_reducible assumption) | assumption)
                    obtain ⟨ad418, e418, hx418_0, hx418_1, hx418_2⟩ := at_T32 HR0.out x5_1 p418 q418
                    cases e418
                    replace hx418_0 := (HB.out.cell (World.block_lt_of_cell? w _ hx418_0)).trans hx418_0
                    replace hx418_1 := (HB.out.cell (World.block_lt_of_cell? w _ hx418_1)).trans hx418_1
                    replace hx418_2 := (HB.out.cell (World.block_lt_of_cell? w _ hx418_2)).trans hx418_2
                    replace p418 := eq_true p418
                    replace q418 := eq_true q418
                    go_wp2
                    repeat (go_quiet (fail); try go_wp2)
                    go_meet
                    case rel => exact ⟨_, (true), (by first | rfl | (simp; done) | (simp [*]; done)), H', ⟨by have := HK1.out; first | omega | exact Nat.le_refl _⟩, ⟨by (with_reducible repeat (first | apply Kd.R_alloc | apply Kd.R_drewN | apply Kd.R_drew)); exact HO_3.out⟩, ⟨by repeat (first | (with_reducible first | exact HB.out | apply below_alloc | apply pw_below_drewN | apply below_drew1) | exact HB.out | exact Below.refl _ _)⟩⟩
                  · rw [if_neg c13] at H
                    have c13b0 : (((rd_T32 l0 x5_1).f0) == 21) = false := beq_eq_false_iff_ne.mpr c13
                    have c13b1 : (((rd_T32 l0 x5_1).f0) != 21) = true := bne_iff_ne.mpr c13
                    have H' := Aside0.mk H
                    clear H
                    have p418 : 0 ≤ (x5_1 : Int) := of_decide_eq_true (by first | (with_reducible assumption) | assumption)
                    have q418 : x5_1 < (l0.length : Int) := of_decide_eq_true (by first | (with_reducible assumption) | assumption)
                    obtain ⟨ad418, e418, hx418_0, hx418_1, hx418_2⟩ := at_T32 HR0.out x5_1 p418 q418
                    cases e418
                    replace hx418_0 := (HB.out.cell (World.block_lt_of_cell? w _ hx418_0)).trans hx418_0
                    replace hx418_1 := (HB.out.cell (World.block_lt_of_cell? w _ hx418_1)).trans hx418_1
                    replace hx418_2 := (HB.out.cell (World.block_lt_of_cell? w _ hx418_2)).trans hx418_2
                    replace p418 := eq_true p418
                    replace q418 := eq_true q418
                    have p419 : 0 ≤ (x5_1 : Int) := of_decide_eq_true (by first | (with_reducible assumption) | assumption)
                    have q419 : x5_1 < (l0.length : Int) := of_decide_eq_true (by first | (with_reducible assumption) | assumption)
                    obtain ⟨ad419, e419, hx419_0, hx419_1, hx419_2⟩ := at_T32 HR0.out x5_1 p419 q419
                    obtain rfl : ad418 = ad419 := (by injection e419)
                    replace hx419_0 := (HB.out.cell (World.block_lt_of_cell? w _ hx419_0)).trans hx419_0
                    replace hx419_1 := (HB.out.cell (World.block_lt_of_cell? w _ hx419_1)).trans hx419_1
                    replace hx419_2 := (HB.out.cell (World.block_lt_of_cell? w _ hx419_2)).trans hx419_2
                    replace p419 := eq_true p419
                    replace q419 := eq_true q419
                    go_wp2
                    repeat (go_quiet (fail); try go_wp2)
                    go_meet
                    case rel => exact ⟨_, ((((rd_T32 l0 x5_1).f0) == 23)), (by first | rfl | (simp; done) | (simp [*]; done)), H', ⟨by have := HK1.out; first | omega | exact Nat.le_refl _⟩, ⟨by (with_reducible repeat (first | apply Kd.R_alloc | apply Kd.R_drewN | apply Kd.R_drew)); exact HO_3.out⟩, ⟨by repeat (first | (with_reducible first | exact HB.out | apply below_alloc | apply pw_below_drewN | apply below_drew1) | exact HB.out | exact Below.refl _ _)⟩⟩
                · rw [if_neg c12] at H
                  exact absurd H (by simp)
              case rest =>
                clear HC11
                try clear c1
                try clear c2
                try clear c2b0
                try clear c2b1
                try clear p2
                try clear c4
                try clear p4
                try clear q4
                try clear hx4
                try clear c6
                try clear c6b0
                try clear c6b1
                try clear c7
                try clear c7b0
                try clear c7b1
                try clear c7b2
                try clear c10
                try clear c10b0
                try clear c12
                try clear c12b0
                try clear c12b1
                try clear c13
                try clear c13b0
                try clear c13b1
                try clear hx418_0
                try clear hx418_1
                try clear hx418_2
                try clear hx419_0
                try clear hx419_1
                try clear hx419_2
                try clear p2
                try clear p418
                try clear p419
                try clear q418
                try clear q419
                obtain ⟨kq, x6_10, rfl, HA, HJ10, HO_3, HB⟩ := hcut
                cases kq with
                | zero => exact absurd HA.out (by simp [camshaftlaw06_NestMatches.j1])
                | succ kj10 =>
                  have H := HA.out
                  clear HA
                  simp only [camshaftlaw06_NestMatches.j1] at H
                  have HC14 := Aside0.mk H
                  clear H
                  go_upto_region 12 with (fail)
                  repeat (go_quiet (fail); go_upto_region 12 with (fail))
                  go_cut [7] (fun v7 wc => ∃ (kq : Nat) (x7_13 : Bool), v7 = .bool x7_13 ∧ Aside0 (camshaftlaw06_NestMatches.j2 kq l0 t412 x5_1 x6_10 x7_13 = some r) ∧ Aside0 (kq ≤ kj10) ∧ Aside0 (Kd.R (Kd.int .i64) 3 wc w.heap.size (fun _ => True) (.slice Ao9 t412.length co9) t412) ∧ Aside0 (Below w.heap.size w wc))
                  case first =>
                    have H := HC14.out
                    clear HC14
                    by_cases c15 : 0 ≤ x5_1
                    · rw [if_pos c15] at H
                      have c15b0 : decide (0 ≤ x5_1) = true := decide_eq_true c15
                      clear c15
                      (first | rw [c15b0] | (simp only [i64_w, i32_w]; rw [c15b0]) | rw [c15b1] | skip)
                      by_cases c16 : x5_1 < (l0.length : Int)
                      · rw [if_pos c16] at H
                        have c16b0 : decide (x5_1 < (l0.length : Int)) = true := decide_eq_true c16
                        clear c16
                        by_cases c17 : ((rd_T32 l0 x5_1).f0) = 22
                        · rw [if_pos c17] at H
                          have c17b0 : (((rd_T32 l0 x5_1).f0) == 22) = true := beq_iff_eq.mpr c17
                          have c17b1 : (((rd_T32 l0 x5_1).f0) != 22) = false := bne_eq_false_iff_eq.mpr c17
                          clear c17
                          have H' := Aside0.mk H
                          clear H
                          have p420 : 0 ≤ (x5_1 : Int) := of_decide_eq_true (by first | (with_reducible assumption) | assumption)
                          have q420 : x5_1 < (l0.length : Int) := of_decide_eq_true (by first | (with_reducible assumption) | assumption)
                          obtain ⟨ad420, e420, hx420_0, hx420_1, hx420_2⟩ := at_T32 HR0.out x5_1 p420 q420
                          cases e420
                          replace hx420_0 := (HB.out.cell (World.block_lt_of_cell? w _ hx420_0)).trans hx420_0
                          replace hx420_1 := (HB.out.cell (World.block_lt_of_cell? w _ hx420_1)).trans hx420_1
                          replace hx420_2 := (HB.out.cell (World.block_lt_of_cell? w _ hx420_2)).trans hx420_2
                          replace p420 := eq_true p420
                          replace q420 := eq_true q420
                          go_wp2
                          repeat (go_quiet (fail); try go_wp2)
                          go_meet
                          case rel => exact ⟨_, (true), (by first | rfl | (simp; done) | (simp [*]; done)), H', ⟨by have := HK1.out; have := HJ10.out; first | omega | exact Nat.le_refl _⟩, ⟨by (with_reducible repeat (first | apply Kd.R_alloc | apply Kd.R_drewN | apply Kd.R_drew)); exact HO_3.out⟩, ⟨by repeat (first | (with_reducible first | exact HB.out | apply below_alloc | apply pw_below_drewN | apply below_drew1) | exact HB.out | exact Below.refl _ _)⟩⟩
                        · rw [if_neg c17] at H
                          have c17b0 : (((rd_T32 l0 x5_1).f0) == 22) = false := beq_eq_false_iff_ne.mpr c17
                          have c17b1 : (((rd_T32 l0 x5_1).f0) != 22) = true := bne_iff_ne.mpr c17
                          have H' := Aside0.mk H
                          clear H
                          have p420 : 0 ≤ (x5_1 : Int) := of_decide_eq_true (by first | (with_reducible assumption) | assumption)
                          have q420 : x5_1 < (l0.length : Int) := of_decide_eq_true (by first | (with_reducible assumption) | assumption)
                          obtain ⟨ad420, e420, hx420_0, hx420_1, hx420_2⟩ := at_T32 HR0.out x5_1 p420 q420
                          cases e420
                          replace hx420_0 := (HB.out.cell (World.block_lt_of_cell? w _ hx420_0)).trans hx420_0
                          replace hx420_1 := (HB.out.cell (World.block_lt_of_cell? w _ hx420_1)).trans hx420_1
                          replace hx420_2 := (HB.out.cell (World.block_lt_of_cell? w _ hx420_2)).trans hx420_2
                          replace p420 := eq_true p420
                          replace q420 := eq_true q420
                          have p421 : 0 ≤ (x5_1 : Int) := of_decide_eq_true (by first | (with_reducible assumption) | assumption)
                          have q421 : x5_1 < (l0.length : Int) := of_decide_eq_true (by first | (with_reducible assumption) | assumption)
                          obtain ⟨ad421, e421, hx421_0, hx421_1, hx421_2⟩ := at_T32 HR0.out x5_1 p421 q421
                          obtain rfl : ad420 = ad421 := (by injection e421)
                          replace hx421_0 := (HB.out.cell (World.block_lt_of_cell? w _ hx421_0)).trans hx421_0
                          replace hx421_1 := (HB.out.cell (World.block_lt_of_cell? w _ hx421_1)).trans hx421_1
                          replace hx421_2 := (HB.out.cell (World.block_lt_of_cell? w _ hx421_2)).trans hx421_2
                          replace p421 := eq_true p421
                          replace q421 := eq_true q421
                          go_wp2
                          repeat (go_quiet (fail); try go_wp2)
                          go_meet
                          case rel => exact ⟨_, ((((rd_T32 l0 x5_1).f0) == 24)), (by first | rfl | (simp; done) | (simp [*]; done)), H', ⟨by have := HK1.out; have := HJ10.out; first | omega | exact Nat.le_refl _⟩, ⟨by (with_reducible repeat (first | apply Kd.R_alloc | apply Kd.R_drewN | apply Kd.R_drew)); exact HO_3.out⟩, ⟨by repeat (first | (with_reducible first | exact HB.out | apply below_alloc | apply pw_below_drewN | apply below_drew1) | exact HB.out | exact Below.refl _ _)⟩⟩
                      · rw [if_neg c16] at H
                        exact absurd H (by simp)
                    · rw [if_neg c15] at H
                      exact absurd H (by simp)
                  case rest =>
                    clear HC14
                    try clear c1
                    try clear c2
                    try clear c2b0
                    try clear c2b1
                    try clear p2
                    try clear c4
                    try clear p4
                    try clear q4
                    try clear hx4
                    try clear c6
                    try clear c6b0
                    try clear c6b1
                    try clear c7
                    try clear c7b0
                    try clear c7b1
                    try clear c7b2
                    try clear c10
                    try clear c10b0
                    try clear c12
                    try clear c12b0
                    try clear c12b1
                    try clear c13
                    try clear c13b0
                    try clear c13b1
                    try clear c15
                    try clear c15b0
                    try clear c15b1
                    try clear c16
                    try clear c16b0
                    try clear c17
                    try clear c17b0
                    try clear c17b1
                    try clear hx418_0
                    try clear hx418_1
                    try clear hx418_2
                    try clear hx419_0
                    try clear hx419_1
                    try clear hx419_2
                    try clear hx420_0
                    try clear hx420_1
                    try clear hx420_2
                    try clear hx421_0
                    try clear hx421_1
                    try clear hx421_2
                    try clear p2
                    try clear p4
                    try clear p418
                    try clear p419
                    try clear p420
                    try clear p421
                    try clear q4
                    try clear q418
                    try clear q419
                    try clear q420
                    try clear q421
                    obtain ⟨kq, x7_13, rfl, HA, HJ13, HO_3, HB⟩ := hcut
                    cases kq with
                    | zero => exact absurd HA.out (by simp [camshaftlaw06_NestMatches.j2])
                    | succ kj13 =>
                      have H := HA.out
                      clear HA
                      simp only [camshaftlaw06_NestMatches.j2] at H
                      have HC18 := Aside0.mk H
                      clear H
                      go_upto_region 13 with (fail)
                      repeat (go_quiet (fail); go_upto_region 13 with (fail))
                      go_cut [111] (fun v111 wc => ∃ (kq : Nat) (x111_17 : Bool), v111 = .bool x111_17 ∧ Aside0 (camshaftlaw06_NestMatches.j3 kq l0 t412 x5_1 x6_10 x111_17 = some r) ∧ Aside0 (kq ≤ kj13) ∧ Aside0 (Kd.R (Kd.int .i64) 3 wc w.heap.size (fun _ => True) (.slice Ao9 t412.length co9) t412) ∧ Aside0 (Below w.heap.size w wc))
                      case first =>
                        have H := HC18.out
                        clear HC18
                        by_cases c19 : 0 ≤ x5_1
                        · rw [if_pos c19] at H
                          have c19b0 : decide (0 ≤ x5_1) = true := decide_eq_true c19
                          clear c19
                          (first | rw [c19b0] | (simp only [i64_w, i32_w]; rw [c19b0]) | rw [c19b1] | skip)
                          by_cases c20 : x5_1 < (t412.length : Int)
                          · rw [if_pos c20] at H
                            have c20b0 : decide (x5_1 < (t412.length : Int)) = true := decide_eq_true c20
                            clear c20
                            by_cases c21 : x6_10 = true
                            · subst c21
                              have H1 : (if ((decide ((rd t412 x5_1) ≥ 0)) != true) = true then (camshaftlaw06_NestMatches.j3 kj13 l0 t412 x5_1 true true) else (if (rd t412 x5_1) ≥ (l0.length : Int) then (camshaftlaw06_NestMatches.j3 kj13 l0 t412 x5_1 true true) else (if (rd t412 x5_1) ≥ 0 then (if 0 ≤ (rd t412 x5_1) then (if (rd t412 x5_1) < (t412.length : Int) then (if (rd t412 (rd t412 x5_1)) = x5_1 then (camshaftlaw06_NestMatches.j3 kj13 l0 t412 x5_1 true (true != (decide ((rd t412 x5_1) > x5_1)))) else (camshaftlaw06_NestMatches.j3 kj13 l0 t412 x5_1 true true)) else (none)) else (none)) else (camshaftlaw06_NestMatches.j3 kj13 l0 t412 x5_1 true false)))) = some r := by rw [if_pos rfl] at H; exact H
                              clear H
                              have H := H1
                              clear H1
                              by_cases c22 : ((decide ((rd t412 x5_1) ≥ 0)) != true) = true
                              · rw [if_pos c22] at H
                                have c22b0 : ((decide ((rd t412 x5_1) ≥ 0)) != true) = true := c22
                                (try (have c22b1 : decide ((decide ((rd t412 x5_1) ≥ 0)) = true) = false := by simpa using c22))
                                (try (have c22b2 : ((decide ((rd t412 x5_1) ≥ 0)) == true) = false := by simpa using c22))
                                (try (have c22b3 : ¬ ((decide ((rd t412 x5_1) ≥ 0)) = true) := by simpa using c22))
                                clear c22
                                have H' := Aside0.mk H
                                clear H
                                have p422 : 0 ≤ (x5_1 : Int) := of_decide_eq_true (by first | (with_reducible assumption) | assumption)
                                have q422 : x5_1 < (t412.length : Int) := of_decide_eq_true (by first | (with_reducible assumption) | assumption)
                                obtain ⟨ad422, e422, hx422_0⟩ := Kd.at_int (Kd.R_reads' HO_3.out).2.2 x5_1 p422 q422
                                cases e422
                                replace p422 := eq_true p422
                                replace q422 := eq_true q422
                                go_wp2
                                repeat (go_quiet (fail); try go_wp2)
                                go_meet
                                case rel => exact ⟨_, (true), (by first | rfl | (simp; done) | (simp [*]; done)), H', ⟨by have := HK1.out; have := HJ10.out; have := HJ13.out; first | omega | exact Nat.le_refl _⟩, ⟨by (with_reducible repeat (first | apply Kd.R_alloc | apply Kd.R_drewN | apply Kd.R_drew)); exact HO_3.out⟩, ⟨by repeat (first | (with_reducible first | exact HB.out | apply below_alloc | apply pw_below_drewN | apply below_drew1) | exact HB.out | exact Below.refl _ _)⟩⟩
                              · rw [if_neg c22] at H
                                have c22b0 : ((decide ((rd t412 x5_1) ≥ 0)) != true) = false := by simpa using c22
                                (try (have c22b1 : decide ((decide ((rd t412 x5_1) ≥ 0)) = true) = true := by simpa using c22))
                                (try (have c22b2 : ((decide ((rd t412 x5_1) ≥ 0)) == true) = true := by simpa using c22))
                                clear c22
                                by_cases c23 : (rd t412 x5_1) ≥ (l0.length : Int)
                                · rw [if_pos c23] at H
                                  have c23b0 : decide ((l0.length : Int) ≤ (rd t412 x5_1)) = true := decide_eq_true c23
                                  clear c23
                                  have H' := Aside0.mk H
                                  clear H
                                  have p422 : 0 ≤ (x5_1 : Int) := of_decide_eq_true (by first | (with_reducible assumption) | assumption)
                                  have q422 : x5_1 < (t412.length : Int) := of_decide_eq_true (by first | (with_reducible assumption) | assumption)
                                  obtain ⟨ad422, e422, hx422_0⟩ := Kd.at_int (Kd.R_reads' HO_3.out).2.2 x5_1 p422 q422
                                  cases e422
                                  replace p422 := eq_true p422
                                  replace q422 := eq_true q422
                                  have p423 : 0 ≤ (x5_1 : Int) := of_decide_eq_true (by first | (with_reducible assumption) | assumption)
                                  have q423 : x5_1 < (t412.length : Int) := of_decide_eq_true (by first | (with_reducible assumption) | assumption)
                                  obtain ⟨ad423, e423, hx423_0⟩ := Kd.at_int (Kd.R_reads' HO_3.out).2.2 x5_1 p423 q423
                                  obtain rfl : ad422 = ad423 := (by injection e423)
                                  replace p423 := eq_true p423
                                  replace q423 := eq_true q423
                                  go_wp2
                                  repeat (go_quiet (fail); try go_wp2)
                                  go_meet
                                  case rel => exact ⟨_, (true), (by first | rfl | (simp; done) | (simp [*]; done)), H', ⟨by have := HK1.out; have := HJ10.out; have := HJ13.out; first | omega | exact Nat.le_refl _⟩, ⟨by (with_reducible repeat (first | apply Kd.R_alloc | apply Kd.R_drewN | apply Kd.R_drew)); exact HO_3.out⟩, ⟨by repeat (first | (with_reducible first | exact HB.out | apply below_alloc | apply pw_below_drewN | apply below_drew1) | exact HB.out | exact Below.refl _ _)⟩⟩
                                · rw [if_neg c23] at H
                                  have c23b0 : decide ((l0.length : Int) ≤ (rd t412 x5_1)) = false := decide_eq_false c23
                                  clear c23
                                  by_cases c24 : (rd t412 x5_1) ≥ 0
                                  · rw [if_pos c24] at H
                                    have c24b0 : decide (0 ≤ (rd t412 x5_1)) = true := decide_eq_true c24
                                    clear c24
                                    by_cases c25 : 0 ≤ (rd t412 x5_1)
                                    · rw [if_pos c25] at H
                                      have c25b0 : decide (0 ≤ (rd t412 x5_1)) = true := decide_eq_true c25
                                      clear c25
                                      by_cases c26 : (rd t412 x5_1) < (t412.length : Int)
                                      · rw [if_pos c26] at H
                                        have c26b0 : decide ((rd t412 x5_1) < (t412.length : Int)) = true := decide_eq_true c26
                                        clear c26
                                        by_cases c27 : (rd t412 (rd t412 x5_1)) = x5_1
                                        · rw [if_pos c27] at H
                                          have c27b0 : ((rd t412 (rd t412 x5_1)) == x5_1) = true := beq_iff_eq.mpr c27
                                          have c27b1 : ((rd t412 (rd t412 x5_1)) != x5_1) = false := bne_eq_false_iff_eq.mpr c27
                                          clear c27
                                          have H' := Aside0.mk H
                                          clear H
                                          have p422 : 0 ≤ (x5_1 : Int) := of_decide_eq_true (by first | (with_reducible assumption) | assumption)
                                          have q422 : x5_1 < (t412.length : Int) := of_decide_eq_true (by first | (with_reducible assumption) | assumption)
                                          obtain ⟨ad422, e422, hx422_0⟩ := Kd.at_int (Kd.R_reads' HO_3.out).2.2 x5_1 p422 q422
                                          cases e422
                                          replace p422 := eq_true p422
                                          replace q422 := eq_true q422
                                          have p423 : 0 ≤ (x5_1 : Int) := of_decide_eq_true (by first | (with_reducible assumption) | assumption)
                                          have q423 : x5_1 < (t412.length : Int) := of_decide_eq_true (by first | (with_reducible assumption) | assumption)
                                          obtain ⟨ad423, e423, hx423_0⟩ := Kd.at_int (Kd.R_reads' HO_3.out).2.2 x5_1 p423 q423
                                          obtain rfl : ad422 = ad423 := (by injection e423)
                                          replace p423 := eq_true p423
                                          replace q423 := eq_true q423
                                          have p424 : 0 ≤ (x5_1 : Int) := of_decide_eq_true (by first | (with_reducible assumption) | assumption)
                                          have q424 : x5_1 < (t412.length : Int) := of_decide_eq_true (by first | (with_reducible assumption) | assumption)
                                          obtain ⟨ad424, e424, hx424_0⟩ := Kd.at_int (Kd.R_reads' HO_3.out).2.2 x5_1 p424 q424
                                          obtain rfl : ad422 = ad424 := (by injection e424)
                                          replace p424 := eq_true p424
                                          replace q424 := eq_true q424
                                          have p425 : 0 ≤ (x5_1 : Int) := of_decide_eq_true (by first | (with_reducible assumption) | assumption)
                                          have q425 : x5_1 < (t412.length : Int) := of_decide_eq_true (by first | (with_reducible assumption) | assumption)
                                          obtain ⟨ad425, e425, hx425_0⟩ := Kd.at_int (Kd.R_reads' HO_3.out).2.2 x5_1 p425 q425
                                          obtain rfl : ad422 = ad425 := (by injection e425)
                                          replace p425 := eq_true p425
                                          replace q425 := eq_true q425
                                          have p426 : 0 ≤ ((rd t412 x5_1) : Int) := of_decide_eq_true (by first | (with_reducible assumption) | assumption)
                                          have q426 : (rd t412 x5_1) < (t412.length : Int) := of_decide_eq_true (by first | (with_reducible assumption) | assumption)
                                          obtain ⟨ad426, e426, hx426_0⟩ := Kd.at_int (Kd.R_reads' HO_3.out).2.2 (rd t412 x5_1) p426 q426
                                          obtain rfl : ad422 = ad426 := (by injection e426)
                                          replace p426 := eq_true p426
                                          replace q426 := eq_true q426
                                          have p427 : 0 ≤ (x5_1 : Int) := of_decide_eq_true (by first | (with_reducible assumption) | assumption)
                                          have q427 : x5_1 < (t412.length : Int) := of_decide_eq_true (by first | (with_reducible assumption) | assumption)
                                          obtain ⟨ad427, e427, hx427_0⟩ := Kd.at_int (Kd.R_reads' HO_3.out).2.2 x5_1 p427 q427
                                          obtain rfl : ad422 = ad427 := (by injection e427)
                                          replace p427 := eq_true p427
                                          replace q427 := eq_true q427
                                          go_wp2
                                          repeat (go_quiet (fail); try go_wp2)
                                          go_meet
                                          case rel => exact ⟨_, ((true != (decide ((rd t412 x5_1) > x5_1)))), (by first | rfl | (simp; done) | (simp [*]; done)), H', ⟨by have := HK1.out; have := HJ10.out; have := HJ13.out; first | omega | exact Nat.le_refl _⟩, ⟨by (with_reducible repeat (first | apply Kd.R_alloc | apply Kd.R_drewN | apply Kd.R_drew)); exact HO_3.out⟩, ⟨by repeat (first | (with_reducible first | exact HB.out | apply below_alloc | apply pw_below_drewN | apply below_drew1) | exact HB.out | exact Below.refl _ _)⟩⟩
                                        · rw [if_neg c27] at H
                                          have c27b0 : ((rd t412 (rd t412 x5_1)) == x5_1) = false := beq_eq_false_iff_ne.mpr c27
                                          have c27b1 : ((rd t412 (rd t412 x5_1)) != x5_1) = true := bne_iff_ne.mpr c27
                                          have H' := Aside0.mk H
                                          clear H
                                          have p422 : 0 ≤ (x5_1 : Int) := of_decide_eq_true (by first | (with_reducible assumption) | assumption)
                                          have q422 : x5_1 < (t412.length : Int) := of_decide_eq_true (by first | (with_reducible assumption) | assumption)
                                          obtain ⟨ad422, e422, hx422_0⟩ := Kd.at_int (Kd.R_reads' HO_3.out).2.2 x5_1 p422 q422
                                          cases e422
                                          replace p422 := eq_true p422
                                          replace q422 := eq_true q422
                                          have p423 : 0 ≤ (x5_1 : Int) := of_decide_eq_true (by first | (with_reducible assumption) | assumption)
                                          have q423 : x5_1 < (t412.length : Int) := of_decide_eq_true (by first | (with_reducible assumption) | assumption)
                                          obtain ⟨ad423, e423, hx423_0⟩ := Kd.at_int (Kd.R_reads' HO_3.out).2.2 x5_1 p423 q423
                                          obtain rfl : ad422 = ad423 := (by injection e423)
                                          replace p423 := eq_true p423
                                          replace q423 := eq_true q423
                                          have p424 : 0 ≤ (x5_1 : Int) := of_decide_eq_true (by first | (with_reducible assumption) | assumption)
                                          have q424 : x5_1 < (t412.length : Int) := of_decide_eq_true (by first | (with_reducible assumption) | assumption)
                                          obtain ⟨ad424, e424, hx424_0⟩ := Kd.at_int (Kd.R_reads' HO_3.out).2.2 x5_1 p424 q424
                                          obtain rfl : ad422 = ad424 := (by injection e424)
                                          replace p424 := eq_true p424
                                          replace q424 := eq_true q424
                                          have p425 : 0 ≤ (x5_1 : Int) := of_decide_eq_true (by first | (with_reducible assumption) | assumption)
                                          have q425 : x5_1 < (t412.length : Int) := of_decide_eq_true (by first | (with_reducible assumption) | assumption)
                                          obtain ⟨ad425, e425, hx425_0⟩ := Kd.at_int (Kd.R_reads' HO_3.out).2.2 x5_1 p425 q425
                                          obtain rfl : ad422 = ad425 := (by injection e425)
                                          replace p425 := eq_true p425
                                          replace q425 := eq_true q425
                                          have p426 : 0 ≤ ((rd t412 x5_1) : Int) := of_decide_eq_true (by first | (with_reducible assumption) | assumption)
                                          have q426 : (rd t412 x5_1) < (t412.length : Int) := of_decide_eq_true (by first | (with_reducible assumption) | assumption)
                                          obtain ⟨ad426, e426, hx426_0⟩ := Kd.at_int (Kd.R_reads' HO_3.out).2.2 (rd t412 x5_1) p426 q426
                                          obtain rfl : ad422 = ad426 := (by injection e426)
                                          replace p426 := eq_true p426
                                          replace q426 := eq_true q426
                                          go_wp2
                                          repeat (go_quiet (fail); try go_wp2)
                                          go_meet
                                          case rel => exact ⟨_, (true), (by first | rfl | (simp; done) | (simp [*]; done)), H', ⟨by have := HK1.out; have := HJ10.out; have := HJ13.out; first | omega | exact Nat.le_refl _⟩, ⟨by (with_reducible repeat (first | apply Kd.R_alloc | apply Kd.R_drewN | apply Kd.R_drew)); exact HO_3.out⟩, ⟨by repeat (first | (with_reducible first | exact HB.out | apply below_alloc | apply pw_below_drewN | apply below_drew1) | exact HB.out | exact Below.refl _ _)⟩⟩
                                      · rw [if_neg c26] at H
                                        exact absurd H (by simp)
                                    · rw [if_neg c25] at H
                                      exact absurd H (by simp)
                                  · rw [if_neg c24] at H
                                    have c24b0 : decide (0 ≤ (rd t412 x5_1)) = false := decide_eq_false c24
                                    exact absurd ((eq_of_beq c22b2).symm.trans c24b0) (by decide)
                            · replace c21 := Bool.eq_false_iff.mpr c21
                              subst c21
                              have H1 : (if ((decide ((rd t412 x5_1) ≥ 0)) != x7_13) = true then (camshaftlaw06_NestMatches.j3 kj13 l0 t412 x5_1 false true) else (if (rd t412 x5_1) ≥ (l0.length : Int) then (camshaftlaw06_NestMatches.j3 kj13 l0 t412 x5_1 false true) else (if (rd t412 x5_1) ≥ 0 then (if 0 ≤ (rd t412 x5_1) then (if (rd t412 x5_1) < (t412.length : Int) then (if (rd t412 (rd t412 x5_1)) = x5_1 then (camshaftlaw06_NestMatches.j3 kj13 l0 t412 x5_1 false (false != (decide ((rd t412 x5_1) > x5_1)))) else (camshaftlaw06_NestMatches.j3 kj13 l0 t412 x5_1 false true)) else (none)) else (none)) else (camshaftlaw06_NestMatches.j3 kj13 l0 t412 x5_1 false false)))) = some r := by rw [if_neg (show ¬ (false = true) by decide)] at H; exact H
                              clear H
                              have H := H1
                              clear H1
                              by_cases c28 : ((decide ((rd t412 x5_1) ≥ 0)) != x7_13) = true
                              · rw [if_pos c28] at H
                                have c28b0 : ((decide ((rd t412 x5_1) ≥ 0)) != x7_13) = true := c28
                                (try (have c28b1 : decide ((decide ((rd t412 x5_1) ≥ 0)) = x7_13) = false := by simpa using c28))
                                (try (have c28b2 : ((decide ((rd t412 x5_1) ≥ 0)) == x7_13) = false := by simpa using c28))
                                (try (have c28b3 : ¬ ((decide ((rd t412 x5_1) ≥ 0)) = x7_13) := by simpa using c28))
                                clear c28
                                have H' := Aside0.mk H
                                clear H
                                have p422 : 0 ≤ (x5_1 : Int) := of_decide_eq_true (by first | (with_reducible assumption) | assumption)
                                have q422 : x5_1 < (t412.length : Int) := of_decide_eq_true (by first | (with_reducible assumption) | assumption)
                                obtain ⟨ad422, e422, hx422_0⟩ := Kd.at_int (Kd.R_reads' HO_3.out).2.2 x5_1 p422 q422
                                cases e422
                                replace p422 := eq_true p422
                                replace q422 := eq_true q422
                                go_wp2
                                repeat (go_quiet (fail); try go_wp2)
                                go_meet
                                case rel => exact ⟨_, (true), (by first | rfl | (simp; done) | (simp [*]; done)), H', ⟨by have := HK1.out; have := HJ10.out; have := HJ13.out; first | omega | exact Nat.le_refl _⟩, ⟨by (with_reducible repeat (first | apply Kd.R_alloc | apply Kd.R_drewN | apply Kd.R_drew)); exact HO_3.out⟩, ⟨by repeat (first | (with_reducible first | exact HB.out | apply below_alloc | apply pw_below_drewN | apply below_drew1) | exact HB.out | exact Below.refl _ _)⟩⟩
                              · rw [if_neg c28] at H
                                have c28b0 : ((decide ((rd t412 x5_1) ≥ 0)) != x7_13) = false := by simpa using c28
                                (try (have c28b1 : decide ((decide ((rd t412 x5_1) ≥ 0)) = x7_13) = true := by simpa using c28))
                                (try (have c28b2 : ((decide ((rd t412 x5_1) ≥ 0)) == x7_13) = true := by simpa using c28))
                                clear c28
                                by_cases c29 : (rd t412 x5_1) ≥ (l0.length : Int)
                                · rw [if_pos c29] at H
                                  have c29b0 : decide ((l0.length : Int) ≤ (rd t412 x5_1)) = true := decide_eq_true c29
                                  clear c29
                                  have H' := Aside0.mk H
                                  clear H
                                  have p422 : 0 ≤ (x5_1 : Int) := of_decide_eq_true (by first | (with_reducible assumption) | assumption)
                                  have q422 : x5_1 < (t412.length : Int) := of_decide_eq_true (by first | (with_reducible assumption) | assumption)
                                  obtain ⟨ad422, e422, hx422_0⟩ := Kd.at_int (Kd.R_reads' HO_3.out).2.2 x5_1 p422 q422
                                  cases e422
                                  replace p422 := eq_true p422
                                  replace q422 := eq_true q422
                                  have p428 : 0 ≤ (x5_1 : Int) := of_decide_eq_true (by first | (with_reducible assumption) | assumption)
                                  have q428 : x5_1 < (t412.length : Int) := of_decide_eq_true (by first | (with_reducible assumption) | assumption)
                                  obtain ⟨ad428, e428, hx428_0⟩ := Kd.at_int (Kd.R_reads' HO_3.out).2.2 x5_1 p428 q428
                                  obtain rfl : ad422 = ad428 := (by injection e428)
                                  replace p428 := eq_true p428
                                  replace q428 := eq_true q428
                                  go_wp2
                                  repeat (go_quiet (fail); try go_wp2)
                                  go_meet
                                  case rel => exact ⟨_, (true), (by first | rfl | (simp; done) | (simp [*]; done)), H', ⟨by have := HK1.out; have := HJ10.out; have := HJ13.out; first | omega | exact Nat.le_refl _⟩, ⟨by (with_reducible repeat (first | apply Kd.R_alloc | apply Kd.R_drewN | apply Kd.R_drew)); exact HO_3.out⟩, ⟨by repeat (first | (with_reducible first | exact HB.out | apply below_alloc | apply pw_below_drewN | apply below_drew1) | exact HB.out | exact Below.refl _ _)⟩⟩
                                · rw [if_neg c29] at H
                                  have c29b0 : decide ((l0.length : Int) ≤ (rd t412 x5_1)) = false := decide_eq_false c29
                                  clear c29
                                  by_cases c30 : (rd t412 x5_1) ≥ 0
                                  · rw [if_pos c30] at H
                                    have c30b0 : decide (0 ≤ (rd t412 x5_1)) = true := decide_eq_true c30
                                    have X28 : x7_13 = true := (by have y := eq_of_beq c28b2; rw [← y]; exact c30b0)
                                    subst X28
                                    clear c30
                                    by_cases c31 : 0 ≤ (rd t412 x5_1)
                                    · rw [if_pos c31] at H
                                      have c31b0 : decide (0 ≤ (rd t412 x5_1)) = true := decide_eq_true c31
                                      clear c31
                                      by_cases c32 : (rd t412 x5_1) < (t412.length : Int)
                                      · rw [if_pos c32] at H
                                        have c32b0 : decide ((rd t412 x5_1) < (t412.length : Int)) = true := decide_eq_true c32
                                        clear c32
                                        by_cases c33 : (rd t412 (rd t412 x5_1)) = x5_1
                                        · rw [if_pos c33] at H
                                          have c33b0 : ((rd t412 (rd t412 x5_1)) == x5_1) = true := beq_iff_eq.mpr c33
                                          have c33b1 : ((rd t412 (rd t412 x5_1)) != x5_1) = false := bne_eq_false_iff_eq.mpr c33
                                          clear c33
                                          have H' := Aside0.mk H
                                          clear H
                                          have p422 : 0 ≤ (x5_1 : Int) := of_decide_eq_true (by first | (with_reducible assumption) | assumption)
                                          have q422 : x5_1 < (t412.length : Int) := of_decide_eq_true (by first | (with_reducible assumption) | assumption)
                                          obtain ⟨ad422, e422, hx422_0⟩ := Kd.at_int (Kd.R_reads' HO_3.out).2.2 x5_1 p422 q422
                                          cases e422
                                          replace p422 := eq_true p422
                                          replace q422 := eq_true q422
                                          have p428 : 0 ≤ (x5_1 : Int) := of_decide_eq_true (by first | (with_reducible assumption) | assumption)
                                          have q428 : x5_1 < (t412.length : Int) := of_decide_eq_true (by first | (with_reducible assumption) | assumption)
                                          obtain ⟨ad428, e428, hx428_0⟩ := Kd.at_int (Kd.R_reads' HO_3.out).2.2 x5_1 p428 q428
                                          obtain rfl : ad422 = ad428 := (by injection e428)
                                          replace p428 := eq_true p428
                                          replace q428 := eq_true q428
                                          have p429 : 0 ≤ (x5_1 : Int) := of_decide_eq_true (by first | (with_reducible assumption) | assumption)
                                          have q429 : x5_1 < (t412.length : Int) := of_decide_eq_true (by first | (with_reducible assumption) | assumption)
                                          obtain ⟨ad429, e429, hx429_0⟩ := Kd.at_int (Kd.R_reads' HO_3.out).2.2 x5_1 p429 q429
                                          obtain rfl : ad422 = ad429 := (by injection e429)
                                          replace p429 := eq_true p429
                                          replace q429 := eq_true q429
                                          have p430 : 0 ≤ (x5_1 : Int) := of_decide_eq_true (by first | (with_reducible assumption) | assumption)
                                          have q430 : x5_1 < (t412.length : Int) := of_decide_eq_true (by first | (with_reducible assumption) | assumption)
                                          obtain ⟨ad430, e430, hx430_0⟩ := Kd.at_int (Kd.R_reads' HO_3.out).2.2 x5_1 p430 q430
                                          obtain rfl : ad422 = ad430 := (by injection e430)
                                          replace p430 := eq_true p430
                                          replace q430 := eq_true q430
                                          have p431 : 0 ≤ ((rd t412 x5_1) : Int) := of_decide_eq_true (by first | (with_reducible assumption) | assumption)
                                          have q431 : (rd t412 x5_1) < (t412.length : Int) := of_decide_eq_true (by first | (with_reducible assumption) | assumption)
                                          obtain ⟨ad431, e431, hx431_0⟩ := Kd.at_int (Kd.R_reads' HO_3.out).2.2 (rd t412 x5_1) p431 q431
                                          obtain rfl : ad422 = ad431 := (by injection e431)
                                          replace p431 := eq_true p431
                                          replace q431 := eq_true q431
                                          have p432 : 0 ≤ (x5_1 : Int) := of_decide_eq_true (by first | (with_reducible assumption) | assumption)
                                          have q432 : x5_1 < (t412.length : Int) := of_decide_eq_true (by first | (with_reducible assumption) | assumption)
                                          obtain ⟨ad432, e432, hx432_0⟩ := Kd.at_int (Kd.R_reads' HO_3.out).2.2 x5_1 p432 q432
                                          obtain rfl : ad422 = ad432 := (by injection e432)
                                          replace p432 := eq_true p432
                                          replace q432 := eq_true q432
                                          go_wp2
                                          repeat (go_quiet (fail); try go_wp2)
                                          go_meet
                                          case rel => exact ⟨_, ((false != (decide ((rd t412 x5_1) > x5_1)))), (by first | rfl | (simp; done) | (simp [*]; done)), H', ⟨by have := HK1.out; have := HJ10.out; have := HJ13.out; first | omega | exact Nat.le_refl _⟩, ⟨by (with_reducible repeat (first | apply Kd.R_alloc | apply Kd.R_drewN | apply Kd.R_drew)); exact HO_3.out⟩, ⟨by repeat (first | (with_reducible first | exact HB.out | apply below_alloc | apply pw_below_drewN | apply below_drew1) | exact HB.out | exact Below.refl _ _)⟩⟩
                                        · rw [if_neg c33] at H
                                          have c33b0 : ((rd t412 (rd t412 x5_1)) == x5_1) = false := beq_eq_false_iff_ne.mpr c33
                                          have c33b1 : ((rd t412 (rd t412 x5_1)) != x5_1) = true := bne_iff_ne.mpr c33
                                          have H' := Aside0.mk H
                                          clear H
                                          have p422 : 0 ≤ (x5_1 : Int) := of_decide_eq_true (by first | (with_reducible assumption) | assumption)
                                          have q422 : x5_1 < (t412.length : Int) := of_decide_eq_true (by first | (with_reducible assumption) | assumption)
                                          obtain ⟨ad422, e422, hx422_0⟩ := Kd.at_int (Kd.R_reads' HO_3.out).2.2 x5_1 p422 q422
                                          cases e422
                                          replace p422 := eq_true p422
                                          replace q422 := eq_true q422
                                          have p428 : 0 ≤ (x5_1 : Int) := of_decide_eq_true (by first | (with_reducible assumption) | assumption)
                                          have q428 : x5_1 < (t412.length : Int) := of_decide_eq_true (by first | (with_reducible assumption) | assumption)
                                          obtain ⟨ad428, e428, hx428_0⟩ := Kd.at_int (Kd.R_reads' HO_3.out).2.2 x5_1 p428 q428
                                          obtain rfl : ad422 = ad428 := (by injection e428)
                                          replace p428 := eq_true p428
                                          replace q428 := eq_true q428
                                          have p429 : 0 ≤ (x5_1 : Int) := of_decide_eq_true (by first | (with_reducible assumption) | assumption)
                                          have q429 : x5_1 < (t412.length : Int) := of_decide_eq_true (by first | (with_reducible assumption) | assumption)
                                          obtain ⟨ad429, e429, hx429_0⟩ := Kd.at_int (Kd.R_reads' HO_3.out).2.2 x5_1 p429 q429
                                          obtain rfl : ad422 = ad429 := (by injection e429)
                                          replace p429 := eq_true p429
                                          replace q429 := eq_true q429
                                          have p430 : 0 ≤ (x5_1 : Int) := of_decide_eq_true (by first | (with_reducible assumption) | assumption)
                                          have q430 : x5_1 < (t412.length : Int) := of_decide_eq_true (by first | (with_reducible assumption) | assumption)
                                          obtain ⟨ad430, e430, hx430_0⟩ := Kd.at_int (Kd.R_reads' HO_3.out).2.2 x5_1 p430 q430
                                          obtain rfl : ad422 = ad430 := (by injection e430)
                                          replace p430 := eq_true p430
                                          replace q430 := eq_true q430
                                          have p431 : 0 ≤ ((rd t412 x5_1) : Int) := of_decide_eq_true (by first | (with_reducible assumption) | assumption)
                                          have q431 : (rd t412 x5_1) < (t412.length : Int) := of_decide_eq_true (by first | (with_reducible assumption) | assumption)
                                          obtain ⟨ad431, e431, hx431_0⟩ := Kd.at_int (Kd.R_reads' HO_3.out).2.2 (rd t412 x5_1) p431 q431
                                          obtain rfl : ad422 = ad431 := (by injection e431)
                                          replace p431 := eq_true p431
                                          replace q431 := eq_true q431
                                          go_wp2
                                          repeat (go_quiet (fail); try go_wp2)
                                          go_meet
                                          case rel => exact ⟨_, (true), (by first | rfl | (simp; done) | (simp [*]; done)), H', ⟨by have := HK1.out; have := HJ10.out; have := HJ13.out; first | omega | exact Nat.le_refl _⟩, ⟨by (with_reducible repeat (first | apply Kd.R_alloc | apply Kd.R_drewN | apply Kd.R_drew)); exact HO_3.out⟩, ⟨by repeat (first | (with_reducible first | exact HB.out | apply below_alloc | apply pw_below_drewN | apply below_drew1) | exact HB.out | exact Below.refl _ _)⟩⟩
                                      · rw [if_neg c32] at H
                                        exact absurd H (by simp)
                                    · rw [if_neg c31] at H
                                      exact absurd H (by simp)
                                  · rw [if_neg c30] at H
                                    have c30b0 : decide (0 ≤ (rd t412 x5_1)) = false := decide_eq_false c30
                                    have X28 : x7_13 = false := (by have y := eq_of_beq c28b2; rw [← y]; exact c30b0)
                                    subst X28
                                    clear c30
                                    have H' := Aside0.mk H
                                    clear H
                                    have p422 : 0 ≤ (x5_1 : Int) := of_decide_eq_true (by first | (with_reducible assumption) | assumption)
                                    have q422 : x5_1 < (t412.length : Int) := of_decide_eq_true (by first | (with_reducible assumption) | assumption)
                                    obtain ⟨ad422, e422, hx422_0⟩ := Kd.at_int (Kd.R_reads' HO_3.out).2.2 x5_1 p422 q422
                                    cases e422
                                    replace p422 := eq_true p422
                                    replace q422 := eq_true q422
                                    have p428 : 0 ≤ (x5_1 : Int) := of_decide_eq_true (by first | (with_reducible assumption) | assumption)
                                    have q428 : x5_1 < (t412.length : Int) := of_decide_eq_true (by first | (with_reducible assumption) | assumption)
                                    obtain ⟨ad428, e428, hx428_0⟩ := Kd.at_int (Kd.R_reads' HO_3.out).2.2 x5_1 p428 q428
                                    obtain rfl : ad422 = ad428 := (by injection e428)
                                    replace p428 := eq_true p428
                                    replace q428 := eq_true q428
                                    have p429 : 0 ≤ (x5_1 : Int) := of_decide_eq_true (by first | (with_reducible assumption) | assumption)
                                    have q429 : x5_1 < (t412.length : Int) := of_decide_eq_true (by first | (with_reducible assumption) | assumption)
                                    obtain ⟨ad429, e429, hx429_0⟩ := Kd.at_int (Kd.R_reads' HO_3.out).2.2 x5_1 p429 q429
                                    obtain rfl : ad422 = ad429 := (by injection e429)
                                    replace p429 := eq_true p429
                                    replace q429 := eq_true q429
                                    go_wp2
                                    repeat (go_quiet (fail); try go_wp2)
                                    go_meet
                                    case rel => exact ⟨_, (false), (by first | rfl | (simp; done) | (simp [*]; done)), H', ⟨by have := HK1.out; have := HJ10.out; have := HJ13.out; first | omega | exact Nat.le_refl _⟩, ⟨by (with_reducible repeat (first | apply Kd.R_alloc | apply Kd.R_drewN | apply Kd.R_drew)); exact HO_3.out⟩, ⟨by repeat (first | (with_reducible first | exact HB.out | apply below_alloc | apply pw_below_drewN | apply below_drew1) | exact HB.out | exact Below.refl _ _)⟩⟩
                          · rw [if_neg c20] at H
                            exact absurd H (by simp)
                        · rw [if_neg c19] at H
                          exact absurd H (by simp)
                      case rest =>
                        clear HC18
                        try clear c1
                        try clear c2
                        try clear c2b0
                        try clear c2b1
                        try clear p2
                        try clear c3
                        try clear c4
                        try clear p4
                        try clear q4
                        try clear hx4
                        try clear c6
                        try clear c6b0
                        try clear c6b1
                        try clear c7
                        try clear c7b0
                        try clear c7b1
                        try clear c7b2
                        try clear c10
                        try clear c10b0
                        try clear c12
                        try clear c12b0
                        try clear c12b1
                        try clear c13
                        try clear c13b0
                        try clear c13b1
                        try clear c15
                        try clear c15b0
                        try clear c15b1
                        try clear c16
                        try clear c16b0
                        try clear c17
                        try clear c17b0
                        try clear c17b1
                        try clear c19
                        try clear c19b0
                        try clear c19b1
                        try clear c20
                        try clear c20b0
                        try clear c21
                        try clear c22
                        try clear c22b0
                        try clear c22b1
                        try clear c22b2
                        try clear c23
                        try clear c23b0
                        try clear c24
                        try clear c24b0
                        try clear c25
                        try clear c25b0
                        try clear c26
                        try clear c26b0
                        try clear c27
                        try clear c27b0
                        try clear c27b1
                        try clear c28
                        try clear c28b0
                        try clear c28b1
                        try clear c28b2
                        try clear c29
                        try clear c29b0
                        try clear c30
                        try clear c30b0
                        try clear c31
                        try clear c31b0
                        try clear c32
                        try clear c32b0
                        try clear c33
                        try clear c33b0
                        try clear c33b1
                        try clear hx418_0
                        try clear hx418_1
                        try clear hx418_2
                        try clear hx419_0
                        try clear hx419_1
                        try clear hx419_2
                        try clear hx420_0
                        try clear hx420_1
                        try clear hx420_2
                        try clear hx421_0
                        try clear hx421_1
                        try clear hx421_2
                        try clear hx422_0
                        try clear hx423_0
                        try clear hx424_0
                        try clear hx425_0
                        try clear hx426_0
                        try clear hx427_0
                        try clear hx428_0
                        try clear hx429_0
                        try clear hx430_0
                        try clear hx431_0
                        try clear hx432_0
                        try clear p2
                        try clear p4
                        try clear p418
                        try clear p419
                        try clear p420
                        try clear p421
                        try clear p422
                        try clear p423
                        try clear p424
                        try clear p425
                        try clear p426
                        try clear p427
                        try clear p428
                        try clear p429
                        try clear p430
                        try clear p431
                        try clear p432
                        try clear q4
                        try clear q418
                        try clear q419
                        try clear q420
                        try clear q421
                        try clear q422
                        try clear q423
                        try clear q424
                        try clear q425
                        try clear q426
                        try clear q427
                        try clear q428
                        try clear q429
                        try clear q430
                        try clear q431
                        try clear q432
                        obtain ⟨kq, x111_17, rfl, HA, HJ17, HO_3, HB⟩ := hcut
                        cases kq with
                        | zero => exact absurd HA.out (by simp [camshaftlaw06_NestMatches.j3])
                        | succ kj17 =>
                          have H := HA.out
                          clear HA
                          simp only [camshaftlaw06_NestMatches.j3] at H
                          by_cases c34 : x111_17 = true
                          · subst c34
                            have H1 : (some false) = some r := by rw [if_pos rfl] at H; exact H
                            clear H
                            have H := H1
                            clear H1
                            exact absurd ((Option.some.inj H).trans HT.out) (by decide)
                          · replace c34 := Bool.eq_false_iff.mpr c34
                            subst c34
                            have H1 : (camshaftlaw06_NestMatches.l1 kj17 l0 t412 x5_1 x6_10 0) = some r := by rw [if_neg (show ¬ (false = true) by decide)] at H; exact H
                            clear H
                            have H := H1
                            clear H1
                            have H' := Aside0.mk H
                            clear H
                            go_wp2
                            repeat (go_quiet (fail); try go_wp2)
                            go_loopg [8] kj17 (fun kq v8 w' => ∃ (x8_5 : Int), v8 = .int .i64 x8_5 ∧ Aside0 (camshaftlaw06_NestMatches.l1 kq l0 t412 x5_1 x6_10 x8_5 = some r) ∧ Aside0 (kq ≤ kj17) ∧ Aside0 (Kd.R (Kd.int .i64) 3 w' w.heap.size (fun _ => True) (.slice Ao9 t412.length co9) t412) ∧ Aside0 (Below w.heap.size w w'))
                            case atStart => exact ⟨(0), (by first | rfl | (simp; done) | (simp [*]; done)), H', ⟨Nat.le_refl _⟩, ⟨by (with_reducible repeat (first | apply Kd.R_alloc | apply Kd.R_drewN | apply Kd.R_drew)); exact HO_3.out⟩, ⟨by repeat (first | (with_reducible first | exact HB.out | apply below_alloc | apply pw_below_drewN | apply below_drew1) | exact HB.out)⟩⟩
                            case round =>
                              clear H'
                              try clear c1
                              try clear c2
                              try clear c2b0
                              try clear c2b1
                              try clear p2
                              try clear c3
                              try clear c4
                              try clear p4
                              try clear q4
                              try clear hx4
                              try clear c6
                              try clear c6b0
                              try clear c6b1
                              try clear c7
                              try clear c7b0
                              try clear c7b1
                              try clear c7b2
                              try clear c10
                              try clear c10b0
                              try clear c12
                              try clear c12b0
                              try clear c12b1
                              try clear c13
                              try clear c13b0
                              try clear c13b1
                              try clear c15
                              try clear c15b0
                              try clear c15b1
                              try clear c16
                              try clear c16b0
                              try clear c17
                              try clear c17b0
                              try clear c17b1
                              try clear c19
                              try clear c19b0
                              try clear c19b1
                              try clear c20
                              try clear c20b0
                              try clear c21
                              try clear c22
                              try clear c22b0
                              try clear c22b1
                              try clear c22b2
                              try clear c23
                              try clear c23b0
                              try clear c24
                              try clear c24b0
                              try clear c25
                              try clear c25b0
                              try clear c26
                              try clear c26b0
                              try clear c27
                              try clear c27b0
                              try clear c27b1
                              try clear c28
                              try clear c28b0
                              try clear c28b1
                              try clear c28b2
                              try clear c29
                              try clear c29b0
                              try clear c30
                              try clear c30b0
                              try clear c31
                              try clear c31b0
                              try clear c32
                              try clear c32b0
                              try clear c33
                              try clear c33b0
                              try clear c33b1
                              try clear c34
                              try clear hx418_0
                              try clear hx418_1
                              try clear hx418_2
                              try clear hx419_0
                              try clear hx419_1
                              try clear hx419_2
                              try clear hx420_0
                              try clear hx420_1
                              try clear hx420_2
                              try clear hx421_0
                              try clear hx421_1
                              try clear hx421_2
                              try clear hx422_0
                              try clear hx423_0
                              try clear hx424_0
                              try clear hx425_0
                              try clear hx426_0
                              try clear hx427_0
                              try clear hx428_0
                              try clear hx429_0
                              try clear hx430_0
                              try clear hx431_0
                              try clear hx432_0
                              try clear p2
                              try clear p4
                              try clear p418
                              try clear p419
                              try clear p420
                              try clear p421
                              try clear p422
                              try clear p423
                              try clear p424
                              try clear p425
                              try clear p426
                              try clear p427
                              try clear p428
                              try clear p429
                              try clear p430
                              try clear p431
                              try clear p432
                              try clear q4
                              try clear q418
                              try clear q419
                              try clear q420
                              try clear q421
                              try clear q422
                              try clear q423
                              try clear q424
                              try clear q425
                              try clear q426
                              try clear q427
                              try clear q428
                              try clear q429
                              try clear q430
                              try clear q431
                              try clear q432
                              obtain ⟨x8_5, rfl, HA, HK5, HO_3, HB⟩ := hrel
                              cases gk with
                              | zero => exact absurd HA.out (by simp [camshaftlaw06_NestMatches.l1])
                              | succ k5 =>
                                have H := HA.out
                                clear HA
                                simp only [camshaftlaw06_NestMatches.l1] at H
                                have HC35 := Aside0.mk H
                                clear H
                                go_upto_region 16 with (fail)
                                repeat (go_quiet (fail); go_upto_region 16 with (fail))
                                go_cut [117] (fun v117 wc => ∃ (kq : Nat) (x117_34 : Bool), v117 = .bool x117_34 ∧ Aside0 (camshaftlaw06_NestMatches.j5 kq l0 t412 x5_1 x6_10 x8_5 x117_34 = some r) ∧ Aside0 (kq ≤ k5) ∧ Aside0 (Kd.R (Kd.int .i64) 3 wc w.heap.size (fun _ => True) (.slice Ao9 t412.length co9) t412) ∧ Aside0 (Below w.heap.size w wc))
                                case first =>
                                  have H := HC35.out
                                  clear HC35
                                  by_cases c36 : x6_10 = true
                                  · subst c36
                                    have H1 : (camshaftlaw06_NestMatches.j5 k5 l0 t412 x5_1 true x8_5 (decide (x8_5 < x5_1))) = some r := by rw [if_pos rfl] at H; exact H
                                    clear H
                                    have H := H1
                                    clear H1
                                    have H' := Aside0.mk H
                                    clear H
                                    go_wp2
                                    repeat (go_quiet (fail); try go_wp2)
                                    go_meet
                                    case rel => exact ⟨_, (decide (x8_5 < x5_1)), (by first | rfl | (simp; done) | (simp [*]; done)), H', ⟨by have := HK1.out; have := HJ10.out; have := HJ13.out; have := HJ17.out; have := HK5.out; first | omega | exact Nat.le_refl _⟩, ⟨by (with_reducible repeat (first | apply Kd.R_alloc | apply Kd.R_drewN | apply Kd.R_drew)); exact HO_3.out⟩, ⟨by repeat (first | (with_reducible first | exact HB.out | apply below_alloc | apply pw_below_drewN | apply below_drew1) | exact HB.out | exact Below.refl _ _)⟩⟩
                                  · replace c36 := Bool.eq_false_iff.mpr c36
                                    subst c36
                                    have H1 : (camshaftlaw06_NestMatches.j5 k5 l0 t412 x5_1 false x8_5 false) = some r := by rw [if_neg (show ¬ (false = true) by decide)] at H; exact H
                                    clear H
                                    have H := H1
                                    clear H1
                                    have H' := Aside0.mk H
                                    clear H
                                    go_wp2
                                    repeat (go_quiet (fail); try go_wp2)
                                    go_meet
                                    case rel => exact ⟨_, (false), (by first | rfl | (simp; done) | (simp [*]; done)), H', ⟨by have := HK1.out; have := HJ10.out; have := HJ13.out; have := HJ17.out; have := HK5.out; first | omega | exact Nat.le_refl _⟩, ⟨by (with_reducible repeat (first | apply Kd.R_alloc | apply Kd.R_drewN | apply Kd.R_drew)); exact HO_3.out⟩, ⟨by repeat (first | (with_reducible first | exact HB.out | apply below_alloc | apply pw_below_drewN | apply below_drew1) | exact HB.out | exact Below.refl _ _)⟩⟩
                                case rest =>
                                  clear HC35
                                  try clear c1
                                  try clear c2
                                  try clear c2b0
                                  try clear c2b1
                                  try clear p2
                                  try clear c3
                                  try clear c4
                                  try clear p4
                                  try clear q4
                                  try clear hx4
                                  try clear c6
                                  try clear c6b0
                                  try clear c6b1
                                  try clear c7
                                  try clear c7b0
                                  try clear c7b1
                                  try clear c7b2
                                  try clear c10
                                  try clear c10b0
                                  try clear c12
                                  try clear c12b0
                                  try clear c12b1
                                  try clear c13
                                  try clear c13b0
                                  try clear c13b1
                                  try clear c15
                                  try clear c15b0
                                  try clear c15b1
                                  try clear c16
                                  try clear c16b0
                                  try clear c17
                                  try clear c17b0
                                  try clear c17b1
                                  try clear c19
                                  try clear c19b0
                                  try clear c19b1
                                  try clear c20
                                  try clear c20b0
                                  try clear c21
                                  try clear c22
                                  try clear c22b0
                                  try clear c22b1
                                  try clear c22b2
                                  try clear c23
                                  try clear c23b0
                                  try clear c24
                                  try clear c24b0
                                  try clear c25
                                  try clear c25b0
                                  try clear c26
                                  try clear c26b0
                                  try clear c27
                                  try clear c27b0
                                  try clear c27b1
                                  try clear c28
                                  try clear c28b0
                                  try clear c28b1
                                  try clear c28b2
                                  try clear c29
                                  try clear c29b0
                                  try clear c30
                                  try clear c30b0
                                  try clear c31
                                  try clear c31b0
                                  try clear c32
                                  try clear c32b0
                                  try clear c33
                                  try clear c33b0
                                  try clear c33b1
                                  try clear c34
                                  try clear c36
                                  try clear hx418_0
                                  try clear hx418_1
                                  try clear hx418_2
                                  try clear hx419_0
                                  try clear hx419_1
                                  try clear hx419_2
                                  try clear hx420_0
                                  try clear hx420_1
                                  try clear hx420_2
                                  try clear hx421_0
                                  try clear hx421_1
                                  try clear hx421_2
                                  try clear hx422_0
                                  try clear hx423_0
                                  try clear hx424_0
                                  try clear hx425_0
                                  try clear hx426_0
                                  try clear hx427_0
                                  try clear hx428_0
                                  try clear hx429_0
                                  try clear hx430_0
                                  try clear hx431_0
                                  try clear hx432_0
                                  try clear p2
                                  try clear p4
                                  try clear p418
                                  try clear p419
                                  try clear p420
                                  try clear p421
                                  try clear p422
                                  try clear p423
                                  try clear p424
                                  try clear p425
                                  try clear p426
                                  try clear p427
                                  try clear p428
                                  try clear p429
                                  try clear p430
                                  try clear p431
                                  try clear p432
                                  try clear q4
                                  try clear q418
                                  try clear q419
                                  try clear q420
                                  try clear q421
                                  try clear q422
                                  try clear q423
                                  try clear q424
                                  try clear q425
                                  try clear q426
                                  try clear q427
                                  try clear q428
                                  try clear q429
                                  try clear q430
                                  try clear q431
                                  try clear q432
                                  obtain ⟨kq, x117_34, rfl, HA, HJ34, HO_3, HB⟩ := hcut
                                  cases kq with
                                  | zero => exact absurd HA.out (by simp [camshaftlaw06_NestMatches.j5])
                                  | succ kj34 =>
                                    have H := HA.out
                                    clear HA
                                    simp only [camshaftlaw06_NestMatches.j5] at H
                                    by_cases c37 : x117_34 = true
                                    · subst c37
                                      have H1 : (if 0 ≤ x8_5 then (if x8_5 < (t412.length : Int) then (if (rd t412 x8_5) > x5_1 then (if 0 ≤ x5_1 then (if x5_1 < (t412.length : Int) then (if (rd t412 x8_5) < (rd t412 x5_1) then (some false) else (camshaftlaw06_NestMatches.l1 kj34 l0 t412 x5_1 x6_10 (wrap64 (x8_5 + 1)))) else (none)) else (none)) else (camshaftlaw06_NestMatches.l1 kj34 l0 t412 x5_1 x6_10 (wrap64 (x8_5 + 1)))) else (none)) else (none)) = some r := by rw [if_pos rfl] at H; exact H
                                      clear H
                                      have H := H1
                                      clear H1
                                      by_cases c38 : 0 ≤ x8_5
                                      · rw [if_pos c38] at H
                                        have c38b0 : decide (0 ≤ x8_5) = true := decide_eq_true c38
                                        clear c38
                                        by_cases c39 : x8_5 < (t412.length : Int)
                                        · rw [if_pos c39] at H
                                          have c39b0 : decide (x8_5 < (t412.length : Int)) = true := decide_eq_true c39
                                          clear c39
                                          by_cases c40 : (rd t412 x8_5) > x5_1
                                          · rw [if_pos c40] at H
                                            have c40b0 : decide (x5_1 < (rd t412 x8_5)) = true := decide_eq_true c40
                                            clear c40
                                            by_cases c41 : 0 ≤ x5_1
                                            · rw [if_pos c41] at H
                                              have c41b0 : decide (0 ≤ x5_1) = true := decide_eq_true c41
                                              clear c41
                                              by_cases c42 : x5_1 < (t412.length : Int)
                                              · rw [if_pos c42] at H
                                                have c42b0 : decide (x5_1 < (t412.length : Int)) = true := decide_eq_true c42
                                                clear c42
                                                by_cases c43 : (rd t412 x8_5) < (rd t412 x5_1)
                                                · rw [if_pos c43] at H
                                                  have c43b0 : decide ((rd t412 x8_5) < (rd t412 x5_1)) = true := decide_eq_true c43
                                                  clear c43
                                                  exact absurd ((Option.some.inj H).trans HT.out) (by decide)
                                                · rw [if_neg c43] at H
                                                  have c43b0 : decide ((rd t412 x8_5) < (rd t412 x5_1)) = false := decide_eq_false c43
                                                  clear c43
                                                  have H' := Aside0.mk H
                                                  clear H
                                                  have p433 : 0 ≤ (x8_5 : Int) := of_decide_eq_true (by first | (with_reducible assumption) | assumption)
                                                  have q433 : x8_5 < (t412.length : Int) := of_decide_eq_true (by first | (with_reducible assumption) | assumption)
                                                  obtain ⟨ad433, e433, hx433_0⟩ := Kd.at_int (Kd.R_reads' HO_3.out).2.2 x8_5 p433 q433
                                                  cases e433
                                                  replace p433 := eq_true p433
                                                  replace q433 := eq_true q433
                                                  have p434 : 0 ≤ (x8_5 : Int) := of_decide_eq_true (by first | (with_reducible assumption) | assumption)
                                                  have q434 : x8_5 < (t412.length : Int) := of_decide_eq_true (by first | (with_reducible assumption) | assumption)
                                                  obtain ⟨ad434, e434, hx434_0⟩ := Kd.at_int (Kd.R_reads' HO_3.out).2.2 x8_5 p434 q434
                                                  obtain rfl : ad433 = ad434 := (by injection e434)
                                                  replace p434 := eq_true p434
                                                  replace q434 := eq_true q434
                                                  have p435 : 0 ≤ (x5_1 : Int) := of_decide_eq_true (by first | (with_reducible assumption) | assumption)
                                                  have q435 : x5_1 < (t412.length : Int) := of_decide_eq_true (by first | (with_reducible assumption) | assumption)
                                                  obtain ⟨ad435, e435, hx435_0⟩ := Kd.at_int (Kd.R_reads' HO_3.out).2.2 x5_1 p435 q435
                                                  obtain rfl : ad433 = ad435 := (by injection e435)
                                                  replace p435 := eq_true p435
                                                  replace q435 := eq_true q435
                                                  go_wp2
                                                  repeat (go_quiet (fail); try go_wp2)
                                                  go_roundg kj34
                                                  case measure => have := HK1.out; have := HJ10.out; have := HJ13.out; have := HJ17.out; have := HK5.out; have := HJ34.out; omega
                                                  case rel => exact ⟨(wrap64 (x8_5 + 1)), (by first | rfl | (simp; done) | (simp [*]; done)), H', ⟨by have := HK1.out; have := HJ10.out; have := HJ13.out; have := HJ17.out; have := HK5.out; have := HJ34.out; omega⟩, ⟨by (with_reducible repeat (first | apply Kd.R_alloc | apply Kd.R_drewN | apply Kd.R_drew)); exact HO_3.out⟩, ⟨by repeat (first | (with_reducible first | exact HB.out | apply below_alloc | apply pw_below_drewN | apply below_drew1) | exact HB.out | exact Below.refl _ _)⟩⟩
                                              · rw [if_neg c42] at H
                                                exact absurd H (by simp)
                                            · rw [if_neg c41] at H
                                              exact absurd H (by simp)
                                          · rw [if_neg c40] at H
                                            have c40b0 : decide (x5_1 < (rd t412 x8_5)) = false := decide_eq_false c40
                                            clear c40
                                            have H' := Aside0.mk H
                                            clear H
                                            have p433 : 0 ≤ (x8_5 : Int) := of_decide_eq_true (by first | (with_reducible assumption) | assumption)
                                            have q433 : x8_5 < (t412.length : Int) := of_decide_eq_true (by first | (with_reducible assumption) | assumption)
                                            obtain ⟨ad433, e433, hx433_0⟩ := Kd.at_int (Kd.R_reads' HO_3.out).2.2 x8_5 p433 q433
                                            cases e433
                                            replace p433 := eq_true p433
                                            replace q433 := eq_true q433
                                            go_wp2
                                            repeat (go_quiet (fail); try go_wp2)
                                            go_roundg kj34
                                            case measure => have := HK1.out; have := HJ10.out; have := HJ13.out; have := HJ17.out; have := HK5.out; have := HJ34.out; omega
                                            case rel => exact ⟨(wrap64 (x8_5 + 1)), (by first | rfl | (simp; done) | (simp [*]; done)), H', ⟨by have := HK1.out; have := HJ10.out; have := HJ13.out; have := HJ17.out; have := HK5.out; have := HJ34.out; omega⟩, ⟨by (with_reducible repeat (first | apply Kd.R_alloc | apply Kd.R_drewN | apply Kd.R_drew)); exact HO_3.out⟩, ⟨by repeat (first | (with_reducible first | exact HB.out | apply below_alloc | apply pw_below_drewN | apply below_drew1) | exact HB.out | exact Below.refl _ _)⟩⟩
                                        · rw [if_neg c39] at H
                                          exact absurd H (by simp)
                                      · rw [if_neg c38] at H
                                        exact absurd H (by simp)
                                    · replace c37 := Bool.eq_false_iff.mpr c37
                                      subst c37
                                      have H1 : (camshaftlaw06_NestMatches.l0 kj34 l0 t412 (wrap64 (x5_1 + 1))) = some r := by rw [if_neg (show ¬ (false = true) by decide)] at H; exact H
                                      clear H
                                      have H := H1
                                      clear H1
                                      have H' := Aside0.mk H
                                      clear H
                                      go_wp2
                                      repeat (go_quiet (fail); try go_wp2)
                                      go_roundg kj34
                                      case measure => have := HK1.out; have := HJ10.out; have := HJ13.out; have := HJ17.out; have := HK5.out; have := HJ34.out; omega
                                      case rel => exact ⟨(wrap64 (x5_1 + 1)), (by first | rfl | (simp; done) | (simp [*]; done)), H', ⟨by have := HK1.out; have := HJ10.out; have := HJ13.out; have := HJ17.out; have := HK5.out; have := HJ34.out; omega⟩, ⟨by (with_reducible repeat (first | apply Kd.R_alloc | apply Kd.R_drewN | apply Kd.R_drew)); exact HO_3.out⟩, ⟨by repeat (first | (with_reducible first | exact HB.out | apply below_alloc | apply pw_below_drewN | apply below_drew1) | exact HB.out | exact Below.refl _ _)⟩⟩
            · rw [if_neg c10] at H
              have c10b0 : decide (x5_1 < (l0.length : Int)) = false := decide_eq_false c10
              clear c10
              replace H := Option.bind_eq_some_iff.mp H
              obtain ⟨t417, A440, H⟩ := H
              replace H : (some t417) = some r := H
              have A44 := Aside0.mk A440
              clear A440
              obtain rfl := Option.some.inj H
              go_wp2_with (first | (go_at_call 10; (with_reducible refine (camshaftlaw06_known.calls k1  t417 _ A44.out).mono ?_); rintro e w45 ⟨rfl, hb⟩; have n0_ := Aside0.mk (Kd.R_below (by (with_reducible repeat (first | apply Kd.R_alloc | apply Kd.R_drewN | apply Kd.R_drew)); exact HO_3.out) hb); have n1_ := Aside0.mk (below_step (by repeat (first | (with_reducible first | exact HB.out | apply below_alloc | apply pw_below_drewN | apply below_drew1) | exact HB.out)) hb); clear HO_3; clear HB; have HO_3 := n0_; have HB := n1_; clear n0_ n1_; (try clear hb); (try clear hb2); (try clear hk); (try clear hi)))
              repeat (go_quiet (first | (go_at_call 10; (with_reducible refine (camshaftlaw06_known.calls k1  t417 _ A44.out).mono ?_); rintro e w45 ⟨rfl, hb⟩; have n0_ := Aside0.mk (Kd.R_below (by (with_reducible repeat (first | apply Kd.R_alloc | apply Kd.R_drewN | apply Kd.R_drew)); exact HO_3.out) hb); have n1_ := Aside0.mk (below_step (by repeat (first | (with_reducible first | exact HB.out | apply below_alloc | apply pw_below_drewN | apply below_drew1) | exact HB.out)) hb); clear HO_3; clear HB; have HO_3 := n0_; have HB := n1_; clear n0_ n1_; (try clear hb); (try clear hb2); (try clear hk); (try clear hi))); try go_wp2_with (first | (go_at_call 10; (with_reducible refine (camshaftlaw06_known.calls k1  t417 _ A44.out).mono ?_); rintro e w45 ⟨rfl, hb⟩; have n0_ := Aside0.mk (Kd.R_below (by (with_reducible repeat (first | apply Kd.R_alloc | apply Kd.R_drewN | apply Kd.R_drew)); exact HO_3.out) hb); have n1_ := Aside0.mk (below_step (by repeat (first | (with_reducible first | exact HB.out | apply below_alloc | apply pw_below_drewN | apply below_drew1) | exact HB.out)) hb); clear HO_3; clear HB; have HO_3 := n0_; have HB := n1_; clear n0_ n1_; (try clear hb); (try clear hb2); (try clear hk); (try clear hi))))
              go_ret
              exact ⟨by first | rfl | (simp [errW_none, errW_some] <;> rfl) | (simp [*, errW_none, errW_some] <;> rfl), by repeat (first | (with_reducible first | exact HB.out | apply below_alloc | apply pw_below_drewN | apply below_drew1) | exact HB.out | exact Below.refl _ _)⟩
      · rw [if_neg c7] at H
        have c7b0 : ((t412.length : Int) == (l0.length : Int)) = false := beq_eq_false_iff_ne.mpr c7
        have c7b1 : ((t412.length : Int) != (l0.length : Int)) = true := bne_iff_ne.mpr c7
        have c7b2 : (t412.length == l0.length) = false := by first | simpa using c7 | (simp at c7 ⊢; omega)
        exact absurd ((Option.some.inj H).trans HT.out) (by decide)
    · rw [if_neg c6] at H
      have c6b0 : (t413 == 0) = false := beq_eq_false_iff_ne.mpr c6
      have c6b1 : (t413 != 0) = true := bne_iff_ne.mpr c6
      by_cases c46 : (t412.length : Int) = 0
      · rw [if_pos c46] at H
        have c46b0 : ((t412.length : Int) == 0) = true := beq_iff_eq.mpr c46
        have c46b1 : ((t412.length : Int) != 0) = false := bne_eq_false_iff_eq.mpr c46
        clear c46
        replace H := Option.bind_eq_some_iff.mp H
        obtain ⟨t416, A470, H⟩ := H
        replace H : (some t416) = some r := H
        have A47 := Aside0.mk A470
        clear A470
        obtain rfl := Option.some.inj H
        go_enter Try.func4, Try.ntmps4
        go_wp2_with (first | (go_at_call 11; (with_reducible refine (nest_Match.calls k _ _ l0 t412 t413 _ ?side1 ?side2 A5.out).mono ?_); (case side1 => repeat (first | exact HR0.out | (with_reducible refine Kd.C_alloc ?_ _) | (with_reducible refine Kd.C_drewN ?_ _) | (with_reducible refine Kd.C_drew ?_))); (case side2 => exact HC0.out); rintro e w48 ⟨v414, rfl, ho0, hb⟩; have n0_ := Aside0.mk (Kd.R_lower ho0 (below_size (by repeat (first | (with_reducible first | exact HB.out | apply below_alloc | apply pw_below_drewN | apply below_drew1) | exact HB.out)))); have n1_ := Aside0.mk (below_step (by repeat (first | (with_reducible first | exact HB.out | apply below_alloc | apply pw_below_drewN | apply below_drew1) | exact HB.out)) hb); clear HB; have HO415 := n0_; have HB := n1_; clear n0_ n1_; (try clear hb); (try clear hb2); (try clear hk); (try clear hi); (try clear ho0); obtain ⟨Ao49, co49, eo49⟩ := Kd.R_slice HO415.out; subst eo49) | (go_at_call 10; (with_reducible refine (camshaftlaw06_known.calls k  t416 _ A47.out).mono ?_); rintro e w50 ⟨rfl, hb⟩; have n0_ := Aside0.mk (Kd.R_below (by (with_reducible repeat (first | apply Kd.R_alloc | apply Kd.R_drewN | apply Kd.R_drew)); exact HO415.out) hb); have n1_ := Aside0.mk (below_step (by repeat (first | (with_reducible first | exact HB.out | apply below_alloc | apply pw_below_drewN | apply below_drew1) | exact HB.out)) hb); clear HO415; clear HB; have HO415 := n0_; have HB := n1_; clear n0_ n1_; (try clear hb); (try clear hb2); (try clear hk); (try clear hi)))
        repeat (go_quiet (first | (go_at_call 11; (with_reducible refine (nest_Match.calls k _ _ l0 t412 t413 _ ?side1 ?side2 A5.out).mono ?_); (case side1 => repeat (first | exact HR0.out | (with_reducible refine Kd.C_alloc ?_ _) | (with_reducible refine Kd.C_drewN ?_ _) | (with_reducible refine Kd.C_drew ?_))); (case side2 => exact HC0.out); rintro e w48 ⟨v414, rfl, ho0, hb⟩; have n0_ := Aside0.mk (Kd.R_lower ho0 (below_size (by repeat (first | (with_reducible first | exact HB.out | apply below_alloc | apply pw_below_drewN | apply below_drew1) | exact HB.out)))); have n1_ := Aside0.mk (below_step (by repeat (first | (with_reducible first | exact HB.out | apply below_alloc | apply pw_below_drewN | apply below_drew1) | exact HB.out)) hb); clear HB; have HO415 := n0_; have HB := n1_; clear n0_ n1_; (try clear hb); (try clear hb2); (try clear hk); (try clear hi); (try clear ho0); obtain ⟨Ao49, co49, eo49⟩ := Kd.R_slice HO415.out; subst eo49) | (go_at_call 10; (with_reducible refine (camshaftlaw06_known.calls k  t416 _ A47.out).mono ?_); rintro e w50 ⟨rfl, hb⟩; have n0_ := Aside0.mk (Kd.R_below (by (with_reducible repeat (first | apply Kd.R_alloc | apply Kd.R_drewN | apply Kd.R_drew)); exact HO415.out) hb); have n1_ := Aside0.mk (below_step (by repeat (first | (with_reducible first | exact HB.out | apply below_alloc | apply pw_below_drewN | apply below_drew1) | exact HB.out)) hb); clear HO415; clear HB; have HO415 := n0_; have HB := n1_; clear n0_ n1_; (try clear hb); (try clear hb2); (try clear hk); (try clear hi))); try go_wp2_with (first | (go_at_call 11; (with_reducible refine (nest_Match.calls k _ _ l0 t412 t413 _ ?side1 ?side2 A5.out).mono ?_); (case side1 => repeat (first | exact HR0.out | (with_reducible refine Kd.C_alloc ?_ _) | (with_reducible refine Kd.C_drewN ?_ _) | (with_reducible refine Kd.C_drew ?_))); (case side2 => exact HC0.out); rintro e w48 ⟨v414, rfl, ho0, hb⟩; have n0_ := Aside0.mk (Kd.R_lower ho0 (below_size (by repeat (first | (with_reducible first | exact HB.out | apply below_alloc | apply pw_below_drewN | apply below_drew1) | exact HB.out)))); have n1_ := Aside0.mk (below_step (by repeat (first | (with_reducible first | exact HB.out | apply below_alloc | apply pw_below_drewN | apply below_drew1) | exact HB.out)) hb); clear HB; have HO415 := n0_; have HB := n1_; clear n0_ n1_; (try clear hb); (try clear hb2); (try clear hk); (try clear hi); (try clear ho0); obtain ⟨Ao49, co49, eo49⟩ := Kd.R_slice HO415.out; subst eo49) | (go_at_call 10; (with_reducible refine (camshaftlaw06_known.calls k  t416 _ A47.out).mono ?_); rintro e w50 ⟨rfl, hb⟩; have n0_ := Aside0.mk (Kd.R_below (by (with_reducible repeat (first | apply Kd.R_alloc | apply Kd.R_drewN | apply Kd.R_drew)); exact HO415.out) hb); have n1_ := Aside0.mk (below_step (by repeat (first | (with_reducible first | exact HB.out | apply below_alloc | apply pw_below_drewN | apply below_drew1) | exact HB.out)) hb); clear HO415; clear HB; have HO415 := n0_; have HB := n1_; clear n0_ n1_; (try clear hb); (try clear hb2); (try clear hk); (try clear hi))))
        go_ret
        exact ⟨by first | rfl | (simp [errW_none, errW_some] <;> rfl) | (simp [*, errW_none, errW_some] <;> rfl), by repeat (first | (with_reducible first | exact HB.out | apply below_alloc | apply pw_below_drewN | apply below_drew1) | exact HB.out | exact Below.refl _ _)⟩
      · rw [if_neg c46] at H
        have c46b0 : ((t412.length : Int) == 0) = false := beq_eq_false_iff_ne.mpr c46
        have c46b1 : ((t412.length : Int) != 0) = true := bne_iff_ne.mpr c46
        have c46b2 : ¬ (t412 = []) := fun h_ => c46 (by rw [h_]; rfl)
        exact absurd ((Option.some.inj H).trans HT.out) (by decide)

/-- THE ONE PURE STATEMENT of camshaftlaw06_NestMatches. -/
def camshaftlaw06_NestMatches.Pure : Prop := ∀ (l0 : List S32), l0.length * 24 ≤ 140737488351232 → (∀ x ∈ l0, (Lit.int .i64 x.f0).wf = true ∧ (Lit.int .i64 x.f1).wf = true ∧ (Lit.int .i64 x.f2).wf = true) → ∃ k, camshaftlaw06_NestMatches.f k l0 = some true
theorem camshaftlaw06_NestMatches.walk (P : camshaftlaw06_NestMatches.Pure) (A0 : Option Addr) (c0 : Nat) (l0 : List S32) (w : World) (hr0 : Kd.C k32 w A0 l0.length l0) (hc0 : l0.length ≤ c0) (y0 : l0.length * 24 ≤ 140737488351232) (hw0 : ∀ x ∈ l0, (Lit.int .i64 x.f0).wf = true ∧ (Lit.int .i64 x.f1).wf = true ∧ (Lit.int .i64 x.f2).wf = true) :
    Calls Try.prog 4 #[.slice A0 l0.length c0] w fun e w' => e = .returned (.bool true) ∧ Below w.heap.size w w' := by
  obtain ⟨k, h⟩ := P l0 y0 hw0
  refine (camshaftlaw06_NestMatches.calls k A0 c0 l0 true w hr0 hc0 h rfl).mono ?_
  rintro e w' ⟨rfl, hd⟩
  exact ⟨rfl, hd⟩

end Go.Proofs.Ytljgllcllddcdaa.P
