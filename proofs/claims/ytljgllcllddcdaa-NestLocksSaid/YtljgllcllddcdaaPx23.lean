-- Written by a program of this session (wip/tools: patched print) for this claim. Not trusted: Lean checks it.
import Derived.Test.YtljgllcllddcdaaPx0
import Derived.Test.YtljgllcllddcdaaPx5
import Derived.Test.YtljgllcllddcdaaPx8
import Derived.Test.YtljgllcllddcdaaPx9
namespace Go.Proofs.Ytljgllcllddcdaa.P
open Go.RowKit Go.Proofs.YtljgllcllddcdaaW.PrintWords Go.Proofs.YtljgllcllddcdaaW.PrintLast Go.Proofs.YtljgllcllddcdaaW.PrintMore
attribute [local go_sem] max2_int min2_int max_two min_two max_three min_three max_four min_four   -- for this text's walks alone
set_option linter.unusedVariables false
set_option linter.unusedSimpArgs false

/-! ### camshaftlaw06_NestLocks: function 6 -/
mutual
def camshaftlaw06_NestLocks.j0 : Nat → List (S32) → List Int → List Int → Bool → Option (Bool)
  | 0, _, _, _, _ => none
  | k + 1, x0, x3, x5, x40 => if x40 = true then (some false) else (camshaftlaw06_NestLocks.l0 k x0 x3 x5 0 0)
def camshaftlaw06_NestLocks.l0 : Nat → List (S32) → List Int → List Int → Int → Int → Option (Bool)
  | 0, _, _, _, _, _ => none
  | k + 1, x0, x3, x5, x7, x8 => if x8 < (x3.length : Int) then (if 0 ≤ x8 then (if (rd x3 x8) < 0 then (some false) else (if (rd x3 x8) > 7 then (some false) else (if x8 > 0 then (if 0 ≤ (wrap64 (x8 - 1)) then (if (wrap64 (x8 - 1)) < (x3.length : Int) then (if (rd x3 (wrap64 (x8 - 1))) ≥ (rd x3 x8) then (some false) else (if 0 ≤ (rd x3 x8) then (camshaftlaw06_NestLocks.l0 k x0 x3 x5 (wrap64 (x7 + (shl .i64 1 (rd x3 x8)))) (wrap64 (x8 + 1))) else (none))) else (none)) else (none)) else (if 0 ≤ (rd x3 x8) then (camshaftlaw06_NestLocks.l0 k x0 x3 x5 (wrap64 (x7 + (shl .i64 1 (rd x3 x8)))) (wrap64 (x8 + 1))) else (none))))) else (none)) else (camshaftlaw06_NestLocks.l1 k x0 x5 x7 0)
def camshaftlaw06_NestLocks.l1 : Nat → List (S32) → List Int → Int → Int → Option (Bool)
  | 0, _, _, _, _ => none
  | k + 1, x0, x5, x7, x9 => if x9 < (x0.length : Int) then (if 0 ≤ x9 then (if x9 < (x5.length : Int) then (if (rd x5 x9) < 0 then (some false) else (if (Go.bits .and .i64 (rd x5 x9) x7) = (rd x5 x9) then (if ((rd_T32 x0 x9).f0) = 17 then (if 0 ≤ ((rd_T32 x0 x9).f1) then (if (Go.bits .and .i64 (rd x5 x9) (shl .i64 1 ((rd_T32 x0 x9).f1))) = 0 then (some false) else (camshaftlaw06_NestLocks.l1 k x0 x5 x7 (wrap64 (x9 + 1)))) else (none)) else (if ((rd_T32 x0 x9).f0) = 18 then (if 0 ≤ ((rd_T32 x0 x9).f1) then (if (Go.bits .and .i64 (rd x5 x9) (shl .i64 1 ((rd_T32 x0 x9).f1))) = 0 then (some false) else (camshaftlaw06_NestLocks.l1 k x0 x5 x7 (wrap64 (x9 + 1)))) else (none)) else (camshaftlaw06_NestLocks.l1 k x0 x5 x7 (wrap64 (x9 + 1))))) else (some false))) else (none)) else (none)) else (if 0 ≤ (wrap64 ((x0.length : Int) - 1)) then (if (wrap64 ((x0.length : Int) - 1)) < (x5.length : Int) then (if (rd x5 (wrap64 ((x0.length : Int) - 1))) = 0 then ((camshaftlaw06_known.f k).bind fun t476 => (some t476)) else (some false)) else (none)) else (none))
end
def camshaftlaw06_NestLocks.f (k : Nat) (l0 : List (S32)) : Option (Bool) := if (l0.length : Int) > 200 then ((camshaftlaw06_known.f k).bind fun t450 => (some t450)) else ((nest_Locks.f k l0).bind fun bt451 => (if bt451.2 = 0 then ((nest_Held.f k l0).bind fun bt456 => (if bt456.2 = 0 then (camshaftlaw06_NestLocks.j0 k l0 bt451.1 bt456.1 ((bt456.1.length : Int) != (l0.length : Int))) else (camshaftlaw06_NestLocks.j0 k l0 bt451.1 bt456.1 true))) else (if (bt451.1.length : Int) = 0 then ((camshaftlaw06_known.f k).bind fun t455 => (some t455)) else (some false))))
theorem camshaftlaw06_NestLocks.mono_l : ∀ k, (∀ y0 y1 y2 y3, LeO (camshaftlaw06_NestLocks.j0 k y0 y1 y2 y3) (camshaftlaw06_NestLocks.j0 (k + 1) y0 y1 y2 y3)) ∧ (∀ y0 y1 y2 y3 y4, LeO (camshaftlaw06_NestLocks.l0 k y0 y1 y2 y3 y4) (camshaftlaw06_NestLocks.l0 (k + 1) y0 y1 y2 y3 y4)) ∧ (∀ y0 y1 y2 y3, LeO (camshaftlaw06_NestLocks.l1 k y0 y1 y2 y3) (camshaftlaw06_NestLocks.l1 (k + 1) y0 y1 y2 y3))
  | 0 => ⟨fun _ _ _ _ r h => by simp [camshaftlaw06_NestLocks.j0] at h, fun _ _ _ _ _ r h => by simp [camshaftlaw06_NestLocks.l0] at h, fun _ _ _ _ r h => by simp [camshaftlaw06_NestLocks.l1] at h⟩
  | k + 1 => by
    obtain ⟨ih0, ih1, ih2⟩ := camshaftlaw06_NestLocks.mono_l k
    refine ⟨?_, ?_, ?_⟩
    · intro y0 y1 y2 y3
      unfold camshaftlaw06_NestLocks.j0
      repeat' first
      | (with_reducible exact ih0 _ _ _ _)
      | (with_reducible exact ih1 _ _ _ _ _)
      | (with_reducible exact ih2 _ _ _ _)
      | (with_reducible exact camshaftlaw06_known.mono _)
      | (with_reducible exact nest_Held.mono _ _)
      | (with_reducible exact nest_Locks.mono _ _)
      | (with_reducible exact LeO.refl _)
      | (with_reducible exact LeO.none _)
      | (with_reducible refine LeO.ite ?_ ?_)
      | (with_reducible refine LeO.bind ?_ (fun _ => ?_))
      | exact ih0 _ _ _ _
      | exact ih1 _ _ _ _ _
      | exact ih2 _ _ _ _
      | exact camshaftlaw06_known.mono _
      | exact nest_Held.mono _ _
      | exact nest_Locks.mono _ _
      | exact LeO.none _
      | refine LeO.ite ?_ ?_
      | refine LeO.bind ?_ (fun _ => ?_)
    · intro y0 y1 y2 y3 y4
      unfold camshaftlaw06_NestLocks.l0
      repeat' first
      | (with_reducible exact ih0 _ _ _ _)
      | (with_reducible exact ih1 _ _ _ _ _)
      | (with_reducible exact ih2 _ _ _ _)
      | (with_reducible exact camshaftlaw06_known.mono _)
      | (with_reducible exact nest_Held.mono _ _)
      | (with_reducible exact nest_Locks.mono _ _)
      | (with_reducible exact LeO.refl _)
      | (with_reducible exact LeO.none _)
      | (with_reducible refine LeO.ite ?_ ?_)
      | (with_reducible refine LeO.bind ?_ (fun _ => ?_))
      | exact ih0 _ _ _ _
      | exact ih1 _ _ _ _ _
      | exact ih2 _ _ _ _
      | exact camshaftlaw06_known.mono _
      | exact nest_Held.mono _ _
      | exact nest_Locks.mono _ _
      | exact LeO.none _
      | refine LeO.ite ?_ ?_
      | refine LeO.bind ?_ (fun _ => ?_)
    · intro y0 y1 y2 y3
      unfold camshaftlaw06_NestLocks.l1
      repeat' first
      | (with_reducible exact ih0 _ _ _ _)
      | (with_reducible exact ih1 _ _ _ _ _)
      | (with_reducible exact ih2 _ _ _ _)
      | (with_reducible exact camshaftlaw06_known.mono _)
      | (with_reducible exact nest_Held.mono _ _)
      | (with_reducible exact nest_Locks.mono _ _)
      | (with_reducible exact LeO.refl _)
      | (with_reducible exact LeO.none _)
      | (with_reducible refine LeO.ite ?_ ?_)
      | (with_reducible refine LeO.bind ?_ (fun _ => ?_))
      | exact ih0 _ _ _ _
      | exact ih1 _ _ _ _ _
      | exact ih2 _ _ _ _
      | exact camshaftlaw06_known.mono _
      | exact nest_Held.mono _ _
      | exact nest_Locks.mono _ _
      | exact LeO.none _
      | refine LeO.ite ?_ ?_
      | refine LeO.bind ?_ (fun _ => ?_)
theorem camshaftlaw06_NestLocks.mono : ∀ a0 k, LeO (camshaftlaw06_NestLocks.f k a0) (camshaftlaw06_NestLocks.f (k + 1) a0) := by
  intro a0 k
  obtain ⟨ih0, ih1, ih2⟩ := camshaftlaw06_NestLocks.mono_l k
  unfold camshaftlaw06_NestLocks.f
  repeat' first
      | (with_reducible exact ih0 _ _ _ _)
      | (with_reducible exact ih1 _ _ _ _ _)
      | (with_reducible exact ih2 _ _ _ _)
      | (with_reducible exact camshaftlaw06_known.mono _)
      | (with_reducible exact nest_Held.mono _ _)
      | (with_reducible exact nest_Locks.mono _ _)
      | (with_reducible exact LeO.refl _)
      | (with_reducible exact LeO.none _)
      | (with_reducible refine LeO.ite ?_ ?_)
      | (with_reducible refine LeO.bind ?_ (fun _ => ?_))
      | exact ih0 _ _ _ _
      | exact ih1 _ _ _ _ _
      | exact ih2 _ _ _ _
      | exact camshaftlaw06_known.mono _
      | exact nest_Held.mono _ _
      | exact nest_Locks.mono _ _
      | exact LeO.none _
      | refine LeO.ite ?_ ?_
      | refine LeO.bind ?_ (fun _ => ?_)
set_option maxHeartbeats 8000000 in
set_option maxRecDepth 100000 in
theorem camshaftlaw06_NestLocks.calls (k : Nat) (A0 : Option Addr) (c0 : Nat) (l0 : List (S32)) (r : Bool) (w : World) (hr0 : Kd.C k32 w A0 l0.length l0) (hc0 : l0.length ≤ c0) (h : camshaftlaw06_NestLocks.f k l0 = some r) (ht : r = true) :
    Calls Try.prog 6 #[.slice A0 l0.length c0] w fun e w' => e = .returned (.bool r) ∧ Below w.heap.size w w' := by
  have HT := Aside0.mk ht
  clear ht
  have HR0 := Aside0.mk hr0
  have HC0 := Aside0.mk hc0
  clear hr0 hc0
  have HB := Aside0.mk (Below.refl w.heap.size w)
  have H : (if (l0.length : Int) > 200 then ((camshaftlaw06_known.f k).bind fun t450 => (some t450)) else ((nest_Locks.f k l0).bind fun bt451 => (if bt451.2 = 0 then ((nest_Held.f k l0).bind fun bt456 => (if bt456.2 = 0 then (camshaftlaw06_NestLocks.j0 k l0 bt451.1 bt456.1 ((bt456.1.length : Int) != (l0.length : Int))) else (camshaftlaw06_NestLocks.j0 k l0 bt451.1 bt456.1 true))) else (if (bt451.1.length : Int) = 0 then ((camshaftlaw06_known.f k).bind fun t455 => (some t455)) else (some false))))) = some r := h
  clear h
  by_cases c2 : (l0.length : Int) > 200
  · rw [if_pos c2] at H
    have c2b0 : decide (200 < (l0.length : Int)) = true := decide_eq_true c2
    have c2b1 : decide (200 < l0.length) = true := decide_eq_true (by omega)
    clear c2
    replace H := Option.bind_eq_some_iff.mp H
    obtain ⟨t450, A30, H⟩ := H
    replace H : (some t450) = some r := H
    have A3 := Aside0.mk A30
    clear A30
    obtain rfl := Option.some.inj H
    go_enter Try.func6, Try.ntmps6
    go_wp2_with (first | (go_at_call 10; (with_reducible refine (camshaftlaw06_known.calls k  t450 _ A3.out).mono ?_); rintro e w4 ⟨rfl, hb⟩; have n0_ := Aside0.mk (below_step (by repeat (first | (with_reducible first | exact HB.out | apply below_alloc | apply pw_below_drewN | apply below_drew1) | exact HB.out)) hb); clear HB; have HB := n0_; clear n0_; (try clear hb); (try clear hb2); (try clear hk); (try clear hi)))
    repeat (go_quiet (first | (go_at_call 10; (with_reducible refine (camshaftlaw06_known.calls k  t450 _ A3.out).mono ?_); rintro e w4 ⟨rfl, hb⟩; have n0_ := Aside0.mk (below_step (by repeat (first | (with_reducible first | exact HB.out | apply below_alloc | apply pw_below_drewN | apply below_drew1) | exact HB.out)) hb); clear HB; have HB := n0_; clear n0_; (try clear hb); (try clear hb2); (try clear hk); (try clear hi))); try go_wp2_with (first | (go_at_call 10; (with_reducible refine (camshaftlaw06_known.calls k  t450 _ A3.out).mono ?_); rintro e w4 ⟨rfl, hb⟩; have n0_ := Aside0.mk (below_step (by repeat (first | (with_reducible first | exact HB.out | apply below_alloc | apply pw_below_drewN | apply below_drew1) | exact HB.out)) hb); clear HB; have HB := n0_; clear n0_; (try clear hb); (try clear hb2); (try clear hk); (try clear hi))))
    go_ret
    exact ⟨by first | rfl | (simp [errW_none, errW_some] <;> rfl) | (simp [*, errW_none, errW_some] <;> rfl), by repeat (first | (with_reducible first | exact HB.out | apply below_alloc | apply pw_below_drewN | apply below_drew1) | exact HB.out | exact Below.refl _ _)⟩
  · rw [if_neg c2] at H
    have c2b0 : decide (200 < (l0.length : Int)) = false := decide_eq_false c2
    have c2b1 : decide (200 < l0.length) = false := decide_eq_false (by omega)
    clear c2
    replace H := Option.bind_eq_some_iff.mp H
    obtain ⟨⟨t451, t452⟩, A50, H⟩ := H
    replace H : (if t452 = 0 then ((nest_Held.f k l0).bind fun bt456 => (if bt456.2 = 0 then (camshaftlaw06_NestLocks.j0 k l0 t451 bt456.1 ((bt456.1.length : Int) != (l0.length : Int))) else (camshaftlaw06_NestLocks.j0 k l0 t451 bt456.1 true))) else (if (t451.length : Int) = 0 then ((camshaftlaw06_known.f k).bind fun t455 => (some t455)) else (some false))) = some r := H
    have A5 := Aside0.mk A50
    clear A50
    by_cases c6 : t452 = 0
    · rw [if_pos c6] at H
      have c6b0 : (t452 == 0) = true := beq_iff_eq.mpr c6
      have c6b1 : (t452 != 0) = false := bne_eq_false_iff_eq.mpr c6
      clear c6
      replace H := Option.bind_eq_some_iff.mp H
      obtain ⟨⟨t456, t457⟩, A70, H⟩ := H
      replace H : (if t457 = 0 then (camshaftlaw06_NestLocks.j0 k l0 t451 t456 ((t456.length : Int) != (l0.length : Int))) else (camshaftlaw06_NestLocks.j0 k l0 t451 t456 true)) = some r := H
      have A7 := Aside0.mk A70
      clear A70
      have HC8 := Aside0.mk H
      clear H
      go_enter Try.func6, Try.ntmps6
      go_upto_region 7 with (first | (go_at_call 15; (with_reducible refine (nest_Locks.calls k _ _ l0 t451 t452 _ ?side1 ?side2 A5.out).mono ?_); (case side1 => repeat (first | exact HR0.out | (with_reducible refine Kd.C_alloc ?_ _) | (with_reducible refine Kd.C_drewN ?_ _) | (with_reducible refine Kd.C_drew ?_))); (case side2 => exact HC0.out); rintro e w9 ⟨v453, rfl, ho0, hb⟩; have n0_ := Aside0.mk (Kd.R_lower ho0 (below_size (by repeat (first | (with_reducible first | exact HB.out | apply below_alloc | apply pw_below_drewN | apply below_drew1) | exact HB.out)))); have n1_ := Aside0.mk (below_step (by repeat (first | (with_reducible first | exact HB.out | apply below_alloc | apply pw_below_drewN | apply below_drew1) | exact HB.out)) hb); clear HB; have HO454 := n0_; have HB := n1_; clear n0_ n1_; (try clear hb); (try clear hb2); (try clear hk); (try clear hi); (try clear ho0)) | (go_at_call 17; (with_reducible refine (nest_Held.calls k _ _ l0 t456 t457 _ ?side1 ?side2 A7.out).mono ?_); (case side1 => repeat (first | exact (Kd.C_below HR0.out HB.out) | (with_reducible refine Kd.C_alloc ?_ _) | (with_reducible refine Kd.C_drewN ?_ _) | (with_reducible refine Kd.C_drew ?_))); (case side2 => exact HC0.out); rintro e w10 ⟨v458, rfl, ho0, hb⟩; have n0_ := Aside0.mk (Kd.R_elder' (by (with_reducible repeat (first | apply Kd.R_alloc | apply Kd.R_drewN | apply Kd.R_drew)); exact HO454.out) (Kd.R_base ho0) hb); have n1_ := Aside0.mk (Kd.R_lower (Kd.R_new' ho0 (Kd.R_lt (by (with_reducible repeat (first | apply Kd.R_alloc | apply Kd.R_drewN | apply Kd.R_drew)); exact HO454.out))) (below_size (by repeat (first | (with_reducible first | exact HB.out | apply below_alloc | apply pw_below_drewN | apply below_drew1) | exact HB.out)))); have n2_ := Aside0.mk (below_step (by repeat (first | (with_reducible first | exact HB.out | apply below_alloc | apply pw_below_drewN | apply below_drew1) | exact HB.out)) hb); clear HO454; clear HB; have HO454 := n0_; have HO459 := n1_; have HB := n2_; clear n0_ n1_ n2_; (try clear hb); (try clear hb2); (try clear hk); (try clear hi); (try clear ho0)))
      repeat (go_quiet (first | (go_at_call 15; (with_reducible refine (nest_Locks.calls k _ _ l0 t451 t452 _ ?side1 ?side2 A5.out).mono ?_); (case side1 => repeat (first | exact HR0.out | (with_reducible refine Kd.C_alloc ?_ _) | (with_reducible refine Kd.C_drewN ?_ _) | (with_reducible refine Kd.C_drew ?_))); (case side2 => exact HC0.out); rintro e w9 ⟨v453, rfl, ho0, hb⟩; have n0_ := Aside0.mk (Kd.R_lower ho0 (below_size (by repeat (first | (with_reducible first | exact HB.out | apply below_alloc | apply pw_below_drewN | apply below_drew1) | exact HB.out)))); have n1_ := Aside0.mk (below_step (by repeat (first | (with_reducible first | exact HB.out | apply below_alloc | apply pw_below_drewN | apply below_drew1) | exact HB.out)) hb); clear HB; have HO454 := n0_; have HB := n1_; clear n0_ n1_; (try clear hb); (try clear hb2); (try clear hk); (try clear hi); (try clear ho0)) | (go_at_call 17; (with_reducible refine (nest_Held.calls k _ _ l0 t456 t457 _ ?side1 ?side2 A7.out).mono ?_); (case side1 => repeat (first | exact (Kd.C_below HR0.out HB.out) | (with_reducible refine Kd.C_alloc ?_ _) | (with_reducible refine Kd.C_drewN ?_ _) | (with_reducible refine Kd.C_drew ?_))); (case side2 => exact HC0.out); rintro e w10 ⟨v458, rfl, ho0, hb⟩; have n0_ := Aside0.mk (Kd.R_elder' (by (with_reducible repeat (first | apply Kd.R_alloc | apply Kd.R_drewN | apply Kd.R_drew)); exact HO454.out) (Kd.R_base ho0) hb); have n1_ := Aside0.mk (Kd.R_lower (Kd.R_new' ho0 (Kd.R_lt (by (with_reducible repeat (first | apply Kd.R_alloc | apply Kd.R_drewN | apply Kd.R_drew)); exact HO454.out))) (below_size (by repeat (first | (with_reducible first | exact HB.out | apply below_alloc | apply pw_below_drewN | apply below_drew1) | exact HB.out)))); have n2_ := Aside0.mk (below_step (by repeat (first | (with_reducible first | exact HB.out | apply below_alloc | apply pw_below_drewN | apply below_drew1) | exact HB.out)) hb); clear HO454; clear HB; have HO454 := n0_; have HO459 := n1_; have HB := n2_; clear n0_ n1_ n2_; (try clear hb); (try clear hb2); (try clear hk); (try clear hi); (try clear ho0))); go_upto_region 7 with (first | (go_at_call 15; (with_reducible refine (nest_Locks.calls k _ _ l0 t451 t452 _ ?side1 ?side2 A5.out).mono ?_); (case side1 => repeat (first | exact HR0.out | (with_reducible refine Kd.C_alloc ?_ _) | (with_reducible refine Kd.C_drewN ?_ _) | (with_reducible refine Kd.C_drew ?_))); (case side2 => exact HC0.out); rintro e w9 ⟨v453, rfl, ho0, hb⟩; have n0_ := Aside0.mk (Kd.R_lower ho0 (below_size (by repeat (first | (with_reducible first | exact HB.out | apply below_alloc | apply pw_below_drewN | apply below_drew1) | exact HB.out)))); have n1_ := Aside0.mk (below_step (by repeat (first | (with_reducible first | exact HB.out | apply below_alloc | apply pw_below_drewN | apply below_drew1) | exact HB.out)) hb); clear HB; have HO454 := n0_; have HB := n1_; clear n0_ n1_; (try clear hb); (try clear hb2); (try clear hk); (try clear hi); (try clear ho0)) | (go_at_call 17; (with_reducible refine (nest_Held.calls k _ _ l0 t456 t457 _ ?side1 ?side2 A7.out).mono ?_); (case side1 => repeat (first | exact (Kd.C_below HR0.out HB.out) | (with_reducible refine Kd.C_alloc ?_ _) | (with_reducible refine Kd.C_drewN ?_ _) | (with_reducible refine Kd.C_drew ?_))); (case side2 => exact HC0.out); rintro e w10 ⟨v458, rfl, ho0, hb⟩; have n0_ := Aside0.mk (Kd.R_elder' (by (with_reducible repeat (first | apply Kd.R_alloc | apply Kd.R_drewN | apply Kd.R_drew)); exact HO454.out) (Kd.R_base ho0) hb); have n1_ := Aside0.mk (Kd.R_lower (Kd.R_new' ho0 (Kd.R_lt (by (with_reducible repeat (first | apply Kd.R_alloc | apply Kd.R_drewN | apply Kd.R_drew)); exact HO454.out))) (below_size (by repeat (first | (with_reducible first | exact HB.out | apply below_alloc | apply pw_below_drewN | apply below_drew1) | exact HB.out)))); have n2_ := Aside0.mk (below_step (by repeat (first | (with_reducible first | exact HB.out | apply below_alloc | apply pw_below_drewN | apply below_drew1) | exact HB.out)) hb); clear HO454; clear HB; have HO454 := n0_; have HO459 := n1_; have HB := n2_; clear n0_ n1_ n2_; (try clear hb); (try clear hb2); (try clear hk); (try clear hi); (try clear ho0))))
      (try simp only [Act.put, List.setIfInBounds_toArray, List.set_cons_zero, List.set_cons_succ])
      go_cut [40] (fun v40 wc => ∃ (kq : Nat) (x40_7 : Bool), v40 = .bool x40_7 ∧ Aside0 (camshaftlaw06_NestLocks.j0 kq l0 t451 t456 x40_7 = some r) ∧ Aside0 (kq ≤ k) ∧ Aside0 (Kd.R (Kd.int .i64) 3 wc w.heap.size (fun k_ => some k_ ≠ (v458 : Value).ownBlock) v453 t451) ∧ Aside0 (Kd.R (Kd.int .i64) 3 wc w.heap.size (fun k_ => some k_ ≠ (v453 : Value).ownBlock) v458 t456) ∧ Aside0 (Below w.heap.size w wc))
      case first =>
        have H := HC8.out
        clear HC8
        by_cases c11 : t457 = 0
        · rw [if_pos c11] at H
          have c11b0 : (t457 == 0) = true := beq_iff_eq.mpr c11
          have c11b1 : (t457 != 0) = false := bne_eq_false_iff_eq.mpr c11
          clear c11
          (first | rw [c11b0] | (simp only [i64_w, i32_w]; rw [c11b0]) | rw [c11b1] | skip)
          have H' := Aside0.mk H
          clear H
          obtain ⟨Ao12, co12, eo12⟩ := Kd.R_slice HO459.out
          subst eo12
          go_wp2
          repeat (go_quiet (fail); try go_wp2)
          go_meet
          case rel => exact ⟨_, (((t456.length : Int) != (l0.length : Int))), (by first | rfl | (simp; done) | (simp [*]; done)), H', ⟨by first | omega | exact Nat.le_refl _⟩, ⟨by (with_reducible repeat (first | apply Kd.R_alloc | apply Kd.R_drewN | apply Kd.R_drew)); exact Kd.R_mono HO454.out (fun _ hk => hk.2)⟩, ⟨by (with_reducible repeat (first | apply Kd.R_alloc | apply Kd.R_drewN | apply Kd.R_drew)); exact Kd.R_mono HO459.out (fun _ hk => hk.2)⟩, ⟨by repeat (first | (with_reducible first | exact HB.out | apply below_alloc | apply pw_below_drewN | apply below_drew1) | exact HB.out | exact Below.refl _ _)⟩⟩
        · rw [if_neg c11] at H
          have c11b0 : (t457 == 0) = false := beq_eq_false_iff_ne.mpr c11
          have c11b1 : (t457 != 0) = true := bne_iff_ne.mpr c11
          (first | rw [c11b0] | (simp only [i64_w, i32_w]; rw [c11b0]) | rw [c11b1] | skip)
          have H' := Aside0.mk H
          clear H
          go_wp2
          repeat (go_quiet (fail); try go_wp2)
          go_meet
          case rel => exact ⟨_, (true), (by first | rfl | (simp; done) | (simp [*]; done)), H', ⟨by first | omega | exact Nat.le_refl _⟩, ⟨by (with_reducible repeat (first | apply Kd.R_alloc | apply Kd.R_drewN | apply Kd.R_drew)); exact Kd.R_mono HO454.out (fun _ hk => hk.2)⟩, ⟨by (with_reducible repeat (first | apply Kd.R_alloc | apply Kd.R_drewN | apply Kd.R_drew)); exact Kd.R_mono HO459.out (fun _ hk => hk.2)⟩, ⟨by repeat (first | (with_reducible first | exact HB.out | apply below_alloc | apply pw_below_drewN | apply below_drew1) | exact HB.out | exact Below.refl _ _)⟩⟩
      case rest =>
        clear HC8
        try clear c1
        try clear c2
        try clear c2b0
        try clear c2b1
        try clear p2
        try clear c6
        try clear c6b0
        try clear c6b1
        try clear c11
        try clear c11b0
        try clear c11b1
        obtain ⟨kq, x40_7, rfl, HA, HJ7, HO_3, HO_5, HB⟩ := hcut
        cases kq with
        | zero => exact absurd HA.out (by simp [camshaftlaw06_NestLocks.j0])
        | succ kj7 =>
          have H := HA.out
          clear HA
          simp only [camshaftlaw06_NestLocks.j0] at H
          by_cases c13 : x40_7 = true
          · subst c13
            have H1 : (some false) = some r := by rw [if_pos rfl] at H; exact H
            clear H
            have H := H1
            clear H1
            exact absurd ((Option.some.inj H).trans HT.out) (by decide)
          · replace c13 := Bool.eq_false_iff.mpr c13
            subst c13
            have H1 : (camshaftlaw06_NestLocks.l0 kj7 l0 t451 t456 0 0) = some r := by rw [if_neg (show ¬ (false = true) by decide)] at H; exact H
            clear H
            have H := H1
            clear H1
            have H' := Aside0.mk H
            clear H
            go_wp2
            repeat (go_quiet (fail); try go_wp2)
            go_loopg [7, 8] kj7 (fun kq v7 v8 w' => ∃ (x7_2 : Int) (x8_2 : Int), v7 = .int .i64 x7_2 ∧ v8 = .int .i64 x8_2 ∧ Aside0 (camshaftlaw06_NestLocks.l0 kq l0 t451 t456 x7_2 x8_2 = some r) ∧ Aside0 (kq ≤ kj7) ∧ Aside0 (Kd.R (Kd.int .i64) 3 w' w.heap.size (fun k_ => some k_ ≠ (v458 : Value).ownBlock) v453 t451) ∧ Aside0 (Kd.R (Kd.int .i64) 3 w' w.heap.size (fun k_ => some k_ ≠ (v453 : Value).ownBlock) v458 t456) ∧ Aside0 (Below w.heap.size w w'))
            case atStart => exact ⟨(0), (0), (by first | rfl | (simp; done) | (simp [*]; done)), (by first | rfl | (simp; done) | (simp [*]; done)), H', ⟨Nat.le_refl _⟩, ⟨by (with_reducible repeat (first | apply Kd.R_alloc | apply Kd.R_drewN | apply Kd.R_drew)); exact HO_3.out⟩, ⟨by (with_reducible repeat (first | apply Kd.R_alloc | apply Kd.R_drewN | apply Kd.R_drew)); exact HO_5.out⟩, ⟨by repeat (first | (with_reducible first | exact HB.out | apply below_alloc | apply pw_below_drewN | apply below_drew1) | exact HB.out)⟩⟩
            case round =>
              clear H'
              try clear c1
              try clear c2
              try clear c2b0
              try clear c2b1
              try clear p2
              try clear c6
              try clear c6b0
              try clear c6b1
              try clear c11
              try clear c11b0
              try clear c11b1
              try clear c13
              try clear p2
              obtain ⟨x7_2, x8_2, rfl, rfl, HA, HK2, HO_3, HO_5, HB⟩ := hrel
              cases gk with
              | zero => exact absurd HA.out (by simp [camshaftlaw06_NestLocks.l0])
              | succ k2 =>
                have H := HA.out
                clear HA
                simp only [camshaftlaw06_NestLocks.l0] at H
                by_cases c14 : x8_2 < (t451.length : Int)
                · rw [if_pos c14] at H
                  have c14b0 : decide (x8_2 < (t451.length : Int)) = true := decide_eq_true c14
                  clear c14
                  by_cases c15 : 0 ≤ x8_2
                  · rw [if_pos c15] at H
                    have c15b0 : decide (0 ≤ x8_2) = true := decide_eq_true c15
                    clear c15
                    by_cases c16 : (rd t451 x8_2) < 0
                    · rw [if_pos c16] at H
                      have c16b0 : decide ((rd t451 x8_2) < 0) = true := decide_eq_true c16
                      clear c16
                      exact absurd ((Option.some.inj H).trans HT.out) (by decide)
                    · rw [if_neg c16] at H
                      have c16b0 : decide ((rd t451 x8_2) < 0) = false := decide_eq_false c16
                      clear c16
                      by_cases c17 : (rd t451 x8_2) > 7
                      · rw [if_pos c17] at H
                        have c17b0 : decide (7 < (rd t451 x8_2)) = true := decide_eq_true c17
                        clear c17
                        exact absurd ((Option.some.inj H).trans HT.out) (by decide)
                      · rw [if_neg c17] at H
                        have c17b0 : decide (7 < (rd t451 x8_2)) = false := decide_eq_false c17
                        clear c17
                        by_cases c18 : x8_2 > 0
                        · rw [if_pos c18] at H
                          have c18b0 : decide (0 < x8_2) = true := decide_eq_true c18
                          clear c18
                          obtain ⟨ji19, hji19⟩ : ∃ j_ : Int, (wrap64 (x8_2 - 1)) = j_ := ⟨_, rfl⟩
                          replace H : (if 0 ≤ (ji19) then (if (ji19) < (t451.length : Int) then (if (rd t451 (ji19)) ≥ (rd t451 x8_2) then (some false) else (if 0 ≤ (rd t451 x8_2) then (camshaftlaw06_NestLocks.l0 k2 l0 t451 t456 (wrap64 (x7_2 + (shl .i64 1 (rd t451 x8_2)))) (wrap64 (x8_2 + 1))) else (none))) else (none)) else (none)) = some r := by first | (rw [hji19] at H; exact H) | (simp only [hji19] at H ⊢; exact H)
                          have hji19w : (IntKind.i64.wrap (x8_2 - 1)) = ji19 := (i64_w _).trans hji19
                          by_cases c20 : 0 ≤ (ji19)
                          · rw [if_pos c20] at H
                            have c20b0 : decide (0 ≤ (ji19)) = true := decide_eq_true c20
                            clear c20
                            by_cases c21 : (ji19) < (t451.length : Int)
                            · rw [if_pos c21] at H
                              have c21b0 : decide ((ji19) < (t451.length : Int)) = true := decide_eq_true c21
                              clear c21
                              by_cases c22 : (rd t451 (ji19)) ≥ (rd t451 x8_2)
                              · rw [if_pos c22] at H
                                have c22b0 : decide ((rd t451 x8_2) ≤ (rd t451 (ji19))) = true := decide_eq_true c22
                                clear c22
                                exact absurd ((Option.some.inj H).trans HT.out) (by decide)
                              · rw [if_neg c22] at H
                                have c22b0 : decide ((rd t451 x8_2) ≤ (rd t451 (ji19))) = false := decide_eq_false c22
                                clear c22
                                by_cases c23 : 0 ≤ (rd t451 x8_2)
                                · rw [if_pos c23] at H
                                  have c23b0 := eq_true c23
                                  have c23b1 : decide (0 ≤ (rd t451 x8_2)) = true := decide_eq_true c23
                                  clear c23
                                  obtain ⟨ji24, hji24⟩ : ∃ j_ : Int, (shl .i64 1 (rd t451 x8_2)) = j_ := ⟨_, rfl⟩
                                  replace H : (camshaftlaw06_NestLocks.l0 k2 l0 t451 t456 (wrap64 (x7_2 + (ji24))) (wrap64 (x8_2 + 1))) = some r := by first | (rw [hji24] at H; exact H) | (simp only [hji24] at H ⊢; exact H)
                                  have hji24_ : (IntKind.i64.wrap (1 * 2 ^ min (rd t451 x8_2).toNat 64)) = ji24 := hji24
                                  have hji24z : (rd t451 x8_2) ≤ 64 → (IntKind.i64.wrap (1 * 2 ^ (rd t451 x8_2).toNat)) = ji24 := shl_small hji24
                                  have hji24u : (IntKind.i64.wrap (2 ^ min (rd t451 x8_2).toNat 64)) = ji24 := by have h_ := hji24_; rw [Int.one_mul] at h_; exact h_
                                  have hji24v : (rd t451 x8_2) ≤ 64 → (IntKind.i64.wrap (2 ^ (rd t451 x8_2).toNat)) = ji24 := fun hle_ => by have h_ := hji24z hle_; rw [Int.one_mul] at h_; exact h_
                                  have hji24y : (wrap64 (1 * 2 ^ min (rd t451 x8_2).toNat 64)) = ji24 := (i64_w _).symm.trans hji24_
                                  have hji24x : (rd t451 x8_2) ≤ 64 → (wrap64 (1 * 2 ^ (rd t451 x8_2).toNat)) = ji24 := fun h_ => (i64_w _).symm.trans (hji24z h_)
                                  have H' := Aside0.mk H
                                  clear H
                                  obtain ⟨Ao25, co25, eo25⟩ := Kd.R_slice HO_3.out
                                  subst eo25
                                  have p460 : 0 ≤ (x8_2 : Int) := of_decide_eq_true (by first | (with_reducible assumption) | assumption)
                                  have q460 : x8_2 < (t451.length : Int) := of_decide_eq_true (by first | (with_reducible assumption) | assumption)
                                  obtain ⟨ad460, e460, hx460_0⟩ := Kd.at_int (Kd.R_reads' HO_3.out).2.2 x8_2 p460 q460
                                  cases e460
                                  replace p460 := eq_true p460
                                  replace q460 := eq_true q460
                                  have p461 : 0 ≤ (x8_2 : Int) := of_decide_eq_true (by first | (with_reducible assumption) | assumption)
                                  have q461 : x8_2 < (t451.length : Int) := of_decide_eq_true (by first | (with_reducible assumption) | assumption)
                                  obtain ⟨ad461, e461, hx461_0⟩ := Kd.at_int (Kd.R_reads' HO_3.out).2.2 x8_2 p461 q461
                                  obtain rfl : ad460 = ad461 := (by injection e461)
                                  replace p461 := eq_true p461
                                  replace q461 := eq_true q461
                                  have p462 : 0 ≤ ((ji19) : Int) := of_decide_eq_true (by first | (with_reducible assumption) | assumption)
                                  have q462 : (ji19) < (t451.length : Int) := of_decide_eq_true (by first | (with_reducible assumption) | assumption)
                                  obtain ⟨ad462, e462, hx462_0⟩ := Kd.at_int (Kd.R_reads' HO_3.out).2.2 (ji19) p462 q462
                                  obtain rfl : ad460 = ad462 := (by injection e462)
                                  replace p462 := eq_true p462
                                  replace q462 := eq_true q462
                                  have p463 : 0 ≤ (x8_2 : Int) := of_decide_eq_true (by first | (with_reducible assumption) | assumption)
                                  have q463 : x8_2 < (t451.length : Int) := of_decide_eq_true (by first | (with_reducible assumption) | assumption)
                                  obtain ⟨ad463, e463, hx463_0⟩ := Kd.at_int (Kd.R_reads' HO_3.out).2.2 x8_2 p463 q463
                                  obtain rfl : ad460 = ad463 := (by injection e463)
                                  replace p463 := eq_true p463
                                  replace q463 := eq_true q463
                                  have p464 : 0 ≤ (x8_2 : Int) := of_decide_eq_true (by first | (with_reducible assumption) | assumption)
                                  have q464 : x8_2 < (t451.length : Int) := of_decide_eq_true (by first | (with_reducible assumption) | assumption)
                                  obtain ⟨ad464, e464, hx464_0⟩ := Kd.at_int (Kd.R_reads' HO_3.out).2.2 x8_2 p464 q464
                                  obtain rfl : ad460 = ad464 := (by injection e464)
                                  replace p464 := eq_true p464
                                  replace q464 := eq_true q464
                                  go_wp2
                                  repeat (go_quiet (fail); try go_wp2)
                                  go_roundg k2
                                  case measure => have := HJ7.out; have := HK2.out; omega
                                  case rel => exact ⟨(wrap64 (x7_2 + (ji24))), (wrap64 (x8_2 + 1)), (by first | rfl | (simp; done) | (simp only [← hji24] <;> (first | rfl | simp)) | (simp [*]; done)), (by first | rfl | (simp; done) | (simp [*]; done)), H', ⟨by have := HJ7.out; have := HK2.out; omega⟩, ⟨by (with_reducible repeat (first | apply Kd.R_alloc | apply Kd.R_drewN | apply Kd.R_drew)); exact HO_3.out⟩, ⟨by (with_reducible repeat (first | apply Kd.R_alloc | apply Kd.R_drewN | apply Kd.R_drew)); exact HO_5.out⟩, ⟨by repeat (first | (with_reducible first | exact HB.out | apply below_alloc | apply pw_below_drewN | apply below_drew1) | exact HB.out | exact Below.refl _ _)⟩⟩
                                · rw [if_neg c23] at H
                                  exact absurd H (by simp)
                            · rw [if_neg c21] at H
                              exact absurd H (by simp)
                          · rw [if_neg c20] at H
                            exact absurd H (by simp)
                        · rw [if_neg c18] at H
                          have c18b0 : decide (0 < x8_2) = false := decide_eq_false c18
                          clear c18
                          by_cases c26 : 0 ≤ (rd t451 x8_2)
                          · rw [if_pos c26] at H
                            have c26b0 := eq_true c26
                            have c26b1 : decide (0 ≤ (rd t451 x8_2)) = true := decide_eq_true c26
                            clear c26
                            obtain ⟨ji27, hji27⟩ : ∃ j_ : Int, (shl .i64 1 (rd t451 x8_2)) = j_ := ⟨_, rfl⟩
                            replace H : (camshaftlaw06_NestLocks.l0 k2 l0 t451 t456 (wrap64 (x7_2 + (ji27))) (wrap64 (x8_2 + 1))) = some r := by first | (rw [hji27] at H; exact H) | (simp only [hji27] at H ⊢; exact H)
                            have hji27_ : (IntKind.i64.wrap (1 * 2 ^ min (rd t451 x8_2).toNat 64)) = ji27 := hji27
                            have hji27z : (rd t451 x8_2) ≤ 64 → (IntKind.i64.wrap (1 * 2 ^ (rd t451 x8_2).toNat)) = ji27 := shl_small hji27
                            have hji27u : (IntKind.i64.wrap (2 ^ min (rd t451 x8_2).toNat 64)) = ji27 := by have h_ := hji27_; rw [Int.one_mul] at h_; exact h_
                            have hji27v : (rd t451 x8_2) ≤ 64 → (IntKind.i64.wrap (2 ^ (rd t451 x8_2).toNat)) = ji27 := fun hle_ => by have h_ := hji27z hle_; rw [Int.one_mul] at h_; exact h_
                            have hji27y : (wrap64 (1 * 2 ^ min (rd t451 x8_2).toNat 64)) = ji27 := (i64_w _).symm.trans hji27_
                            have hji27x : (rd t451 x8_2) ≤ 64 → (wrap64 (1 * 2 ^ (rd t451 x8_2).toNat)) = ji27 := fun h_ => (i64_w _).symm.trans (hji27z h_)
                            have H' := Aside0.mk H
                            clear H
                            obtain ⟨Ao28, co28, eo28⟩ := Kd.R_slice HO_3.out
                            subst eo28
                            have p460 : 0 ≤ (x8_2 : Int) := of_decide_eq_true (by first | (with_reducible assumption) | assumption)
                            have q460 : x8_2 < (t451.length : Int) := of_decide_eq_true (by first | (with_reducible assumption) | assumption)
                            obtain ⟨ad460, e460, hx460_0⟩ := Kd.at_int (Kd.R_reads' HO_3.out).2.2 x8_2 p460 q460
                            cases e460
                            replace p460 := eq_true p460
                            replace q460 := eq_true q460
                            have p461 : 0 ≤ (x8_2 : Int) := of_decide_eq_true (by first | (with_reducible assumption) | assumption)
                            have q461 : x8_2 < (t451.length : Int) := of_decide_eq_true (by first | (with_reducible assumption) | assumption)
                            obtain ⟨ad461, e461, hx461_0⟩ := Kd.at_int (Kd.R_reads' HO_3.out).2.2 x8_2 p461 q461
                            obtain rfl : ad460 = ad461 := (by injection e461)
                            replace p461 := eq_true p461
                            replace q461 := eq_true q461
                            have p465 : 0 ≤ (x8_2 : Int) := of_decide_eq_true (by first | (with_reducible assumption) | assumption)
                            have q465 : x8_2 < (t451.length : Int) := of_decide_eq_true (by first | (with_reducible assumption) | assumption)
                            obtain ⟨ad465, e465, hx465_0⟩ := Kd.at_int (Kd.R_reads' HO_3.out).2.2 x8_2 p465 q465
                            obtain rfl : ad460 = ad465 := (by injection e465)
                            replace p465 := eq_true p465
                            replace q465 := eq_true q465
                            go_wp2
                            repeat (go_quiet (fail); try go_wp2)
                            go_roundg k2
                            case measure => have := HJ7.out; have := HK2.out; omega
                            case rel => exact ⟨(wrap64 (x7_2 + (ji27))), (wrap64 (x8_2 + 1)), (by first | rfl | (simp; done) | (simp only [← hji27] <;> (first | rfl | simp)) | (simp [*]; done)), (by first | rfl | (simp; done) | (simp [*]; done)), H', ⟨by have := HJ7.out; have := HK2.out; omega⟩, ⟨by (with_reducible repeat (first | apply Kd.R_alloc | apply Kd.R_drewN | apply Kd.R_drew)); exact HO_3.out⟩, ⟨by (with_reducible repeat (first | apply Kd.R_alloc | apply Kd.R_drewN | apply Kd.R_drew)); exact HO_5.out⟩, ⟨by repeat (first | (with_reducible first | exact HB.out | apply below_alloc | apply pw_below_drewN | apply below_drew1) | exact HB.out | exact Below.refl _ _)⟩⟩
                          · rw [if_neg c26] at H
                            exact absurd H (by simp)
                  · rw [if_neg c15] at H
                    exact absurd H (by simp)
                · rw [if_neg c14] at H
                  have c14b0 : decide (x8_2 < (t451.length : Int)) = false := decide_eq_false c14
                  clear c14
                  have H' := Aside0.mk H
                  clear H
                  obtain ⟨Ao29, co29, eo29⟩ := Kd.R_slice HO_3.out
                  subst eo29
                  go_wp2
                  repeat (go_quiet (fail); try go_wp2)
                  go_loopg [9] k2 (fun kq v9 w' => ∃ (x9_3 : Int), v9 = .int .i64 x9_3 ∧ Aside0 (camshaftlaw06_NestLocks.l1 kq l0 t456 x7_2 x9_3 = some r) ∧ Aside0 (kq ≤ k2) ∧ Aside0 (Kd.R (Kd.int .i64) 3 w' w.heap.size (fun _ => True) v458 t456) ∧ Aside0 (Below w.heap.size w w'))
                  case atStart => exact ⟨(0), (by first | rfl | (simp; done) | (simp [*]; done)), H', ⟨Nat.le_refl _⟩, ⟨by (with_reducible repeat (first | apply Kd.R_alloc | apply Kd.R_drewN | apply Kd.R_drew)); exact Kd.R_mono HO_5.out (fun _ hk => trivial)⟩, ⟨by repeat (first | (with_reducible first | exact HB.out | apply below_alloc | apply pw_below_drewN | apply below_drew1) | exact HB.out)⟩⟩
                  case round =>
                    clear H'
                    try clear c1
                    try clear c2
                    try clear c2b0
                    try clear c2b1
                    try clear p2
                    try clear p4
                    try clear q4
                    try clear hx4
                    try clear c6
                    try clear c6b0
                    try clear c6b1
                    try clear p6
                    try clear c11
                    try clear c11b0
                    try clear c11b1
                    try clear c13
                    try clear c14
                    try clear c14b0
                    try clear c15
                    try clear c15b0
                    try clear c16
                    try clear c16b0
                    try clear c17
                    try clear c17b0
                    try clear c18
                    try clear c18b0
                    try clear c20
                    try clear c20b0
                    try clear c21
                    try clear c21b0
                    try clear c22
                    try clear c22b0
                    try clear c23
                    try clear c23b0
                    try clear c23b1
                    try clear c26
                    try clear c26b0
                    try clear c26b1
                    try clear hx460_0
                    try clear hx461_0
                    try clear hx462_0
                    try clear hx463_0
                    try clear hx464_0
                    try clear hx465_0
                    try clear p2
                    try clear p460
                    try clear p461
                    try clear p462
                    try clear p463
                    try clear p464
                    try clear p465
                    try clear q460
                    try clear q461
                    try clear q462
                    try clear q463
                    try clear q464
                    try clear q465
                    obtain ⟨x9_3, rfl, HA, HK3, HO_5, HB⟩ := hrel
                    cases gk with
                    | zero => exact absurd HA.out (by simp [camshaftlaw06_NestLocks.l1])
                    | succ k3 =>
                      have H := HA.out
                      clear HA
                      simp only [camshaftlaw06_NestLocks.l1] at H
                      by_cases c30 : x9_3 < (l0.length : Int)
                      · rw [if_pos c30] at H
                        have c30b0 : decide (x9_3 < (l0.length : Int)) = true := decide_eq_true c30
                        clear c30
                        by_cases c31 : 0 ≤ x9_3
                        · rw [if_pos c31] at H
                          have c31b0 : decide (0 ≤ x9_3) = true := decide_eq_true c31
                          clear c31
                          by_cases c32 : x9_3 < (t456.length : Int)
                          · rw [if_pos c32] at H
                            have c32b0 : decide (x9_3 < (t456.length : Int)) = true := decide_eq_true c32
                            clear c32
                            by_cases c33 : (rd t456 x9_3) < 0
                            · rw [if_pos c33] at H
                              have c33b0 : decide ((rd t456 x9_3) < 0) = true := decide_eq_true c33
                              clear c33
                              exact absurd ((Option.some.inj H).trans HT.out) (by decide)
                            · rw [if_neg c33] at H
                              have c33b0 : decide ((rd t456 x9_3) < 0) = false := decide_eq_false c33
                              clear c33
                              by_cases c34 : (Go.bits .and .i64 (rd t456 x9_3) x7_2) = (rd t456 x9_3)
                              · rw [if_pos c34] at H
                                have c34b0 : ((Go.bits .and .i64 (rd t456 x9_3) x7_2) == (rd t456 x9_3)) = true := beq_iff_eq.mpr c34
                                have c34b1 : ((Go.bits .and .i64 (rd t456 x9_3) x7_2) != (rd t456 x9_3)) = false := bne_eq_false_iff_eq.mpr c34
                                clear c34
                                by_cases c35 : ((rd_T32 l0 x9_3).f0) = 17
                                · rw [if_pos c35] at H
                                  have c35b0 : (((rd_T32 l0 x9_3).f0) == 17) = true := beq_iff_eq.mpr c35
                                  have c35b1 : (((rd_T32 l0 x9_3).f0) != 17) = false := bne_eq_false_iff_eq.mpr c35
                                  clear c35
                                  by_cases c36 : 0 ≤ ((rd_T32 l0 x9_3).f1)
                                  · rw [if_pos c36] at H
                                    have c36b0 := eq_true c36
                                    have c36b1 : decide (0 ≤ ((rd_T32 l0 x9_3).f1)) = true := decide_eq_true c36
                                    clear c36
                                    obtain ⟨ji37, hji37⟩ : ∃ j_ : Int, (shl .i64 1 ((rd_T32 l0 x9_3).f1)) = j_ := ⟨_, rfl⟩
                                    replace H : (if (Go.bits .and .i64 (rd t456 x9_3) (ji37)) = 0 then (some false) else (camshaftlaw06_NestLocks.l1 k3 l0 t456 x7_2 (wrap64 (x9_3 + 1)))) = some r := by first | (rw [hji37] at H; exact H) | (simp only [hji37] at H ⊢; exact H)
                                    have hji37_ : (IntKind.i64.wrap (1 * 2 ^ min ((rd_T32 l0 x9_3).f1).toNat 64)) = ji37 := hji37
                                    have hji37z : ((rd_T32 l0 x9_3).f1) ≤ 64 → (IntKind.i64.wrap (1 * 2 ^ ((rd_T32 l0 x9_3).f1).toNat)) = ji37 := shl_small hji37
                                    have hji37u : (IntKind.i64.wrap (2 ^ min ((rd_T32 l0 x9_3).f1).toNat 64)) = ji37 := by have h_ := hji37_; rw [Int.one_mul] at h_; exact h_
                                    have hji37v : ((rd_T32 l0 x9_3).f1) ≤ 64 → (IntKind.i64.wrap (2 ^ ((rd_T32 l0 x9_3).f1).toNat)) = ji37 := fun hle_ => by have h_ := hji37z hle_; rw [Int.one_mul] at h_; exact h_
                                    have hji37y : (wrap64 (1 * 2 ^ min ((rd_T32 l0 x9_3).f1).toNat 64)) = ji37 := (i64_w _).symm.trans hji37_
                                    have hji37x : ((rd_T32 l0 x9_3).f1) ≤ 64 → (wrap64 (1 * 2 ^ ((rd_T32 l0 x9_3).f1).toNat)) = ji37 := fun h_ => (i64_w _).symm.trans (hji37z h_)
                                    by_cases c38 : (Go.bits .and .i64 (rd t456 x9_3) (ji37)) = 0
                                    · rw [if_pos c38] at H
                                      have c38b0 : ((Go.bits .and .i64 (rd t456 x9_3) (ji37)) == 0) = true := beq_iff_eq.mpr c38
                                      have c38b1 : ((Go.bits .and .i64 (rd t456 x9_3) (ji37)) != 0) = false := bne_eq_false_iff_eq.mpr c38
                                      clear c38
                                      exact absurd ((Option.some.inj H).trans HT.out) (by decide)
                                    · rw [if_neg c38] at H
                                      have c38b0 : ((Go.bits .and .i64 (rd t456 x9_3) (ji37)) == 0) = false := beq_eq_false_iff_ne.mpr c38
                                      have c38b1 : ((Go.bits .and .i64 (rd t456 x9_3) (ji37)) != 0) = true := bne_iff_ne.mpr c38
                                      have H' := Aside0.mk H
                                      clear H
                                      obtain ⟨Ao39, co39, eo39⟩ := Kd.R_slice HO_5.out
                                      subst eo39
                                      have p466 : 0 ≤ (x9_3 : Int) := of_decide_eq_true (by first | (with_reducible assumption) | assumption)
                                      have q466 : x9_3 < (t456.length : Int) := of_decide_eq_true (by first | (with_reducible assumption) | assumption)
                                      obtain ⟨ad466, e466, hx466_0⟩ := Kd.at_int (Kd.R_reads' HO_5.out).2.2 x9_3 p466 q466
                                      cases e466
                                      replace p466 := eq_true p466
                                      replace q466 := eq_true q466
                                      have p467 : 0 ≤ (x9_3 : Int) := of_decide_eq_true (by first | (with_reducible assumption) | assumption)
                                      have q467 : x9_3 < (t456.length : Int) := of_decide_eq_true (by first | (with_reducible assumption) | assumption)
                                      obtain ⟨ad467, e467, hx467_0⟩ := Kd.at_int (Kd.R_reads' HO_5.out).2.2 x9_3 p467 q467
                                      obtain rfl : ad466 = ad467 := (by injection e467)
                                      replace p467 := eq_true p467
                                      replace q467 := eq_true q467
                                      have p468 : 0 ≤ (x9_3 : Int) := of_decide_eq_true (by first | (with_reducible assumption) | assumption)
                                      have q468 : x9_3 < (t456.length : Int) := of_decide_eq_true (by first | (with_reducible assumption) | assumption)
                                      obtain ⟨ad468, e468, hx468_0⟩ := Kd.at_int (Kd.R_reads' HO_5.out).2.2 x9_3 p468 q468
                                      obtain rfl : ad466 = ad468 := (by injection e468)
                                      replace p468 := eq_true p468
                                      replace q468 := eq_true q468
                                      have p469 : 0 ≤ (x9_3 : Int) := of_decide_eq_true (by first | (with_reducible assumption) | assumption)
                                      have q469 : x9_3 < (l0.length : Int) := of_decide_eq_true (by first | (with_reducible assumption) | assumption)
                                      obtain ⟨ad469, e469, hx469_0, hx469_1, hx469_2⟩ := at_T32 HR0.out x9_3 p469 q469
                                      cases e469
                                      replace hx469_0 := (HB.out.cell (World.block_lt_of_cell? w _ hx469_0)).trans hx469_0
                                      replace hx469_1 := (HB.out.cell (World.block_lt_of_cell? w _ hx469_1)).trans hx469_1
                                      replace hx469_2 := (HB.out.cell (World.block_lt_of_cell? w _ hx469_2)).trans hx469_2
                                      replace p469 := eq_true p469
                                      replace q469 := eq_true q469
                                      have p470 : 0 ≤ (x9_3 : Int) := of_decide_eq_true (by first | (with_reducible assumption) | assumption)
                                      have q470 : x9_3 < (t456.length : Int) := of_decide_eq_true (by first | (with_reducible assumption) | assumption)
                                      obtain ⟨ad470, e470, hx470_0⟩ := Kd.at_int (Kd.R_reads' HO_5.out).2.2 x9_3 p470 q470
                                      obtain rfl : ad466 = ad470 := (by injection e470)
                                      replace p470 := eq_true p470
                                      replace q470 := eq_true q470
                                      have p471 : 0 ≤ (x9_3 : Int) := of_decide_eq_true (by first | (with_reducible assumption) | assumption)
                                      have q471 : x9_3 < (l0.length : Int) := of_decide_eq_true (by first | (with_reducible assumption) | assumption)
                                      obtain ⟨ad471, e471, hx471_0, hx471_1, hx471_2⟩ := at_T32 HR0.out x9_3 p471 q471
                                      obtain rfl : ad469 = ad471 := (by injection e471)
                                      replace hx471_0 := (HB.out.cell (World.block_lt_of_cell? w _ hx471_0)).trans hx471_0
                                      replace hx471_1 := (HB.out.cell (World.block_lt_of_cell? w _ hx471_1)).trans hx471_1
                                      replace hx471_2 := (HB.out.cell (World.block_lt_of_cell? w _ hx471_2)).trans hx471_2
                                      replace p471 := eq_true p471
                                      replace q471 := eq_true q471
                                      go_wp2
                                      repeat (go_quiet (fail); try go_wp2)
                                      go_roundg k3
                                      case measure => have := HJ7.out; have := HK2.out; have := HK3.out; omega
                                      case rel => exact ⟨(wrap64 (x9_3 + 1)), (by first | rfl | (simp; done) | (simp [*]; done)), H', ⟨by have := HJ7.out; have := HK2.out; have := HK3.out; omega⟩, ⟨by (with_reducible repeat (first | apply Kd.R_alloc | apply Kd.R_drewN | apply Kd.R_drew)); exact HO_5.out⟩, ⟨by repeat (first | (with_reducible first | exact HB.out | apply below_alloc | apply pw_below_drewN | apply below_drew1) | exact HB.out | exact Below.refl _ _)⟩⟩
                                  · rw [if_neg c36] at H
                                    exact absurd H (by simp)
                                · rw [if_neg c35] at H
                                  have c35b0 : (((rd_T32 l0 x9_3).f0) == 17) = false := beq_eq_false_iff_ne.mpr c35
                                  have c35b1 : (((rd_T32 l0 x9_3).f0) != 17) = true := bne_iff_ne.mpr c35
                                  by_cases c40 : ((rd_T32 l0 x9_3).f0) = 18
                                  · rw [if_pos c40] at H
                                    have c40b0 : (((rd_T32 l0 x9_3).f0) == 18) = true := beq_iff_eq.mpr c40
                                    have c40b1 : (((rd_T32 l0 x9_3).f0) != 18) = false := bne_eq_false_iff_eq.mpr c40
                                    clear c40
                                    by_cases c41 : 0 ≤ ((rd_T32 l0 x9_3).f1)
                                    · rw [if_pos c41] at H
                                      have c41b0 := eq_true c41
                                      have c41b1 : decide (0 ≤ ((rd_T32 l0 x9_3).f1)) = true := decide_eq_true c41
                                      clear c41
                                      obtain ⟨ji42, hji42⟩ : ∃ j_ : Int, (shl .i64 1 ((rd_T32 l0 x9_3).f1)) = j_ := ⟨_, rfl⟩
                                      replace H : (if (Go.bits .and .i64 (rd t456 x9_3) (ji42)) = 0 then (some false) else (camshaftlaw06_NestLocks.l1 k3 l0 t456 x7_2 (wrap64 (x9_3 + 1)))) = some r := by first | (rw [hji42] at H; exact H) | (simp only [hji42] at H ⊢; exact H)
                                      have hji42_ : (IntKind.i64.wrap (1 * 2 ^ min ((rd_T32 l0 x9_3).f1).toNat 64)) = ji42 := hji42
                                      have hji42z : ((rd_T32 l0 x9_3).f1) ≤ 64 → (IntKind.i64.wrap (1 * 2 ^ ((rd_T32 l0 x9_3).f1).toNat)) = ji42 := shl_small hji42
                                      have hji42u : (IntKind.i64.wrap (2 ^ min ((rd_T32 l0 x9_3).f1).toNat 64)) = ji42 := by have h_ := hji42_; rw [Int.one_mul] at h_; exact h_
                                      have hji42v : ((rd_T32 l0 x9_3).f1) ≤ 64 → (IntKind.i64.wrap (2 ^ ((rd_T32 l0 x9_3).f1).toNat)) = ji42 := fun hle_ => by have h_ := hji42z hle_; rw [Int.one_mul] at h_; exact h_
                                      have hji42y : (wrap64 (1 * 2 ^ min ((rd_T32 l0 x9_3).f1).toNat 64)) = ji42 := (i64_w _).symm.trans hji42_
                                      have hji42x : ((rd_T32 l0 x9_3).f1) ≤ 64 → (wrap64 (1 * 2 ^ ((rd_T32 l0 x9_3).f1).toNat)) = ji42 := fun h_ => (i64_w _).symm.trans (hji42z h_)
                                      by_cases c43 : (Go.bits .and .i64 (rd t456 x9_3) (ji42)) = 0
                                      · rw [if_pos c43] at H
                                        have c43b0 : ((Go.bits .and .i64 (rd t456 x9_3) (ji42)) == 0) = true := beq_iff_eq.mpr c43
                                        have c43b1 : ((Go.bits .and .i64 (rd t456 x9_3) (ji42)) != 0) = false := bne_eq_false_iff_eq.mpr c43
                                        clear c43
                                        exact absurd ((Option.some.inj H).trans HT.out) (by decide)
                                      · rw [if_neg c43] at H
                                        have c43b0 : ((Go.bits .and .i64 (rd t456 x9_3) (ji42)) == 0) = false := beq_eq_false_iff_ne.mpr c43
                                        have c43b1 : ((Go.bits .and .i64 (rd t456 x9_3) (ji42)) != 0) = true := bne_iff_ne.mpr c43
                                        have H' := Aside0.mk H
                                        clear H
                                        obtain ⟨Ao44, co44, eo44⟩ := Kd.R_slice HO_5.out
                                        subst eo44
                                        have p466 : 0 ≤ (x9_3 : Int) := of_decide_eq_true (by first | (with_reducible assumption) | assumption)
                                        have q466 : x9_3 < (t456.length : Int) := of_decide_eq_true (by first | (with_reducible assumption) | assumption)
                                        obtain ⟨ad466, e466, hx466_0⟩ := Kd.at_int (Kd.R_reads' HO_5.out).2.2 x9_3 p466 q466
                                        cases e466
                                        replace p466 := eq_true p466
                                        replace q466 := eq_true q466
                                        have p467 : 0 ≤ (x9_3 : Int) := of_decide_eq_true (by first | (with_reducible assumption) | assumption)
                                        have q467 : x9_3 < (t456.length : Int) := of_decide_eq_true (by first | (with_reducible assumption) | assumption)
                                        obtain ⟨ad467, e467, hx467_0⟩ := Kd.at_int (Kd.R_reads' HO_5.out).2.2 x9_3 p467 q467
                                        obtain rfl : ad466 = ad467 := (by injection e467)
                                        replace p467 := eq_true p467
                                        replace q467 := eq_true q467
                                        have p468 : 0 ≤ (x9_3 : Int) := of_decide_eq_true (by first | (with_reducible assumption) | assumption)
                                        have q468 : x9_3 < (t456.length : Int) := of_decide_eq_true (by first | (with_reducible assumption) | assumption)
                                        obtain ⟨ad468, e468, hx468_0⟩ := Kd.at_int (Kd.R_reads' HO_5.out).2.2 x9_3 p468 q468
                                        obtain rfl : ad466 = ad468 := (by injection e468)
                                        replace p468 := eq_true p468
                                        replace q468 := eq_true q468
                                        have p469 : 0 ≤ (x9_3 : Int) := of_decide_eq_true (by first | (with_reducible assumption) | assumption)
                                        have q469 : x9_3 < (l0.length : Int) := of_decide_eq_true (by first | (with_reducible assumption) | assumption)
                                        obtain ⟨ad469, e469, hx469_0, hx469_1, hx469_2⟩ := at_T32 HR0.out x9_3 p469 q469
                                        cases e469
                                        replace hx469_0 := (HB.out.cell (World.block_lt_of_cell? w _ hx469_0)).trans hx469_0
                                        replace hx469_1 := (HB.out.cell (World.block_lt_of_cell? w _ hx469_1)).trans hx469_1
                                        replace hx469_2 := (HB.out.cell (World.block_lt_of_cell? w _ hx469_2)).trans hx469_2
                                        replace p469 := eq_true p469
                                        replace q469 := eq_true q469
                                        have p472 : 0 ≤ (x9_3 : Int) := of_decide_eq_true (by first | (with_reducible assumption) | assumption)
                                        have q472 : x9_3 < (l0.length : Int) := of_decide_eq_true (by first | (with_reducible assumption) | assumption)
                                        obtain ⟨ad472, e472, hx472_0, hx472_1, hx472_2⟩ := at_T32 HR0.out x9_3 p472 q472
                                        obtain rfl : ad469 = ad472 := (by injection e472)
                                        replace hx472_0 := (HB.out.cell (World.block_lt_of_cell? w _ hx472_0)).trans hx472_0
                                        replace hx472_1 := (HB.out.cell (World.block_lt_of_cell? w _ hx472_1)).trans hx472_1
                                        replace hx472_2 := (HB.out.cell (World.block_lt_of_cell? w _ hx472_2)).trans hx472_2
                                        replace p472 := eq_true p472
                                        replace q472 := eq_true q472
                                        have p473 : 0 ≤ (x9_3 : Int) := of_decide_eq_true (by first | (with_reducible assumption) | assumption)
                                        have q473 : x9_3 < (t456.length : Int) := of_decide_eq_true (by first | (with_reducible assumption) | assumption)
                                        obtain ⟨ad473, e473, hx473_0⟩ := Kd.at_int (Kd.R_reads' HO_5.out).2.2 x9_3 p473 q473
                                        obtain rfl : ad466 = ad473 := (by injection e473)
                                        replace p473 := eq_true p473
                                        replace q473 := eq_true q473
                                        have p474 : 0 ≤ (x9_3 : Int) := of_decide_eq_true (by first | (with_reducible assumption) | assumption)
                                        have q474 : x9_3 < (l0.length : Int) := of_decide_eq_true (by first | (with_reducible assumption) | assumption)
                                        obtain ⟨ad474, e474, hx474_0, hx474_1, hx474_2⟩ := at_T32 HR0.out x9_3 p474 q474
                                        obtain rfl : ad469 = ad474 := (by injection e474)
                                        replace hx474_0 := (HB.out.cell (World.block_lt_of_cell? w _ hx474_0)).trans hx474_0
                                        replace hx474_1 := (HB.out.cell (World.block_lt_of_cell? w _ hx474_1)).trans hx474_1
                                        replace hx474_2 := (HB.out.cell (World.block_lt_of_cell? w _ hx474_2)).trans hx474_2
                                        replace p474 := eq_true p474
                                        replace q474 := eq_true q474
                                        go_wp2
                                        repeat (go_quiet (fail); try go_wp2)
                                        go_roundg k3
                                        case measure => have := HJ7.out; have := HK2.out; have := HK3.out; omega
                                        case rel => exact ⟨(wrap64 (x9_3 + 1)), (by first | rfl | (simp; done) | (simp [*]; done)), H', ⟨by have := HJ7.out; have := HK2.out; have := HK3.out; omega⟩, ⟨by (with_reducible repeat (first | apply Kd.R_alloc | apply Kd.R_drewN | apply Kd.R_drew)); exact HO_5.out⟩, ⟨by repeat (first | (with_reducible first | exact HB.out | apply below_alloc | apply pw_below_drewN | apply below_drew1) | exact HB.out | exact Below.refl _ _)⟩⟩
                                    · rw [if_neg c41] at H
                                      exact absurd H (by simp)
                                  · rw [if_neg c40] at H
                                    have c40b0 : (((rd_T32 l0 x9_3).f0) == 18) = false := beq_eq_false_iff_ne.mpr c40
                                    have c40b1 : (((rd_T32 l0 x9_3).f0) != 18) = true := bne_iff_ne.mpr c40
                                    have H' := Aside0.mk H
                                    clear H
                                    obtain ⟨Ao45, co45, eo45⟩ := Kd.R_slice HO_5.out
                                    subst eo45
                                    have p466 : 0 ≤ (x9_3 : Int) := of_decide_eq_true (by first | (with_reducible assumption) | assumption)
                                    have q466 : x9_3 < (t456.length : Int) := of_decide_eq_true (by first | (with_reducible assumption) | assumption)
                                    obtain ⟨ad466, e466, hx466_0⟩ := Kd.at_int (Kd.R_reads' HO_5.out).2.2 x9_3 p466 q466
                                    cases e466
                                    replace p466 := eq_true p466
                                    replace q466 := eq_true q466
                                    have p467 : 0 ≤ (x9_3 : Int) := of_decide_eq_true (by first | (with_reducible assumption) | assumption)
                                    have q467 : x9_3 < (t456.length : Int) := of_decide_eq_true (by first | (with_reducible assumption) | assumption)
                                    obtain ⟨ad467, e467, hx467_0⟩ := Kd.at_int (Kd.R_reads' HO_5.out).2.2 x9_3 p467 q467
                                    obtain rfl : ad466 = ad467 := (by injection e467)
                                    replace p467 := eq_true p467
                                    replace q467 := eq_true q467
                                    have p468 : 0 ≤ (x9_3 : Int) := of_decide_eq_true (by first | (with_reducible assumption) | assumption)
                                    have q468 : x9_3 < (t456.length : Int) := of_decide_eq_true (by first | (with_reducible assumption) | assumption)
                                    obtain ⟨ad468, e468, hx468_0⟩ := Kd.at_int (Kd.R_reads' HO_5.out).2.2 x9_3 p468 q468
                                    obtain rfl : ad466 = ad468 := (by injection e468)
                                    replace p468 := eq_true p468
                                    replace q468 := eq_true q468
                                    have p469 : 0 ≤ (x9_3 : Int) := of_decide_eq_true (by first | (with_reducible assumption) | assumption)
                                    have q469 : x9_3 < (l0.length : Int) := of_decide_eq_true (by first | (with_reducible assumption) | assumption)
                                    obtain ⟨ad469, e469, hx469_0, hx469_1, hx469_2⟩ := at_T32 HR0.out x9_3 p469 q469
                                    cases e469
                                    replace hx469_0 := (HB.out.cell (World.block_lt_of_cell? w _ hx469_0)).trans hx469_0
                                    replace hx469_1 := (HB.out.cell (World.block_lt_of_cell? w _ hx469_1)).trans hx469_1
                                    replace hx469_2 := (HB.out.cell (World.block_lt_of_cell? w _ hx469_2)).trans hx469_2
                                    replace p469 := eq_true p469
                                    replace q469 := eq_true q469
                                    have p472 : 0 ≤ (x9_3 : Int) := of_decide_eq_true (by first | (with_reducible assumption) | assumption)
                                    have q472 : x9_3 < (l0.length : Int) := of_decide_eq_true (by first | (with_reducible assumption) | assumption)
                                    obtain ⟨ad472, e472, hx472_0, hx472_1, hx472_2⟩ := at_T32 HR0.out x9_3 p472 q472
                                    obtain rfl : ad469 = ad472 := (by injection e472)
                                    replace hx472_0 := (HB.out.cell (World.block_lt_of_cell? w _ hx472_0)).trans hx472_0
                                    replace hx472_1 := (HB.out.cell (World.block_lt_of_cell? w _ hx472_1)).trans hx472_1
                                    replace hx472_2 := (HB.out.cell (World.block_lt_of_cell? w _ hx472_2)).trans hx472_2
                                    replace p472 := eq_true p472
                                    replace q472 := eq_true q472
                                    go_wp2
                                    repeat (go_quiet (fail); try go_wp2)
                                    go_roundg k3
                                    case measure => have := HJ7.out; have := HK2.out; have := HK3.out; omega
                                    case rel => exact ⟨(wrap64 (x9_3 + 1)), (by first | rfl | (simp; done) | (simp [*]; done)), H', ⟨by have := HJ7.out; have := HK2.out; have := HK3.out; omega⟩, ⟨by (with_reducible repeat (first | apply Kd.R_alloc | apply Kd.R_drewN | apply Kd.R_drew)); exact HO_5.out⟩, ⟨by repeat (first | (with_reducible first | exact HB.out | apply below_alloc | apply pw_below_drewN | apply below_drew1) | exact HB.out | exact Below.refl _ _)⟩⟩
                              · rw [if_neg c34] at H
                                have c34b0 : ((Go.bits .and .i64 (rd t456 x9_3) x7_2) == (rd t456 x9_3)) = false := beq_eq_false_iff_ne.mpr c34
                                have c34b1 : ((Go.bits .and .i64 (rd t456 x9_3) x7_2) != (rd t456 x9_3)) = true := bne_iff_ne.mpr c34
                                exact absurd ((Option.some.inj H).trans HT.out) (by decide)
                          · rw [if_neg c32] at H
                            exact absurd H (by simp)
                        · rw [if_neg c31] at H
                          exact absurd H (by simp)
                      · rw [if_neg c30] at H
                        have c30b0 : decide (x9_3 < (l0.length : Int)) = false := decide_eq_false c30
                        clear c30
                        obtain ⟨ji46, hji46⟩ : ∃ j_ : Int, (wrap64 ((l0.length : Int) - 1)) = j_ := ⟨_, rfl⟩
                        replace H : (if 0 ≤ (ji46) then (if (ji46) < (t456.length : Int) then (if (rd t456 (ji46)) = 0 then ((camshaftlaw06_known.f k3).bind fun t476 => (some t476)) else (some false)) else (none)) else (none)) = some r := by first | (rw [hji46] at H; exact H) | (simp only [hji46] at H ⊢; exact H)
                        have hji46w : (IntKind.i64.wrap ((l0.length : Int) - 1)) = ji46 := (i64_w _).trans hji46
                        by_cases c47 : 0 ≤ (ji46)
                        · rw [if_pos c47] at H
                          have c47b0 : decide (0 ≤ (ji46)) = true := decide_eq_true c47
                          clear c47
                          by_cases c48 : (ji46) < (t456.length : Int)
                          · rw [if_pos c48] at H
                            have c48b0 : decide ((ji46) < (t456.length : Int)) = true := decide_eq_true c48
                            clear c48
                            by_cases c49 : (rd t456 (ji46)) = 0
                            · rw [if_pos c49] at H
                              have c49b0 : ((rd t456 (ji46)) == 0) = true := beq_iff_eq.mpr c49
                              have c49b1 : ((rd t456 (ji46)) != 0) = false := bne_eq_false_iff_eq.mpr c49
                              clear c49
                              replace H := Option.bind_eq_some_iff.mp H
                              obtain ⟨t476, A500, H⟩ := H
                              replace H : (some t476) = some r := H
                              have A50 := Aside0.mk A500
                              clear A500
                              obtain rfl := Option.some.inj H
                              obtain ⟨Ao51, co51, eo51⟩ := Kd.R_slice HO_5.out
                              subst eo51
                              have p475 : 0 ≤ ((ji46) : Int) := of_decide_eq_true (by first | (with_reducible assumption) | assumption)
                              have q475 : (ji46) < (t456.length : Int) := of_decide_eq_true (by first | (with_reducible assumption) | assumption)
                              obtain ⟨ad475, e475, hx475_0⟩ := Kd.at_int (Kd.R_reads' HO_5.out).2.2 (ji46) p475 q475
                              cases e475
                              replace p475 := eq_true p475
                              replace q475 := eq_true q475
                              go_wp2_with (first | (go_at_call 10; (with_reducible refine (camshaftlaw06_known.calls k3  t476 _ A50.out).mono ?_); rintro e w52 ⟨rfl, hb⟩; have n0_ := Aside0.mk (Kd.R_below (by (with_reducible repeat (first | apply Kd.R_alloc | apply Kd.R_drewN | apply Kd.R_drew)); exact HO_5.out) hb); have n1_ := Aside0.mk (below_step (by repeat (first | (with_reducible first | exact HB.out | apply below_alloc | apply pw_below_drewN | apply below_drew1) | exact HB.out)) hb); clear HO_5; clear HB; have HO_5 := n0_; have HB := n1_; clear n0_ n1_; (try clear hb); (try clear hb2); (try clear hk); (try clear hi)))
                              repeat (go_quiet (first | (go_at_call 10; (with_reducible refine (camshaftlaw06_known.calls k3  t476 _ A50.out).mono ?_); rintro e w52 ⟨rfl, hb⟩; have n0_ := Aside0.mk (Kd.R_below (by (with_reducible repeat (first | apply Kd.R_alloc | apply Kd.R_drewN | apply Kd.R_drew)); exact HO_5.out) hb); have n1_ := Aside0.mk (below_step (by repeat (first | (with_reducible first | exact HB.out | apply below_alloc | apply pw_below_drewN | apply below_drew1) | exact HB.out)) hb); clear HO_5; clear HB; have HO_5 := n0_; have HB := n1_; clear n0_ n1_; (try clear hb); (try clear hb2); (try clear hk); (try clear hi))); try go_wp2_with (first | (go_at_call 10; (with_reducible refine (camshaftlaw06_known.calls k3  t476 _ A50.out).mono ?_); rintro e w52 ⟨rfl, hb⟩; have n0_ := Aside0.mk (Kd.R_below (by (with_reducible repeat (first | apply Kd.R_alloc | apply Kd.R_drewN | apply Kd.R_drew)); exact HO_5.out) hb); have n1_ := Aside0.mk (below_step (by repeat (first | (with_reducible first | exact HB.out | apply below_alloc | apply pw_below_drewN | apply below_drew1) | exact HB.out)) hb); clear HO_5; clear HB; have HO_5 := n0_; have HB := n1_; clear n0_ n1_; (try clear hb); (try clear hb2); (try clear hk); (try clear hi))))
                              go_ret
                              exact ⟨by first | rfl | (simp [errW_none, errW_some] <;> rfl) | (simp only [← hji46]; first | rfl | (simp [errW_none, errW_some] <;> rfl)) | (simp [*, errW_none, errW_some] <;> rfl), by repeat (first | (with_reducible first | exact HB.out | apply below_alloc | apply pw_below_drewN | apply below_drew1) | exact HB.out | exact Below.refl _ _)⟩
                            · rw [if_neg c49] at H
                              have c49b0 : ((rd t456 (ji46)) == 0) = false := beq_eq_false_iff_ne.mpr c49
                              have c49b1 : ((rd t456 (ji46)) != 0) = true := bne_iff_ne.mpr c49
                              exact absurd ((Option.some.inj H).trans HT.out) (by decide)
                          · rw [if_neg c48] at H
                            exact absurd H (by simp)
                        · rw [if_neg c47] at H
                          exact absurd H (by simp)
    · rw [if_neg c6] at H
      have c6b0 : (t452 == 0) = false := beq_eq_false_iff_ne.mpr c6
      have c6b1 : (t452 != 0) = true := bne_iff_ne.mpr c6
      by_cases c53 : (t451.length : Int) = 0
      · rw [if_pos c53] at H
        have c53b0 : ((t451.length : Int) == 0) = true := beq_iff_eq.mpr c53
        have c53b1 : ((t451.length : Int) != 0) = false := bne_eq_false_iff_eq.mpr c53
        clear c53
        replace H := Option.bind_eq_some_iff.mp H
        obtain ⟨t455, A540, H⟩ := H
        replace H : (some t455) = some r := H
        have A54 := Aside0.mk A540
        clear A540
        obtain rfl := Option.some.inj H
        go_enter Try.func6, Try.ntmps6
        go_wp2_with (first | (go_at_call 15; (with_reducible refine (nest_Locks.calls k _ _ l0 t451 t452 _ ?side1 ?side2 A5.out).mono ?_); (case side1 => repeat (first | exact HR0.out | (with_reducible refine Kd.C_alloc ?_ _) | (with_reducible refine Kd.C_drewN ?_ _) | (with_reducible refine Kd.C_drew ?_))); (case side2 => exact HC0.out); rintro e w55 ⟨v453, rfl, ho0, hb⟩; have n0_ := Aside0.mk (Kd.R_lower ho0 (below_size (by repeat (first | (with_reducible first | exact HB.out | apply below_alloc | apply pw_below_drewN | apply below_drew1) | exact HB.out)))); have n1_ := Aside0.mk (below_step (by repeat (first | (with_reducible first | exact HB.out | apply below_alloc | apply pw_below_drewN | apply below_drew1) | exact HB.out)) hb); clear HB; have HO454 := n0_; have HB := n1_; clear n0_ n1_; (try clear hb); (try clear hb2); (try clear hk); (try clear hi); (try clear ho0); obtain ⟨Ao56, co56, eo56⟩ := Kd.R_slice HO454.out; subst eo56) | (go_at_call 10; (with_reducible refine (camshaftlaw06_known.calls k  t455 _ A54.out).mono ?_); rintro e w57 ⟨rfl, hb⟩; have n0_ := Aside0.mk (Kd.R_below (by (with_reducible repeat (first | apply Kd.R_alloc | apply Kd.R_drewN | apply Kd.R_drew)); exact HO454.out) hb); have n1_ := Aside0.mk (below_step (by repeat (first | (with_reducible first | exact HB.out | apply below_alloc | apply pw_below_drewN | apply below_drew1) | exact HB.out)) hb); clear HO454; clear HB; have HO454 := n0_; have HB := n1_; clear n0_ n1_; (try clear hb); (try clear hb2); (try clear hk); (try clear hi)))
        repeat (go_quiet (first | (go_at_call 15; (with_reducible refine (nest_Locks.calls k _ _ l0 t451 t452 _ ?side1 ?side2 A5.out).mono ?_); (case side1 => repeat (first | exact HR0.out | (with_reducible refine Kd.C_alloc ?_ _) | (with_reducible refine Kd.C_drewN ?_ _) | (with_reducible refine Kd.C_drew ?_))); (case side2 => exact HC0.out); rintro e w55 ⟨v453, rfl, ho0, hb⟩; have n0_ := Aside0.mk (Kd.R_lower ho0 (below_size (by repeat (first | (with_reducible first | exact HB.out | apply below_alloc | apply pw_below_drewN | apply below_drew1) | exact HB.out)))); have n1_ := Aside0.mk (below_step (by repeat (first | (with_reducible first | exact HB.out | apply below_alloc | apply pw_below_drewN | apply below_drew1) | exact HB.out)) hb); clear HB; have HO454 := n0_; have HB := n1_; clear n0_ n1_; (try clear hb); (try clear hb2); (try clear hk); (try clear hi); (try clear ho0); obtain ⟨Ao56, co56, eo56⟩ := Kd.R_slice HO454.out; subst eo56) | (go_at_call 10; (with_reducible refine (camshaftlaw06_known.calls k  t455 _ A54.out).mono ?_); rintro e w57 ⟨rfl, hb⟩; have n0_ := Aside0.mk (Kd.R_below (by (with_reducible repeat (first | apply Kd.R_alloc | apply Kd.R_drewN | apply Kd.R_drew)); exact HO454.out) hb); have n1_ := Aside0.mk (below_step (by repeat (first | (with_reducible first | exact HB.out | apply below_alloc | apply pw_below_drewN | apply below_drew1) | exact HB.out)) hb); clear HO454; clear HB; have HO454 := n0_; have HB := n1_; clear n0_ n1_; (try clear hb); (try clear hb2); (try clear hk); (try clear hi))); try go_wp2_with (first | (go_at_call 15; (with_reducible refine (nest_Locks.calls k _ _ l0 t451 t452 _ ?side1 ?side2 A5.out).mono ?_); (case side1 => repeat (first | exact HR0.out | (with_reducible refine Kd.C_alloc ?_ _) | (with_reducible refine Kd.C_drewN ?_ _) | (with_reducible refine Kd.C_drew ?_))); (case side2 => exact HC0.out); rintro e w55 ⟨v453, rfl, ho0, hb⟩; have n0_ := Aside0.mk (Kd.R_lower ho0 (below_size (by repeat (first | (with_reducible first | exact HB.out | apply below_alloc | apply pw_below_drewN | apply below_drew1) | exact HB.out)))); have n1_ := Aside0.mk (below_step (by repeat (first | (with_reducible first | exact HB.out | apply below_alloc | apply pw_below_drewN | apply below_drew1) | exact HB.out)) hb); clear HB; have HO454 := n0_; have HB := n1_; clear n0_ n1_; (try clear hb); (try clear hb2); (try clear hk); (try clear hi); (try clear ho0); obtain ⟨Ao56, co56, eo56⟩ := Kd.R_slice HO454.out; subst eo56) | (go_at_call 10; (with_reducible refine (camshaftlaw06_known.calls k  t455 _ A54.out).mono ?_); rintro e w57 ⟨rfl, hb⟩; have n0_ := Aside0.mk (Kd.R_below (by (with_reducible repeat (first | apply Kd.R_alloc | apply Kd.R_drewN | apply Kd.R_drew)); exact HO454.out) hb); have n1_ := Aside0.mk (below_step (by repeat (first | (with_reducible first | exact HB.out | apply below_alloc | apply pw_below_drewN | apply below_drew1) | exact HB.out)) hb); clear HO454; clear HB; have HO454 := n0_; have HB := n1_; clear n0_ n1_; (try clear hb); (try clear hb2); (try clear hk); (try clear hi))))
        go_ret
        exact ⟨by first | rfl | (simp [errW_none, errW_some] <;> rfl) | (simp [*, errW_none, errW_some] <;> rfl), by repeat (first | (with_reducible first | exact HB.out | apply below_alloc | apply pw_below_drewN | apply below_drew1) | exact HB.out | exact Below.refl _ _)⟩
      · rw [if_neg c53] at H
        have c53b0 : ((t451.length : Int) == 0) = false := beq_eq_false_iff_ne.mpr c53
        have c53b1 : ((t451.length : Int) != 0) = true := bne_iff_ne.mpr c53
        have c53b2 : ¬ (t451 = []) := fun h_ => c53 (by rw [h_]; rfl)
        exact absurd ((Option.some.inj H).trans HT.out) (by decide)

/-- THE ONE PURE STATEMENT of camshaftlaw06_NestLocks. -/
def camshaftlaw06_NestLocks.Pure : Prop := ∀ (l0 : List S32), l0.length * 24 ≤ 140737488351232 → (∀ x ∈ l0, (Lit.int .i64 x.f0).wf = true ∧ (Lit.int .i64 x.f1).wf = true ∧ (Lit.int .i64 x.f2).wf = true) → ∃ k, camshaftlaw06_NestLocks.f k l0 = some true
theorem camshaftlaw06_NestLocks.walk (P : camshaftlaw06_NestLocks.Pure) (A0 : Option Addr) (c0 : Nat) (l0 : List S32) (w : World) (hr0 : Kd.C k32 w A0 l0.length l0) (hc0 : l0.length ≤ c0) (y0 : l0.length * 24 ≤ 140737488351232) (hw0 : ∀ x ∈ l0, (Lit.int .i64 x.f0).wf = true ∧ (Lit.int .i64 x.f1).wf = true ∧ (Lit.int .i64 x.f2).wf = true) :
    Calls Try.prog 6 #[.slice A0 l0.length c0] w fun e w' => e = .returned (.bool true) ∧ Below w.heap.size w w' := by
  obtain ⟨k, h⟩ := P l0 y0 hw0
  refine (camshaftlaw06_NestLocks.calls k A0 c0 l0 true w hr0 hc0 h rfl).mono ?_
  rintro e w' ⟨rfl, hd⟩
  exact ⟨rfl, hd⟩

end Go.Proofs.Ytljgllcllddcdaa.P
