-- Written by a program of this session (wip/tools: patched print) for this claim. Not trusted: Lean checks it.
import Derived.Test.YtljgllcllddcdaaPx0
import Derived.Test.YtljgllcllddcdaaPx4
import Derived.Test.YtljgllcllddcdaaPx6
import Derived.Test.YtljgllcllddcdaaPx9
namespace Go.Proofs.Ytljgllcllddcdaa.P
open Go.RowKit Go.Proofs.YtljgllcllddcdaaW.PrintWords Go.Proofs.YtljgllcllddcdaaW.PrintLast Go.Proofs.YtljgllcllddcdaaW.PrintMore
attribute [local go_sem] max2_int min2_int max_two min_two max_three min_three max_four min_four   -- for this text's walks alone
set_option linter.unusedVariables false
set_option linter.unusedSimpArgs false

/-! ### camshaftlaw06_NestJumps: function 5 -/
mutual
def camshaftlaw06_NestJumps.j0 : Nat → List (S32) → Bool → Option (Bool)
  | 0, _, _ => none
  | k + 1, x0, x17 => if x17 = true then ((camshaftlaw06_known.f k).bind fun t437 => (some t437)) else ((nest_Match.f k x0).bind fun bt438 => (if bt438.2 = 0 then (camshaftlaw06_NestJumps.j1 k x0 bt438.1 ((bt438.1.length : Int) != (x0.length : Int))) else (camshaftlaw06_NestJumps.j1 k x0 bt438.1 true)))
def camshaftlaw06_NestJumps.j1 : Nat → List (S32) → List Int → Bool → Option (Bool)
  | 0, _, _, _ => none
  | k + 1, x0, x3, x32 => if x32 = true then (some false) else (camshaftlaw06_NestJumps.l0 k x0 x3 0)
def camshaftlaw06_NestJumps.l0 : Nat → List (S32) → List Int → Int → Option (Bool)
  | 0, _, _, _ => none
  | k + 1, x0, x3, x5 => if x5 < (x0.length : Int) then (if 0 ≤ x5 then (if ((rd_T32 x0 x5).f0) = 19 then (camshaftlaw06_NestJumps.j3 k x0 x3 x5 false) else (camshaftlaw06_NestJumps.j3 k x0 x3 x5 (((rd_T32 x0 x5).f0) != 20))) else (none)) else (if 0 ≤ (wrap64 ((x0.length : Int) - 1)) then (if (wrap64 ((x0.length : Int) - 1)) < (x0.length : Int) then (if ((rd_T32 x0 (wrap64 ((x0.length : Int) - 1))).f0) = 25 then ((camshaftlaw06_known.f k).bind fun t443 => (some t443)) else (some false)) else (none)) else (none))
def camshaftlaw06_NestJumps.j3 : Nat → List (S32) → List Int → Int → Bool → Option (Bool)
  | 0, _, _, _, _ => none
  | k + 1, x0, x3, x5, x52 => if x52 = true then (camshaftlaw06_NestJumps.l0 k x0 x3 (wrap64 (x5 + 1))) else (if 0 ≤ x5 then (if x5 < (x0.length : Int) then (if (wrap64 ((wrap64 (x5 + 1)) + ((rd_T32 x0 x5).f1))) ≥ (x0.length : Int) then (some false) else (camshaftlaw06_NestJumps.l1 k x0 x3 x5 (wrap64 ((wrap64 (x5 + 1)) + ((rd_T32 x0 x5).f1))) 0)) else (none)) else (none))
def camshaftlaw06_NestJumps.l1 : Nat → List (S32) → List Int → Int → Int → Int → Option (Bool)
  | 0, _, _, _, _, _ => none
  | k + 1, x0, x3, x5, x6, x7 => if x7 < (x0.length : Int) then (if x7 < x5 then (if 0 ≤ x7 then (if x7 < (x3.length : Int) then (if x7 < x6 then (if ((decide ((rd x3 x7) ≥ x5)) != (decide ((rd x3 x7) ≥ x6))) = true then (some false) else (camshaftlaw06_NestJumps.l1 k x0 x3 x5 x6 (wrap64 (x7 + 1)))) else (if ((decide ((rd x3 x7) ≥ x5)) != false) = true then (some false) else (camshaftlaw06_NestJumps.l1 k x0 x3 x5 x6 (wrap64 (x7 + 1))))) else (none)) else (none)) else (if x7 < x6 then (if 0 ≤ x7 then (if x7 < (x3.length : Int) then (if (false != (decide ((rd x3 x7) ≥ x6))) = true then (some false) else (camshaftlaw06_NestJumps.l1 k x0 x3 x5 x6 (wrap64 (x7 + 1)))) else (none)) else (none)) else (if (false != false) = true then (some false) else (camshaftlaw06_NestJumps.l1 k x0 x3 x5 x6 (wrap64 (x7 + 1)))))) else (camshaftlaw06_NestJumps.l0 k x0 x3 (wrap64 (x5 + 1)))
end
def camshaftlaw06_NestJumps.f (k : Nat) (l0 : List (S32)) : Option (Bool) := if (l0.length : Int) > 200 then (camshaftlaw06_NestJumps.j0 k l0 true) else ((nest_Whole.f k l0).bind fun t436 => (camshaftlaw06_NestJumps.j0 k l0 (t436 != 0)))
theorem camshaftlaw06_NestJumps.mono_l : ∀ k, (∀ y0 y1, LeO (camshaftlaw06_NestJumps.j0 k y0 y1) (camshaftlaw06_NestJumps.j0 (k + 1) y0 y1)) ∧ (∀ y0 y1 y2, LeO (camshaftlaw06_NestJumps.j1 k y0 y1 y2) (camshaftlaw06_NestJumps.j1 (k + 1) y0 y1 y2)) ∧ (∀ y0 y1 y2, LeO (camshaftlaw06_NestJumps.l0 k y0 y1 y2) (camshaftlaw06_NestJumps.l0 (k + 1) y0 y1 y2)) ∧ (∀ y0 y1 y2 y3, LeO (camshaftlaw06_NestJumps.j3 k y0 y1 y2 y3) (camshaftlaw06_NestJumps.j3 (k + 1) y0 y1 y2 y3)) ∧ (∀ y0 y1 y2 y3 y4, LeO (camshaftlaw06_NestJumps.l1 k y0 y1 y2 y3 y4) (camshaftlaw06_NestJumps.l1 (k + 1) y0 y1 y2 y3 y4))
  | 0 => ⟨fun _ _ r h => by simp [camshaftlaw06_NestJumps.j0] at h, fun _ _ _ r h => by simp [camshaftlaw06_NestJumps.j1] at h, fun _ _ _ r h => by simp [camshaftlaw06_NestJumps.l0] at h, fun _ _ _ _ r h => by simp [camshaftlaw06_NestJumps.j3] at h, fun _ _ _ _ _ r h => by simp [camshaftlaw06_NestJumps.l1] at h⟩
  | k + 1 => by
    obtain ⟨ih0, ih1, ih2, ih3, ih4⟩ := camshaftlaw06_NestJumps.mono_l k
    refine ⟨?_, ?_, ?_, ?_, ?_⟩
    · intro y0 y1
      unfold camshaftlaw06_NestJumps.j0
      repeat' first
      | (with_reducible exact ih0 _ _)
      | (with_reducible exact ih1 _ _ _)
      | (with_reducible exact ih2 _ _ _)
      | (with_reducible exact ih3 _ _ _ _)
      | (with_reducible exact ih4 _ _ _ _ _)
      | (with_reducible exact camshaftlaw06_known.mono _)
      | (with_reducible exact nest_Match.mono _ _)
      | (with_reducible exact nest_Whole.mono _ _)
      | (with_reducible exact LeO.refl _)
      | (with_reducible exact LeO.none _)
      | (with_reducible refine LeO.ite ?_ ?_)
      | (with_reducible refine LeO.bind ?_ (fun _ => ?_))
      | exact ih0 _ _
      | exact ih1 _ _ _
      | exact ih2 _ _ _
      | exact ih3 _ _ _ _
      | exact ih4 _ _ _ _ _
      | exact camshaftlaw06_known.mono _
      | exact nest_Match.mono _ _
      | exact nest_Whole.mono _ _
      | exact LeO.none _
      | refine LeO.ite ?_ ?_
      | refine LeO.bind ?_ (fun _ => ?_)
    · intro y0 y1 y2
      unfold camshaftlaw06_NestJumps.j1
      repeat' first
      | (with_reducible exact ih0 _ _)
      | (with_reducible exact ih1 _ _ _)
      | (with_reducible exact ih2 _ _ _)
      | (with_reducible exact ih3 _ _ _ _)
      | (with_reducible exact ih4 _ _ _ _ _)
      | (with_reducible exact camshaftlaw06_known.mono _)
      | (with_reducible exact nest_Match.mono _ _)
      | (with_reducible exact nest_Whole.mono _ _)
      | (with_reducible exact LeO.refl _)
      | (with_reducible exact LeO.none _)
      | (with_reducible refine LeO.ite ?_ ?_)
      | (with_reducible refine LeO.bind ?_ (fun _ => ?_))
      | exact ih0 _ _
      | exact ih1 _ _ _
      | exact ih2 _ _ _
      | exact ih3 _ _ _ _
      | exact ih4 _ _ _ _ _
      | exact camshaftlaw06_known.mono _
      | exact nest_Match.mono _ _
      | exact nest_Whole.mono _ _
      | exact LeO.none _
      | refine LeO.ite ?_ ?_
      | refine LeO.bind ?_ (fun _ => ?_)
    · intro y0 y1 y2
      unfold camshaftlaw06_NestJumps.l0
      repeat' first
      | (with_reducible exact ih0 _ _)
      | (with_reducible exact ih1 _ _ _)
      | (with_reducible exact ih2 _ _ _)
      | (with_reducible exact ih3 _ _ _ _)
      | (with_reducible exact ih4 _ _ _ _ _)
      | (with_reducible exact camshaftlaw06_known.mono _)
      | (with_reducible exact nest_Match.mono _ _)
      | (with_reducible exact nest_Whole.mono _ _)
      | (with_reducible exact LeO.refl _)
      | (with_reducible exact LeO.none _)
      | (with_reducible refine LeO.ite ?_ ?_)
      | (with_reducible refine LeO.bind ?_ (fun _ => ?_))
      | exact ih0 _ _
      | exact ih1 _ _ _
      | exact ih2 _ _ _
      | exact ih3 _ _ _ _
      | exact ih4 _ _ _ _ _
      | exact camshaftlaw06_known.mono _
      | exact nest_Match.mono _ _
      | exact nest_Whole.mono _ _
      | exact LeO.none _
      | refine LeO.ite ?_ ?_
      | refine LeO.bind ?_ (fun _ => ?_)
    · intro y0 y1 y2 y3
      unfold camshaftlaw06_NestJumps.j3
      repeat' first
      | (with_reducible exact ih0 _ _)
      | (with_reducible exact ih1 _ _ _)
      | (with_reducible exact ih2 _ _ _)
      | (with_reducible exact ih3 _ _ _ _)
      | (with_reducible exact ih4 _ _ _ _ _)
      | (with_reducible exact camshaftlaw06_known.mono _)
      | (with_reducible exact nest_Match.mono _ _)
      | (with_reducible exact nest_Whole.mono _ _)
      | (with_reducible exact LeO.refl _)
      | (with_reducible exact LeO.none _)
      | (with_reducible refine LeO.ite ?_ ?_)
      | (with_reducible refine LeO.bind ?_ (fun _ => ?_))
      | exact ih0 _ _
      | exact ih1 _ _ _
      | exact ih2 _ _ _
      | exact ih3 _ _ _ _
      | exact ih4 _ _ _ _ _
      | exact camshaftlaw06_known.mono _
      | exact nest_Match.mono _ _
      | exact nest_Whole.mono _ _
      | exact LeO.none _
      | refine LeO.ite ?_ ?_
      | refine LeO.bind ?_ (fun _ => ?_)
    · intro y0 y1 y2 y3 y4
      unfold camshaftlaw06_NestJumps.l1
      repeat' first
      | (with_reducible exact ih0 _ _)
      | (with_reducible exact ih1 _ _ _)
      | (with_reducible exact ih2 _ _ _)
      | (with_reducible exact ih3 _ _ _ _)
      | (with_reducible exact ih4 _ _ _ _ _)
      | (with_reducible exact camshaftlaw06_known.mono _)
      | (with_reducible exact nest_Match.mono _ _)
      | (with_reducible exact nest_Whole.mono _ _)
      | (with_reducible exact LeO.refl _)
      | (with_reducible exact LeO.none _)
      | (with_reducible refine LeO.ite ?_ ?_)
      | (with_reducible refine LeO.bind ?_ (fun _ => ?_))
      | exact ih0 _ _
      | exact ih1 _ _ _
      | exact ih2 _ _ _
      | exact ih3 _ _ _ _
      | exact ih4 _ _ _ _ _
      | exact camshaftlaw06_known.mono _
      | exact nest_Match.mono _ _
      | exact nest_Whole.mono _ _
      | exact LeO.none _
      | refine LeO.ite ?_ ?_
      | refine LeO.bind ?_ (fun _ => ?_)
theorem camshaftlaw06_NestJumps.mono : ∀ a0 k, LeO (camshaftlaw06_NestJumps.f k a0) (camshaftlaw06_NestJumps.f (k + 1) a0) := by
  intro a0 k
  obtain ⟨ih0, ih1, ih2, ih3, ih4⟩ := camshaftlaw06_NestJumps.mono_l k
  unfold camshaftlaw06_NestJumps.f
  repeat' first
      | (with_reducible exact ih0 _ _)
      | (with_reducible exact ih1 _ _ _)
      | (with_reducible exact ih2 _ _ _)
      | (with_reducible exact ih3 _ _ _ _)
      | (with_reducible exact ih4 _ _ _ _ _)
      | (with_reducible exact camshaftlaw06_known.mono _)
      | (with_reducible exact nest_Match.mono _ _)
      | (with_reducible exact nest_Whole.mono _ _)
      | (with_reducible exact LeO.refl _)
      | (with_reducible exact LeO.none _)
      | (with_reducible refine LeO.ite ?_ ?_)
      | (with_reducible refine LeO.bind ?_ (fun _ => ?_))
      | exact ih0 _ _
      | exact ih1 _ _ _
      | exact ih2 _ _ _
      | exact ih3 _ _ _ _
      | exact ih4 _ _ _ _ _
      | exact camshaftlaw06_known.mono _
      | exact nest_Match.mono _ _
      | exact nest_Whole.mono _ _
      | exact LeO.none _
      | refine LeO.ite ?_ ?_
      | refine LeO.bind ?_ (fun _ => ?_)
set_option maxHeartbeats 8000000 in
set_option maxRecDepth 100000 in
theorem camshaftlaw06_NestJumps.calls (k : Nat) (A0 : Option Addr) (c0 : Nat) (l0 : List (S32)) (r : Bool) (w : World) (hr0 : Kd.C k32 w A0 l0.length l0) (hc0 : l0.length ≤ c0) (h : camshaftlaw06_NestJumps.f k l0 = some r) (ht : r = true) :
    Calls Try.prog 5 #[.slice A0 l0.length c0] w fun e w' => e = .returned (.bool r) ∧ Below w.heap.size w w' := by
  have HT := Aside0.mk ht
  clear ht
  have HR0 := Aside0.mk hr0
  have HC0 := Aside0.mk hc0
  clear hr0 hc0
  have HB := Aside0.mk (Below.refl w.heap.size w)
  have H : (if (l0.length : Int) > 200 then (camshaftlaw06_NestJumps.j0 k l0 true) else ((nest_Whole.f k l0).bind fun t436 => (camshaftlaw06_NestJumps.j0 k l0 (t436 != 0)))) = some r := h
  clear h
  have HC2 := Aside0.mk H
  clear H
  go_enter Try.func5, Try.ntmps5
  go_upto_region 1 with (fail)
  go_cut [17] (fun v17 wc => ∃ (kq : Nat) (x17_1 : Bool), v17 = .bool x17_1 ∧ Aside0 (camshaftlaw06_NestJumps.j0 kq l0 x17_1 = some r) ∧ Aside0 (kq ≤ k) ∧ Aside0 (Below w.heap.size w wc))
  case first =>
    have H := HC2.out
    clear HC2
    by_cases c3 : (l0.length : Int) > 200
    · rw [if_pos c3] at H
      have c3b0 : decide (200 < (l0.length : Int)) = true := decide_eq_true c3
      have c3b1 : decide (200 < l0.length) = true := decide_eq_true (by omega)
      clear c3
      (first | rw [c3b0] | (simp only [i64_w, i32_w]; rw [c3b0]) | rw [c3b1] | skip)
      have H' := Aside0.mk H
      clear H
      go_wp2
      go_meet
      case rel => exact ⟨_, (true), (by first | rfl | (simp; done) | (simp [*]; done)), H', ⟨by first | omega | exact Nat.le_refl _⟩, ⟨by repeat (first | (with_reducible first | exact HB.out | apply below_alloc | apply pw_below_drewN | apply below_drew1) | exact HB.out | exact Below.refl _ _)⟩⟩
    · rw [if_neg c3] at H
      have c3b0 : decide (200 < (l0.length : Int)) = false := decide_eq_false c3
      have c3b1 : decide (200 < l0.length) = false := decide_eq_false (by omega)
      clear c3
      (first | rw [c3b0] | (simp only [i64_w, i32_w]; rw [c3b0]) | rw [c3b1] | skip)
      replace H := Option.bind_eq_some_iff.mp H
      obtain ⟨t436, A40, H⟩ := H
      replace H : (camshaftlaw06_NestJumps.j0 k l0 (t436 != 0)) = some r := H
      have A4 := Aside0.mk A40
      clear A40
      have H' := Aside0.mk H
      clear H
      go_wp2_with (first | (go_at_call 20; (with_reducible refine (nest_Whole.calls k _ _ l0 t436 _ ?side1 ?side2 A4.out).mono ?_); (case side1 => repeat (first | exact (Kd.C_below HR0.out HB.out) | (with_reducible refine Kd.C_alloc ?_ _) | (with_reducible refine Kd.C_drewN ?_ _) | (with_reducible refine Kd.C_drew ?_))); (case side2 => exact HC0.out); rintro e w5 ⟨rfl, hb⟩; have n0_ := Aside0.mk (below_step (by repeat (first | (with_reducible first | exact HB.out | apply below_alloc | apply pw_below_drewN | apply below_drew1) | exact HB.out)) hb); clear HB; have HB := n0_; clear n0_; (try clear hb); (try clear hb2); (try clear hk); (try clear hi)))
      go_meet
      case rel => exact ⟨_, ((t436 != 0)), (by first | rfl | (simp; done) | (simp [*]; done)), H', ⟨by first | omega | exact Nat.le_refl _⟩, ⟨by repeat (first | (with_reducible first | exact HB.out | apply below_alloc | apply pw_below_drewN | apply below_drew1) | exact HB.out | exact Below.refl _ _)⟩⟩
  case rest =>
    clear HC2
    try clear p2
    try clear c3
    try clear c3b0
    try clear c3b1
    try clear c5
    obtain ⟨kq, x17_1, rfl, HA, HJ1, HB⟩ := hcut
    cases kq with
    | zero => exact absurd HA.out (by simp [camshaftlaw06_NestJumps.j0])
    | succ kj1 =>
      have H := HA.out
      clear HA
      simp only [camshaftlaw06_NestJumps.j0] at H
      by_cases c6 : x17_1 = true
      · subst c6
        have H1 : ((camshaftlaw06_known.f kj1).bind fun t437 => (some t437)) = some r := by rw [if_pos rfl] at H; exact H
        clear H
        have H := H1
        clear H1
        replace H := Option.bind_eq_some_iff.mp H
        obtain ⟨t437, A70, H⟩ := H
        replace H : (some t437) = some r := H
        have A7 := Aside0.mk A70
        clear A70
        obtain rfl := Option.some.inj H
        go_wp2_with (first | ((with_reducible refine gate_callee (f := 10) rfl ?_); refine goesL_ (some 18) rfl rfl Try.func10 (by kernel_rfl) rfl #[] rfl (by (try simp only [List.map_toArray, List.map_cons, List.map_nil]); first | done | rfl | (simp only [List.length_drop, List.length_take]; rfl)) ?_; (with_reducible refine (camshaftlaw06_known.calls kj1  t437 _ A7.out).mono ?_); rintro e w8 ⟨rfl, hb⟩; refine ⟨_, rfl, ?_⟩; have n0_ := Aside0.mk (below_step (by repeat (first | (with_reducible first | exact HB.out | apply below_alloc | apply pw_below_drewN | apply below_drew1) | exact HB.out)) hb); clear HB; have HB := n0_; clear n0_; (try clear hb); (try clear hb2); (try clear hk); (try clear hi)))
        go_ret
        exact ⟨by first | rfl | (simp [errW_none, errW_some] <;> rfl) | (simp [*, errW_none, errW_some] <;> rfl), by repeat (first | (with_reducible first | exact HB.out | apply below_alloc | apply pw_below_drewN | apply below_drew1) | exact HB.out | exact Below.refl _ _)⟩
      · replace c6 := Bool.eq_false_iff.mpr c6
        subst c6
        have H1 : ((nest_Match.f kj1 l0).bind fun bt438 => (if bt438.2 = 0 then (camshaftlaw06_NestJumps.j1 kj1 l0 bt438.1 ((bt438.1.length : Int) != (l0.length : Int))) else (camshaftlaw06_NestJumps.j1 kj1 l0 bt438.1 true))) = some r := by rw [if_neg (show ¬ (false = true) by decide)] at H; exact H
        clear H
        have H := H1
        clear H1
        replace H := Option.bind_eq_some_iff.mp H
        obtain ⟨⟨t438, t439⟩, A90, H⟩ := H
        replace H : (if t439 = 0 then (camshaftlaw06_NestJumps.j1 kj1 l0 t438 ((t438.length : Int) != (l0.length : Int))) else (camshaftlaw06_NestJumps.j1 kj1 l0 t438 true)) = some r := H
        have A9 := Aside0.mk A90
        clear A90
        have HC10 := Aside0.mk H
        clear H
        go_upto_region 4 with (first | ((with_reducible refine gate_callee (f := 11) rfl ?_); refine goesL_ (some 21) rfl rfl Try.func11 (by kernel_rfl) rfl #[.slice A0 l0.length c0] rfl (by (try simp only [List.map_toArray, List.map_cons, List.map_nil]); first | done | rfl | (simp only [List.length_drop, List.length_take]; rfl)) ?_; (with_reducible refine (nest_Match.calls kj1 _ _ l0 t438 t439 _ ?side1 ?side2 A9.out).mono ?_); (case side1 => repeat (first | exact (Kd.C_below HR0.out HB.out) | (with_reducible refine Kd.C_alloc ?_ _) | (with_reducible refine Kd.C_drewN ?_ _) | (with_reducible refine Kd.C_drew ?_))); (case side2 => exact HC0.out); rintro e w11 ⟨v440, rfl, ho0, hb⟩; refine ⟨_, rfl, ?_⟩; have n0_ := Aside0.mk (Kd.R_lower ho0 (below_size (by repeat (first | (with_reducible first | exact HB.out | apply below_alloc | apply pw_below_drewN | apply below_drew1) | exact HB.out)))); have n1_ := Aside0.mk (below_step (by repeat (first | (with_reducible first | exact HB.out | apply below_alloc | apply pw_below_drewN | apply below_drew1) | exact HB.out)) hb); clear HB; have HO441 := n0_; have HB := n1_; clear n0_ n1_; (try clear hb); (try clear hb2); (try clear hk); (try clear hi); (try clear ho0)))
        (try simp only [Act.put, List.setIfInBounds_toArray, List.set_cons_zero, List.set_cons_succ])
        go_cut [32] (fun v32 wc => ∃ (kq : Nat) (x32_9 : Bool), v32 = .bool x32_9 ∧ Aside0 (camshaftlaw06_NestJumps.j1 kq l0 t438 x32_9 = some r) ∧ Aside0 (kq ≤ kj1) ∧ Aside0 (Kd.R (Kd.int .i64) 3 wc w.heap.size (fun _ => True) v440 t438) ∧ Aside0 (Below w.heap.size w wc))
        case first =>
          have H := HC10.out
          clear HC10
          by_cases c12 : t439 = 0
          · rw [if_pos c12] at H
            have c12b0 : (t439 == 0) = true := beq_iff_eq.mpr c12
            have c12b1 : (t439 != 0) = false := bne_eq_false_iff_eq.mpr c12
            clear c12
            (first | rw [c12b0] | (simp only [i64_w, i32_w]; rw [c12b0]) | rw [c12b1] | skip)
            have H' := Aside0.mk H
            clear H
            obtain ⟨Ao13, co13, eo13⟩ := Kd.R_slice HO441.out
            subst eo13
            go_wp2
            go_meet
            case rel => exact ⟨_, (((t438.length : Int) != (l0.length : Int))), (by first | rfl | (simp; done) | (simp [*]; done)), H', ⟨by have := HJ1.out; first | omega | exact Nat.le_refl _⟩, ⟨by (with_reducible repeat (first | apply Kd.R_alloc | apply Kd.R_drewN | apply Kd.R_drew)); exact HO441.out⟩, ⟨by repeat (first | (with_reducible first | exact HB.out | apply below_alloc | apply pw_below_drewN | apply below_drew1) | exact HB.out | exact Below.refl _ _)⟩⟩
          · rw [if_neg c12] at H
            have c12b0 : (t439 == 0) = false := beq_eq_false_iff_ne.mpr c12
            have c12b1 : (t439 != 0) = true := bne_iff_ne.mpr c12
            (first | rw [c12b0] | (simp only [i64_w, i32_w]; rw [c12b0]) | rw [c12b1] | skip)
            have H' := Aside0.mk H
            clear H
            go_wp2
            go_meet
            case rel => exact ⟨_, (true), (by first | rfl | (simp; done) | (simp [*]; done)), H', ⟨by have := HJ1.out; first | omega | exact Nat.le_refl _⟩, ⟨by (with_reducible repeat (first | apply Kd.R_alloc | apply Kd.R_drewN | apply Kd.R_drew)); exact HO441.out⟩, ⟨by repeat (first | (with_reducible first | exact HB.out | apply below_alloc | apply pw_below_drewN | apply below_drew1) | exact HB.out | exact Below.refl _ _)⟩⟩
        case rest =>
          clear HC10
          try clear c1
          try clear p2
          try clear c3
          try clear c3b0
          try clear c3b1
          try clear c5
          try clear c6
          try clear c10
          try clear c11
          try clear c12
          try clear c12b0
          try clear c12b1
          try clear p2
          obtain ⟨kq, x32_9, rfl, HA, HJ9, HO_3, HB⟩ := hcut
          cases kq with
          | zero => exact absurd HA.out (by simp [camshaftlaw06_NestJumps.j1])
          | succ kj9 =>
            have H := HA.out
            clear HA
            simp only [camshaftlaw06_NestJumps.j1] at H
            by_cases c14 : x32_9 = true
            · subst c14
              have H1 : (some false) = some r := by rw [if_pos rfl] at H; exact H
              clear H
              have H := H1
              clear H1
              exact absurd ((Option.some.inj H).trans HT.out) (by decide)
            · replace c14 := Bool.eq_false_iff.mpr c14
              subst c14
              have H1 : (camshaftlaw06_NestJumps.l0 kj9 l0 t438 0) = some r := by rw [if_neg (show ¬ (false = true) by decide)] at H; exact H
              clear H
              have H := H1
              clear H1
              have H' := Aside0.mk H
              clear H
              go_wp2
              go_loopg [5] kj9 (fun kq v5 w' => ∃ (x5_3 : Int), v5 = .int .i64 x5_3 ∧ Aside0 (camshaftlaw06_NestJumps.l0 kq l0 t438 x5_3 = some r) ∧ Aside0 (kq ≤ kj9) ∧ Aside0 (Kd.R (Kd.int .i64) 3 w' w.heap.size (fun _ => True) v440 t438) ∧ Aside0 (Below w.heap.size w w'))
              case atStart => exact ⟨(0), (by first | rfl | (simp; done) | (simp [*]; done)), H', ⟨Nat.le_refl _⟩, ⟨by (with_reducible repeat (first | apply Kd.R_alloc | apply Kd.R_drewN | apply Kd.R_drew)); exact HO_3.out⟩, ⟨by repeat (first | (with_reducible first | exact HB.out | apply below_alloc | apply pw_below_drewN | apply below_drew1) | exact HB.out)⟩⟩
              case round =>
                clear H'
                try clear c1
                try clear p2
                try clear c3
                try clear c3b0
                try clear c3b1
                try clear c5
                try clear c6
                try clear c10
                try clear c11
                try clear c12
                try clear c12b0
                try clear c12b1
                try clear c14
                try clear p2
                obtain ⟨x5_3, rfl, HA, HK3, HO_3, HB⟩ := hrel
                cases gk with
                | zero => exact absurd HA.out (by simp [camshaftlaw06_NestJumps.l0])
                | succ k3 =>
                  have H := HA.out
                  clear HA
                  simp only [camshaftlaw06_NestJumps.l0] at H
                  by_cases c15 : x5_3 < (l0.length : Int)
                  · rw [if_pos c15] at H
                    have c15b0 : decide (x5_3 < (l0.length : Int)) = true := decide_eq_true c15
                    clear c15
                    have HC16 := Aside0.mk H
                    clear H
                    go_upto_region 9 with (fail)
                    go_cut [52] (fun v52 wc => ∃ (kq : Nat) (x52_15 : Bool), v52 = .bool x52_15 ∧ Aside0 (camshaftlaw06_NestJumps.j3 kq l0 t438 x5_3 x52_15 = some r) ∧ Aside0 (kq ≤ k3) ∧ Aside0 (Kd.R (Kd.int .i64) 3 wc w.heap.size (fun _ => True) v440 t438) ∧ Aside0 (Below w.heap.size w wc))
                    case first =>
                      have H := HC16.out
                      clear HC16
                      by_cases c17 : 0 ≤ x5_3
                      · rw [if_pos c17] at H
                        have c17b0 : decide (0 ≤ x5_3) = true := decide_eq_true c17
                        clear c17
                        (first | rw [c17b0] | (simp only [i64_w, i32_w]; rw [c17b0]) | rw [c17b1] | skip)
                        by_cases c18 : ((rd_T32 l0 x5_3).f0) = 19
                        · rw [if_pos c18] at H
                          have c18b0 : (((rd_T32 l0 x5_3).f0) == 19) = true := beq_iff_eq.mpr c18
                          have c18b1 : (((rd_T32 l0 x5_3).f0) != 19) = false := bne_eq_false_iff_eq.mpr c18
                          clear c18
                          have H' := Aside0.mk H
                          clear H
                          have p444 : 0 ≤ (x5_3 : Int) := of_decide_eq_true (by first | (with_reducible assumption) | assumption)
                          have q444 : x5_3 < (l0.length : Int) := of_decide_eq_true (by first | (with_reducible assumption) | assumption)
                          obtain ⟨ad444, e444, hx444_0, hx444_1, hx444_2⟩ := at_T32 HR0.out x5_3 p444 q444
                          cases e444
                          replace hx444_0 := (HB.out.cell (World.block_lt_of_cell? w _ hx444_0)).trans hx444_0
                          replace hx444_1 := (HB.out.cell (World.block_lt_of_cell? w _ hx444_1)).trans hx444_1
                          replace hx444_2 := (HB.out.cell (World.block_lt_of_cell? w _ hx444_2)).trans hx444_2
                          replace p444 := eq_true p444
                          replace q444 := eq_true q444
                          go_wp2
                          go_meet
                          case rel => exact ⟨_, (false), (by first | rfl | (simp; done) | (simp [*]; done)), H', ⟨by have := HJ1.out; have := HJ9.out; have := HK3.out; first | omega | exact Nat.le_refl _⟩, ⟨by (with_reducible repeat (first | apply Kd.R_alloc | apply Kd.R_drewN | apply Kd.R_drew)); exact HO_3.out⟩, ⟨by repeat (first | (with_reducible first | exact HB.out | apply below_alloc | apply pw_below_drewN | apply below_drew1) | exact HB.out | exact Below.refl _ _)⟩⟩
                        · rw [if_neg c18] at H
                          have c18b0 : (((rd_T32 l0 x5_3).f0) == 19) = false := beq_eq_false_iff_ne.mpr c18
                          have c18b1 : (((rd_T32 l0 x5_3).f0) != 19) = true := bne_iff_ne.mpr c18
                          have H' := Aside0.mk H
                          clear H
                          have p444 : 0 ≤ (x5_3 : Int) := of_decide_eq_true (by first | (with_reducible assumption) | assumption)
                          have q444 : x5_3 < (l0.length : Int) := of_decide_eq_true (by first | (with_reducible assumption) | assumption)
                          obtain ⟨ad444, e444, hx444_0, hx444_1, hx444_2⟩ := at_T32 HR0.out x5_3 p444 q444
                          cases e444
                          replace hx444_0 := (HB.out.cell (World.block_lt_of_cell? w _ hx444_0)).trans hx444_0
                          replace hx444_1 := (HB.out.cell (World.block_lt_of_cell? w _ hx444_1)).trans hx444_1
                          replace hx444_2 := (HB.out.cell (World.block_lt_of_cell? w _ hx444_2)).trans hx444_2
                          replace p444 := eq_true p444
                          replace q444 := eq_true q444
                          have p445 : 0 ≤ (x5_3 : Int) := of_decide_eq_true (by first | (with_reducible assumption) | assumption)
                          have q445 : x5_3 < (l0.length : Int) := of_decide_eq_true (by first | (with_reducible assumption) | assumption)
                          obtain ⟨ad445, e445, hx445_0, hx445_1, hx445_2⟩ := at_T32 HR0.out x5_3 p445 q445
                          obtain rfl : ad444 = ad445 := (by injection e445)
                          replace hx445_0 := (HB.out.cell (World.block_lt_of_cell? w _ hx445_0)).trans hx445_0
                          replace hx445_1 := (HB.out.cell (World.block_lt_of_cell? w _ hx445_1)).trans hx445_1
                          replace hx445_2 := (HB.out.cell (World.block_lt_of_cell? w _ hx445_2)).trans hx445_2
                          replace p445 := eq_true p445
                          replace q445 := eq_true q445
                          go_wp2
                          go_meet
                          case rel => exact ⟨_, ((((rd_T32 l0 x5_3).f0) != 20)), (by first | rfl | (simp; done) | (simp [*]; done)), H', ⟨by have := HJ1.out; have := HJ9.out; have := HK3.out; first | omega | exact Nat.le_refl _⟩, ⟨by (with_reducible repeat (first | apply Kd.R_alloc | apply Kd.R_drewN | apply Kd.R_drew)); exact HO_3.out⟩, ⟨by repeat (first | (with_reducible first | exact HB.out | apply below_alloc | apply pw_below_drewN | apply below_drew1) | exact HB.out | exact Below.refl _ _)⟩⟩
                      · rw [if_neg c17] at H
                        exact absurd H (by simp)
                    case rest =>
                      clear HC16
                      try clear c1
                      try clear p2
                      try clear c3
                      try clear c3b0
                      try clear c3b1
                      try clear p4
                      try clear q4
                      try clear hx4
                      try clear c5
                      try clear c6
                      try clear c10
                      try clear c11
                      try clear c12
                      try clear c12b0
                      try clear c12b1
                      try clear c14
                      try clear c15
                      try clear c15b0
                      try clear c17
                      try clear c17b0
                      try clear c17b1
                      try clear c18
                      try clear c18b0
                      try clear c18b1
                      try clear hx444_0
                      try clear hx444_1
                      try clear hx444_2
                      try clear hx445_0
                      try clear hx445_1
                      try clear hx445_2
                      try clear p2
                      try clear p444
                      try clear p445
                      try clear q444
                      try clear q445
                      obtain ⟨kq, x52_15, rfl, HA, HJ15, HO_3, HB⟩ := hcut
                      cases kq with
                      | zero => exact absurd HA.out (by simp [camshaftlaw06_NestJumps.j3])
                      | succ kj15 =>
                        have H := HA.out
                        clear HA
                        simp only [camshaftlaw06_NestJumps.j3] at H
                        by_cases c19 : x52_15 = true
                        · subst c19
                          have H1 : (camshaftlaw06_NestJumps.l0 kj15 l0 t438 (wrap64 (x5_3 + 1))) = some r := by rw [if_pos rfl] at H; exact H
                          clear H
                          have H := H1
                          clear H1
                          have H' := Aside0.mk H
                          clear H
                          go_wp2
                          go_roundg kj15
                          case measure => have := HJ1.out; have := HJ9.out; have := HK3.out; have := HJ15.out; omega
                          case rel => exact ⟨(wrap64 (x5_3 + 1)), (by first | rfl | (simp; done) | (simp [*]; done)), H', ⟨by have := HJ1.out; have := HJ9.out; have := HK3.out; have := HJ15.out; omega⟩, ⟨by (with_reducible repeat (first | apply Kd.R_alloc | apply Kd.R_drewN | apply Kd.R_drew)); exact HO_3.out⟩, ⟨by repeat (first | (with_reducible first | exact HB.out | apply below_alloc | apply pw_below_drewN | apply below_drew1) | exact HB.out | exact Below.refl _ _)⟩⟩
                        · replace c19 := Bool.eq_false_iff.mpr c19
                          subst c19
                          have H1 : (if 0 ≤ x5_3 then (if x5_3 < (l0.length : Int) then (if (wrap64 ((wrap64 (x5_3 + 1)) + ((rd_T32 l0 x5_3).f1))) ≥ (l0.length : Int) then (some false) else (camshaftlaw06_NestJumps.l1 kj15 l0 t438 x5_3 (wrap64 ((wrap64 (x5_3 + 1)) + ((rd_T32 l0 x5_3).f1))) 0)) else (none)) else (none)) = some r := by rw [if_neg (show ¬ (false = true) by decide)] at H; exact H
                          clear H
                          have H := H1
                          clear H1
                          by_cases c20 : 0 ≤ x5_3
                          · rw [if_pos c20] at H
                            have c20b0 : decide (0 ≤ x5_3) = true := decide_eq_true c20
                            clear c20
                            by_cases c21 : x5_3 < (l0.length : Int)
                            · rw [if_pos c21] at H
                              have c21b0 : decide (x5_3 < (l0.length : Int)) = true := decide_eq_true c21
                              clear c21
                              by_cases c22 : (wrap64 ((wrap64 (x5_3 + 1)) + ((rd_T32 l0 x5_3).f1))) ≥ (l0.length : Int)
                              · rw [if_pos c22] at H
                                have c22b0 : decide ((l0.length : Int) ≤ (wrap64 ((wrap64 (x5_3 + 1)) + ((rd_T32 l0 x5_3).f1)))) = true := decide_eq_true c22
                                clear c22
                                exact absurd ((Option.some.inj H).trans HT.out) (by decide)
                              · rw [if_neg c22] at H
                                have c22b0 : decide ((l0.length : Int) ≤ (wrap64 ((wrap64 (x5_3 + 1)) + ((rd_T32 l0 x5_3).f1)))) = false := decide_eq_false c22
                                clear c22
                                have H' := Aside0.mk H
                                clear H
                                have p446 : 0 ≤ (x5_3 : Int) := of_decide_eq_true (by first | (with_reducible assumption) | assumption)
                                have q446 : x5_3 < (l0.length : Int) := of_decide_eq_true (by first | (with_reducible assumption) | assumption)
                                obtain ⟨ad446, e446, hx446_0, hx446_1, hx446_2⟩ := at_T32 HR0.out x5_3 p446 q446
                                cases e446
                                replace hx446_0 := (HB.out.cell (World.block_lt_of_cell? w _ hx446_0)).trans hx446_0
                                replace hx446_1 := (HB.out.cell (World.block_lt_of_cell? w _ hx446_1)).trans hx446_1
                                replace hx446_2 := (HB.out.cell (World.block_lt_of_cell? w _ hx446_2)).trans hx446_2
                                replace p446 := eq_true p446
                                replace q446 := eq_true q446
                                go_wp2
                                go_loopg [7] kj15 (fun kq v7 w' => ∃ (x7_5 : Int), v7 = .int .i64 x7_5 ∧ Aside0 (camshaftlaw06_NestJumps.l1 kq l0 t438 x5_3 (wrap64 ((wrap64 (x5_3 + 1)) + ((rd_T32 l0 x5_3).f1))) x7_5 = some r) ∧ Aside0 (kq ≤ kj15) ∧ Aside0 (Kd.R (Kd.int .i64) 3 w' w.heap.size (fun _ => True) v440 t438) ∧ Aside0 (Below w.heap.size w w'))
                                case atStart => exact ⟨(0), (by first | rfl | (simp; done) | (simp [*]; done)), H', ⟨Nat.le_refl _⟩, ⟨by (with_reducible repeat (first | apply Kd.R_alloc | apply Kd.R_drewN | apply Kd.R_drew)); exact HO_3.out⟩, ⟨by repeat (first | (with_reducible first | exact HB.out | apply below_alloc | apply pw_below_drewN | apply below_drew1) | exact HB.out)⟩⟩
                                case round =>
                                  clear H'
                                  try clear c1
                                  try clear c2
                                  try clear p2
                                  try clear c3
                                  try clear c3b0
                                  try clear c3b1
                                  try clear p4
                                  try clear q4
                                  try clear hx4
                                  try clear c5
                                  try clear c6
                                  try clear p6
                                  try clear c10
                                  try clear c11
                                  try clear c12
                                  try clear c12b0
                                  try clear c12b1
                                  try clear c14
                                  try clear c15
                                  try clear c15b0
                                  try clear c17
                                  try clear c17b0
                                  try clear c17b1
                                  try clear c18
                                  try clear c18b0
                                  try clear c18b1
                                  try clear c19
                                  try clear c20
                                  try clear c20b0
                                  try clear c21
                                  try clear c21b0
                                  try clear c22
                                  try clear c22b0
                                  try clear hx444_0
                                  try clear hx444_1
                                  try clear hx444_2
                                  try clear hx445_0
                                  try clear hx445_1
                                  try clear hx445_2
                                  try clear hx446_0
                                  try clear hx446_1
                                  try clear hx446_2
                                  try clear p2
                                  try clear p4
                                  try clear p444
                                  try clear p445
                                  try clear p446
                                  try clear q4
                                  try clear q444
                                  try clear q445
                                  try clear q446
                                  obtain ⟨x7_5, rfl, HA, HK5, HO_3, HB⟩ := hrel
                                  cases gk with
                                  | zero => exact absurd HA.out (by simp [camshaftlaw06_NestJumps.l1])
                                  | succ k5 =>
                                    have H := HA.out
                                    clear HA
                                    simp only [camshaftlaw06_NestJumps.l1] at H
                                    by_cases c23 : x7_5 < (l0.length : Int)
                                    · rw [if_pos c23] at H
                                      have c23b0 : decide (x7_5 < (l0.length : Int)) = true := decide_eq_true c23
                                      clear c23
                                      by_cases c24 : x7_5 < x5_3
                                      · rw [if_pos c24] at H
                                        have c24b0 : decide (x7_5 < x5_3) = true := decide_eq_true c24
                                        clear c24
                                        by_cases c25 : 0 ≤ x7_5
                                        · rw [if_pos c25] at H
                                          have c25b0 : decide (0 ≤ x7_5) = true := decide_eq_true c25
                                          clear c25
                                          by_cases c26 : x7_5 < (t438.length : Int)
                                          · rw [if_pos c26] at H
                                            have c26b0 : decide (x7_5 < (t438.length : Int)) = true := decide_eq_true c26
                                            clear c26
                                            by_cases c27 : x7_5 < (wrap64 ((wrap64 (x5_3 + 1)) + ((rd_T32 l0 x5_3).f1)))
                                            · rw [if_pos c27] at H
                                              have c27b0 : decide (x7_5 < (wrap64 ((wrap64 (x5_3 + 1)) + ((rd_T32 l0 x5_3).f1)))) = true := decide_eq_true c27
                                              clear c27
                                              by_cases c28 : ((decide ((rd t438 x7_5) ≥ x5_3)) != (decide ((rd t438 x7_5) ≥ (wrap64 ((wrap64 (x5_3 + 1)) + ((rd_T32 l0 x5_3).f1)))))) = true
                                              · rw [if_pos c28] at H
                                                have c28b0 : ((decide ((rd t438 x7_5) ≥ x5_3)) != (decide ((rd t438 x7_5) ≥ (wrap64 ((wrap64 (x5_3 + 1)) + ((rd_T32 l0 x5_3).f1)))))) = true := c28
                                                (try (have c28b1 : decide ((decide ((rd t438 x7_5) ≥ x5_3)) = (decide ((rd t438 x7_5) ≥ (wrap64 ((wrap64 (x5_3 + 1)) + ((rd_T32 l0 x5_3).f1)))))) = false := by simpa using c28))
                                                (try (have c28b2 : ((decide ((rd t438 x7_5) ≥ x5_3)) == (decide ((rd t438 x7_5) ≥ (wrap64 ((wrap64 (x5_3 + 1)) + ((rd_T32 l0 x5_3).f1)))))) = false := by simpa using c28))
                                                (try (have c28b3 : ¬ ((decide ((rd t438 x7_5) ≥ x5_3)) = (decide ((rd t438 x7_5) ≥ (wrap64 ((wrap64 (x5_3 + 1)) + ((rd_T32 l0 x5_3).f1)))))) := by simpa using c28))
                                                clear c28
                                                exact absurd ((Option.some.inj H).trans HT.out) (by decide)
                                              · rw [if_neg c28] at H
                                                have c28b0 : ((decide ((rd t438 x7_5) ≥ x5_3)) != (decide ((rd t438 x7_5) ≥ (wrap64 ((wrap64 (x5_3 + 1)) + ((rd_T32 l0 x5_3).f1)))))) = false := by simpa using c28
                                                (try (have c28b1 : decide ((decide ((rd t438 x7_5) ≥ x5_3)) = (decide ((rd t438 x7_5) ≥ (wrap64 ((wrap64 (x5_3 + 1)) + ((rd_T32 l0 x5_3).f1)))))) = true := by simpa using c28))
                                                (try (have c28b2 : ((decide ((rd t438 x7_5) ≥ x5_3)) == (decide ((rd t438 x7_5) ≥ (wrap64 ((wrap64 (x5_3 + 1)) + ((rd_T32 l0 x5_3).f1)))))) = true := by simpa using c28))
                                                clear c28
                                                have H' := Aside0.mk H
                                                clear H
                                                obtain ⟨Ao29, co29, eo29⟩ := Kd.R_slice HO_3.out
                                                subst eo29
                                                have p447 : 0 ≤ (x7_5 : Int) := of_decide_eq_true (by first | (with_reducible assumption) | assumption)
                                                have q447 : x7_5 < (t438.length : Int) := of_decide_eq_true (by first | (with_reducible assumption) | assumption)
                                                obtain ⟨ad447, e447, hx447_0⟩ := Kd.at_int (Kd.R_reads' HO_3.out).2.2 x7_5 p447 q447
                                                cases e447
                                                replace p447 := eq_true p447
                                                replace q447 := eq_true q447
                                                have p448 : 0 ≤ (x7_5 : Int) := of_decide_eq_true (by first | (with_reducible assumption) | assumption)
                                                have q448 : x7_5 < (t438.length : Int) := of_decide_eq_true (by first | (with_reducible assumption) | assumption)
                                                obtain ⟨ad448, e448, hx448_0⟩ := Kd.at_int (Kd.R_reads' HO_3.out).2.2 x7_5 p448 q448
                                                obtain rfl : ad447 = ad448 := (by injection e448)
                                                replace p448 := eq_true p448
                                                replace q448 := eq_true q448
                                                go_wp2
                                                go_roundg k5
                                                case measure => have := HJ1.out; have := HJ9.out; have := HK3.out; have := HJ15.out; have := HK5.out; omega
                                                case rel => exact ⟨(wrap64 (x7_5 + 1)), (by first | rfl | (simp; done) | (simp [*]; done)), H', ⟨by have := HJ1.out; have := HJ9.out; have := HK3.out; have := HJ15.out; have := HK5.out; omega⟩, ⟨by (with_reducible repeat (first | apply Kd.R_alloc | apply Kd.R_drewN | apply Kd.R_drew)); exact HO_3.out⟩, ⟨by repeat (first | (with_reducible first | exact HB.out | apply below_alloc | apply pw_below_drewN | apply below_drew1) | exact HB.out | exact Below.refl _ _)⟩⟩
                                            · rw [if_neg c27] at H
                                              have c27b0 : decide (x7_5 < (wrap64 ((wrap64 (x5_3 + 1)) + ((rd_T32 l0 x5_3).f1)))) = false := decide_eq_false c27
                                              clear c27
                                              by_cases c30 : ((decide ((rd t438 x7_5) ≥ x5_3)) != false) = true
                                              · rw [if_pos c30] at H
                                                have c30b0 : ((decide ((rd t438 x7_5) ≥ x5_3)) != false) = true := c30
                                                (try (have c30b1 : decide ((decide ((rd t438 x7_5) ≥ x5_3)) = false) = false := by simpa using c30))
                                                (try (have c30b2 : ((decide ((rd t438 x7_5) ≥ x5_3)) == false) = false := by simpa using c30))
                                                (try (have c30b3 : ¬ ((decide ((rd t438 x7_5) ≥ x5_3)) = false) := by simpa using c30))
                                                clear c30
                                                exact absurd ((Option.some.inj H).trans HT.out) (by decide)
                                              · rw [if_neg c30] at H
                                                have c30b0 : ((decide ((rd t438 x7_5) ≥ x5_3)) != false) = false := by simpa using c30
                                                (try (have c30b1 : decide ((decide ((rd t438 x7_5) ≥ x5_3)) = false) = true := by simpa using c30))
                                                (try (have c30b2 : ((decide ((rd t438 x7_5) ≥ x5_3)) == false) = true := by simpa using c30))
                                                clear c30
                                                have H' := Aside0.mk H
                                                clear H
                                                obtain ⟨Ao31, co31, eo31⟩ := Kd.R_slice HO_3.out
                                                subst eo31
                                                have p447 : 0 ≤ (x7_5 : Int) := of_decide_eq_true (by first | (with_reducible assumption) | assumption)
                                                have q447 : x7_5 < (t438.length : Int) := of_decide_eq_true (by first | (with_reducible assumption) | assumption)
                                                obtain ⟨ad447, e447, hx447_0⟩ := Kd.at_int (Kd.R_reads' HO_3.out).2.2 x7_5 p447 q447
                                                cases e447
                                                replace p447 := eq_true p447
                                                replace q447 := eq_true q447
                                                go_wp2
                                                go_roundg k5
                                                case measure => have := HJ1.out; have := HJ9.out; have := HK3.out; have := HJ15.out; have := HK5.out; omega
                                                case rel => exact ⟨(wrap64 (x7_5 + 1)), (by first | rfl | (simp; done) | (simp [*]; done)), H', ⟨by have := HJ1.out; have := HJ9.out; have := HK3.out; have := HJ15.out; have := HK5.out; omega⟩, ⟨by (with_reducible repeat (first | apply Kd.R_alloc | apply Kd.R_drewN | apply Kd.R_drew)); exact HO_3.out⟩, ⟨by repeat (first | (with_reducible first | exact HB.out | apply below_alloc | apply pw_below_drewN | apply below_drew1) | exact HB.out | exact Below.refl _ _)⟩⟩
                                          · rw [if_neg c26] at H
                                            exact absurd H (by simp)
                                        · rw [if_neg c25] at H
                                          exact absurd H (by simp)
                                      · rw [if_neg c24] at H
                                        have c24b0 : decide (x7_5 < x5_3) = false := decide_eq_false c24
                                        clear c24
                                        by_cases c32 : x7_5 < (wrap64 ((wrap64 (x5_3 + 1)) + ((rd_T32 l0 x5_3).f1)))
                                        · rw [if_pos c32] at H
                                          have c32b0 : decide (x7_5 < (wrap64 ((wrap64 (x5_3 + 1)) + ((rd_T32 l0 x5_3).f1)))) = true := decide_eq_true c32
                                          clear c32
                                          by_cases c33 : 0 ≤ x7_5
                                          · rw [if_pos c33] at H
                                            have c33b0 : decide (0 ≤ x7_5) = true := decide_eq_true c33
                                            clear c33
                                            by_cases c34 : x7_5 < (t438.length : Int)
                                            · rw [if_pos c34] at H
                                              have c34b0 : decide (x7_5 < (t438.length : Int)) = true := decide_eq_true c34
                                              clear c34
                                              by_cases c35 : (false != (decide ((rd t438 x7_5) ≥ (wrap64 ((wrap64 (x5_3 + 1)) + ((rd_T32 l0 x5_3).f1)))))) = true
                                              · rw [if_pos c35] at H
                                                have c35b0 : (false != (decide ((rd t438 x7_5) ≥ (wrap64 ((wrap64 (x5_3 + 1)) + ((rd_T32 l0 x5_3).f1)))))) = true := c35
                                                (try (have c35b1 : decide (false = (decide ((rd t438 x7_5) ≥ (wrap64 ((wrap64 (x5_3 + 1)) + ((rd_T32 l0 x5_3).f1)))))) = false := by simpa using c35))
                                                (try (have c35b2 : (false == (decide ((rd t438 x7_5) ≥ (wrap64 ((wrap64 (x5_3 + 1)) + ((rd_T32 l0 x5_3).f1)))))) = false := by simpa using c35))
                                                (try (have c35b3 : ¬ (false = (decide ((rd t438 x7_5) ≥ (wrap64 ((wrap64 (x5_3 + 1)) + ((rd_T32 l0 x5_3).f1)))))) := by simpa using c35))
                                                clear c35
                                                exact absurd ((Option.some.inj H).trans HT.out) (by decide)
                                              · rw [if_neg c35] at H
                                                have c35b0 : (false != (decide ((rd t438 x7_5) ≥ (wrap64 ((wrap64 (x5_3 + 1)) + ((rd_T32 l0 x5_3).f1)))))) = false := by simpa using c35
                                                (try (have c35b1 : decide (false = (decide ((rd t438 x7_5) ≥ (wrap64 ((wrap64 (x5_3 + 1)) + ((rd_T32 l0 x5_3).f1)))))) = true := by simpa using c35))
                                                (try (have c35b2 : (false == (decide ((rd t438 x7_5) ≥ (wrap64 ((wrap64 (x5_3 + 1)) + ((rd_T32 l0 x5_3).f1)))))) = true := by simpa using c35))
                                                clear c35
                                                have H' := Aside0.mk H
                                                clear H
                                                obtain ⟨Ao36, co36, eo36⟩ := Kd.R_slice HO_3.out
                                                subst eo36
                                                have p449 : 0 ≤ (x7_5 : Int) := of_decide_eq_true (by first | (with_reducible assumption) | assumption)
                                                have q449 : x7_5 < (t438.length : Int) := of_decide_eq_true (by first | (with_reducible assumption) | assumption)
                                                obtain ⟨ad449, e449, hx449_0⟩ := Kd.at_int (Kd.R_reads' HO_3.out).2.2 x7_5 p449 q449
                                                cases e449
                                                replace p449 := eq_true p449
                                                replace q449 := eq_true q449
                                                go_wp2
                                                go_roundg k5
                                                case measure => have := HJ1.out; have := HJ9.out; have := HK3.out; have := HJ15.out; have := HK5.out; omega
                                                case rel => exact ⟨(wrap64 (x7_5 + 1)), (by first | rfl | (simp; done) | (simp [*]; done)), H', ⟨by have := HJ1.out; have := HJ9.out; have := HK3.out; have := HJ15.out; have := HK5.out; omega⟩, ⟨by (with_reducible repeat (first | apply Kd.R_alloc | apply Kd.R_drewN | apply Kd.R_drew)); exact HO_3.out⟩, ⟨by repeat (first | (with_reducible first | exact HB.out | apply below_alloc | apply pw_below_drewN | apply below_drew1) | exact HB.out | exact Below.refl _ _)⟩⟩
                                            · rw [if_neg c34] at H
                                              exact absurd H (by simp)
                                          · rw [if_neg c33] at H
                                            exact absurd H (by simp)
                                        · rw [if_neg c32] at H
                                          have c32b0 : decide (x7_5 < (wrap64 ((wrap64 (x5_3 + 1)) + ((rd_T32 l0 x5_3).f1)))) = false := decide_eq_false c32
                                          clear c32
                                          by_cases c37 : (false != false) = true
                                          · rw [if_pos c37] at H
                                            have c37b0 : (false != false) = true := c37
                                            (try (have c37b1 : decide (false = false) = false := by simp at c37))
                                            (try (have c37b2 : (false == false) = false := by simp at c37))
                                            (try (have c37b3 : ¬ (false = false) := by simp at c37))
                                            clear c37
                                            exact absurd ((Option.some.inj H).trans HT.out) (by decide)
                                          · rw [if_neg c37] at H
                                            have c37b0 : (false != false) = false := by simp
                                            (try (have c37b1 : decide (false = false) = true := by simp at c37))
                                            (try (have c37b2 : (false == false) = true := by simp at c37))
                                            clear c37
                                            have H' := Aside0.mk H
                                            clear H
                                            go_wp2
                                            go_roundg k5
                                            case measure => have := HJ1.out; have := HJ9.out; have := HK3.out; have := HJ15.out; have := HK5.out; omega
                                            case rel => exact ⟨(wrap64 (x7_5 + 1)), (by first | rfl | (simp; done) | (simp [*]; done)), H', ⟨by have := HJ1.out; have := HJ9.out; have := HK3.out; have := HJ15.out; have := HK5.out; omega⟩, ⟨by (with_reducible repeat (first | apply Kd.R_alloc | apply Kd.R_drewN | apply Kd.R_drew)); exact HO_3.out⟩, ⟨by repeat (first | (with_reducible first | exact HB.out | apply below_alloc | apply pw_below_drewN | apply below_drew1) | exact HB.out | exact Below.refl _ _)⟩⟩
                                    · rw [if_neg c23] at H
                                      have c23b0 : decide (x7_5 < (l0.length : Int)) = false := decide_eq_false c23
                                      clear c23
                                      have H' := Aside0.mk H
                                      clear H
                                      go_wp2
                                      go_roundg k5
                                      case measure => have := HJ1.out; have := HJ9.out; have := HK3.out; have := HJ15.out; have := HK5.out; omega
                                      case rel => exact ⟨(wrap64 (x5_3 + 1)), (by first | rfl | (simp; done) | (simp [*]; done)), H', ⟨by have := HJ1.out; have := HJ9.out; have := HK3.out; have := HJ15.out; have := HK5.out; omega⟩, ⟨by (with_reducible repeat (first | apply Kd.R_alloc | apply Kd.R_drewN | apply Kd.R_drew)); exact HO_3.out⟩, ⟨by repeat (first | (with_reducible first | exact HB.out | apply below_alloc | apply pw_below_drewN | apply below_drew1) | exact HB.out | exact Below.refl _ _)⟩⟩
                            · rw [if_neg c21] at H
                              exact absurd H (by simp)
                          · rw [if_neg c20] at H
                            exact absurd H (by simp)
                  · rw [if_neg c15] at H
                    have c15b0 : decide (x5_3 < (l0.length : Int)) = false := decide_eq_false c15
                    clear c15
                    obtain ⟨ji38, hji38⟩ : ∃ j_ : Int, (wrap64 ((l0.length : Int) - 1)) = j_ := ⟨_, rfl⟩
                    replace H : (if 0 ≤ (ji38) then (if (ji38) < (l0.length : Int) then (if ((rd_T32 l0 (ji38)).f0) = 25 then ((camshaftlaw06_known.f k3).bind fun t443 => (some t443)) else (some false)) else (none)) else (none)) = some r := by first | (rw [hji38] at H; exact H) | (simp only [hji38] at H ⊢; exact H)
                    have hji38w : (IntKind.i64.wrap ((l0.length : Int) - 1)) = ji38 := (i64_w _).trans hji38
                    by_cases c39 : 0 ≤ (ji38)
                    · rw [if_pos c39] at H
                      have c39b0 : decide (0 ≤ (ji38)) = true := decide_eq_true c39
                      clear c39
                      by_cases c40 : (ji38) < (l0.length : Int)
                      · rw [if_pos c40] at H
                        have c40b0 : decide ((ji38) < (l0.length : Int)) = true := decide_eq_true c40
                        clear c40
                        by_cases c41 : ((rd_T32 l0 (ji38)).f0) = 25
                        · rw [if_pos c41] at H
                          have c41b0 : (((rd_T32 l0 (ji38)).f0) == 25) = true := beq_iff_eq.mpr c41
                          have c41b1 : (((rd_T32 l0 (ji38)).f0) != 25) = false := bne_eq_false_iff_eq.mpr c41
                          clear c41
                          replace H := Option.bind_eq_some_iff.mp H
                          obtain ⟨t443, A420, H⟩ := H
                          replace H : (some t443) = some r := H
                          have A42 := Aside0.mk A420
                          clear A420
                          obtain rfl := Option.some.inj H
                          have p442 : 0 ≤ ((ji38) : Int) := of_decide_eq_true (by first | (with_reducible assumption) | assumption)
                          have q442 : (ji38) < (l0.length : Int) := of_decide_eq_true (by first | (with_reducible assumption) | assumption)
                          obtain ⟨ad442, e442, hx442_0, hx442_1, hx442_2⟩ := at_T32 HR0.out (ji38) p442 q442
                          cases e442
                          replace hx442_0 := (HB.out.cell (World.block_lt_of_cell? w _ hx442_0)).trans hx442_0
                          replace hx442_1 := (HB.out.cell (World.block_lt_of_cell? w _ hx442_1)).trans hx442_1
                          replace hx442_2 := (HB.out.cell (World.block_lt_of_cell? w _ hx442_2)).trans hx442_2
                          replace p442 := eq_true p442
                          replace q442 := eq_true q442
                          go_wp2_with (first | (go_at_call 10; (with_reducible refine (camshaftlaw06_known.calls k3  t443 _ A42.out).mono ?_); rintro e w43 ⟨rfl, hb⟩; have n0_ := Aside0.mk (Kd.R_below (by (with_reducible repeat (first | apply Kd.R_alloc | apply Kd.R_drewN | apply Kd.R_drew)); exact HO_3.out) hb); have n1_ := Aside0.mk (below_step (by repeat (first | (with_reducible first | exact HB.out | apply below_alloc | apply pw_below_drewN | apply below_drew1) | exact HB.out)) hb); clear HO_3; clear HB; have HO_3 := n0_; have HB := n1_; clear n0_ n1_; (try clear hb); (try clear hb2); (try clear hk); (try clear hi)))
                          go_ret
                          exact ⟨by first | rfl | (simp [errW_none, errW_some] <;> rfl) | (simp only [← hji38]; first | rfl | (simp [errW_none, errW_some] <;> rfl)) | (simp [*, errW_none, errW_some] <;> rfl), by repeat (first | (with_reducible first | exact HB.out | apply below_alloc | apply pw_below_drewN | apply below_drew1) | exact HB.out | exact Below.refl _ _)⟩
                        · rw [if_neg c41] at H
                          have c41b0 : (((rd_T32 l0 (ji38)).f0) == 25) = false := beq_eq_false_iff_ne.mpr c41
                          have c41b1 : (((rd_T32 l0 (ji38)).f0) != 25) = true := bne_iff_ne.mpr c41
                          exact absurd ((Option.some.inj H).trans HT.out) (by decide)
                      · rw [if_neg c40] at H
                        exact absurd H (by simp)
                    · rw [if_neg c39] at H
                      exact absurd H (by simp)

/-- THE ONE PURE STATEMENT of camshaftlaw06_NestJumps. -/
def camshaftlaw06_NestJumps.Pure : Prop := ∀ (l0 : List S32), l0.length * 24 ≤ 140737488351232 → (∀ x ∈ l0, (Lit.int .i64 x.f0).wf = true ∧ (Lit.int .i64 x.f1).wf = true ∧ (Lit.int .i64 x.f2).wf = true) → ∃ k, camshaftlaw06_NestJumps.f k l0 = some true
theorem camshaftlaw06_NestJumps.walk (P : camshaftlaw06_NestJumps.Pure) (A0 : Option Addr) (c0 : Nat) (l0 : List S32) (w : World) (hr0 : Kd.C k32 w A0 l0.length l0) (hc0 : l0.length ≤ c0) (y0 : l0.length * 24 ≤ 140737488351232) (hw0 : ∀ x ∈ l0, (Lit.int .i64 x.f0).wf = true ∧ (Lit.int .i64 x.f1).wf = true ∧ (Lit.int .i64 x.f2).wf = true) :
    Calls Try.prog 5 #[.slice A0 l0.length c0] w fun e w' => e = .returned (.bool true) ∧ Below w.heap.size w w' := by
  obtain ⟨k, h⟩ := P l0 y0 hw0
  refine (camshaftlaw06_NestJumps.calls k A0 c0 l0 true w hr0 hc0 h rfl).mono ?_
  rintro e w' ⟨rfl, hd⟩
  exact ⟨rfl, hd⟩

end Go.Proofs.Ytljgllcllddcdaa.P
