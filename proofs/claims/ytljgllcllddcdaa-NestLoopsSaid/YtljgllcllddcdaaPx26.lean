-- Written by a program of this session (wip/tools: patched print) for this claim. Not trusted: Lean checks it.
import Derived.Test.YtljgllcllddcdaaPx0
import Derived.Test.YtljgllcllddcdaaPx4
import Derived.Test.YtljgllcllddcdaaPx6
import Derived.Test.YtljgllcllddcdaaPx8
import Derived.Test.YtljgllcllddcdaaPx9
namespace Go.Proofs.Ytljgllcllddcdaa.P
open Go.RowKit Go.Proofs.YtljgllcllddcdaaW.PrintWords Go.Proofs.YtljgllcllddcdaaW.PrintLast Go.Proofs.YtljgllcllddcdaaW.PrintMore
attribute [local go_sem] max2_int min2_int max_two min_two max_three min_three max_four min_four   -- for this text's walks alone
set_option linter.unusedVariables false
set_option linter.unusedSimpArgs false

/-! ### camshaftlaw06_NestLoops: function 9 -/
mutual
def camshaftlaw06_NestLoops.j0 : Nat → List (S32) → Int → Bool → Option (Bool)
  | 0, _, _, _ => none
  | k + 1, x0, x1, x27 => if x27 = true then ((camshaftlaw06_known.f k).bind fun t538 => (some t538)) else ((some (([(⟨21, wrap64 (1 + (wrap64 (x1))), 0⟩ : S32)] : List (S32)) : List (S32))).bind fun y539 => (if 0 ≤ (wrap64 ((x0.length : Int) - 1)) then (if (wrap64 ((x0.length : Int) - 1)) ≤ (x0.length : Int) then ((some (x0.take ((wrap64 ((x0.length : Int) - 1)) : Int).toNat : List (S32))).bind fun y542 => (if y539.length + y542.length < 5864062014805 then ((some (y539 ++ y542 : List (S32))).bind fun y546 => ((some (([(⟨22, 0, 0⟩ : S32), (⟨25, 0, 0⟩ : S32)] : List (S32)) : List (S32))).bind fun y549 => (if y546.length + y549.length < 5864062014805 then ((some (y546 ++ y549 : List (S32))).bind fun y552 => ((nest_Match.f k x0).bind fun bt555 => ((nest_Match.f k y552).bind fun bt559 => ((nest_Locks.f k x0).bind fun bt563 => ((nest_Locks.f k y552).bind fun bt567 => (if bt555.2 = 0 then (if bt559.2 = 0 then (if (bt559.1.length : Int) = (wrap64 ((x0.length : Int) + 2)) then (if (bt555.1.length : Int) = (x0.length : Int) then (if 0 < (bt559.1.length : Int) then (if (rd bt559.1 0) = (x0.length : Int) then (if 0 ≤ (x0.length : Int) then (if (x0.length : Int) < (bt559.1.length : Int) then (camshaftlaw06_NestLoops.j1 k x0 y552 bt555.1 bt559.1 bt563.1 bt563.2 bt567.2 ((rd bt559.1 (x0.length : Int)) != 0)) else (none)) else (none)) else (camshaftlaw06_NestLoops.j1 k x0 y552 bt555.1 bt559.1 bt563.1 bt563.2 bt567.2 true)) else (none)) else (camshaftlaw06_NestLoops.j1 k x0 y552 bt555.1 bt559.1 bt563.1 bt563.2 bt567.2 true)) else (camshaftlaw06_NestLoops.j1 k x0 y552 bt555.1 bt559.1 bt563.1 bt563.2 bt567.2 true)) else (camshaftlaw06_NestLoops.j1 k x0 y552 bt555.1 bt559.1 bt563.1 bt563.2 bt567.2 true)) else (camshaftlaw06_NestLoops.j1 k x0 y552 bt555.1 bt559.1 bt563.1 bt563.2 bt567.2 true))))))) else (none)))) else (none))) else (none)) else (none)))
def camshaftlaw06_NestLoops.j1 : Nat → List (S32) → List (S32) → List Int → List Int → List Int → Int → Int → Bool → Option (Bool)
  | 0, _, _, _, _, _, _, _, _ => none
  | k + 1, x0, x5, x6, x8, x10, x11, x13, x101 => if x101 = true then (some false) else (camshaftlaw06_NestLoops.l0 k x0 x5 x6 x8 x10 x11 x13 0)
def camshaftlaw06_NestLoops.l0 : Nat → List (S32) → List (S32) → List Int → List Int → List Int → Int → Int → Int → Option (Bool)
  | 0, _, _, _, _, _, _, _, _ => none
  | k + 1, x0, x5, x6, x8, x10, x11, x13, x14 => if x14 < (wrap64 ((x0.length : Int) - 1)) then (if 0 ≤ x14 then (if x14 < (x6.length : Int) then (if (rd x6 x14) < 0 then (if 0 ≤ (wrap64 (x14 + 1)) then (if (wrap64 (x14 + 1)) < (x8.length : Int) then (if (rd x8 (wrap64 (x14 + 1))) = (-1) then (if (rd x6 x14) ≥ 0 then (if (rd x8 (wrap64 (x14 + 1))) = (wrap64 ((rd x6 x14) + 1)) then (camshaftlaw06_NestLoops.l0 k x0 x5 x6 x8 x10 x11 x13 (wrap64 (x14 + 1))) else (some false)) else (camshaftlaw06_NestLoops.l0 k x0 x5 x6 x8 x10 x11 x13 (wrap64 (x14 + 1)))) else (some false)) else (none)) else (none)) else (if (rd x6 x14) ≥ 0 then (if 0 ≤ (wrap64 (x14 + 1)) then (if (wrap64 (x14 + 1)) < (x8.length : Int) then (if (rd x8 (wrap64 (x14 + 1))) = (wrap64 ((rd x6 x14) + 1)) then (camshaftlaw06_NestLoops.l0 k x0 x5 x6 x8 x10 x11 x13 (wrap64 (x14 + 1))) else (some false)) else (none)) else (none)) else (camshaftlaw06_NestLoops.l0 k x0 x5 x6 x8 x10 x11 x13 (wrap64 (x14 + 1))))) else (none)) else (none)) else ((nest_Whole.f k x5).bind fun t581 => (if t581 = 0 then (if x11 = 0 then (if ((x13 == 0) == ((x10.length : Int) == 0)) = true then ((camshaftlaw06_known.f k).bind fun t582 => (some t582)) else (some false)) else (if x13 = 11 then ((camshaftlaw06_known.f k).bind fun t583 => (some t583)) else (some false))) else (some false)))
end
def camshaftlaw06_NestLoops.f (k : Nat) (l0 : List (S32)) (a1 : Int) : Option (Bool) := if (l0.length : Int) < 1 then (camshaftlaw06_NestLoops.j0 k l0 a1 true) else (if (l0.length : Int) > 190 then (camshaftlaw06_NestLoops.j0 k l0 a1 true) else ((nest_Whole.f k l0).bind fun t537 => (camshaftlaw06_NestLoops.j0 k l0 a1 (t537 != 0))))
theorem camshaftlaw06_NestLoops.mono_l : ∀ k, (∀ y0 y1 y2, LeO (camshaftlaw06_NestLoops.j0 k y0 y1 y2) (camshaftlaw06_NestLoops.j0 (k + 1) y0 y1 y2)) ∧ (∀ y0 y1 y2 y3 y4 y5 y6 y7, LeO (camshaftlaw06_NestLoops.j1 k y0 y1 y2 y3 y4 y5 y6 y7) (camshaftlaw06_NestLoops.j1 (k + 1) y0 y1 y2 y3 y4 y5 y6 y7)) ∧ (∀ y0 y1 y2 y3 y4 y5 y6 y7, LeO (camshaftlaw06_NestLoops.l0 k y0 y1 y2 y3 y4 y5 y6 y7) (camshaftlaw06_NestLoops.l0 (k + 1) y0 y1 y2 y3 y4 y5 y6 y7))
  | 0 => ⟨fun _ _ _ r h => by simp [camshaftlaw06_NestLoops.j0] at h, fun _ _ _ _ _ _ _ _ r h => by simp [camshaftlaw06_NestLoops.j1] at h, fun _ _ _ _ _ _ _ _ r h => by simp [camshaftlaw06_NestLoops.l0] at h⟩
  | k + 1 => by
    obtain ⟨ih0, ih1, ih2⟩ := camshaftlaw06_NestLoops.mono_l k
    refine ⟨?_, ?_, ?_⟩
    · intro y0 y1 y2
      unfold camshaftlaw06_NestLoops.j0
      repeat' first
      | (with_reducible exact ih0 _ _ _)
      | (with_reducible exact ih1 _ _ _ _ _ _ _ _)
      | (with_reducible exact ih2 _ _ _ _ _ _ _ _)
      | (with_reducible exact camshaftlaw06_known.mono _)
      | (with_reducible exact nest_Locks.mono _ _)
      | (with_reducible exact nest_Match.mono _ _)
      | (with_reducible exact nest_Whole.mono _ _)
      | (with_reducible exact LeO.refl _)
      | (with_reducible exact LeO.none _)
      | (with_reducible refine LeO.ite ?_ ?_)
      | (with_reducible refine LeO.bind ?_ (fun _ => ?_))
      | exact ih0 _ _ _
      | exact ih1 _ _ _ _ _ _ _ _
      | exact ih2 _ _ _ _ _ _ _ _
      | exact camshaftlaw06_known.mono _
      | exact nest_Locks.mono _ _
      | exact nest_Match.mono _ _
      | exact nest_Whole.mono _ _
      | exact LeO.none _
      | refine LeO.ite ?_ ?_
      | refine LeO.bind ?_ (fun _ => ?_)
    · intro y0 y1 y2 y3 y4 y5 y6 y7
      unfold camshaftlaw06_NestLoops.j1
      repeat' first
      | (with_reducible exact ih0 _ _ _)
      | (with_reducible exact ih1 _ _ _ _ _ _ _ _)
      | (with_reducible exact ih2 _ _ _ _ _ _ _ _)
      | (with_reducible exact camshaftlaw06_known.mono _)
      | (with_reducible exact nest_Locks.mono _ _)
      | (with_reducible exact nest_Match.mono _ _)
      | (with_reducible exact nest_Whole.mono _ _)
      | (with_reducible exact LeO.refl _)
      | (with_reducible exact LeO.none _)
      | (with_reducible refine LeO.ite ?_ ?_)
      | (with_reducible refine LeO.bind ?_ (fun _ => ?_))
      | exact ih0 _ _ _
      | exact ih1 _ _ _ _ _ _ _ _
      | exact ih2 _ _ _ _ _ _ _ _
      | exact camshaftlaw06_known.mono _
      | exact nest_Locks.mono _ _
      | exact nest_Match.mono _ _
      | exact nest_Whole.mono _ _
      | exact LeO.none _
      | refine LeO.ite ?_ ?_
      | refine LeO.bind ?_ (fun _ => ?_)
    · intro y0 y1 y2 y3 y4 y5 y6 y7
      unfold camshaftlaw06_NestLoops.l0
      repeat' first
      | (with_reducible exact ih0 _ _ _)
      | (with_reducible exact ih1 _ _ _ _ _ _ _ _)
      | (with_reducible exact ih2 _ _ _ _ _ _ _ _)
      | (with_reducible exact camshaftlaw06_known.mono _)
      | (with_reducible exact nest_Locks.mono _ _)
      | (with_reducible exact nest_Match.mono _ _)
      | (with_reducible exact nest_Whole.mono _ _)
      | (with_reducible exact LeO.refl _)
      | (with_reducible exact LeO.none _)
      | (with_reducible refine LeO.ite ?_ ?_)
      | (with_reducible refine LeO.bind ?_ (fun _ => ?_))
      | exact ih0 _ _ _
      | exact ih1 _ _ _ _ _ _ _ _
      | exact ih2 _ _ _ _ _ _ _ _
      | exact camshaftlaw06_known.mono _
      | exact nest_Locks.mono _ _
      | exact nest_Match.mono _ _
      | exact nest_Whole.mono _ _
      | exact LeO.none _
      | refine LeO.ite ?_ ?_
      | refine LeO.bind ?_ (fun _ => ?_)
theorem camshaftlaw06_NestLoops.mono : ∀ a0 a1 k, LeO (camshaftlaw06_NestLoops.f k a0 a1) (camshaftlaw06_NestLoops.f (k + 1) a0 a1) := by
  intro a0 a1 k
  obtain ⟨ih0, ih1, ih2⟩ := camshaftlaw06_NestLoops.mono_l k
  unfold camshaftlaw06_NestLoops.f
  repeat' first
      | (with_reducible exact ih0 _ _ _)
      | (with_reducible exact ih1 _ _ _ _ _ _ _ _)
      | (with_reducible exact ih2 _ _ _ _ _ _ _ _)
      | (with_reducible exact camshaftlaw06_known.mono _)
      | (with_reducible exact nest_Locks.mono _ _)
      | (with_reducible exact nest_Match.mono _ _)
      | (with_reducible exact nest_Whole.mono _ _)
      | (with_reducible exact LeO.refl _)
      | (with_reducible exact LeO.none _)
      | (with_reducible refine LeO.ite ?_ ?_)
      | (with_reducible refine LeO.bind ?_ (fun _ => ?_))
      | exact ih0 _ _ _
      | exact ih1 _ _ _ _ _ _ _ _
      | exact ih2 _ _ _ _ _ _ _ _
      | exact camshaftlaw06_known.mono _
      | exact nest_Locks.mono _ _
      | exact nest_Match.mono _ _
      | exact nest_Whole.mono _ _
      | exact LeO.none _
      | refine LeO.ite ?_ ?_
      | refine LeO.bind ?_ (fun _ => ?_)
set_option maxHeartbeats 8000000 in
set_option maxRecDepth 100000 in
theorem camshaftlaw06_NestLoops.calls (k : Nat) (A0 : Option Addr) (c0 : Nat) (l0 : List (S32)) (a1 : Int) (r : Bool) (w : World) (hr0 : Kd.C k32 w A0 l0.length l0) (hc0 : l0.length ≤ c0) (h : camshaftlaw06_NestLoops.f k l0 a1 = some r) (ht : r = true) :
    Calls Try.prog 9 #[.slice A0 l0.length c0, .int .u8 a1] w fun e w' => e = .returned (.bool r) ∧ Below w.heap.size w w' := by
  have hu32 := Try.underlying32
  have HT := Aside0.mk ht
  clear ht
  have HR0 := Aside0.mk hr0
  have HC0 := Aside0.mk hc0
  clear hr0 hc0
  have HB := Aside0.mk (Below.refl w.heap.size w)
  have H : (if (l0.length : Int) < 1 then (camshaftlaw06_NestLoops.j0 k l0 a1 true) else (if (l0.length : Int) > 190 then (camshaftlaw06_NestLoops.j0 k l0 a1 true) else ((nest_Whole.f k l0).bind fun t537 => (camshaftlaw06_NestLoops.j0 k l0 a1 (t537 != 0))))) = some r := h
  clear h
  have HC3 := Aside0.mk H
  clear H
  go_enter Try.func9, Try.ntmps9
  go_upto_region 1 with (fail)
  repeat (go_quiet (fail); go_upto_region 1 with (fail))
  go_cut [27] (fun v27 wc => ∃ (kq : Nat) (x27_2 : Bool), v27 = .bool x27_2 ∧ Aside0 (camshaftlaw06_NestLoops.j0 kq l0 a1 x27_2 = some r) ∧ Aside0 (kq ≤ k) ∧ Aside0 (Below w.heap.size w wc))
  case first =>
    have H := HC3.out
    clear HC3
    by_cases c4 : (l0.length : Int) < 1
    · rw [if_pos c4] at H
      have c4b0 : decide ((l0.length : Int) < 1) = true := decide_eq_true c4
      have c4b1 : decide (l0.length < 1) = true := decide_eq_true (by omega)
      clear c4
      (first | rw [c4b0] | (simp only [i64_w, i32_w]; rw [c4b0]) | rw [c4b1] | skip)
      have H' := Aside0.mk H
      clear H
      go_wp2
      repeat (go_quiet (fail); try go_wp2)
      go_meet
      case rel => exact ⟨_, (true), (by first | rfl | (simp; done) | (simp [*]; done)), H', ⟨by first | omega | exact Nat.le_refl _⟩, ⟨by repeat (first | (with_reducible first | exact HB.out | apply below_alloc | apply pw_below_drewN | apply below_drew1) | exact HB.out | exact Below.refl _ _)⟩⟩
    · rw [if_neg c4] at H
      have c4b0 : decide ((l0.length : Int) < 1) = false := decide_eq_false c4
      have c4b1 : decide (l0.length < 1) = false := decide_eq_false (by omega)
      clear c4
      (first | rw [c4b0] | (simp only [i64_w, i32_w]; rw [c4b0]) | rw [c4b1] | skip)
      by_cases c5 : (l0.length : Int) > 190
      · rw [if_pos c5] at H
        have c5b0 : decide (190 < (l0.length : Int)) = true := decide_eq_true c5
        have c5b1 : decide (190 < l0.length) = true := decide_eq_true (by omega)
        clear c5
        have H' := Aside0.mk H
        clear H
        go_wp2
        repeat (go_quiet (fail); try go_wp2)
        go_meet
        case rel => exact ⟨_, (true), (by first | rfl | (simp; done) | (simp [*]; done)), H', ⟨by first | omega | exact Nat.le_refl _⟩, ⟨by repeat (first | (with_reducible first | exact HB.out | apply below_alloc | apply pw_below_drewN | apply below_drew1) | exact HB.out | exact Below.refl _ _)⟩⟩
      · rw [if_neg c5] at H
        have c5b0 : decide (190 < (l0.length : Int)) = false := decide_eq_false c5
        have c5b1 : decide (190 < l0.length) = false := decide_eq_false (by omega)
        clear c5
        replace H := Option.bind_eq_some_iff.mp H
        obtain ⟨t537, A60, H⟩ := H
        replace H : (camshaftlaw06_NestLoops.j0 k l0 a1 (t537 != 0)) = some r := H
        have A6 := Aside0.mk A60
        clear A60
        have H' := Aside0.mk H
        clear H
        go_wp2_with (first | (go_at_call 20; (with_reducible refine (nest_Whole.calls k _ _ l0 t537 _ ?side1 ?side2 A6.out).mono ?_); (case side1 => repeat (first | exact (Kd.C_below HR0.out HB.out) | (with_reducible refine Kd.C_alloc ?_ _) | (with_reducible refine Kd.C_drewN ?_ _) | (with_reducible refine Kd.C_drew ?_))); (case side2 => exact HC0.out); rintro e w7 ⟨rfl, hb⟩; have n0_ := Aside0.mk (below_step (by repeat (first | (with_reducible first | exact HB.out | apply below_alloc | apply pw_below_drewN | apply below_drew1) | exact HB.out)) hb); clear HB; have HB := n0_; clear n0_; (try clear hb); (try clear hb2); (try clear hk); (try clear hi)))
        repeat (go_quiet (first | (go_at_call 20; (with_reducible refine (nest_Whole.calls k _ _ l0 t537 _ ?side1 ?side2 A6.out).mono ?_); (case side1 => repeat (first | exact (Kd.C_below HR0.out HB.out) | (with_reducible refine Kd.C_alloc ?_ _) | (with_reducible refine Kd.C_drewN ?_ _) | (with_reducible refine Kd.C_drew ?_))); (case side2 => exact HC0.out); rintro e w7 ⟨rfl, hb⟩; have n0_ := Aside0.mk (below_step (by repeat (first | (with_reducible first | exact HB.out | apply below_alloc | apply pw_below_drewN | apply below_drew1) | exact HB.out)) hb); clear HB; have HB := n0_; clear n0_; (try clear hb); (try clear hb2); (try clear hk); (try clear hi))); try go_wp2_with (first | (go_at_call 20; (with_reducible refine (nest_Whole.calls k _ _ l0 t537 _ ?side1 ?side2 A6.out).mono ?_); (case side1 => repeat (first | exact (Kd.C_below HR0.out HB.out) | (with_reducible refine Kd.C_alloc ?_ _) | (with_reducible refine Kd.C_drewN ?_ _) | (with_reducible refine Kd.C_drew ?_))); (case side2 => exact HC0.out); rintro e w7 ⟨rfl, hb⟩; have n0_ := Aside0.mk (below_step (by repeat (first | (with_reducible first | exact HB.out | apply below_alloc | apply pw_below_drewN | apply below_drew1) | exact HB.out)) hb); clear HB; have HB := n0_; clear n0_; (try clear hb); (try clear hb2); (try clear hk); (try clear hi))))
        go_meet
        case rel => exact ⟨_, ((t537 != 0)), (by first | rfl | (simp; done) | (simp [*]; done)), H', ⟨by first | omega | exact Nat.le_refl _⟩, ⟨by repeat (first | (with_reducible first | exact HB.out | apply below_alloc | apply pw_below_drewN | apply below_drew1) | exact HB.out | exact Below.refl _ _)⟩⟩
  case rest =>
    clear HC3
    try clear p2
    try clear c4
    try clear c4b0
    try clear c4b1
    try clear c5
    try clear c5b0
    try clear c5b1
    obtain ⟨kq, x27_2, rfl, HA, HJ2, HB⟩ := hcut
    cases kq with
    | zero => exact absurd HA.out (by simp [camshaftlaw06_NestLoops.j0])
    | succ kj2 =>
      have H := HA.out
      clear HA
      simp only [camshaftlaw06_NestLoops.j0] at H
      by_cases c8 : x27_2 = true
      · subst c8
        have H1 : ((camshaftlaw06_known.f kj2).bind fun t538 => (some t538)) = some r := by rw [if_pos rfl] at H; exact H
        clear H
        have H := H1
        clear H1
        replace H := Option.bind_eq_some_iff.mp H
        obtain ⟨t538, A90, H⟩ := H
        replace H : (some t538) = some r := H
        have A9 := Aside0.mk A90
        clear A90
        obtain rfl := Option.some.inj H
        go_wp2_with (first | (go_at_call 10; (with_reducible refine (camshaftlaw06_known.calls kj2  t538 _ A9.out).mono ?_); rintro e w10 ⟨rfl, hb⟩; have n0_ := Aside0.mk (below_step (by repeat (first | (with_reducible first | exact HB.out | apply below_alloc | apply pw_below_drewN | apply below_drew1) | exact HB.out)) hb); clear HB; have HB := n0_; clear n0_; (try clear hb); (try clear hb2); (try clear hk); (try clear hi)))
        repeat (go_quiet (first | (go_at_call 10; (with_reducible refine (camshaftlaw06_known.calls kj2  t538 _ A9.out).mono ?_); rintro e w10 ⟨rfl, hb⟩; have n0_ := Aside0.mk (below_step (by repeat (first | (with_reducible first | exact HB.out | apply below_alloc | apply pw_below_drewN | apply below_drew1) | exact HB.out)) hb); clear HB; have HB := n0_; clear n0_; (try clear hb); (try clear hb2); (try clear hk); (try clear hi))); try go_wp2_with (first | (go_at_call 10; (with_reducible refine (camshaftlaw06_known.calls kj2  t538 _ A9.out).mono ?_); rintro e w10 ⟨rfl, hb⟩; have n0_ := Aside0.mk (below_step (by repeat (first | (with_reducible first | exact HB.out | apply below_alloc | apply pw_below_drewN | apply below_drew1) | exact HB.out)) hb); clear HB; have HB := n0_; clear n0_; (try clear hb); (try clear hb2); (try clear hk); (try clear hi))))
        go_ret
        exact ⟨by first | rfl | (simp [errW_none, errW_some] <;> rfl) | (simp [*, errW_none, errW_some] <;> rfl), by repeat (first | (with_reducible first | exact HB.out | apply below_alloc | apply pw_below_drewN | apply below_drew1) | exact HB.out | exact Below.refl _ _)⟩
      · replace c8 := Bool.eq_false_iff.mpr c8
        subst c8
        have H1 : ((some (([(⟨21, wrap64 (1 + (wrap64 (a1))), 0⟩ : S32)] : List (S32)) : List (S32))).bind fun y539 => (if 0 ≤ (wrap64 ((l0.length : Int) - 1)) then (if (wrap64 ((l0.length : Int) - 1)) ≤ (l0.length : Int) then ((some (l0.take ((wrap64 ((l0.length : Int) - 1)) : Int).toNat : List (S32))).bind fun y542 => (if y539.length + y542.length < 5864062014805 then ((some (y539 ++ y542 : List (S32))).bind fun y546 => ((some (([(⟨22, 0, 0⟩ : S32), (⟨25, 0, 0⟩ : S32)] : List (S32)) : List (S32))).bind fun y549 => (if y546.length + y549.length < 5864062014805 then ((some (y546 ++ y549 : List (S32))).bind fun y552 => ((nest_Match.f kj2 l0).bind fun bt555 => ((nest_Match.f kj2 y552).bind fun bt559 => ((nest_Locks.f kj2 l0).bind fun bt563 => ((nest_Locks.f kj2 y552).bind fun bt567 => (if bt555.2 = 0 then (if bt559.2 = 0 then (if (bt559.1.length : Int) = (wrap64 ((l0.length : Int) + 2)) then (if (bt555.1.length : Int) = (l0.length : Int) then (if 0 < (bt559.1.length : Int) then (if (rd bt559.1 0) = (l0.length : Int) then (if 0 ≤ (l0.length : Int) then (if (l0.length : Int) < (bt559.1.length : Int) then (camshaftlaw06_NestLoops.j1 kj2 l0 y552 bt555.1 bt559.1 bt563.1 bt563.2 bt567.2 ((rd bt559.1 (l0.length : Int)) != 0)) else (none)) else (none)) else (camshaftlaw06_NestLoops.j1 kj2 l0 y552 bt555.1 bt559.1 bt563.1 bt563.2 bt567.2 true)) else (none)) else (camshaftlaw06_NestLoops.j1 kj2 l0 y552 bt555.1 bt559.1 bt563.1 bt563.2 bt567.2 true)) else (camshaftlaw06_NestLoops.j1 kj2 l0 y552 bt555.1 bt559.1 bt563.1 bt563.2 bt567.2 true)) else (camshaftlaw06_NestLoops.j1 kj2 l0 y552 bt555.1 bt559.1 bt563.1 bt563.2 bt567.2 true)) else (camshaftlaw06_NestLoops.j1 kj2 l0 y552 bt555.1 bt559.1 bt563.1 bt563.2 bt567.2 true))))))) else (none)))) else (none))) else (none)) else (none))) = some r := by rw [if_neg (show ¬ (false = true) by decide)] at H; exact H
        clear H
        have H := H1
        clear H1
        obtain ⟨y539, hy539⟩ : ∃ y_ : List (S32), y_ = (([(⟨21, wrap64 (1 + (wrap64 (a1))), 0⟩ : S32)] : List (S32))) := ⟨_, rfl⟩
        replace H : (if 0 ≤ (wrap64 ((l0.length : Int) - 1)) then (if (wrap64 ((l0.length : Int) - 1)) ≤ (l0.length : Int) then ((some (l0.take ((wrap64 ((l0.length : Int) - 1)) : Int).toNat : List (S32))).bind fun y542 => (if y539.length + y542.length < 5864062014805 then ((some (y539 ++ y542 : List (S32))).bind fun y546 => ((some (([(⟨22, 0, 0⟩ : S32), (⟨25, 0, 0⟩ : S32)] : List (S32)) : List (S32))).bind fun y549 => (if y546.length + y549.length < 5864062014805 then ((some (y546 ++ y549 : List (S32))).bind fun y552 => ((nest_Match.f kj2 l0).bind fun bt555 => ((nest_Match.f kj2 y552).bind fun bt559 => ((nest_Locks.f kj2 l0).bind fun bt563 => ((nest_Locks.f kj2 y552).bind fun bt567 => (if bt555.2 = 0 then (if bt559.2 = 0 then (if (bt559.1.length : Int) = (wrap64 ((l0.length : Int) + 2)) then (if (bt555.1.length : Int) = (l0.length : Int) then (if 0 < (bt559.1.length : Int) then (if (rd bt559.1 0) = (l0.length : Int) then (if 0 ≤ (l0.length : Int) then (if (l0.length : Int) < (bt559.1.length : Int) then (camshaftlaw06_NestLoops.j1 kj2 l0 y552 bt555.1 bt559.1 bt563.1 bt563.2 bt567.2 ((rd bt559.1 (l0.length : Int)) != 0)) else (none)) else (none)) else (camshaftlaw06_NestLoops.j1 kj2 l0 y552 bt555.1 bt559.1 bt563.1 bt563.2 bt567.2 true)) else (none)) else (camshaftlaw06_NestLoops.j1 kj2 l0 y552 bt555.1 bt559.1 bt563.1 bt563.2 bt567.2 true)) else (camshaftlaw06_NestLoops.j1 kj2 l0 y552 bt555.1 bt559.1 bt563.1 bt563.2 bt567.2 true)) else (camshaftlaw06_NestLoops.j1 kj2 l0 y552 bt555.1 bt559.1 bt563.1 bt563.2 bt567.2 true)) else (camshaftlaw06_NestLoops.j1 kj2 l0 y552 bt555.1 bt559.1 bt563.1 bt563.2 bt567.2 true))))))) else (none)))) else (none))) else (none)) else (none)) = some r := by first | (rw [hy539]; with_reducible exact H) | (have H2_ := (Option.bind_some _ _).symm.trans H; rw [hy539]; with_reducible exact H2_) | (have H2_ := (Option.bind_some _ _).symm.trans H; with_reducible exact H2_) | with_reducible exact H | (rw [hy539]; exact H) | exact H
        have Ny539 := Aside0.mk hy539
        clear hy539
        obtain ⟨ji11, hji11⟩ : ∃ j_ : Int, (wrap64 ((l0.length : Int) - 1)) = j_ := ⟨_, rfl⟩
        replace H : (if 0 ≤ (ji11) then (if (ji11) ≤ (l0.length : Int) then ((some (l0.take ((ji11) : Int).toNat : List (S32))).bind fun y542 => (if y539.length + y542.length < 5864062014805 then ((some (y539 ++ y542 : List (S32))).bind fun y546 => ((some (([(⟨22, 0, 0⟩ : S32), (⟨25, 0, 0⟩ : S32)] : List (S32)) : List (S32))).bind fun y549 => (if y546.length + y549.length < 5864062014805 then ((some (y546 ++ y549 : List (S32))).bind fun y552 => ((nest_Match.f kj2 l0).bind fun bt555 => ((nest_Match.f kj2 y552).bind fun bt559 => ((nest_Locks.f kj2 l0).bind fun bt563 => ((nest_Locks.f kj2 y552).bind fun bt567 => (if bt555.2 = 0 then (if bt559.2 = 0 then (if (bt559.1.length : Int) = (wrap64 ((l0.length : Int) + 2)) then (if (bt555.1.length : Int) = (l0.length : Int) then (if 0 < (bt559.1.length : Int) then (if (rd bt559.1 0) = (l0.length : Int) then (if 0 ≤ (l0.length : Int) then (if (l0.length : Int) < (bt559.1.length : Int) then (camshaftlaw06_NestLoops.j1 kj2 l0 y552 bt555.1 bt559.1 bt563.1 bt563.2 bt567.2 ((rd bt559.1 (l0.length : Int)) != 0)) else (none)) else (none)) else (camshaftlaw06_NestLoops.j1 kj2 l0 y552 bt555.1 bt559.1 bt563.1 bt563.2 bt567.2 true)) else (none)) else (camshaftlaw06_NestLoops.j1 kj2 l0 y552 bt555.1 bt559.1 bt563.1 bt563.2 bt567.2 true)) else (camshaftlaw06_NestLoops.j1 kj2 l0 y552 bt555.1 bt559.1 bt563.1 bt563.2 bt567.2 true)) else (camshaftlaw06_NestLoops.j1 kj2 l0 y552 bt555.1 bt559.1 bt563.1 bt563.2 bt567.2 true)) else (camshaftlaw06_NestLoops.j1 kj2 l0 y552 bt555.1 bt559.1 bt563.1 bt563.2 bt567.2 true))))))) else (none)))) else (none))) else (none)) else (none)) = some r := by first | (rw [hji11] at H; exact H) | (simp only [hji11] at H ⊢; exact H)
        have hji11w : (IntKind.i64.wrap ((l0.length : Int) - 1)) = ji11 := (i64_w _).trans hji11
        by_cases c12 : 0 ≤ (ji11)
        · rw [if_pos c12] at H
          have c12b0 := eq_true c12
          have c12b1 : decide (0 ≤ (ji11)) = true := decide_eq_true c12
          clear c12
          by_cases c13 : (ji11) ≤ (l0.length : Int)
          · rw [if_pos c13] at H
            have c13b0 := eq_true c13
            have c13b1 : decide ((ji11) ≤ (l0.length : Int)) = true := decide_eq_true c13
            clear c13
            obtain ⟨y542, hy542⟩ : ∃ y_ : List (S32), y_ = (l0.take ((ji11) : Int).toNat) := ⟨_, rfl⟩
            replace H : (if y539.length + y542.length < 5864062014805 then ((some (y539 ++ y542 : List (S32))).bind fun y546 => ((some (([(⟨22, 0, 0⟩ : S32), (⟨25, 0, 0⟩ : S32)] : List (S32)) : List (S32))).bind fun y549 => (if y546.length + y549.length < 5864062014805 then ((some (y546 ++ y549 : List (S32))).bind fun y552 => ((nest_Match.f kj2 l0).bind fun bt555 => ((nest_Match.f kj2 y552).bind fun bt559 => ((nest_Locks.f kj2 l0).bind fun bt563 => ((nest_Locks.f kj2 y552).bind fun bt567 => (if bt555.2 = 0 then (if bt559.2 = 0 then (if (bt559.1.length : Int) = (wrap64 ((l0.length : Int) + 2)) then (if (bt555.1.length : Int) = (l0.length : Int) then (if 0 < (bt559.1.length : Int) then (if (rd bt559.1 0) = (l0.length : Int) then (if 0 ≤ (l0.length : Int) then (if (l0.length : Int) < (bt559.1.length : Int) then (camshaftlaw06_NestLoops.j1 kj2 l0 y552 bt555.1 bt559.1 bt563.1 bt563.2 bt567.2 ((rd bt559.1 (l0.length : Int)) != 0)) else (none)) else (none)) else (camshaftlaw06_NestLoops.j1 kj2 l0 y552 bt555.1 bt559.1 bt563.1 bt563.2 bt567.2 true)) else (none)) else (camshaftlaw06_NestLoops.j1 kj2 l0 y552 bt555.1 bt559.1 bt563.1 bt563.2 bt567.2 true)) else (camshaftlaw06_NestLoops.j1 kj2 l0 y552 bt555.1 bt559.1 bt563.1 bt563.2 bt567.2 true)) else (camshaftlaw06_NestLoops.j1 kj2 l0 y552 bt555.1 bt559.1 bt563.1 bt563.2 bt567.2 true)) else (camshaftlaw06_NestLoops.j1 kj2 l0 y552 bt555.1 bt559.1 bt563.1 bt563.2 bt567.2 true))))))) else (none)))) else (none)) = some r := by first | (rw [hy542]; with_reducible exact H) | (have H2_ := (Option.bind_some _ _).symm.trans H; rw [hy542]; with_reducible exact H2_) | (have H2_ := (Option.bind_some _ _).symm.trans H; with_reducible exact H2_) | with_reducible exact H | (rw [hy542]; exact H) | exact H
            have Ny542 := Aside0.mk hy542
            clear hy542
            by_cases c14 : y539.length + y542.length < 5864062014805
            · rw [if_pos c14] at H
              have LMc14 := Aside0.mk c14
              clear c14
              obtain ⟨y546, hy546⟩ : ∃ y_ : List (S32), y_ = (y539 ++ y542) := ⟨_, rfl⟩
              replace H : ((some (([(⟨22, 0, 0⟩ : S32), (⟨25, 0, 0⟩ : S32)] : List (S32)) : List (S32))).bind fun y549 => (if y546.length + y549.length < 5864062014805 then ((some (y546 ++ y549 : List (S32))).bind fun y552 => ((nest_Match.f kj2 l0).bind fun bt555 => ((nest_Match.f kj2 y552).bind fun bt559 => ((nest_Locks.f kj2 l0).bind fun bt563 => ((nest_Locks.f kj2 y552).bind fun bt567 => (if bt555.2 = 0 then (if bt559.2 = 0 then (if (bt559.1.length : Int) = (wrap64 ((l0.length : Int) + 2)) then (if (bt555.1.length : Int) = (l0.length : Int) then (if 0 < (bt559.1.length : Int) then (if (rd bt559.1 0) = (l0.length : Int) then (if 0 ≤ (l0.length : Int) then (if (l0.length : Int) < (bt559.1.length : Int) then (camshaftlaw06_NestLoops.j1 kj2 l0 y552 bt555.1 bt559.1 bt563.1 bt563.2 bt567.2 ((rd bt559.1 (l0.length : Int)) != 0)) else (none)) else (none)) else (camshaftlaw06_NestLoops.j1 kj2 l0 y552 bt555.1 bt559.1 bt563.1 bt563.2 bt567.2 true)) else (none)) else (camshaftlaw06_NestLoops.j1 kj2 l0 y552 bt555.1 bt559.1 bt563.1 bt563.2 bt567.2 true)) else (camshaftlaw06_NestLoops.j1 kj2 l0 y552 bt555.1 bt559.1 bt563.1 bt563.2 bt567.2 true)) else (camshaftlaw06_NestLoops.j1 kj2 l0 y552 bt555.1 bt559.1 bt563.1 bt563.2 bt567.2 true)) else (camshaftlaw06_NestLoops.j1 kj2 l0 y552 bt555.1 bt559.1 bt563.1 bt563.2 bt567.2 true))))))) else (none))) = some r := by first | (rw [hy546]; with_reducible exact H) | (have H2_ := (Option.bind_some _ _).symm.trans H; rw [hy546]; with_reducible exact H2_) | (have H2_ := (Option.bind_some _ _).symm.trans H; with_reducible exact H2_) | with_reducible exact H | (rw [hy546]; exact H) | exact H
              have Ny546 := Aside0.mk hy546
              clear hy546
              obtain ⟨y549, hy549⟩ : ∃ y_ : List (S32), y_ = (([(⟨22, 0, 0⟩ : S32), (⟨25, 0, 0⟩ : S32)] : List (S32))) := ⟨_, rfl⟩
              replace H : (if y546.length + y549.length < 5864062014805 then ((some (y546 ++ y549 : List (S32))).bind fun y552 => ((nest_Match.f kj2 l0).bind fun bt555 => ((nest_Match.f kj2 y552).bind fun bt559 => ((nest_Locks.f kj2 l0).bind fun bt563 => ((nest_Locks.f kj2 y552).bind fun bt567 => (if bt555.2 = 0 then (if bt559.2 = 0 then (if (bt559.1.length : Int) = (wrap64 ((l0.length : Int) + 2)) then (if (bt555.1.length : Int) = (l0.length : Int) then (if 0 < (bt559.1.length : Int) then (if (rd bt559.1 0) = (l0.length : Int) then (if 0 ≤ (l0.length : Int) then (if (l0.length : Int) < (bt559.1.length : Int) then (camshaftlaw06_NestLoops.j1 kj2 l0 y552 bt555.1 bt559.1 bt563.1 bt563.2 bt567.2 ((rd bt559.1 (l0.length : Int)) != 0)) else (none)) else (none)) else (camshaftlaw06_NestLoops.j1 kj2 l0 y552 bt555.1 bt559.1 bt563.1 bt563.2 bt567.2 true)) else (none)) else (camshaftlaw06_NestLoops.j1 kj2 l0 y552 bt555.1 bt559.1 bt563.1 bt563.2 bt567.2 true)) else (camshaftlaw06_NestLoops.j1 kj2 l0 y552 bt555.1 bt559.1 bt563.1 bt563.2 bt567.2 true)) else (camshaftlaw06_NestLoops.j1 kj2 l0 y552 bt555.1 bt559.1 bt563.1 bt563.2 bt567.2 true)) else (camshaftlaw06_NestLoops.j1 kj2 l0 y552 bt555.1 bt559.1 bt563.1 bt563.2 bt567.2 true))))))) else (none)) = some r := by first | (rw [hy549]; with_reducible exact H) | (have H2_ := (Option.bind_some _ _).symm.trans H; rw [hy549]; with_reducible exact H2_) | (have H2_ := (Option.bind_some _ _).symm.trans H; with_reducible exact H2_) | with_reducible exact H | (rw [hy549]; exact H) | exact H
              have Ny549 := Aside0.mk hy549
              clear hy549
              by_cases c15 : y546.length + y549.length < 5864062014805
              · rw [if_pos c15] at H
                have LMc15 := Aside0.mk c15
                clear c15
                obtain ⟨y552, hy552⟩ : ∃ y_ : List (S32), y_ = (y546 ++ y549) := ⟨_, rfl⟩
                replace H : ((nest_Match.f kj2 l0).bind fun bt555 => ((nest_Match.f kj2 y552).bind fun bt559 => ((nest_Locks.f kj2 l0).bind fun bt563 => ((nest_Locks.f kj2 y552).bind fun bt567 => (if bt555.2 = 0 then (if bt559.2 = 0 then (if (bt559.1.length : Int) = (wrap64 ((l0.length : Int) + 2)) then (if (bt555.1.length : Int) = (l0.length : Int) then (if 0 < (bt559.1.length : Int) then (if (rd bt559.1 0) = (l0.length : Int) then (if 0 ≤ (l0.length : Int) then (if (l0.length : Int) < (bt559.1.length : Int) then (camshaftlaw06_NestLoops.j1 kj2 l0 y552 bt555.1 bt559.1 bt563.1 bt563.2 bt567.2 ((rd bt559.1 (l0.length : Int)) != 0)) else (none)) else (none)) else (camshaftlaw06_NestLoops.j1 kj2 l0 y552 bt555.1 bt559.1 bt563.1 bt563.2 bt567.2 true)) else (none)) else (camshaftlaw06_NestLoops.j1 kj2 l0 y552 bt555.1 bt559.1 bt563.1 bt563.2 bt567.2 true)) else (camshaftlaw06_NestLoops.j1 kj2 l0 y552 bt555.1 bt559.1 bt563.1 bt563.2 bt567.2 true)) else (camshaftlaw06_NestLoops.j1 kj2 l0 y552 bt555.1 bt559.1 bt563.1 bt563.2 bt567.2 true)) else (camshaftlaw06_NestLoops.j1 kj2 l0 y552 bt555.1 bt559.1 bt563.1 bt563.2 bt567.2 true)))))) = some r := by first | (rw [hy552]; with_reducible exact H) | (have H2_ := (Option.bind_some _ _).symm.trans H; rw [hy552]; with_reducible exact H2_) | (have H2_ := (Option.bind_some _ _).symm.trans H; with_reducible exact H2_) | with_reducible exact H | (rw [hy552]; exact H) | exact H
                have Ny552 := Aside0.mk hy552
                clear hy552
                replace H := Option.bind_eq_some_iff.mp H
                obtain ⟨⟨t555, t556⟩, A160, H⟩ := H
                replace H : ((nest_Match.f kj2 y552).bind fun bt559 => ((nest_Locks.f kj2 l0).bind fun bt563 => ((nest_Locks.f kj2 y552).bind fun bt567 => (if t556 = 0 then (if bt559.2 = 0 then (if (bt559.1.length : Int) = (wrap64 ((l0.length : Int) + 2)) then (if (t555.length : Int) = (l0.length : Int) then (if 0 < (bt559.1.length : Int) then (if (rd bt559.1 0) = (l0.length : Int) then (if 0 ≤ (l0.length : Int) then (if (l0.length : Int) < (bt559.1.length : Int) then (camshaftlaw06_NestLoops.j1 kj2 l0 y552 t555 bt559.1 bt563.1 bt563.2 bt567.2 ((rd bt559.1 (l0.length : Int)) != 0)) else (none)) else (none)) else (camshaftlaw06_NestLoops.j1 kj2 l0 y552 t555 bt559.1 bt563.1 bt563.2 bt567.2 true)) else (none)) else (camshaftlaw06_NestLoops.j1 kj2 l0 y552 t555 bt559.1 bt563.1 bt563.2 bt567.2 true)) else (camshaftlaw06_NestLoops.j1 kj2 l0 y552 t555 bt559.1 bt563.1 bt563.2 bt567.2 true)) else (camshaftlaw06_NestLoops.j1 kj2 l0 y552 t555 bt559.1 bt563.1 bt563.2 bt567.2 true)) else (camshaftlaw06_NestLoops.j1 kj2 l0 y552 t555 bt559.1 bt563.1 bt563.2 bt567.2 true))))) = some r := H
                have A16 := Aside0.mk A160
                clear A160
                replace H := Option.bind_eq_some_iff.mp H
                obtain ⟨⟨t559, t560⟩, A170, H⟩ := H
                replace H : ((nest_Locks.f kj2 l0).bind fun bt563 => ((nest_Locks.f kj2 y552).bind fun bt567 => (if t556 = 0 then (if t560 = 0 then (if (t559.length : Int) = (wrap64 ((l0.length : Int) + 2)) then (if (t555.length : Int) = (l0.length : Int) then (if 0 < (t559.length : Int) then (if (rd t559 0) = (l0.length : Int) then (if 0 ≤ (l0.length : Int) then (if (l0.length : Int) < (t559.length : Int) then (camshaftlaw06_NestLoops.j1 kj2 l0 y552 t555 t559 bt563.1 bt563.2 bt567.2 ((rd t559 (l0.length : Int)) != 0)) else (none)) else (none)) else (camshaftlaw06_NestLoops.j1 kj2 l0 y552 t555 t559 bt563.1 bt563.2 bt567.2 true)) else (none)) else (camshaftlaw06_NestLoops.j1 kj2 l0 y552 t555 t559 bt563.1 bt563.2 bt567.2 true)) else (camshaftlaw06_NestLoops.j1 kj2 l0 y552 t555 t559 bt563.1 bt563.2 bt567.2 true)) else (camshaftlaw06_NestLoops.j1 kj2 l0 y552 t555 t559 bt563.1 bt563.2 bt567.2 true)) else (camshaftlaw06_NestLoops.j1 kj2 l0 y552 t555 t559 bt563.1 bt563.2 bt567.2 true)))) = some r := H
                have A17 := Aside0.mk A170
                clear A170
                replace H := Option.bind_eq_some_iff.mp H
                obtain ⟨⟨t563, t564⟩, A180, H⟩ := H
                replace H : ((nest_Locks.f kj2 y552).bind fun bt567 => (if t556 = 0 then (if t560 = 0 then (if (t559.length : Int) = (wrap64 ((l0.length : Int) + 2)) then (if (t555.length : Int) = (l0.length : Int) then (if 0 < (t559.length : Int) then (if (rd t559 0) = (l0.length : Int) then (if 0 ≤ (l0.length : Int) then (if (l0.length : Int) < (t559.length : Int) then (camshaftlaw06_NestLoops.j1 kj2 l0 y552 t555 t559 t563 t564 bt567.2 ((rd t559 (l0.length : Int)) != 0)) else (none)) else (none)) else (camshaftlaw06_NestLoops.j1 kj2 l0 y552 t555 t559 t563 t564 bt567.2 true)) else (none)) else (camshaftlaw06_NestLoops.j1 kj2 l0 y552 t555 t559 t563 t564 bt567.2 true)) else (camshaftlaw06_NestLoops.j1 kj2 l0 y552 t555 t559 t563 t564 bt567.2 true)) else (camshaftlaw06_NestLoops.j1 kj2 l0 y552 t555 t559 t563 t564 bt567.2 true)) else (camshaftlaw06_NestLoops.j1 kj2 l0 y552 t555 t559 t563 t564 bt567.2 true))) = some r := H
                have A18 := Aside0.mk A180
                clear A180
                replace H := Option.bind_eq_some_iff.mp H
                obtain ⟨⟨t567, t568⟩, A190, H⟩ := H
                replace H : (if t556 = 0 then (if t560 = 0 then (if (t559.length : Int) = (wrap64 ((l0.length : Int) + 2)) then (if (t555.length : Int) = (l0.length : Int) then (if 0 < (t559.length : Int) then (if (rd t559 0) = (l0.length : Int) then (if 0 ≤ (l0.length : Int) then (if (l0.length : Int) < (t559.length : Int) then (camshaftlaw06_NestLoops.j1 kj2 l0 y552 t555 t559 t563 t564 t568 ((rd t559 (l0.length : Int)) != 0)) else (none)) else (none)) else (camshaftlaw06_NestLoops.j1 kj2 l0 y552 t555 t559 t563 t564 t568 true)) else (none)) else (camshaftlaw06_NestLoops.j1 kj2 l0 y552 t555 t559 t563 t564 t568 true)) else (camshaftlaw06_NestLoops.j1 kj2 l0 y552 t555 t559 t563 t564 t568 true)) else (camshaftlaw06_NestLoops.j1 kj2 l0 y552 t555 t559 t563 t564 t568 true)) else (camshaftlaw06_NestLoops.j1 kj2 l0 y552 t555 t559 t563 t564 t568 true)) = some r := H
                have A19 := Aside0.mk A190
                clear A190
                have HC20 := Aside0.mk H
                clear H
                go_upto_region 9 with (first | ((with_reducible refine gate_dst (N := 33) rfl ?_); (try (refine gate_guard (by rfl) ?_; dsimp only)); refine Kd.R_lit k32 _ 32 ?hg (N := 33) ?hd (xs := ([(⟨21, wrap64 (1 + (wrap64 (a1))), 0⟩ : S32)] : List (S32))) (inner := [.int .i64 21, .int .i64 (wrap64 (1 + (wrap64 (a1)))), .int .i64 0]) (ok := fun _ => True) (okp := fun _ => True) ?hr ?hp (fun _ hk => hk) trivial (Below.refl _ _) (Nat.le_refl _) (by simp) ?_; (case hd => rfl); (case hg => rfl); (case hr => first | (go_simp; done) | (go_simp; rfl)); (case hp => exact (Reps.c3 (show Kd.M k32 _ _ _ (⟨21, wrap64 (1 + (wrap64 (a1))), 0⟩ : S32) [.int .i64 21, .int .i64 (wrap64 (1 + (wrap64 (a1)))), .int .i64 0] from (k32_mkM _ _ _ (⟨21, wrap64 (1 + (wrap64 (a1))), 0⟩ : S32) )) (Reps.none _ _))); intro v540 w21 ho22 hb hg_ hnew_; clear hg_ hnew_; (first | rw [← Ny539.out] at ho22 | (simp only [Int.reduceToNat] at ho22; rw [← Ny539.out] at ho22)); have n0_ := Aside0.mk (Kd.R_lower ho22 (below_size (by repeat (first | (with_reducible first | exact HB.out | apply below_alloc | apply pw_below_drewN | apply below_drew1) | exact HB.out)))); have n1_ := Aside0.mk (below_step (by repeat (first | (with_reducible first | exact HB.out | apply below_alloc | apply pw_below_drewN | apply below_drew1) | exact HB.out)) hb); clear HB; have HO541 := n0_; have HB := n1_; clear n0_ n1_; clear hb ho22; have q23 : ((ji11) : Int) ≤ ((l0.length : Int) : Int) := of_decide_eq_true (by first | (with_reducible assumption) | assumption); obtain ⟨i023, hi023, _, hsz23, _⟩ := info_parts info32; have hroom23 : l0.length ≤ c0 := HC0.out; have hC23 : Kd.C k32 _ A0 l0.length l0 := HR0.out; have hcut23 := cut_to (P := Try.prog) 22 32 .i64 Try.underlying22 hi023 A0 l0.length c0 (ji11) (of_decide_eq_true (by first | (with_reducible assumption) | assumption)) q23 hroom23; have hr23 := Kd.C_take (m := ((ji11) : Int).toNat) hC23 (by omega); have hy23 : y542.length = ((ji11) : Int).toNat := (by rw [Ny542.out, List.length_take]; omega); rw [← Ny542.out] at hr23; rw [← hy23] at hcut23; have HR545 := Aside0.mk hr23; have HC545 := Aside0.mk (show y542.length ≤ c0 from by omega); clear hr23 hC23 hroom23 hi023 hsz23; have KY23 := Aside0.mk hy23; clear hy23; replace q23 := eq_true q23) | ((with_reducible refine gate_builtin (b := .append) (xs := #[.tmp 33, .tmp 38]) rfl ?_); (try (refine gate_guard (by rfl) ?_; dsimp only)); at_builtin; refine Kd.R_append_rows k32 (w0 := w) w.heap.size rfl (.tmp 33) (.tmp 38) 22 32 (.agg #[(.int .i64 0), (.int .i64 0), (.int .i64 0)]) 24 rfl Try.underlying22 info32 rfl (by decide) (by omega) v540 y539 y542 _ _ _ (fun _ => True) (fun _ => False) rfl rfl ?aO ?aR (fun _ _ h => h) (fun _ h => h.elim) ?aF ?aB ?aS ?aL ?_; (case aR => repeat (first | exact (Kd.C_below HR545.out HB.out) | (with_reducible refine Kd.C_alloc ?_ _) | (with_reducible refine Kd.C_drewN ?_ _) | (with_reducible refine Kd.C_drew ?_))); (case aB => exact (by repeat (first | (with_reducible first | exact HB.out | apply below_alloc | apply pw_below_drewN | apply below_drew1) | exact HB.out))); (case aF => exact (fun _ _ => trivial)); (case aO => exact (by (with_reducible repeat (first | apply Kd.R_alloc | apply Kd.R_drewN | apply Kd.R_drew)); exact HO541.out)); (case aS => exact (below_size (by repeat (first | (with_reducible first | exact HB.out | apply below_alloc | apply pw_below_drewN | apply below_drew1) | exact HB.out)))); (case aL => have := LMc14.out; omega); intro v547 w24 ho hb hg hat; rw [← Ny546.out] at ho; have n0_ := Aside0.mk (hb); have n1_ := Aside0.mk (ho); clear HB; clear HO541; have HB := n0_; have HO548 := n1_; clear n0_ n1_; clear ho hb hg hat) | ((with_reducible refine gate_dst (N := 43) rfl ?_); (try (refine gate_guard (by rfl) ?_; dsimp only)); refine Kd.R_lit k32 _ 32 ?hg (N := 43) ?hd (xs := ([(⟨22, 0, 0⟩ : S32), (⟨25, 0, 0⟩ : S32)] : List (S32))) (inner := [.int .i64 22, .int .i64 0, .int .i64 0, .int .i64 25, .int .i64 0, .int .i64 0]) (ok := fun _ => True) (okp := fun _ => True) ?hr ?hp (fun _ hk => hk) trivial (Below.refl _ _) (Nat.le_refl _) (by simp) ?_; (case hd => rfl); (case hg => rfl); (case hr => first | (go_simp; done) | (go_simp; rfl)); (case hp => exact (Reps.c3 (show Kd.M k32 _ _ _ (⟨22, 0, 0⟩ : S32) [.int .i64 22, .int .i64 0, .int .i64 0] from (k32_mkM _ _ _ (⟨22, 0, 0⟩ : S32) )) (Reps.c3 (show Kd.M k32 _ _ _ (⟨25, 0, 0⟩ : S32) [.int .i64 25, .int .i64 0, .int .i64 0] from (k32_mkM _ _ _ (⟨25, 0, 0⟩ : S32) )) (Reps.none _ _)))); intro v550 w25 ho26 hb hg_ hnew_; clear hg_ hnew_; (first | rw [← Ny549.out] at ho26 | (simp only [Int.reduceToNat] at ho26; rw [← Ny549.out] at ho26)); have n0_ := Aside0.mk (Kd.R_elder' (by (with_reducible repeat (first | apply Kd.R_alloc | apply Kd.R_drewN | apply Kd.R_drew)); exact HO548.out) (Kd.R_base ho26) hb); have n1_ := Aside0.mk (Kd.R_lower (Kd.R_new' ho26 (Kd.R_lt (by (with_reducible repeat (first | apply Kd.R_alloc | apply Kd.R_drewN | apply Kd.R_drew)); exact HO548.out))) (below_size (by repeat (first | (with_reducible first | exact HB.out | apply below_alloc | apply pw_below_drewN | apply below_drew1) | exact HB.out)))); have n2_ := Aside0.mk (below_step (by repeat (first | (with_reducible first | exact HB.out | apply below_alloc | apply pw_below_drewN | apply below_drew1) | exact HB.out)) hb); clear HO548; clear HB; have HO548 := n0_; have HO551 := n1_; have HB := n2_; clear n0_ n1_ n2_; clear hb ho26; obtain ⟨Ao28, co28, eo28⟩ := Kd.R_slice HO551.out; subst eo28) | ((with_reducible refine gate_builtin (b := .append) (xs := #[.tmp 40, .tmp 43]) rfl ?_); (try (refine gate_guard (by rfl) ?_; dsimp only)); at_builtin; refine Kd.R_append_rows k32 (w0 := w) w.heap.size rfl (.tmp 40) (.tmp 43) 22 32 (.agg #[(.int .i64 0), (.int .i64 0), (.int .i64 0)]) 24 rfl Try.underlying22 info32 rfl (by decide) (by omega) v547 y546 y549 _ _ _ (fun k_ => some k_ ≠ (.slice Ao28 y549.length co28 : Value).ownBlock) (fun _ => False) rfl rfl ?aO ?aR (fun _ _ h => h) (fun _ h => h.elim) ?aF ?aB ?aS ?aL ?_; (case aR => repeat (first | exact (Kd.R_reads' HO551.out).2.2 | (with_reducible refine Kd.C_alloc ?_ _) | (with_reducible refine Kd.C_drewN ?_ _) | (with_reducible refine Kd.C_drew ?_))); (case aB => exact (by repeat (first | (with_reducible first | exact HB.out | apply below_alloc | apply pw_below_drewN | apply below_drew1) | exact HB.out))); (case aF => exact (fun k_ hk => Kd.fresh' (Kd.R_lt (by (with_reducible repeat (first | apply Kd.R_alloc | apply Kd.R_drewN | apply Kd.R_drew)); exact HO551.out)) k_ hk)); (case aO => exact (by (with_reducible repeat (first | apply Kd.R_alloc | apply Kd.R_drewN | apply Kd.R_drew)); exact Kd.R_mono HO548.out (fun _ hk => hk.2))); (case aS => exact (below_size (by repeat (first | (with_reducible first | exact HB.out | apply below_alloc | apply pw_below_drewN | apply below_drew1) | exact HB.out)))); (case aL => have := LMc15.out; omega); intro v553 w27 ho hb hg hat; rw [← Ny552.out] at ho; have n0_ := Aside0.mk (Kd.R_after (ok := (fun _ => True)) (by (with_reducible repeat (first | apply Kd.R_alloc | apply Kd.R_drewN | apply Kd.R_drew)); exact HO551.out) hg hat); have n1_ := Aside0.mk (hb); have n2_ := Aside0.mk (ho); clear HO551; clear HB; clear HO548; have HO551 := n0_; have HB := n1_; have HO554 := n2_; clear n0_ n1_ n2_; clear ho hb hg hat) | (go_at_call 11; (with_reducible refine (nest_Match.calls kj2 _ _ l0 t555 t556 _ ?side1 ?side2 A16.out).mono ?_); (case side1 => repeat (first | exact (Kd.C_below HR0.out HB.out) | (with_reducible refine Kd.C_alloc ?_ _) | (with_reducible refine Kd.C_drewN ?_ _) | (with_reducible refine Kd.C_drew ?_))); (case side2 => exact HC0.out); rintro e w29 ⟨v557, rfl, ho0, hb⟩; have n0_ := Aside0.mk (Kd.R_below (by (with_reducible repeat (first | apply Kd.R_alloc | apply Kd.R_drewN | apply Kd.R_drew)); exact HO551.out) hb); have n1_ := Aside0.mk (Kd.R_below (by (with_reducible repeat (first | apply Kd.R_alloc | apply Kd.R_drewN | apply Kd.R_drew)); exact HO554.out) hb); have n2_ := Aside0.mk (Kd.R_lower ho0 (below_size (by repeat (first | (with_reducible first | exact HB.out | apply below_alloc | apply pw_below_drewN | apply below_drew1) | exact HB.out)))); have n3_ := Aside0.mk (below_step (by repeat (first | (with_reducible first | exact HB.out | apply below_alloc | apply pw_below_drewN | apply below_drew1) | exact HB.out)) hb); clear HO551; clear HO554; clear HB; have HO551 := n0_; have HO554 := n1_; have HO558 := n2_; have HB := n3_; clear n0_ n1_ n2_ n3_; (try clear hb); (try clear hb2); (try clear hk); (try clear hi); (try clear ho0); obtain ⟨Ao30, co30, eo30⟩ := Kd.R_slice HO554.out; subst eo30) | (go_at_call 11; (with_reducible refine (nest_Match.calls kj2 _ _ y552 t559 t560 _ ?side1 ?side2 A17.out).mono ?_); (case side1 => repeat (first | exact (Kd.R_reads' HO554.out).2.2 | (with_reducible refine Kd.C_alloc ?_ _) | (with_reducible refine Kd.C_drewN ?_ _) | (with_reducible refine Kd.C_drew ?_))); (case side2 => exact (Kd.R_reads' HO554.out).2.1); rintro e w31 ⟨v561, rfl, ho0, hb⟩; have n0_ := Aside0.mk (Kd.R_below (by (with_reducible repeat (first | apply Kd.R_alloc | apply Kd.R_drewN | apply Kd.R_drew)); exact HO551.out) hb); have n1_ := Aside0.mk (Kd.R_below (by (with_reducible repeat (first | apply Kd.R_alloc | apply Kd.R_drewN | apply Kd.R_drew)); exact HO554.out) hb); have n2_ := Aside0.mk (Kd.R_elder' (by (with_reducible repeat (first | apply Kd.R_alloc | apply Kd.R_drewN | apply Kd.R_drew)); exact HO558.out) (Kd.R_base ho0) hb); have n3_ := Aside0.mk (Kd.R_lower (Kd.R_new' ho0 (Kd.R_lt (by (with_reducible repeat (first | apply Kd.R_alloc | apply Kd.R_drewN | apply Kd.R_drew)); exact HO558.out))) (below_size (by repeat (first | (with_reducible first | exact HB.out | apply below_alloc | apply pw_below_drewN | apply below_drew1) | exact HB.out)))); have n4_ := Aside0.mk (below_step (by repeat (first | (with_reducible first | exact HB.out | apply below_alloc | apply pw_below_drewN | apply below_drew1) | exact HB.out)) hb); clear HO551; clear HO554; clear HO558; clear HB; have HO551 := n0_; have HO554 := n1_; have HO558 := n2_; have HO562 := n3_; have HB := n4_; clear n0_ n1_ n2_ n3_ n4_; (try clear hb); (try clear hb2); (try clear hk); (try clear hi); (try clear ho0)) | (go_at_call 15; (with_reducible refine (nest_Locks.calls kj2 _ _ l0 t563 t564 _ ?side1 ?side2 A18.out).mono ?_); (case side1 => repeat (first | exact (Kd.C_below HR0.out HB.out) | (with_reducible refine Kd.C_alloc ?_ _) | (with_reducible refine Kd.C_drewN ?_ _) | (with_reducible refine Kd.C_drew ?_))); (case side2 => exact HC0.out); rintro e w32 ⟨v565, rfl, ho0, hb⟩; have n0_ := Aside0.mk (Kd.R_below (by (with_reducible repeat (first | apply Kd.R_alloc | apply Kd.R_drewN | apply Kd.R_drew)); exact HO551.out) hb); have n1_ := Aside0.mk (Kd.R_below (by (with_reducible repeat (first | apply Kd.R_alloc | apply Kd.R_drewN | apply Kd.R_drew)); exact HO554.out) hb); have n2_ := Aside0.mk (Kd.R_elder' (by (with_reducible repeat (first | apply Kd.R_alloc | apply Kd.R_drewN | apply Kd.R_drew)); exact HO558.out) (Kd.R_base ho0) hb); have n3_ := Aside0.mk (Kd.R_elder' (by (with_reducible repeat (first | apply Kd.R_alloc | apply Kd.R_drewN | apply Kd.R_drew)); exact HO562.out) (Kd.R_base ho0) hb); have n4_ := Aside0.mk (Kd.R_lower (Kd.R_new' (Kd.R_new' ho0 (Kd.R_lt (by (with_reducible repeat (first | apply Kd.R_alloc | apply Kd.R_drewN | apply Kd.R_drew)); exact HO558.out))) (Kd.R_lt (by (with_reducible repeat (first | apply Kd.R_alloc | apply Kd.R_drewN | apply Kd.R_drew)); exact HO562.out))) (below_size (by repeat (first | (with_reducible first | exact HB.out | apply below_alloc | apply pw_below_drewN | apply below_drew1) | exact HB.out)))); have n5_ := Aside0.mk (below_step (by repeat (first | (with_reducible first | exact HB.out | apply below_alloc | apply pw_below_drewN | apply below_drew1) | exact HB.out)) hb); clear HO551; clear HO554; clear HO558; clear HO562; clear HB; have HO551 := n0_; have HO554 := n1_; have HO558 := n2_; have HO562 := n3_; have HO566 := n4_; have HB := n5_; clear n0_ n1_ n2_ n3_ n4_ n5_; (try clear hb); (try clear hb2); (try clear hk); (try clear hi); (try clear ho0)) | (go_at_call 15; (with_reducible refine (nest_Locks.calls kj2 _ _ y552 t567 t568 _ ?side1 ?side2 A19.out).mono ?_); (case side1 => repeat (first | exact (Kd.R_reads' HO554.out).2.2 | (with_reducible refine Kd.C_alloc ?_ _) | (with_reducible refine Kd.C_drewN ?_ _) | (with_reducible refine Kd.C_drew ?_))); (case side2 => exact (Kd.R_reads' HO554.out).2.1); rintro e w33 ⟨v569, rfl, ho0, hb⟩; have n0_ := Aside0.mk (Kd.R_below (by (with_reducible repeat (first | apply Kd.R_alloc | apply Kd.R_drewN | apply Kd.R_drew)); exact HO551.out) hb); have n1_ := Aside0.mk (Kd.R_below (by (with_reducible repeat (first | apply Kd.R_alloc | apply Kd.R_drewN | apply Kd.R_drew)); exact HO554.out) hb); have n2_ := Aside0.mk (Kd.R_elder' (by (with_reducible repeat (first | apply Kd.R_alloc | apply Kd.R_drewN | apply Kd.R_drew)); exact HO558.out) (Kd.R_base ho0) hb); have n3_ := Aside0.mk (Kd.R_elder' (by (with_reducible repeat (first | apply Kd.R_alloc | apply Kd.R_drewN | apply Kd.R_drew)); exact HO562.out) (Kd.R_base ho0) hb); have n4_ := Aside0.mk (Kd.R_elder' (by (with_reducible repeat (first | apply Kd.R_alloc | apply Kd.R_drewN | apply Kd.R_drew)); exact HO566.out) (Kd.R_base ho0) hb); have n5_ := Aside0.mk (Kd.R_lower (Kd.R_new' (Kd.R_new' (Kd.R_new' ho0 (Kd.R_lt (by (with_reducible repeat (first | apply Kd.R_alloc | apply Kd.R_drewN | apply Kd.R_drew)); exact HO558.out))) (Kd.R_lt (by (with_reducible repeat (first | apply Kd.R_alloc | apply Kd.R_drewN | apply Kd.R_drew)); exact HO562.out))) (Kd.R_lt (by (with_reducible repeat (first | apply Kd.R_alloc | apply Kd.R_drewN | apply Kd.R_drew)); exact HO566.out))) (below_size (by repeat (first | (with_reducible first | exact HB.out | apply below_alloc | apply pw_below_drewN | apply below_drew1) | exact HB.out)))); have n6_ := Aside0.mk (below_step (by repeat (first | (with_reducible first | exact HB.out | apply below_alloc | apply pw_below_drewN | apply below_drew1) | exact HB.out)) hb); clear HO551; clear HO554; clear HO558; clear HO562; clear HO566; clear HB; have HO551 := n0_; have HO554 := n1_; have HO558 := n2_; have HO562 := n3_; have HO566 := n4_; have HO570 := n5_; have HB := n6_; clear n0_ n1_ n2_ n3_ n4_ n5_ n6_; (try clear hb); (try clear hb2); (try clear hk); (try clear hi); (try clear ho0)))
                repeat (go_quiet (first | ((with_reducible refine gate_dst (N := 33) rfl ?_); (try (refine gate_guard (by rfl) ?_; dsimp only)); refine Kd.R_lit k32 _ 32 ?hg (N := 33) ?hd (xs := ([(⟨21, wrap64 (1 + (wrap64 (a1))), 0⟩ : S32)] : List (S32))) (inner := [.int .i64 21, .int .i64 (wrap64 (1 + (wrap64 (a1)))), .int .i64 0]) (ok := fun _ => True) (okp := fun _ => True) ?hr ?hp (fun _ hk => hk) trivial (Below.refl _ _) (Nat.le_refl _) (by simp) ?_; (case hd => rfl); (case hg => rfl); (case hr => first | (go_simp; done) | (go_simp; rfl)); (case hp => exact (Reps.c3 (show Kd.M k32 _ _ _ (⟨21, wrap64 (1 + (wrap64 (a1))), 0⟩ : S32) [.int .i64 21, .int .i64 (wrap64 (1 + (wrap64 (a1)))), .int .i64 0] from (k32_mkM _ _ _ (⟨21, wrap64 (1 + (wrap64 (a1))), 0⟩ : S32) )) (Reps.none _ _))); intro v540 w21 ho22 hb hg_ hnew_; clear hg_ hnew_; (first | rw [← Ny539.out] at ho22 | (simp only [Int.reduceToNat] at ho22; rw [← Ny539.out] at ho22)); have n0_ := Aside0.mk (Kd.R_lower ho22 (below_size (by repeat (first | (with_reducible first | exact HB.out | apply below_alloc | apply pw_below_drewN | apply below_drew1) | exact HB.out)))); have n1_ := Aside0.mk (below_step (by repeat (first | (with_reducible first | exact HB.out | apply below_alloc | apply pw_below_drewN | apply below_drew1) | exact HB.out)) hb); clear HB; have HO541 := n0_; have HB := n1_; clear n0_ n1_; clear hb ho22; have q23 : ((ji11) : Int) ≤ ((l0.length : Int) : Int) := of_decide_eq_true (by first | (with_reducible assumption) | assumption); obtain ⟨i023, hi023, _, hsz23, _⟩ := info_parts info32; have hroom23 : l0.length ≤ c0 := HC0.out; have hC23 : Kd.C k32 _ A0 l0.length l0 := HR0.out; have hcut23 := cut_to (P := Try.prog) 22 32 .i64 Try.underlying22 hi023 A0 l0.length c0 (ji11) (of_decide_eq_true (by first | (with_reducible assumption) | assumption)) q23 hroom23; have hr23 := Kd.C_take (m := ((ji11) : Int).toNat) hC23 (by omega); have hy23 : y542.length = ((ji11) : Int).toNat := (by rw [Ny542.out, List.length_take]; omega); rw [← Ny542.out] at hr23; rw [← hy23] at hcut23; have HR545 := Aside0.mk hr23; have HC545 := Aside0.mk (show y542.length ≤ c0 from by omega); clear hr23 hC23 hroom23 hi023 hsz23; have KY23 := Aside0.mk hy23; clear hy23; replace q23 := eq_true q23) | ((with_reducible refine gate_builtin (b := .append) (xs := #[.tmp 33, .tmp 38]) rfl ?_); (try (refine gate_guard (by rfl) ?_; dsimp only)); at_builtin; refine Kd.R_append_rows k32 (w0 := w) w.heap.size rfl (.tmp 33) (.tmp 38) 22 32 (.agg #[(.int .i64 0), (.int .i64 0), (.int .i64 0)]) 24 rfl Try.underlying22 info32 rfl (by decide) (by omega) v540 y539 y542 _ _ _ (fun _ => True) (fun _ => False) rfl rfl ?aO ?aR (fun _ _ h => h) (fun _ h => h.elim) ?aF ?aB ?aS ?aL ?_; (case aR => repeat (first | exact (Kd.C_below HR545.out HB.out) | (with_reducible refine Kd.C_alloc ?_ _) | (with_reducible refine Kd.C_drewN ?_ _) | (with_reducible refine Kd.C_drew ?_))); (case aB => exact (by repeat (first | (with_reducible first | exact HB.out | apply below_alloc | apply pw_below_drewN | apply below_drew1) | exact HB.out))); (case aF => exact (fun _ _ => trivial)); (case aO => exact (by (with_reducible repeat (first | apply Kd.R_alloc | apply Kd.R_drewN | apply Kd.R_drew)); exact HO541.out)); (case aS => exact (below_size (by repeat (first | (with_reducible first | exact HB.out | apply below_alloc | apply pw_below_drewN | apply below_drew1) | exact HB.out)))); (case aL => have := LMc14.out; omega); intro v547 w24 ho hb hg hat; rw [← Ny546.out] at ho; have n0_ := Aside0.mk (hb); have n1_ := Aside0.mk (ho); clear HB; clear HO541; have HB := n0_; have HO548 := n1_; clear n0_ n1_; clear ho hb hg hat) | ((with_reducible refine gate_dst (N := 43) rfl ?_); (try (refine gate_guard (by rfl) ?_; dsimp only)); refine Kd.R_lit k32 _ 32 ?hg (N := 43) ?hd (xs := ([(⟨22, 0, 0⟩ : S32), (⟨25, 0, 0⟩ : S32)] : List (S32))) (inner := [.int .i64 22, .int .i64 0, .int .i64 0, .int .i64 25, .int .i64 0, .int .i64 0]) (ok := fun _ => True) (okp := fun _ => True) ?hr ?hp (fun _ hk => hk) trivial (Below.refl _ _) (Nat.le_refl _) (by simp) ?_; (case hd => rfl); (case hg => rfl); (case hr => first | (go_simp; done) | (go_simp; rfl)); (case hp => exact (Reps.c3 (show Kd.M k32 _ _ _ (⟨22, 0, 0⟩ : S32) [.int .i64 22, .int .i64 0, .int .i64 0] from (k32_mkM _ _ _ (⟨22, 0, 0⟩ : S32) )) (Reps.c3 (show Kd.M k32 _ _ _ (⟨25, 0, 0⟩ : S32) [.int .i64 25, .int .i64 0, .int .i64 0] from (k32_mkM _ _ _ (⟨25, 0, 0⟩ : S32) )) (Reps.none _ _)))); intro v550 w25 ho26 hb hg_ hnew_; clear hg_ hnew_; (first | rw [← Ny549.out] at ho26 | (simp only [Int.reduceToNat] at ho26; rw [← Ny549.out] at ho26)); have n0_ := Aside0.mk (Kd.R_elder' (by (with_reducible repeat (first | apply Kd.R_alloc | apply Kd.R_drewN | apply Kd.R_drew)); exact HO548.out) (Kd.R_base ho26) hb); have n1_ := Aside0.mk (Kd.R_lower (Kd.R_new' ho26 (Kd.R_lt (by (with_reducible repeat (first | apply Kd.R_alloc | apply Kd.R_drewN | apply Kd.R_drew)); exact HO548.out))) (below_size (by repeat (first | (with_reducible first | exact HB.out | apply below_alloc | apply pw_below_drewN | apply below_drew1) | exact HB.out)))); have n2_ := Aside0.mk (below_step (by repeat (first | (with_reducible first | exact HB.out | apply below_alloc | apply pw_below_drewN | apply below_drew1) | exact HB.out)) hb); clear HO548; clear HB; have HO548 := n0_; have HO551 := n1_; have HB := n2_; clear n0_ n1_ n2_; clear hb ho26; obtain ⟨Ao28, co28, eo28⟩ := Kd.R_slice HO551.out; subst eo28) | ((with_reducible refine gate_builtin (b := .append) (xs := #[.tmp 40, .tmp 43]) rfl ?_); (try (refine gate_guard (by rfl) ?_; dsimp only)); at_builtin; refine Kd.R_append_rows k32 (w0 := w) w.heap.size rfl (.tmp 40) (.tmp 43) 22 32 (.agg #[(.int .i64 0), (.int .i64 0), (.int .i64 0)]) 24 rfl Try.underlying22 info32 rfl (by decide) (by omega) v547 y546 y549 _ _ _ (fun k_ => some k_ ≠ (.slice Ao28 y549.length co28 : Value).ownBlock) (fun _ => False) rfl rfl ?aO ?aR (fun _ _ h => h) (fun _ h => h.elim) ?aF ?aB ?aS ?aL ?_; (case aR => repeat (first | exact (Kd.R_reads' HO551.out).2.2 | (with_reducible refine Kd.C_alloc ?_ _) | (with_reducible refine Kd.C_drewN ?_ _) | (with_reducible refine Kd.C_drew ?_))); (case aB => exact (by repeat (first | (with_reducible first | exact HB.out | apply below_alloc | apply pw_below_drewN | apply below_drew1) | exact HB.out))); (case aF => exact (fun k_ hk => Kd.fresh' (Kd.R_lt (by (with_reducible repeat (first | apply Kd.R_alloc | apply Kd.R_drewN | apply Kd.R_drew)); exact HO551.out)) k_ hk)); (case aO => exact (by (with_reducible repeat (first | apply Kd.R_alloc | apply Kd.R_drewN | apply Kd.R_drew)); exact Kd.R_mono HO548.out (fun _ hk => hk.2))); (case aS => exact (below_size (by repeat (first | (with_reducible first | exact HB.out | apply below_alloc | apply pw_below_drewN | apply below_drew1) | exact HB.out)))); (case aL => have := LMc15.out; omega); intro v553 w27 ho hb hg hat; rw [← Ny552.out] at ho; have n0_ := Aside0.mk (Kd.R_after (ok := (fun _ => True)) (by (with_reducible repeat (first | apply Kd.R_alloc | apply Kd.R_drewN | apply Kd.R_drew)); exact HO551.out) hg hat); have n1_ := Aside0.mk (hb); have n2_ := Aside0.mk (ho); clear HO551; clear HB; clear HO548; have HO551 := n0_; have HB := n1_; have HO554 := n2_; clear n0_ n1_ n2_; clear ho hb hg hat) | (go_at_call 11; (with_reducible refine (nest_Match.calls kj2 _ _ l0 t555 t556 _ ?side1 ?side2 A16.out).mono ?_); (case side1 => repeat (first | exact (Kd.C_below HR0.out HB.out) | (with_reducible refine Kd.C_alloc ?_ _) | (with_reducible refine Kd.C_drewN ?_ _) | (with_reducible refine Kd.C_drew ?_))); (case side2 => exact HC0.out); rintro e w29 ⟨v557, rfl, ho0, hb⟩; have n0_ := Aside0.mk (Kd.R_below (by (with_reducible repeat (first | apply Kd.R_alloc | apply Kd.R_drewN | apply Kd.R_drew)); exact HO551.out) hb); have n1_ := Aside0.mk (Kd.R_below (by (with_reducible repeat (first | apply Kd.R_alloc | apply Kd.R_drewN | apply Kd.R_drew)); exact HO554.out) hb); have n2_ := Aside0.mk (Kd.R_lower ho0 (below_size (by repeat (first | (with_reducible first | exact HB.out | apply below_alloc | apply pw_below_drewN | apply below_drew1) | exact HB.out)))); have n3_ := Aside0.mk (below_step (by repeat (first | (with_reducible first | exact HB.out | apply below_alloc | apply pw_below_drewN | apply below_drew1) | exact HB.out)) hb); clear HO551; clear HO554; clear HB; have HO551 := n0_; have HO554 := n1_; have HO558 := n2_; have HB := n3_; clear n0_ n1_ n2_ n3_; (try clear hb); (try clear hb2); (try clear hk); (try clear hi); (try clear ho0); obtain ⟨Ao30, co30, eo30⟩ := Kd.R_slice HO554.out; subst eo30) | (go_at_call 11; (with_reducible refine (nest_Match.calls kj2 _ _ y552 t559 t560 _ ?side1 ?side2 A17.out).mono ?_); (case side1 => repeat (first | exact (Kd.R_reads' HO554.out).2.2 | (with_reducible refine Kd.C_alloc ?_ _) | (with_reducible refine Kd.C_drewN ?_ _) | (with_reducible refine Kd.C_drew ?_))); (case side2 => exact (Kd.R_reads' HO554.out).2.1); rintro e w31 ⟨v561, rfl, ho0, hb⟩; have n0_ := Aside0.mk (Kd.R_below (by (with_reducible repeat (first | apply Kd.R_alloc | apply Kd.R_drewN | apply Kd.R_drew)); exact HO551.out) hb); have n1_ := Aside0.mk (Kd.R_below (by (with_reducible repeat (first | apply Kd.R_alloc | apply Kd.R_drewN | apply Kd.R_drew)); exact HO554.out) hb); have n2_ := Aside0.mk (Kd.R_elder' (by (with_reducible repeat (first | apply Kd.R_alloc | apply Kd.R_drewN | apply Kd.R_drew)); exact HO558.out) (Kd.R_base ho0) hb); have n3_ := Aside0.mk (Kd.R_lower (Kd.R_new' ho0 (Kd.R_lt (by (with_reducible repeat (first | apply Kd.R_alloc | apply Kd.R_drewN | apply Kd.R_drew)); exact HO558.out))) (below_size (by repeat (first | (with_reducible first | exact HB.out | apply below_alloc | apply pw_below_drewN | apply below_drew1) | exact HB.out)))); have n4_ := Aside0.mk (below_step (by repeat (first | (with_reducible first | exact HB.out | apply below_alloc | apply pw_below_drewN | apply below_drew1) | exact HB.out)) hb); clear HO551; clear HO554; clear HO558; clear HB; have HO551 := n0_; have HO554 := n1_; have HO558 := n2_; have HO562 := n3_; have HB := n4_; clear n0_ n1_ n2_ n3_ n4_; (try clear hb); (try clear hb2); (try clear hk); (try clear hi); (try clear ho0)) | (go_at_call 15; (with_reducible refine (nest_Locks.calls kj2 _ _ l0 t563 t564 _ ?side1 ?side2 A18.out).mono ?_); (case side1 => repeat (first | exact (Kd.C_below HR0.out HB.out) | (with_reducible refine Kd.C_alloc ?_ _) | (with_reducible refine Kd.C_drewN ?_ _) | (with_reducible refine Kd.C_drew ?_))); (case side2 => exact HC0.out); rintro e w32 ⟨v565, rfl, ho0, hb⟩; have n0_ := Aside0.mk (Kd.R_below (by (with_reducible repeat (first | apply Kd.R_alloc | apply Kd.R_drewN | apply Kd.R_drew)); exact HO551.out) hb); have n1_ := Aside0.mk (Kd.R_below (by (with_reducible repeat (first | apply Kd.R_alloc | apply Kd.R_drewN | apply Kd.R_drew)); exact HO554.out) hb); have n2_ := Aside0.mk (Kd.R_elder' (by (with_reducible repeat (first | apply Kd.R_alloc | apply Kd.R_drewN | apply Kd.R_drew)); exact HO558.out) (Kd.R_base ho0) hb); have n3_ := Aside0.mk (Kd.R_elder' (by (with_reducible repeat (first | apply Kd.R_alloc | apply Kd.R_drewN | apply Kd.R_drew)); exact HO562.out) (Kd.R_base ho0) hb); have n4_ := Aside0.mk (Kd.R_lower (Kd.R_new' (Kd.R_new' ho0 (Kd.R_lt (by (with_reducible repeat (first | apply Kd.R_alloc | apply Kd.R_drewN | apply Kd.R_drew)); exact HO558.out))) (Kd.R_lt (by (with_reducible repeat (first | apply Kd.R_alloc | apply Kd.R_drewN | apply Kd.R_drew)); exact HO562.out))) (below_size (by repeat (first | (with_reducible first | exact HB.out | apply below_alloc | apply pw_below_drewN | apply below_drew1) | exact HB.out)))); have n5_ := Aside0.mk (below_step (by repeat (first | (with_reducible first | exact HB.out | apply below_alloc | apply pw_below_drewN | apply below_drew1) | exact HB.out)) hb); clear HO551; clear HO554; clear HO558; clear HO562; clear HB; have HO551 := n0_; have HO554 := n1_; have HO558 := n2_; have HO562 := n3_; have HO566 := n4_; have HB := n5_; clear n0_ n1_ n2_ n3_ n4_ n5_; (try clear hb); (try clear hb2); (try clear hk); (try clear hi); (try clear ho0)) | (go_at_call 15; (with_reducible refine (nest_Locks.calls kj2 _ _ y552 t567 t568 _ ?side1 ?side2 A19.out).mono ?_); (case side1 => repeat (first | exact (Kd.R_reads' HO554.out).2.2 | (with_reducible refine Kd.C_alloc ?_ _) | (with_reducible refine Kd.C_drewN ?_ _) | (with_reducible refine Kd.C_drew ?_))); (case side2 => exact (Kd.R_reads' HO554.out).2.1); rintro e w33 ⟨v569, rfl, ho0, hb⟩; have n0_ := Aside0.mk (Kd.R_below (by (with_reducible repeat (first | apply Kd.R_alloc | apply Kd.R_drewN | apply Kd.R_drew)); exact HO551.out) hb); have n1_ := Aside0.mk (Kd.R_below (by (with_reducible repeat (first | apply Kd.R_alloc | apply Kd.R_drewN | apply Kd.R_drew)); exact HO554.out) hb); have n2_ := Aside0.mk (Kd.R_elder' (by (with_reducible repeat (first | apply Kd.R_alloc | apply Kd.R_drewN | apply Kd.R_drew)); exact HO558.out) (Kd.R_base ho0) hb); have n3_ := Aside0.mk (Kd.R_elder' (by (with_reducible repeat (first | apply Kd.R_alloc | apply Kd.R_drewN | apply Kd.R_drew)); exact HO562.out) (Kd.R_base ho0) hb); have n4_ := Aside0.mk (Kd.R_elder' (by (with_reducible repeat (first | apply Kd.R_alloc | apply Kd.R_drewN | apply Kd.R_drew)); exact HO566.out) (Kd.R_base ho0) hb); have n5_ := Aside0.mk (Kd.R_lower (Kd.R_new' (Kd.R_new' (Kd.R_new' ho0 (Kd.R_lt (by (with_reducible repeat (first | apply Kd.R_alloc | apply Kd.R_drewN | apply Kd.R_drew)); exact HO558.out))) (Kd.R_lt (by (with_reducible repeat (first | apply Kd.R_alloc | apply Kd.R_drewN | apply Kd.R_drew)); exact HO562.out))) (Kd.R_lt (by (with_reducible repeat (first | apply Kd.R_alloc | apply Kd.R_drewN | apply Kd.R_drew)); exact HO566.out))) (below_size (by repeat (first | (with_reducible first | exact HB.out | apply below_alloc | apply pw_below_drewN | apply below_drew1) | exact HB.out)))); have n6_ := Aside0.mk (below_step (by repeat (first | (with_reducible first | exact HB.out | apply below_alloc | apply pw_below_drewN | apply below_drew1) | exact HB.out)) hb); clear HO551; clear HO554; clear HO558; clear HO562; clear HO566; clear HB; have HO551 := n0_; have HO554 := n1_; have HO558 := n2_; have HO562 := n3_; have HO566 := n4_; have HO570 := n5_; have HB := n6_; clear n0_ n1_ n2_ n3_ n4_ n5_ n6_; (try clear hb); (try clear hb2); (try clear hk); (try clear hi); (try clear ho0))); go_upto_region 9 with (first | ((with_reducible refine gate_dst (N := 33) rfl ?_); (try (refine gate_guard (by rfl) ?_; dsimp only)); refine Kd.R_lit k32 _ 32 ?hg (N := 33) ?hd (xs := ([(⟨21, wrap64 (1 + (wrap64 (a1))), 0⟩ : S32)] : List (S32))) (inner := [.int .i64 21, .int .i64 (wrap64 (1 + (wrap64 (a1)))), .int .i64 0]) (ok := fun _ => True) (okp := fun _ => True) ?hr ?hp (fun _ hk => hk) trivial (Below.refl _ _) (Nat.le_refl _) (by simp) ?_; (case hd => rfl); (case hg => rfl); (case hr => first | (go_simp; done) | (go_simp; rfl)); (case hp => exact (Reps.c3 (show Kd.M k32 _ _ _ (⟨21, wrap64 (1 + (wrap64 (a1))), 0⟩ : S32) [.int .i64 21, .int .i64 (wrap64 (1 + (wrap64 (a1)))), .int .i64 0] from (k32_mkM _ _ _ (⟨21, wrap64 (1 + (wrap64 (a1))), 0⟩ : S32) )) (Reps.none _ _))); intro v540 w21 ho22 hb hg_ hnew_; clear hg_ hnew_; (first | rw [← Ny539.out] at ho22 | (simp only [Int.reduceToNat] at ho22; rw [← Ny539.out] at ho22)); have n0_ := Aside0.mk (Kd.R_lower ho22 (below_size (by repeat (first | (with_reducible first | exact HB.out | apply below_alloc | apply pw_below_drewN | apply below_drew1) | exact HB.out)))); have n1_ := Aside0.mk (below_step (by repeat (first | (with_reducible first | exact HB.out | apply below_alloc | apply pw_below_drewN | apply below_drew1) | exact HB.out)) hb); clear HB; have HO541 := n0_; have HB := n1_; clear n0_ n1_; clear hb ho22; have q23 : ((ji11) : Int) ≤ ((l0.length : Int) : Int) := of_decide_eq_true (by first | (with_reducible assumption) | assumption); obtain ⟨i023, hi023, _, hsz23, _⟩ := info_parts info32; have hroom23 : l0.length ≤ c0 := HC0.out; have hC23 : Kd.C k32 _ A0 l0.length l0 := HR0.out; have hcut23 := cut_to (P := Try.prog) 22 32 .i64 Try.underlying22 hi023 A0 l0.length c0 (ji11) (of_decide_eq_true (by first | (with_reducible assumption) | assumption)) q23 hroom23; have hr23 := Kd.C_take (m := ((ji11) : Int).toNat) hC23 (by omega); have hy23 : y542.length = ((ji11) : Int).toNat := (by rw [Ny542.out, List.length_take]; omega); rw [← Ny542.out] at hr23; rw [← hy23] at hcut23; have HR545 := Aside0.mk hr23; have HC545 := Aside0.mk (show y542.length ≤ c0 from by omega); clear hr23 hC23 hroom23 hi023 hsz23; have KY23 := Aside0.mk hy23; clear hy23; replace q23 := eq_true q23) | ((with_reducible refine gate_builtin (b := .append) (xs := #[.tmp 33, .tmp 38]) rfl ?_); (try (refine gate_guard (by rfl) ?_; dsimp only)); at_builtin; refine Kd.R_append_rows k32 (w0 := w) w.heap.size rfl (.tmp 33) (.tmp 38) 22 32 (.agg #[(.int .i64 0), (.int .i64 0), (.int .i64 0)]) 24 rfl Try.underlying22 info32 rfl (by decide) (by omega) v540 y539 y542 _ _ _ (fun _ => True) (fun _ => False) rfl rfl ?aO ?aR (fun _ _ h => h) (fun _ h => h.elim) ?aF ?aB ?aS ?aL ?_; (case aR => repeat (first | exact (Kd.C_below HR545.out HB.out) | (with_reducible refine Kd.C_alloc ?_ _) | (with_reducible refine Kd.C_drewN ?_ _) | (with_reducible refine Kd.C_drew ?_))); (case aB => exact (by repeat (first | (with_reducible first | exact HB.out | apply below_alloc | apply pw_below_drewN | apply below_drew1) | exact HB.out))); (case aF => exact (fun _ _ => trivial)); (case aO => exact (by (with_reducible repeat (first | apply Kd.R_alloc | apply Kd.R_drewN | apply Kd.R_drew)); exact HO541.out)); (case aS => exact (below_size (by repeat (first | (with_reducible first | exact HB.out | apply below_alloc | apply pw_below_drewN | apply below_drew1) | exact HB.out)))); (case aL => have := LMc14.out; omega); intro v547 w24 ho hb hg hat; rw [← Ny546.out] at ho; have n0_ := Aside0.mk (hb); have n1_ := Aside0.mk (ho); clear HB; clear HO541; have HB := n0_; have HO548 := n1_; clear n0_ n1_; clear ho hb hg hat) | ((with_reducible refine gate_dst (N := 43) rfl ?_); (try (refine gate_guard (by rfl) ?_; dsimp only)); refine Kd.R_lit k32 _ 32 ?hg (N := 43) ?hd (xs := ([(⟨22, 0, 0⟩ : S32), (⟨25, 0, 0⟩ : S32)] : List (S32))) (inner := [.int .i64 22, .int .i64 0, .int .i64 0, .int .i64 25, .int .i64 0, .int .i64 0]) (ok := fun _ => True) (okp := fun _ => True) ?hr ?hp (fun _ hk => hk) trivial (Below.refl _ _) (Nat.le_refl _) (by simp) ?_; (case hd => rfl); (case hg => rfl); (case hr => first | (go_simp; done) | (go_simp; rfl)); (case hp => exact (Reps.c3 (show Kd.M k32 _ _ _ (⟨22, 0, 0⟩ : S32) [.int .i64 22, .int .i64 0, .int .i64 0] from (k32_mkM _ _ _ (⟨22, 0, 0⟩ : S32) )) (Reps.c3 (show Kd.M k32 _ _ _ (⟨25, 0, 0⟩ : S32) [.int .i64 25, .int .i64 0, .int .i64 0] from (k32_mkM _ _ _ (⟨25, 0, 0⟩ : S32) )) (Reps.none _ _)))); intro v550 w25 ho26 hb hg_ hnew_; clear hg_ hnew_; (first | rw [← Ny549.out] at ho26 | (simp only [Int.reduceToNat] at ho26; rw [← Ny549.out] at ho26)); have n0_ := Aside0.mk (Kd.R_elder' (by (with_reducible repeat (first | apply Kd.R_alloc | apply Kd.R_drewN | apply Kd.R_drew)); exact HO548.out) (Kd.R_base ho26) hb); have n1_ := Aside0.mk (Kd.R_lower (Kd.R_new' ho26 (Kd.R_lt (by (with_reducible repeat (first | apply Kd.R_alloc | apply Kd.R_drewN | apply Kd.R_drew)); exact HO548.out))) (below_size (by repeat (first | (with_reducible first | exact HB.out | apply below_alloc | apply pw_below_drewN | apply below_drew1) | exact HB.out)))); have n2_ := Aside0.mk (below_step (by repeat (first | (with_reducible first | exact HB.out | apply below_alloc | apply pw_below_drewN | apply below_drew1) | exact HB.out)) hb); clear HO548; clear HB; have HO548 := n0_; have HO551 := n1_; have HB := n2_; clear n0_ n1_ n2_; clear hb ho26; obtain ⟨Ao28, co28, eo28⟩ := Kd.R_slice HO551.out; subst eo28) | ((with_reducible refine gate_builtin (b := .append) (xs := #[.tmp 40, .tmp 43]) rfl ?_); (try (refine gate_guard (by rfl) ?_; dsimp only)); at_builtin; refine Kd.R_append_rows k32 (w0 := w) w.heap.size rfl (.tmp 40) (.tmp 43) 22 32 (.agg #[(.int .i64 0), (.int .i64 0), (.int .i64 0)]) 24 rfl Try.underlying22 info32 rfl (by decide) (by omega) v547 y546 y549 _ _ _ (fun k_ => some k_ ≠ (.slice Ao28 y549.length co28 : Value).ownBlock) (fun _ => False) rfl rfl ?aO ?aR (fun _ _ h => h) (fun _ h => h.elim) ?aF ?aB ?aS ?aL ?_; (case aR => repeat (first | exact (Kd.R_reads' HO551.out).2.2 | (with_reducible refine Kd.C_alloc ?_ _) | (with_reducible refine Kd.C_drewN ?_ _) | (with_reducible refine Kd.C_drew ?_))); (case aB => exact (by repeat (first | (with_reducible first | exact HB.out | apply below_alloc | apply pw_below_drewN | apply below_drew1) | exact HB.out))); (case aF => exact (fun k_ hk => Kd.fresh' (Kd.R_lt (by (with_reducible repeat (first | apply Kd.R_alloc | apply Kd.R_drewN | apply Kd.R_drew)); exact HO551.out)) k_ hk)); (case aO => exact (by (with_reducible repeat (first | apply Kd.R_alloc | apply Kd.R_drewN | apply Kd.R_drew)); exact Kd.R_mono HO548.out (fun _ hk => hk.2))); (case aS => exact (below_size (by repeat (first | (with_reducible first | exact HB.out | apply below_alloc | apply pw_below_drewN | apply below_drew1) | exact HB.out)))); (case aL => have := LMc15.out; omega); intro v553 w27 ho hb hg hat; rw [← Ny552.out] at ho; have n0_ := Aside0.mk (Kd.R_after (ok := (fun _ => True)) (by (with_reducible repeat (first | apply Kd.R_alloc | apply Kd.R_drewN | apply Kd.R_drew)); exact HO551.out) hg hat); have n1_ := Aside0.mk (hb); have n2_ := Aside0.mk (ho); clear HO551; clear HB; clear HO548; have HO551 := n0_; have HB := n1_; have HO554 := n2_; clear n0_ n1_ n2_; clear ho hb hg hat) | (go_at_call 11; (with_reducible refine (nest_Match.calls kj2 _ _ l0 t555 t556 _ ?side1 ?side2 A16.out).mono ?_); (case side1 => repeat (first | exact (Kd.C_below HR0.out HB.out) | (with_reducible refine Kd.C_alloc ?_ _) | (with_reducible refine Kd.C_drewN ?_ _) | (with_reducible refine Kd.C_drew ?_))); (case side2 => exact HC0.out); rintro e w29 ⟨v557, rfl, ho0, hb⟩; have n0_ := Aside0.mk (Kd.R_below (by (with_reducible repeat (first | apply Kd.R_alloc | apply Kd.R_drewN | apply Kd.R_drew)); exact HO551.out) hb); have n1_ := Aside0.mk (Kd.R_below (by (with_reducible repeat (first | apply Kd.R_alloc | apply Kd.R_drewN | apply Kd.R_drew)); exact HO554.out) hb); have n2_ := Aside0.mk (Kd.R_lower ho0 (below_size (by repeat (first | (with_reducible first | exact HB.out | apply below_alloc | apply pw_below_drewN | apply below_drew1) | exact HB.out)))); have n3_ := Aside0.mk (below_step (by repeat (first | (with_reducible first | exact HB.out | apply below_alloc | apply pw_below_drewN | apply below_drew1) | exact HB.out)) hb); clear HO551; clear HO554; clear HB; have HO551 := n0_; have HO554 := n1_; have HO558 := n2_; have HB := n3_; clear n0_ n1_ n2_ n3_; (try clear hb); (try clear hb2); (try clear hk); (try clear hi); (try clear ho0); obtain ⟨Ao30, co30, eo30⟩ := Kd.R_slice HO554.out; subst eo30) | (go_at_call 11; (with_reducible refine (nest_Match.calls kj2 _ _ y552 t559 t560 _ ?side1 ?side2 A17.out).mono ?_); (case side1 => repeat (first | exact (Kd.R_reads' HO554.out).2.2 | (with_reducible refine Kd.C_alloc ?_ _) | (with_reducible refine Kd.C_drewN ?_ _) | (with_reducible refine Kd.C_drew ?_))); (case side2 => exact (Kd.R_reads' HO554.out).2.1); rintro e w31 ⟨v561, rfl, ho0, hb⟩; have n0_ := Aside0.mk (Kd.R_below (by (with_reducible repeat (first | apply Kd.R_alloc | apply Kd.R_drewN | apply Kd.R_drew)); exact HO551.out) hb); have n1_ := Aside0.mk (Kd.R_below (by (with_reducible repeat (first | apply Kd.R_alloc | apply Kd.R_drewN | apply Kd.R_drew)); exact HO554.out) hb); have n2_ := Aside0.mk (Kd.R_elder' (by (with_reducible repeat (first | apply Kd.R_alloc | apply Kd.R_drewN | apply Kd.R_drew)); exact HO558.out) (Kd.R_base ho0) hb); have n3_ := Aside0.mk (Kd.R_lower (Kd.R_new' ho0 (Kd.R_lt (by (with_reducible repeat (first | apply Kd.R_alloc | apply Kd.R_drewN | apply Kd.R_drew)); exact HO558.out))) (below_size (by repeat (first | (with_reducible first | exact HB.out | apply below_alloc | apply pw_below_drewN | apply below_drew1) | exact HB.out)))); have n4_ := Aside0.mk (below_step (by repeat (first | (with_reducible first | exact HB.out | apply below_alloc | apply pw_below_drewN | apply below_drew1) | exact HB.out)) hb); clear HO551; clear HO554; clear HO558; clear HB; have HO551 := n0_; have HO554 := n1_; have HO558 := n2_; have HO562 := n3_; have HB := n4_; clear n0_ n1_ n2_ n3_ n4_; (try clear hb); (try clear hb2); (try clear hk); (try clear hi); (try clear ho0)) | (go_at_call 15; (with_reducible refine (nest_Locks.calls kj2 _ _ l0 t563 t564 _ ?side1 ?side2 A18.out).mono ?_); (case side1 => repeat (first | exact (Kd.C_below HR0.out HB.out) | (with_reducible refine Kd.C_alloc ?_ _) | (with_reducible refine Kd.C_drewN ?_ _) | (with_reducible refine Kd.C_drew ?_))); (case side2 => exact HC0.out); rintro e w32 ⟨v565, rfl, ho0, hb⟩; have n0_ := Aside0.mk (Kd.R_below (by (with_reducible repeat (first | apply Kd.R_alloc | apply Kd.R_drewN | apply Kd.R_drew)); exact HO551.out) hb); have n1_ := Aside0.mk (Kd.R_below (by (with_reducible repeat (first | apply Kd.R_alloc | apply Kd.R_drewN | apply Kd.R_drew)); exact HO554.out) hb); have n2_ := Aside0.mk (Kd.R_elder' (by (with_reducible repeat (first | apply Kd.R_alloc | apply Kd.R_drewN | apply Kd.R_drew)); exact HO558.out) (Kd.R_base ho0) hb); have n3_ := Aside0.mk (Kd.R_elder' (by (with_reducible repeat (first | apply Kd.R_alloc | apply Kd.R_drewN | apply Kd.R_drew)); exact HO562.out) (Kd.R_base ho0) hb); have n4_ := Aside0.mk (Kd.R_lower (Kd.R_new' (Kd.R_new' ho0 (Kd.R_lt (by (with_reducible repeat (first | apply Kd.R_alloc | apply Kd.R_drewN | apply Kd.R_drew)); exact HO558.out))) (Kd.R_lt (by (with_reducible repeat (first | apply Kd.R_alloc | apply Kd.R_drewN | apply Kd.R_drew)); exact HO562.out))) (below_size (by repeat (first | (with_reducible first | exact HB.out | apply below_alloc | apply pw_below_drewN | apply below_drew1) | exact HB.out)))); have n5_ := Aside0.mk (below_step (by repeat (first | (with_reducible first | exact HB.out | apply below_alloc | apply pw_below_drewN | apply below_drew1) | exact HB.out)) hb); clear HO551; clear HO554; clear HO558; clear HO562; clear HB; have HO551 := n0_; have HO554 := n1_; have HO558 := n2_; have HO562 := n3_; have HO566 := n4_; have HB := n5_; clear n0_ n1_ n2_ n3_ n4_ n5_; (try clear hb); (try clear hb2); (try clear hk); (try clear hi); (try clear ho0)) | (go_at_call 15; (with_reducible refine (nest_Locks.calls kj2 _ _ y552 t567 t568 _ ?side1 ?side2 A19.out).mono ?_); (case side1 => repeat (first | exact (Kd.R_reads' HO554.out).2.2 | (with_reducible refine Kd.C_alloc ?_ _) | (with_reducible refine Kd.C_drewN ?_ _) | (with_reducible refine Kd.C_drew ?_))); (case side2 => exact (Kd.R_reads' HO554.out).2.1); rintro e w33 ⟨v569, rfl, ho0, hb⟩; have n0_ := Aside0.mk (Kd.R_below (by (with_reducible repeat (first | apply Kd.R_alloc | apply Kd.R_drewN | apply Kd.R_drew)); exact HO551.out) hb); have n1_ := Aside0.mk (Kd.R_below (by (with_reducible repeat (first | apply Kd.R_alloc | apply Kd.R_drewN | apply Kd.R_drew)); exact HO554.out) hb); have n2_ := Aside0.mk (Kd.R_elder' (by (with_reducible repeat (first | apply Kd.R_alloc | apply Kd.R_drewN | apply Kd.R_drew)); exact HO558.out) (Kd.R_base ho0) hb); have n3_ := Aside0.mk (Kd.R_elder' (by (with_reducible repeat (first | apply Kd.R_alloc | apply Kd.R_drewN | apply Kd.R_drew)); exact HO562.out) (Kd.R_base ho0) hb); have n4_ := Aside0.mk (Kd.R_elder' (by (with_reducible repeat (first | apply Kd.R_alloc | apply Kd.R_drewN | apply Kd.R_drew)); exact HO566.out) (Kd.R_base ho0) hb); have n5_ := Aside0.mk (Kd.R_lower (Kd.R_new' (Kd.R_new' (Kd.R_new' ho0 (Kd.R_lt (by (with_reducible repeat (first | apply Kd.R_alloc | apply Kd.R_drewN | apply Kd.R_drew)); exact HO558.out))) (Kd.R_lt (by (with_reducible repeat (first | apply Kd.R_alloc | apply Kd.R_drewN | apply Kd.R_drew)); exact HO562.out))) (Kd.R_lt (by (with_reducible repeat (first | apply Kd.R_alloc | apply Kd.R_drewN | apply Kd.R_drew)); exact HO566.out))) (below_size (by repeat (first | (with_reducible first | exact HB.out | apply below_alloc | apply pw_below_drewN | apply below_drew1) | exact HB.out)))); have n6_ := Aside0.mk (below_step (by repeat (first | (with_reducible first | exact HB.out | apply below_alloc | apply pw_below_drewN | apply below_drew1) | exact HB.out)) hb); clear HO551; clear HO554; clear HO558; clear HO562; clear HO566; clear HB; have HO551 := n0_; have HO554 := n1_; have HO558 := n2_; have HO562 := n3_; have HO566 := n4_; have HO570 := n5_; have HB := n6_; clear n0_ n1_ n2_ n3_ n4_ n5_ n6_; (try clear hb); (try clear hb2); (try clear hk); (try clear hi); (try clear ho0))))
                (try simp only [Act.put, List.setIfInBounds_toArray, List.set_cons_zero, List.set_cons_succ])
                go_cut [101] (fun v101 wc => ∃ (kq : Nat) (x101_19 : Bool), v101 = .bool x101_19 ∧ Aside0 (camshaftlaw06_NestLoops.j1 kq l0 y552 t555 t559 t563 t564 t568 x101_19 = some r) ∧ Aside0 (kq ≤ kj2) ∧ Aside0 (Kd.R k32 32 wc w.heap.size (fun _ => True) (.slice Ao30 y552.length co30) y552) ∧ Aside0 (Kd.R (Kd.int .i64) 3 wc w.heap.size (fun k_ => some k_ ≠ (v561 : Value).ownBlock ∧ some k_ ≠ (v565 : Value).ownBlock) v557 t555) ∧ Aside0 (Kd.R (Kd.int .i64) 3 wc w.heap.size (fun k_ => some k_ ≠ (v557 : Value).ownBlock ∧ some k_ ≠ (v565 : Value).ownBlock) v561 t559) ∧ Aside0 (Kd.R (Kd.int .i64) 3 wc w.heap.size (fun k_ => some k_ ≠ (v557 : Value).ownBlock ∧ some k_ ≠ (v561 : Value).ownBlock) v565 t563) ∧ Aside0 (Below w.heap.size w wc))
                case first =>
                  have H := HC20.out
                  clear HC20
                  by_cases c34 : t556 = 0
                  · rw [if_pos c34] at H
                    have c34b0 : (t556 == 0) = true := beq_iff_eq.mpr c34
                    have c34b1 : (t556 != 0) = false := bne_eq_false_iff_eq.mpr c34
                    clear c34
                    (first | rw [c34b0] | (simp only [i64_w, i32_w]; rw [c34b0]) | rw [c34b1] | skip)
                    by_cases c35 : t560 = 0
                    · rw [if_pos c35] at H
                      have c35b0 : (t560 == 0) = true := beq_iff_eq.mpr c35
                      have c35b1 : (t560 != 0) = false := bne_eq_false_iff_eq.mpr c35
                      clear c35
                      by_cases c36 : (t559.length : Int) = (wrap64 ((l0.length : Int) + 2))
                      · rw [if_pos c36] at H
                        have c36b0 : ((t559.length : Int) == (wrap64 ((l0.length : Int) + 2))) = true := beq_iff_eq.mpr c36
                        have c36b1 : ((t559.length : Int) != (wrap64 ((l0.length : Int) + 2))) = false := bne_eq_false_iff_eq.mpr c36
                        clear c36
                        by_cases c37 : (t555.length : Int) = (l0.length : Int)
                        · rw [if_pos c37] at H
                          have c37b0 : ((t555.length : Int) == (l0.length : Int)) = true := beq_iff_eq.mpr c37
                          have c37b1 : ((t555.length : Int) != (l0.length : Int)) = false := bne_eq_false_iff_eq.mpr c37
                          have c37b2 : (t555.length == l0.length) = true := by first | simpa using c37 | (simp at c37 ⊢; omega)
                          clear c37
                          by_cases c38 : 0 < (t559.length : Int)
                          · rw [if_pos c38] at H
                            have c38b0 : decide (0 < (t559.length : Int)) = true := decide_eq_true c38
                            have c38b1 : decide (0 < t559.length) = true := decide_eq_true (by omega)
                            clear c38
                            by_cases c39 : (rd t559 0) = (l0.length : Int)
                            · rw [if_pos c39] at H
                              have c39b0 : ((rd t559 0) == (l0.length : Int)) = true := beq_iff_eq.mpr c39
                              have c39b1 : ((rd t559 0) != (l0.length : Int)) = false := bne_eq_false_iff_eq.mpr c39
                              clear c39
                              by_cases c40 : 0 ≤ (l0.length : Int)
                              · rw [if_pos c40] at H
                                have c40b0 : decide (0 ≤ (l0.length : Int)) = true := decide_eq_true c40
                                have c40b1 : decide (0 ≤ l0.length) = true := decide_eq_true (by omega)
                                clear c40
                                by_cases c41 : (l0.length : Int) < (t559.length : Int)
                                · rw [if_pos c41] at H
                                  have c41b0 : decide ((l0.length : Int) < (t559.length : Int)) = true := decide_eq_true c41
                                  have c41b1 : decide (l0.length < t559.length) = true := decide_eq_true (Int.ofNat_lt.mp c41)
                                  clear c41
                                  have H' := Aside0.mk H
                                  clear H
                                  obtain ⟨Ao42, co42, eo42⟩ := Kd.R_slice HO562.out
                                  subst eo42
                                  obtain ⟨Ao43, co43, eo43⟩ := Kd.R_slice HO558.out
                                  subst eo43
                                  have p571 : 0 ≤ (0 : Int) := (by omega)
                                  have q571 : 0 < (t559.length : Int) := of_decide_eq_true (by first | (with_reducible assumption) | assumption)
                                  obtain ⟨ad571, e571, hx571_0⟩ := Kd.at_int (Kd.R_reads' HO562.out).2.2 0 p571 q571
                                  cases e571
                                  have qi571 : (0 < t559.length) = True := eq_true (by omega)
                                  (try rw [show ((0 : Int)).toNat = 0 from rfl] at hx571_0)
                                  (try rw [Addr.add_zero'] at hx571_0)
                                  replace p571 := eq_true p571
                                  replace q571 := eq_true q571
                                  have p572 : 0 ≤ ((l0.length : Int) : Int) := of_decide_eq_true (by first | (with_reducible assumption) | assumption)
                                  have q572 : (l0.length : Int) < (t559.length : Int) := of_decide_eq_true (by first | (with_reducible assumption) | assumption)
                                  obtain ⟨ad572, e572, hx572_0⟩ := Kd.at_int (Kd.R_reads' HO562.out).2.2 (l0.length : Int) p572 q572
                                  obtain rfl : ad571 = ad572 := (by injection e572)
                                  (try simp only [Go.IntWalk.toNatUp] at hx572_0)
                                  replace p572 := eq_true p572
                                  replace q572 := eq_true q572
                                  go_wp2
                                  repeat (go_quiet (fail); try go_wp2)
                                  go_meet
                                  case rel => exact ⟨_, (((rd t559 (l0.length : Int)) != 0)), (by first | rfl | (simp; done) | (simp [*]; done)), H', ⟨by have := HJ2.out; first | omega | exact Nat.le_refl _⟩, ⟨by (with_reducible repeat (first | apply Kd.R_alloc | apply Kd.R_drewN | apply Kd.R_drew)); exact Kd.R_mono HO554.out (fun _ hk => trivial)⟩, ⟨by (with_reducible repeat (first | apply Kd.R_alloc | apply Kd.R_drewN | apply Kd.R_drew)); exact Kd.R_mono HO558.out (fun _ hk => ⟨hk.1.1.2, hk.1.2⟩)⟩, ⟨by (with_reducible repeat (first | apply Kd.R_alloc | apply Kd.R_drewN | apply Kd.R_drew)); exact Kd.R_mono HO562.out (fun _ hk => ⟨hk.1.1.2, hk.1.2⟩)⟩, ⟨by (with_reducible repeat (first | apply Kd.R_alloc | apply Kd.R_drewN | apply Kd.R_drew)); exact Kd.R_mono HO566.out (fun _ hk => ⟨hk.1.1.2, hk.1.2⟩)⟩, ⟨by repeat (first | (with_reducible first | exact HB.out | apply below_alloc | apply pw_below_drewN | apply below_drew1) | exact HB.out | exact Below.refl _ _)⟩⟩
                                · rw [if_neg c41] at H
                                  exact absurd H (by simp)
                              · rw [if_neg c40] at H
                                exact absurd H (by simp)
                            · rw [if_neg c39] at H
                              have c39b0 : ((rd t559 0) == (l0.length : Int)) = false := beq_eq_false_iff_ne.mpr c39
                              have c39b1 : ((rd t559 0) != (l0.length : Int)) = true := bne_iff_ne.mpr c39
                              have H' := Aside0.mk H
                              clear H
                              obtain ⟨Ao44, co44, eo44⟩ := Kd.R_slice HO562.out
                              subst eo44
                              obtain ⟨Ao45, co45, eo45⟩ := Kd.R_slice HO558.out
                              subst eo45
                              have p571 : 0 ≤ (0 : Int) := (by omega)
                              have q571 : 0 < (t559.length : Int) := of_decide_eq_true (by first | (with_reducible assumption) | assumption)
                              obtain ⟨ad571, e571, hx571_0⟩ := Kd.at_int (Kd.R_reads' HO562.out).2.2 0 p571 q571
                              cases e571
                              have qi571 : (0 < t559.length) = True := eq_true (by omega)
                              (try rw [show ((0 : Int)).toNat = 0 from rfl] at hx571_0)
                              (try rw [Addr.add_zero'] at hx571_0)
                              replace p571 := eq_true p571
                              replace q571 := eq_true q571
                              go_wp2
                              repeat (go_quiet (fail); try go_wp2)
                              go_meet
                              case rel => exact ⟨_, (true), (by first | rfl | (simp; done) | (simp [*]; done)), H', ⟨by have := HJ2.out; first | omega | exact Nat.le_refl _⟩, ⟨by (with_reducible repeat (first | apply Kd.R_alloc | apply Kd.R_drewN | apply Kd.R_drew)); exact Kd.R_mono HO554.out (fun _ hk => trivial)⟩, ⟨by (with_reducible repeat (first | apply Kd.R_alloc | apply Kd.R_drewN | apply Kd.R_drew)); exact Kd.R_mono HO558.out (fun _ hk => ⟨hk.1.1.2, hk.1.2⟩)⟩, ⟨by (with_reducible repeat (first | apply Kd.R_alloc | apply Kd.R_drewN | apply Kd.R_drew)); exact Kd.R_mono HO562.out (fun _ hk => ⟨hk.1.1.2, hk.1.2⟩)⟩, ⟨by (with_reducible repeat (first | apply Kd.R_alloc | apply Kd.R_drewN | apply Kd.R_drew)); exact Kd.R_mono HO566.out (fun _ hk => ⟨hk.1.1.2, hk.1.2⟩)⟩, ⟨by repeat (first | (with_reducible first | exact HB.out | apply below_alloc | apply pw_below_drewN | apply below_drew1) | exact HB.out | exact Below.refl _ _)⟩⟩
                          · rw [if_neg c38] at H
                            exact absurd H (by simp)
                        · rw [if_neg c37] at H
                          have c37b0 : ((t555.length : Int) == (l0.length : Int)) = false := beq_eq_false_iff_ne.mpr c37
                          have c37b1 : ((t555.length : Int) != (l0.length : Int)) = true := bne_iff_ne.mpr c37
                          have c37b2 : (t555.length == l0.length) = false := by first | simpa using c37 | (simp at c37 ⊢; omega)
                          have H' := Aside0.mk H
                          clear H
                          obtain ⟨Ao46, co46, eo46⟩ := Kd.R_slice HO562.out
                          subst eo46
                          obtain ⟨Ao47, co47, eo47⟩ := Kd.R_slice HO558.out
                          subst eo47
                          go_wp2
                          repeat (go_quiet (fail); try go_wp2)
                          go_meet
                          case rel => exact ⟨_, (true), (by first | rfl | (simp; done) | (simp [*]; done)), H', ⟨by have := HJ2.out; first | omega | exact Nat.le_refl _⟩, ⟨by (with_reducible repeat (first | apply Kd.R_alloc | apply Kd.R_drewN | apply Kd.R_drew)); exact Kd.R_mono HO554.out (fun _ hk => trivial)⟩, ⟨by (with_reducible repeat (first | apply Kd.R_alloc | apply Kd.R_drewN | apply Kd.R_drew)); exact Kd.R_mono HO558.out (fun _ hk => ⟨hk.1.1.2, hk.1.2⟩)⟩, ⟨by (with_reducible repeat (first | apply Kd.R_alloc | apply Kd.R_drewN | apply Kd.R_drew)); exact Kd.R_mono HO562.out (fun _ hk => ⟨hk.1.1.2, hk.1.2⟩)⟩, ⟨by (with_reducible repeat (first | apply Kd.R_alloc | apply Kd.R_drewN | apply Kd.R_drew)); exact Kd.R_mono HO566.out (fun _ hk => ⟨hk.1.1.2, hk.1.2⟩)⟩, ⟨by repeat (first | (with_reducible first | exact HB.out | apply below_alloc | apply pw_below_drewN | apply below_drew1) | exact HB.out | exact Below.refl _ _)⟩⟩
                      · rw [if_neg c36] at H
                        have c36b0 : ((t559.length : Int) == (wrap64 ((l0.length : Int) + 2))) = false := beq_eq_false_iff_ne.mpr c36
                        have c36b1 : ((t559.length : Int) != (wrap64 ((l0.length : Int) + 2))) = true := bne_iff_ne.mpr c36
                        have H' := Aside0.mk H
                        clear H
                        obtain ⟨Ao48, co48, eo48⟩ := Kd.R_slice HO562.out
                        subst eo48
                        go_wp2
                        repeat (go_quiet (fail); try go_wp2)
                        go_meet
                        case rel => exact ⟨_, (true), (by first | rfl | (simp; done) | (simp [*]; done)), H', ⟨by have := HJ2.out; first | omega | exact Nat.le_refl _⟩, ⟨by (with_reducible repeat (first | apply Kd.R_alloc | apply Kd.R_drewN | apply Kd.R_drew)); exact Kd.R_mono HO554.out (fun _ hk => trivial)⟩, ⟨by (with_reducible repeat (first | apply Kd.R_alloc | apply Kd.R_drewN | apply Kd.R_drew)); exact Kd.R_mono HO558.out (fun _ hk => ⟨hk.1.1.2, hk.1.2⟩)⟩, ⟨by (with_reducible repeat (first | apply Kd.R_alloc | apply Kd.R_drewN | apply Kd.R_drew)); exact Kd.R_mono HO562.out (fun _ hk => ⟨hk.1.1.2, hk.1.2⟩)⟩, ⟨by (with_reducible repeat (first | apply Kd.R_alloc | apply Kd.R_drewN | apply Kd.R_drew)); exact Kd.R_mono HO566.out (fun _ hk => ⟨hk.1.1.2, hk.1.2⟩)⟩, ⟨by repeat (first | (with_reducible first | exact HB.out | apply below_alloc | apply pw_below_drewN | apply below_drew1) | exact HB.out | exact Below.refl _ _)⟩⟩
                    · rw [if_neg c35] at H
                      have c35b0 : (t560 == 0) = false := beq_eq_false_iff_ne.mpr c35
                      have c35b1 : (t560 != 0) = true := bne_iff_ne.mpr c35
                      have H' := Aside0.mk H
                      clear H
                      go_wp2
                      repeat (go_quiet (fail); try go_wp2)
                      go_meet
                      case rel => exact ⟨_, (true), (by first | rfl | (simp; done) | (simp [*]; done)), H', ⟨by have := HJ2.out; first | omega | exact Nat.le_refl _⟩, ⟨by (with_reducible repeat (first | apply Kd.R_alloc | apply Kd.R_drewN | apply Kd.R_drew)); exact Kd.R_mono HO554.out (fun _ hk => trivial)⟩, ⟨by (with_reducible repeat (first | apply Kd.R_alloc | apply Kd.R_drewN | apply Kd.R_drew)); exact Kd.R_mono HO558.out (fun _ hk => ⟨hk.1.1.2, hk.1.2⟩)⟩, ⟨by (with_reducible repeat (first | apply Kd.R_alloc | apply Kd.R_drewN | apply Kd.R_drew)); exact Kd.R_mono HO562.out (fun _ hk => ⟨hk.1.1.2, hk.1.2⟩)⟩, ⟨by (with_reducible repeat (first | apply Kd.R_alloc | apply Kd.R_drewN | apply Kd.R_drew)); exact Kd.R_mono HO566.out (fun _ hk => ⟨hk.1.1.2, hk.1.2⟩)⟩, ⟨by repeat (first | (with_reducible first | exact HB.out | apply below_alloc | apply pw_below_drewN | apply below_drew1) | exact HB.out | exact Below.refl _ _)⟩⟩
                  · rw [if_neg c34] at H
                    have c34b0 : (t556 == 0) = false := beq_eq_false_iff_ne.mpr c34
                    have c34b1 : (t556 != 0) = true := bne_iff_ne.mpr c34
                    (first | rw [c34b0] | (simp only [i64_w, i32_w]; rw [c34b0]) | rw [c34b1] | skip)
                    have H' := Aside0.mk H
                    clear H
                    go_wp2
                    repeat (go_quiet (fail); try go_wp2)
                    go_meet
                    case rel => exact ⟨_, (true), (by first | rfl | (simp; done) | (simp [*]; done)), H', ⟨by have := HJ2.out; first | omega | exact Nat.le_refl _⟩, ⟨by (with_reducible repeat (first | apply Kd.R_alloc | apply Kd.R_drewN | apply Kd.R_drew)); exact Kd.R_mono HO554.out (fun _ hk => trivial)⟩, ⟨by (with_reducible repeat (first | apply Kd.R_alloc | apply Kd.R_drewN | apply Kd.R_drew)); exact Kd.R_mono HO558.out (fun _ hk => ⟨hk.1.1.2, hk.1.2⟩)⟩, ⟨by (with_reducible repeat (first | apply Kd.R_alloc | apply Kd.R_drewN | apply Kd.R_drew)); exact Kd.R_mono HO562.out (fun _ hk => ⟨hk.1.1.2, hk.1.2⟩)⟩, ⟨by (with_reducible repeat (first | apply Kd.R_alloc | apply Kd.R_drewN | apply Kd.R_drew)); exact Kd.R_mono HO566.out (fun _ hk => ⟨hk.1.1.2, hk.1.2⟩)⟩, ⟨by repeat (first | (with_reducible first | exact HB.out | apply below_alloc | apply pw_below_drewN | apply below_drew1) | exact HB.out | exact Below.refl _ _)⟩⟩
                case rest =>
                  clear HC20
                  try clear c1
                  try clear p2
                  try clear q2
                  try clear c3
                  try clear c4
                  try clear c4b0
                  try clear c4b1
                  try clear c5
                  try clear c5b0
                  try clear c5b1
                  try clear p5
                  try clear q5
                  try clear hx5
                  try clear qi5
                  try clear p6
                  try clear c8
                  try clear c9
                  try clear c12
                  try clear c12b0
                  try clear c12b1
                  try clear c13
                  try clear c13b0
                  try clear c13b1
                  try clear c14
                  try clear c15
                  try clear q23
                  try clear c34
                  try clear c34b0
                  try clear c34b1
                  try clear c35
                  try clear c35b0
                  try clear c35b1
                  try clear c36
                  try clear c36b0
                  try clear c36b1
                  try clear c37
                  try clear c37b0
                  try clear c37b1
                  try clear c37b2
                  try clear c38
                  try clear c38b0
                  try clear c38b1
                  try clear c39
                  try clear c39b0
                  try clear c39b1
                  try clear c40
                  try clear c40b0
                  try clear c40b1
                  try clear c41
                  try clear c41b0
                  try clear c41b1
                  try clear hx571_0
                  try clear hx572_0
                  try clear p2
                  try clear p571
                  try clear p572
                  try clear q23
                  try clear q571
                  try clear q572
                  obtain ⟨kq, x101_19, rfl, HA, HJ19, HO_5, HO_6, HO_8, HO_10, HB⟩ := hcut
                  cases kq with
                  | zero => exact absurd HA.out (by simp [camshaftlaw06_NestLoops.j1])
                  | succ kj19 =>
                    have H := HA.out
                    clear HA
                    simp only [camshaftlaw06_NestLoops.j1] at H
                    by_cases c49 : x101_19 = true
                    · subst c49
                      have H1 : (some false) = some r := by rw [if_pos rfl] at H; exact H
                      clear H
                      have H := H1
                      clear H1
                      exact absurd ((Option.some.inj H).trans HT.out) (by decide)
                    · replace c49 := Bool.eq_false_iff.mpr c49
                      subst c49
                      have H1 : (camshaftlaw06_NestLoops.l0 kj19 l0 y552 t555 t559 t563 t564 t568 0) = some r := by rw [if_neg (show ¬ (false = true) by decide)] at H; exact H
                      clear H
                      have H := H1
                      clear H1
                      have H' := Aside0.mk H
                      clear H
                      go_wp2
                      repeat (go_quiet (fail); try go_wp2)
                      go_loopg [14] kj19 (fun kq v14 w' => ∃ (x14_3 : Int), v14 = .int .i64 x14_3 ∧ Aside0 (camshaftlaw06_NestLoops.l0 kq l0 y552 t555 t559 t563 t564 t568 x14_3 = some r) ∧ Aside0 (kq ≤ kj19) ∧ Aside0 (Kd.R k32 32 w' w.heap.size (fun _ => True) (.slice Ao30 y552.length co30) y552) ∧ Aside0 (Kd.R (Kd.int .i64) 3 w' w.heap.size (fun k_ => some k_ ≠ (v561 : Value).ownBlock ∧ some k_ ≠ (v565 : Value).ownBlock) v557 t555) ∧ Aside0 (Kd.R (Kd.int .i64) 3 w' w.heap.size (fun k_ => some k_ ≠ (v557 : Value).ownBlock ∧ some k_ ≠ (v565 : Value).ownBlock) v561 t559) ∧ Aside0 (Kd.R (Kd.int .i64) 3 w' w.heap.size (fun k_ => some k_ ≠ (v557 : Value).ownBlock ∧ some k_ ≠ (v561 : Value).ownBlock) v565 t563) ∧ Aside0 (Below w.heap.size w w'))
                      case atStart => exact ⟨(0), (by first | rfl | (simp; done) | (simp [*]; done)), H', ⟨Nat.le_refl _⟩, ⟨by (with_reducible repeat (first | apply Kd.R_alloc | apply Kd.R_drewN | apply Kd.R_drew)); exact HO_5.out⟩, ⟨by (with_reducible repeat (first | apply Kd.R_alloc | apply Kd.R_drewN | apply Kd.R_drew)); exact HO_6.out⟩, ⟨by (with_reducible repeat (first | apply Kd.R_alloc | apply Kd.R_drewN | apply Kd.R_drew)); exact HO_8.out⟩, ⟨by (with_reducible repeat (first | apply Kd.R_alloc | apply Kd.R_drewN | apply Kd.R_drew)); exact HO_10.out⟩, ⟨by repeat (first | (with_reducible first | exact HB.out | apply below_alloc | apply pw_below_drewN | apply below_drew1) | exact HB.out)⟩⟩
                      case round =>
                        clear H'
                        try clear c1
                        try clear p2
                        try clear q2
                        try clear c3
                        try clear c4
                        try clear c4b0
                        try clear c4b1
                        try clear c5
                        try clear c5b0
                        try clear c5b1
                        try clear p5
                        try clear q5
                        try clear hx5
                        try clear qi5
                        try clear p6
                        try clear c8
                        try clear c9
                        try clear c12
                        try clear c12b0
                        try clear c12b1
                        try clear c13
                        try clear c13b0
                        try clear c13b1
                        try clear c14
                        try clear c15
                        try clear q23
                        try clear c34
                        try clear c34b0
                        try clear c34b1
                        try clear c35
                        try clear c35b0
                        try clear c35b1
                        try clear c36
                        try clear c36b0
                        try clear c36b1
                        try clear c37
                        try clear c37b0
                        try clear c37b1
                        try clear c37b2
                        try clear c38
                        try clear c38b0
                        try clear c38b1
                        try clear c39
                        try clear c39b0
                        try clear c39b1
                        try clear c40
                        try clear c40b0
                        try clear c40b1
                        try clear c41
                        try clear c41b0
                        try clear c41b1
                        try clear c49
                        try clear hx571_0
                        try clear hx572_0
                        try clear p2
                        try clear p5
                        try clear p571
                        try clear p572
                        try clear p6
                        try clear q2
                        try clear q23
                        try clear q5
                        try clear q571
                        try clear q572
                        obtain ⟨x14_3, rfl, HA, HK3, HO_5, HO_6, HO_8, HO_10, HB⟩ := hrel
                        cases gk with
                        | zero => exact absurd HA.out (by simp [camshaftlaw06_NestLoops.l0])
                        | succ k3 =>
                          have H := HA.out
                          clear HA
                          simp only [camshaftlaw06_NestLoops.l0] at H
                          by_cases c50 : x14_3 < (wrap64 ((l0.length : Int) - 1))
                          · rw [if_pos c50] at H
                            have c50b0 : decide (x14_3 < (wrap64 ((l0.length : Int) - 1))) = true := decide_eq_true c50
                            have c50b1 : decide (x14_3 < ji11) = true := by rw [← hji11]; exact c50b0
                            clear c50
                            by_cases c51 : 0 ≤ x14_3
                            · rw [if_pos c51] at H
                              have c51b0 : decide (0 ≤ x14_3) = true := decide_eq_true c51
                              clear c51
                              by_cases c52 : x14_3 < (t555.length : Int)
                              · rw [if_pos c52] at H
                                have c52b0 : decide (x14_3 < (t555.length : Int)) = true := decide_eq_true c52
                                clear c52
                                by_cases c53 : (rd t555 x14_3) < 0
                                · rw [if_pos c53] at H
                                  have c53b0 : decide ((rd t555 x14_3) < 0) = true := decide_eq_true c53
                                  clear c53
                                  obtain ⟨ji54, hji54⟩ : ∃ j_ : Int, (wrap64 (x14_3 + 1)) = j_ := ⟨_, rfl⟩
                                  replace H : (if 0 ≤ (ji54) then (if (ji54) < (t559.length : Int) then (if (rd t559 (ji54)) = (-1) then (if (rd t555 x14_3) ≥ 0 then (if (rd t559 (ji54)) = (wrap64 ((rd t555 x14_3) + 1)) then (camshaftlaw06_NestLoops.l0 k3 l0 y552 t555 t559 t563 t564 t568 ji54) else (some false)) else (camshaftlaw06_NestLoops.l0 k3 l0 y552 t555 t559 t563 t564 t568 ji54)) else (some false)) else (none)) else (none)) = some r := by first | (rw [hji54] at H; exact H) | (simp only [hji54] at H ⊢; exact H)
                                  have hji54w : (IntKind.i64.wrap (x14_3 + 1)) = ji54 := (i64_w _).trans hji54
                                  by_cases c55 : 0 ≤ (ji54)
                                  · rw [if_pos c55] at H
                                    have c55b0 : decide (0 ≤ (ji54)) = true := decide_eq_true c55
                                    clear c55
                                    by_cases c56 : (ji54) < (t559.length : Int)
                                    · rw [if_pos c56] at H
                                      have c56b0 : decide ((ji54) < (t559.length : Int)) = true := decide_eq_true c56
                                      clear c56
                                      by_cases c57 : (rd t559 (ji54)) = (-1)
                                      · rw [if_pos c57] at H
                                        have c57b0 : ((rd t559 (ji54)) == (-1)) = true := beq_iff_eq.mpr c57
                                        have c57b1 : ((rd t559 (ji54)) != (-1)) = false := bne_eq_false_iff_eq.mpr c57
                                        clear c57
                                        by_cases c58 : (rd t555 x14_3) ≥ 0
                                        · rw [if_pos c58] at H
                                          have c58b0 : decide (0 ≤ (rd t555 x14_3)) = true := decide_eq_true c58
                                          clear c58
                                          by_cases c59 : (rd t559 (ji54)) = (wrap64 ((rd t555 x14_3) + 1))
                                          · rw [if_pos c59] at H
                                            have c59b0 : ((rd t559 (ji54)) == (wrap64 ((rd t555 x14_3) + 1))) = true := beq_iff_eq.mpr c59
                                            have c59b1 : ((rd t559 (ji54)) != (wrap64 ((rd t555 x14_3) + 1))) = false := bne_eq_false_iff_eq.mpr c59
                                            clear c59
                                            have H' := Aside0.mk H
                                            clear H
                                            obtain ⟨Ao60, co60, eo60⟩ := Kd.R_slice HO_6.out
                                            subst eo60
                                            have p573 : 0 ≤ (x14_3 : Int) := of_decide_eq_true (by first | (with_reducible assumption) | assumption)
                                            have q573 : x14_3 < (t555.length : Int) := of_decide_eq_true (by first | (with_reducible assumption) | assumption)
                                            obtain ⟨ad573, e573, hx573_0⟩ := Kd.at_int (Kd.R_reads' HO_6.out).2.2 x14_3 p573 q573
                                            cases e573
                                            replace p573 := eq_true p573
                                            replace q573 := eq_true q573
                                            obtain ⟨Ao61, co61, eo61⟩ := Kd.R_slice HO_8.out
                                            subst eo61
                                            have p574 : 0 ≤ ((ji54) : Int) := of_decide_eq_true (by first | (with_reducible assumption) | assumption)
                                            have q574 : (ji54) < (t559.length : Int) := of_decide_eq_true (by first | (with_reducible assumption) | assumption)
                                            obtain ⟨ad574, e574, hx574_0⟩ := Kd.at_int (Kd.R_reads' HO_8.out).2.2 (ji54) p574 q574
                                            cases e574
                                            replace p574 := eq_true p574
                                            replace q574 := eq_true q574
                                            have p575 : 0 ≤ (x14_3 : Int) := of_decide_eq_true (by first | (with_reducible assumption) | assumption)
                                            have q575 : x14_3 < (t555.length : Int) := of_decide_eq_true (by first | (with_reducible assumption) | assumption)
                                            obtain ⟨ad575, e575, hx575_0⟩ := Kd.at_int (Kd.R_reads' HO_6.out).2.2 x14_3 p575 q575
                                            obtain rfl : ad573 = ad575 := (by injection e575)
                                            replace p575 := eq_true p575
                                            replace q575 := eq_true q575
                                            have p576 : 0 ≤ ((ji54) : Int) := of_decide_eq_true (by first | (with_reducible assumption) | assumption)
                                            have q576 : (ji54) < (t559.length : Int) := of_decide_eq_true (by first | (with_reducible assumption) | assumption)
                                            obtain ⟨ad576, e576, hx576_0⟩ := Kd.at_int (Kd.R_reads' HO_8.out).2.2 (ji54) p576 q576
                                            obtain rfl : ad574 = ad576 := (by injection e576)
                                            replace p576 := eq_true p576
                                            replace q576 := eq_true q576
                                            have p577 : 0 ≤ (x14_3 : Int) := of_decide_eq_true (by first | (with_reducible assumption) | assumption)
                                            have q577 : x14_3 < (t555.length : Int) := of_decide_eq_true (by first | (with_reducible assumption) | assumption)
                                            obtain ⟨ad577, e577, hx577_0⟩ := Kd.at_int (Kd.R_reads' HO_6.out).2.2 x14_3 p577 q577
                                            obtain rfl : ad573 = ad577 := (by injection e577)
                                            replace p577 := eq_true p577
                                            replace q577 := eq_true q577
                                            go_wp2
                                            repeat (go_quiet (fail); try go_wp2)
                                            go_roundg k3
                                            case measure => have := HJ2.out; have := HJ19.out; have := HK3.out; omega
                                            case rel => exact ⟨(ji54), (by first | rfl | (simp; done) | (simp only [← hji54] <;> (first | rfl | simp)) | (simp [*]; done)), H', ⟨by have := HJ2.out; have := HJ19.out; have := HK3.out; omega⟩, ⟨by (with_reducible repeat (first | apply Kd.R_alloc | apply Kd.R_drewN | apply Kd.R_drew)); exact HO_5.out⟩, ⟨by (with_reducible repeat (first | apply Kd.R_alloc | apply Kd.R_drewN | apply Kd.R_drew)); exact HO_6.out⟩, ⟨by (with_reducible repeat (first | apply Kd.R_alloc | apply Kd.R_drewN | apply Kd.R_drew)); exact HO_8.out⟩, ⟨by (with_reducible repeat (first | apply Kd.R_alloc | apply Kd.R_drewN | apply Kd.R_drew)); exact HO_10.out⟩, ⟨by repeat (first | (with_reducible first | exact HB.out | apply below_alloc | apply pw_below_drewN | apply below_drew1) | exact HB.out | exact Below.refl _ _)⟩⟩
                                          · rw [if_neg c59] at H
                                            have c59b0 : ((rd t559 (ji54)) == (wrap64 ((rd t555 x14_3) + 1))) = false := beq_eq_false_iff_ne.mpr c59
                                            have c59b1 : ((rd t559 (ji54)) != (wrap64 ((rd t555 x14_3) + 1))) = true := bne_iff_ne.mpr c59
                                            exact absurd ((Option.some.inj H).trans HT.out) (by decide)
                                        · rw [if_neg c58] at H
                                          have c58b0 : decide (0 ≤ (rd t555 x14_3)) = false := decide_eq_false c58
                                          clear c58
                                          have H' := Aside0.mk H
                                          clear H
                                          obtain ⟨Ao62, co62, eo62⟩ := Kd.R_slice HO_6.out
                                          subst eo62
                                          have p573 : 0 ≤ (x14_3 : Int) := of_decide_eq_true (by first | (with_reducible assumption) | assumption)
                                          have q573 : x14_3 < (t555.length : Int) := of_decide_eq_true (by first | (with_reducible assumption) | assumption)
                                          obtain ⟨ad573, e573, hx573_0⟩ := Kd.at_int (Kd.R_reads' HO_6.out).2.2 x14_3 p573 q573
                                          cases e573
                                          replace p573 := eq_true p573
                                          replace q573 := eq_true q573
                                          obtain ⟨Ao63, co63, eo63⟩ := Kd.R_slice HO_8.out
                                          subst eo63
                                          have p574 : 0 ≤ ((ji54) : Int) := of_decide_eq_true (by first | (with_reducible assumption) | assumption)
                                          have q574 : (ji54) < (t559.length : Int) := of_decide_eq_true (by first | (with_reducible assumption) | assumption)
                                          obtain ⟨ad574, e574, hx574_0⟩ := Kd.at_int (Kd.R_reads' HO_8.out).2.2 (ji54) p574 q574
                                          cases e574
                                          replace p574 := eq_true p574
                                          replace q574 := eq_true q574
                                          have p575 : 0 ≤ (x14_3 : Int) := of_decide_eq_true (by first | (with_reducible assumption) | assumption)
                                          have q575 : x14_3 < (t555.length : Int) := of_decide_eq_true (by first | (with_reducible assumption) | assumption)
                                          obtain ⟨ad575, e575, hx575_0⟩ := Kd.at_int (Kd.R_reads' HO_6.out).2.2 x14_3 p575 q575
                                          obtain rfl : ad573 = ad575 := (by injection e575)
                                          replace p575 := eq_true p575
                                          replace q575 := eq_true q575
                                          go_wp2
                                          repeat (go_quiet (fail); try go_wp2)
                                          go_roundg k3
                                          case measure => have := HJ2.out; have := HJ19.out; have := HK3.out; omega
                                          case rel => exact ⟨(ji54), (by first | rfl | (simp; done) | (simp only [← hji54] <;> (first | rfl | simp)) | (simp [*]; done)), H', ⟨by have := HJ2.out; have := HJ19.out; have := HK3.out; omega⟩, ⟨by (with_reducible repeat (first | apply Kd.R_alloc | apply Kd.R_drewN | apply Kd.R_drew)); exact HO_5.out⟩, ⟨by (with_reducible repeat (first | apply Kd.R_alloc | apply Kd.R_drewN | apply Kd.R_drew)); exact HO_6.out⟩, ⟨by (with_reducible repeat (first | apply Kd.R_alloc | apply Kd.R_drewN | apply Kd.R_drew)); exact HO_8.out⟩, ⟨by (with_reducible repeat (first | apply Kd.R_alloc | apply Kd.R_drewN | apply Kd.R_drew)); exact HO_10.out⟩, ⟨by repeat (first | (with_reducible first | exact HB.out | apply below_alloc | apply pw_below_drewN | apply below_drew1) | exact HB.out | exact Below.refl _ _)⟩⟩
                                      · rw [if_neg c57] at H
                                        have c57b0 : ((rd t559 (ji54)) == (-1)) = false := beq_eq_false_iff_ne.mpr c57
                                        have c57b1 : ((rd t559 (ji54)) != (-1)) = true := bne_iff_ne.mpr c57
                                        exact absurd ((Option.some.inj H).trans HT.out) (by decide)
                                    · rw [if_neg c56] at H
                                      exact absurd H (by simp)
                                  · rw [if_neg c55] at H
                                    exact absurd H (by simp)
                                · rw [if_neg c53] at H
                                  have c53b0 : decide ((rd t555 x14_3) < 0) = false := decide_eq_false c53
                                  clear c53
                                  by_cases c64 : (rd t555 x14_3) ≥ 0
                                  · rw [if_pos c64] at H
                                    have c64b0 : decide (0 ≤ (rd t555 x14_3)) = true := decide_eq_true c64
                                    clear c64
                                    obtain ⟨ji65, hji65⟩ : ∃ j_ : Int, (wrap64 (x14_3 + 1)) = j_ := ⟨_, rfl⟩
                                    replace H : (if 0 ≤ (ji65) then (if (ji65) < (t559.length : Int) then (if (rd t559 (ji65)) = (wrap64 ((rd t555 x14_3) + 1)) then (camshaftlaw06_NestLoops.l0 k3 l0 y552 t555 t559 t563 t564 t568 ji65) else (some false)) else (none)) else (none)) = some r := by first | (rw [hji65] at H; exact H) | (simp only [hji65] at H ⊢; exact H)
                                    have hji65w : (IntKind.i64.wrap (x14_3 + 1)) = ji65 := (i64_w _).trans hji65
                                    by_cases c66 : 0 ≤ (ji65)
                                    · rw [if_pos c66] at H
                                      have c66b0 : decide (0 ≤ (ji65)) = true := decide_eq_true c66
                                      clear c66
                                      by_cases c67 : (ji65) < (t559.length : Int)
                                      · rw [if_pos c67] at H
                                        have c67b0 : decide ((ji65) < (t559.length : Int)) = true := decide_eq_true c67
                                        clear c67
                                        by_cases c68 : (rd t559 (ji65)) = (wrap64 ((rd t555 x14_3) + 1))
                                        · rw [if_pos c68] at H
                                          have c68b0 : ((rd t559 (ji65)) == (wrap64 ((rd t555 x14_3) + 1))) = true := beq_iff_eq.mpr c68
                                          have c68b1 : ((rd t559 (ji65)) != (wrap64 ((rd t555 x14_3) + 1))) = false := bne_eq_false_iff_eq.mpr c68
                                          clear c68
                                          have H' := Aside0.mk H
                                          clear H
                                          obtain ⟨Ao69, co69, eo69⟩ := Kd.R_slice HO_6.out
                                          subst eo69
                                          have p573 : 0 ≤ (x14_3 : Int) := of_decide_eq_true (by first | (with_reducible assumption) | assumption)
                                          have q573 : x14_3 < (t555.length : Int) := of_decide_eq_true (by first | (with_reducible assumption) | assumption)
                                          obtain ⟨ad573, e573, hx573_0⟩ := Kd.at_int (Kd.R_reads' HO_6.out).2.2 x14_3 p573 q573
                                          cases e573
                                          replace p573 := eq_true p573
                                          replace q573 := eq_true q573
                                          have p578 : 0 ≤ (x14_3 : Int) := of_decide_eq_true (by first | (with_reducible assumption) | assumption)
                                          have q578 : x14_3 < (t555.length : Int) := of_decide_eq_true (by first | (with_reducible assumption) | assumption)
                                          obtain ⟨ad578, e578, hx578_0⟩ := Kd.at_int (Kd.R_reads' HO_6.out).2.2 x14_3 p578 q578
                                          obtain rfl : ad573 = ad578 := (by injection e578)
                                          replace p578 := eq_true p578
                                          replace q578 := eq_true q578
                                          obtain ⟨Ao70, co70, eo70⟩ := Kd.R_slice HO_8.out
                                          subst eo70
                                          have p579 : 0 ≤ ((ji65) : Int) := of_decide_eq_true (by first | (with_reducible assumption) | assumption)
                                          have q579 : (ji65) < (t559.length : Int) := of_decide_eq_true (by first | (with_reducible assumption) | assumption)
                                          obtain ⟨ad579, e579, hx579_0⟩ := Kd.at_int (Kd.R_reads' HO_8.out).2.2 (ji65) p579 q579
                                          cases e579
                                          replace p579 := eq_true p579
                                          replace q579 := eq_true q579
                                          have p580 : 0 ≤ (x14_3 : Int) := of_decide_eq_true (by first | (with_reducible assumption) | assumption)
                                          have q580 : x14_3 < (t555.length : Int) := of_decide_eq_true (by first | (with_reducible assumption) | assumption)
                                          obtain ⟨ad580, e580, hx580_0⟩ := Kd.at_int (Kd.R_reads' HO_6.out).2.2 x14_3 p580 q580
                                          obtain rfl : ad573 = ad580 := (by injection e580)
                                          replace p580 := eq_true p580
                                          replace q580 := eq_true q580
                                          go_wp2
                                          repeat (go_quiet (fail); try go_wp2)
                                          go_roundg k3
                                          case measure => have := HJ2.out; have := HJ19.out; have := HK3.out; omega
                                          case rel => exact ⟨(ji65), (by first | rfl | (simp; done) | (simp only [← hji65] <;> (first | rfl | simp)) | (simp [*]; done)), H', ⟨by have := HJ2.out; have := HJ19.out; have := HK3.out; omega⟩, ⟨by (with_reducible repeat (first | apply Kd.R_alloc | apply Kd.R_drewN | apply Kd.R_drew)); exact HO_5.out⟩, ⟨by (with_reducible repeat (first | apply Kd.R_alloc | apply Kd.R_drewN | apply Kd.R_drew)); exact HO_6.out⟩, ⟨by (with_reducible repeat (first | apply Kd.R_alloc | apply Kd.R_drewN | apply Kd.R_drew)); exact HO_8.out⟩, ⟨by (with_reducible repeat (first | apply Kd.R_alloc | apply Kd.R_drewN | apply Kd.R_drew)); exact HO_10.out⟩, ⟨by repeat (first | (with_reducible first | exact HB.out | apply below_alloc | apply pw_below_drewN | apply below_drew1) | exact HB.out | exact Below.refl _ _)⟩⟩
                                        · rw [if_neg c68] at H
                                          have c68b0 : ((rd t559 (ji65)) == (wrap64 ((rd t555 x14_3) + 1))) = false := beq_eq_false_iff_ne.mpr c68
                                          have c68b1 : ((rd t559 (ji65)) != (wrap64 ((rd t555 x14_3) + 1))) = true := bne_iff_ne.mpr c68
                                          exact absurd ((Option.some.inj H).trans HT.out) (by decide)
                                      · rw [if_neg c67] at H
                                        exact absurd H (by simp)
                                    · rw [if_neg c66] at H
                                      exact absurd H (by simp)
                                  · rw [if_neg c64] at H
                                    have c64b0 : decide (0 ≤ (rd t555 x14_3)) = false := decide_eq_false c64
                                    clear c64
                                    have H' := Aside0.mk H
                                    clear H
                                    obtain ⟨Ao71, co71, eo71⟩ := Kd.R_slice HO_6.out
                                    subst eo71
                                    have p573 : 0 ≤ (x14_3 : Int) := of_decide_eq_true (by first | (with_reducible assumption) | assumption)
                                    have q573 : x14_3 < (t555.length : Int) := of_decide_eq_true (by first | (with_reducible assumption) | assumption)
                                    obtain ⟨ad573, e573, hx573_0⟩ := Kd.at_int (Kd.R_reads' HO_6.out).2.2 x14_3 p573 q573
                                    cases e573
                                    replace p573 := eq_true p573
                                    replace q573 := eq_true q573
                                    have p578 : 0 ≤ (x14_3 : Int) := of_decide_eq_true (by first | (with_reducible assumption) | assumption)
                                    have q578 : x14_3 < (t555.length : Int) := of_decide_eq_true (by first | (with_reducible assumption) | assumption)
                                    obtain ⟨ad578, e578, hx578_0⟩ := Kd.at_int (Kd.R_reads' HO_6.out).2.2 x14_3 p578 q578
                                    obtain rfl : ad573 = ad578 := (by injection e578)
                                    replace p578 := eq_true p578
                                    replace q578 := eq_true q578
                                    go_wp2
                                    repeat (go_quiet (fail); try go_wp2)
                                    go_roundg k3
                                    case measure => have := HJ2.out; have := HJ19.out; have := HK3.out; omega
                                    case rel => exact ⟨(wrap64 (x14_3 + 1)), (by first | rfl | (simp; done) | (simp [*]; done)), H', ⟨by have := HJ2.out; have := HJ19.out; have := HK3.out; omega⟩, ⟨by (with_reducible repeat (first | apply Kd.R_alloc | apply Kd.R_drewN | apply Kd.R_drew)); exact HO_5.out⟩, ⟨by (with_reducible repeat (first | apply Kd.R_alloc | apply Kd.R_drewN | apply Kd.R_drew)); exact HO_6.out⟩, ⟨by (with_reducible repeat (first | apply Kd.R_alloc | apply Kd.R_drewN | apply Kd.R_drew)); exact HO_8.out⟩, ⟨by (with_reducible repeat (first | apply Kd.R_alloc | apply Kd.R_drewN | apply Kd.R_drew)); exact HO_10.out⟩, ⟨by repeat (first | (with_reducible first | exact HB.out | apply below_alloc | apply pw_below_drewN | apply below_drew1) | exact HB.out | exact Below.refl _ _)⟩⟩
                              · rw [if_neg c52] at H
                                exact absurd H (by simp)
                            · rw [if_neg c51] at H
                              exact absurd H (by simp)
                          · rw [if_neg c50] at H
                            have c50b0 : decide (x14_3 < (wrap64 ((l0.length : Int) - 1))) = false := decide_eq_false c50
                            have c50b1 : decide (x14_3 < ji11) = false := by rw [← hji11]; exact c50b0
                            clear c50
                            replace H := Option.bind_eq_some_iff.mp H
                            obtain ⟨t581, A720, H⟩ := H
                            replace H : (if t581 = 0 then (if t564 = 0 then (if ((t568 == 0) == ((t563.length : Int) == 0)) = true then ((camshaftlaw06_known.f k3).bind fun t582 => (some t582)) else (some false)) else (if t568 = 11 then ((camshaftlaw06_known.f k3).bind fun t583 => (some t583)) else (some false))) else (some false)) = some r := H
                            have A72 := Aside0.mk A720
                            clear A720
                            by_cases c73 : t581 = 0
                            · rw [if_pos c73] at H
                              have c73b0 : (t581 == 0) = true := beq_iff_eq.mpr c73
                              have c73b1 : (t581 != 0) = false := bne_eq_false_iff_eq.mpr c73
                              clear c73
                              by_cases c74 : t564 = 0
                              · rw [if_pos c74] at H
                                have c74b0 : (t564 == 0) = true := beq_iff_eq.mpr c74
                                have c74b1 : (t564 != 0) = false := bne_eq_false_iff_eq.mpr c74
                                clear c74
                                by_cases c75 : ((t568 == 0) == ((t563.length : Int) == 0)) = true
                                · rw [if_pos c75] at H
                                  have c75b0 : ((t568 == 0) == ((t563.length : Int) == 0)) = true := c75
                                  (try (have c75b1 : decide ((t568 == 0) = ((t563.length : Int) == 0)) = true := by simpa using c75))
                                  (try (have c75b2 : ((t568 == 0) == ((t563.length : Int) == 0)) = true := by simpa using c75))
                                  clear c75
                                  replace H := Option.bind_eq_some_iff.mp H
                                  obtain ⟨t582, A760, H⟩ := H
                                  replace H : (some t582) = some r := H
                                  have A76 := Aside0.mk A760
                                  clear A760
                                  obtain rfl := Option.some.inj H
                                  go_wp2_with (first | (go_at_call 20; (with_reducible refine (nest_Whole.calls k3 _ _ y552 t581 _ ?side1 ?side2 A72.out).mono ?_); (case side1 => repeat (first | exact (Kd.R_reads' HO_5.out).2.2 | (with_reducible refine Kd.C_alloc ?_ _) | (with_reducible refine Kd.C_drewN ?_ _) | (with_reducible refine Kd.C_drew ?_))); (case side2 => exact (Kd.R_reads' HO_5.out).2.1); rintro e w77 ⟨rfl, hb⟩; have n0_ := Aside0.mk (Kd.R_below (by (with_reducible repeat (first | apply Kd.R_alloc | apply Kd.R_drewN | apply Kd.R_drew)); exact HO_5.out) hb); have n1_ := Aside0.mk (Kd.R_below (by (with_reducible repeat (first | apply Kd.R_alloc | apply Kd.R_drewN | apply Kd.R_drew)); exact HO_6.out) hb); have n2_ := Aside0.mk (Kd.R_below (by (with_reducible repeat (first | apply Kd.R_alloc | apply Kd.R_drewN | apply Kd.R_drew)); exact HO_8.out) hb); have n3_ := Aside0.mk (Kd.R_below (by (with_reducible repeat (first | apply Kd.R_alloc | apply Kd.R_drewN | apply Kd.R_drew)); exact HO_10.out) hb); have n4_ := Aside0.mk (below_step (by repeat (first | (with_reducible first | exact HB.out | apply below_alloc | apply pw_below_drewN | apply below_drew1) | exact HB.out)) hb); clear HO_5; clear HO_6; clear HO_8; clear HO_10; clear HB; have HO_5 := n0_; have HO_6 := n1_; have HO_8 := n2_; have HO_10 := n3_; have HB := n4_; clear n0_ n1_ n2_ n3_ n4_; (try clear hb); (try clear hb2); (try clear hk); (try clear hi); obtain ⟨Ao78, co78, eo78⟩ := Kd.R_slice HO_10.out; subst eo78) | (go_at_call 10; (with_reducible refine (camshaftlaw06_known.calls k3  t582 _ A76.out).mono ?_); rintro e w79 ⟨rfl, hb⟩; have n0_ := Aside0.mk (Kd.R_below (by (with_reducible repeat (first | apply Kd.R_alloc | apply Kd.R_drewN | apply Kd.R_drew)); exact HO_5.out) hb); have n1_ := Aside0.mk (Kd.R_below (by (with_reducible repeat (first | apply Kd.R_alloc | apply Kd.R_drewN | apply Kd.R_drew)); exact HO_6.out) hb); have n2_ := Aside0.mk (Kd.R_below (by (with_reducible repeat (first | apply Kd.R_alloc | apply Kd.R_drewN | apply Kd.R_drew)); exact HO_8.out) hb); have n3_ := Aside0.mk (Kd.R_below (by (with_reducible repeat (first | apply Kd.R_alloc | apply Kd.R_drewN | apply Kd.R_drew)); exact HO_10.out) hb); have n4_ := Aside0.mk (below_step (by repeat (first | (with_reducible first | exact HB.out | apply below_alloc | apply pw_below_drewN | apply below_drew1) | exact HB.out)) hb); clear HO_5; clear HO_6; clear HO_8; clear HO_10; clear HB; have HO_5 := n0_; have HO_6 := n1_; have HO_8 := n2_; have HO_10 := n3_; have HB := n4_; clear n0_ n1_ n2_ n3_ n4_; (try clear hb); (try clear hb2); (try clear hk); (try clear hi)))
                                  repeat (go_quiet (first | (go_at_call 20; (with_reducible refine (nest_Whole.calls k3 _ _ y552 t581 _ ?side1 ?side2 A72.out).mono ?_); (case side1 => repeat (first | exact (Kd.R_reads' HO_5.out).2.2 | (with_reducible refine Kd.C_alloc ?_ _) | (with_reducible refine Kd.C_drewN ?_ _) | (with_reducible refine Kd.C_drew ?_))); (case side2 => exact (Kd.R_reads' HO_5.out).2.1); rintro e w77 ⟨rfl, hb⟩; have n0_ := Aside0.mk (Kd.R_below (by (with_reducible repeat (first | apply Kd.R_alloc | apply Kd.R_drewN | apply Kd.R_drew)); exact HO_5.out) hb); have n1_ := Aside0.mk (Kd.R_below (by (with_reducible repeat (first | apply Kd.R_alloc | apply Kd.R_drewN | apply Kd.R_drew)); exact HO_6.out) hb); have n2_ := Aside0.mk (Kd.R_below (by (with_reducible repeat (first | apply Kd.R_alloc | apply Kd.R_drewN | apply Kd.R_drew)); exact HO_8.out) hb); have n3_ := Aside0.mk (Kd.R_below (by (with_reducible repeat (first | apply Kd.R_alloc | apply Kd.R_drewN | apply Kd.R_drew)); exact HO_10.out) hb); have n4_ := Aside0.mk (below_step (by repeat (first | (with_reducible first | exact HB.out | apply below_alloc | apply pw_below_drewN | apply below_drew1) | exact HB.out)) hb); clear HO_5; clear HO_6; clear HO_8; clear HO_10; clear HB; have HO_5 := n0_; have HO_6 := n1_; have HO_8 := n2_; have HO_10 := n3_; have HB := n4_; clear n0_ n1_ n2_ n3_ n4_; (try clear hb); (try clear hb2); (try clear hk); (try clear hi); obtain ⟨Ao78, co78, eo78⟩ := Kd.R_slice HO_10.out; subst eo78) | (go_at_call 10; (with_reducible refine (camshaftlaw06_known.calls k3  t582 _ A76.out).mono ?_); rintro e w79 ⟨rfl, hb⟩; have n0_ := Aside0.mk (Kd.R_below (by (with_reducible repeat (first | apply Kd.R_alloc | apply Kd.R_drewN | apply Kd.R_drew)); exact HO_5.out) hb); have n1_ := Aside0.mk (Kd.R_below (by (with_reducible repeat (first | apply Kd.R_alloc | apply Kd.R_drewN | apply Kd.R_drew)); exact HO_6.out) hb); have n2_ := Aside0.mk (Kd.R_below (by (with_reducible repeat (first | apply Kd.R_alloc | apply Kd.R_drewN | apply Kd.R_drew)); exact HO_8.out) hb); have n3_ := Aside0.mk (Kd.R_below (by (with_reducible repeat (first | apply Kd.R_alloc | apply Kd.R_drewN | apply Kd.R_drew)); exact HO_10.out) hb); have n4_ := Aside0.mk (below_step (by repeat (first | (with_reducible first | exact HB.out | apply below_alloc | apply pw_below_drewN | apply below_drew1) | exact HB.out)) hb); clear HO_5; clear HO_6; clear HO_8; clear HO_10; clear HB; have HO_5 := n0_; have HO_6 := n1_; have HO_8 := n2_; have HO_10 := n3_; have HB := n4_; clear n0_ n1_ n2_ n3_ n4_; (try clear hb); (try clear hb2); (try clear hk); (try clear hi))); try go_wp2_with (first | (go_at_call 20; (with_reducible refine (nest_Whole.calls k3 _ _ y552 t581 _ ?side1 ?side2 A72.out).mono ?_); (case side1 => repeat (first | exact (Kd.R_reads' HO_5.out).2.2 | (with_reducible refine Kd.C_alloc ?_ _) | (with_reducible refine Kd.C_drewN ?_ _) | (with_reducible refine Kd.C_drew ?_))); (case side2 => exact (Kd.R_reads' HO_5.out).2.1); rintro e w77 ⟨rfl, hb⟩; have n0_ := Aside0.mk (Kd.R_below (by (with_reducible repeat (first | apply Kd.R_alloc | apply Kd.R_drewN | apply Kd.R_drew)); exact HO_5.out) hb); have n1_ := Aside0.mk (Kd.R_below (by (with_reducible repeat (first | apply Kd.R_alloc | apply Kd.R_drewN | apply Kd.R_drew)); exact HO_6.out) hb); have n2_ := Aside0.mk (Kd.R_below (by (with_reducible repeat (first | apply Kd.R_alloc | apply Kd.R_drewN | apply Kd.R_drew)); exact HO_8.out) hb); have n3_ := Aside0.mk (Kd.R_below (by (with_reducible repeat (first | apply Kd.R_alloc | apply Kd.R_drewN | apply Kd.R_drew)); exact HO_10.out) hb); have n4_ := Aside0.mk (below_step (by repeat (first | (with_reducible first | exact HB.out | apply below_alloc | apply pw_below_drewN | apply below_drew1) | exact HB.out)) hb); clear HO_5; clear HO_6; clear HO_8; clear HO_10; clear HB; have HO_5 := n0_; have HO_6 := n1_; have HO_8 := n2_; have HO_10 := n3_; have HB := n4_; clear n0_ n1_ n2_ n3_ n4_; (try clear hb); (try clear hb2); (try clear hk); (try clear hi); obtain ⟨Ao78, co78, eo78⟩ := Kd.R_slice HO_10.out; subst eo78) | (go_at_call 10; (with_reducible refine (camshaftlaw06_known.calls k3  t582 _ A76.out).mono ?_); rintro e w79 ⟨rfl, hb⟩; have n0_ := Aside0.mk (Kd.R_below (by (with_reducible repeat (first | apply Kd.R_alloc | apply Kd.R_drewN | apply Kd.R_drew)); exact HO_5.out) hb); have n1_ := Aside0.mk (Kd.R_below (by (with_reducible repeat (first | apply Kd.R_alloc | apply Kd.R_drewN | apply Kd.R_drew)); exact HO_6.out) hb); have n2_ := Aside0.mk (Kd.R_below (by (with_reducible repeat (first | apply Kd.R_alloc | apply Kd.R_drewN | apply Kd.R_drew)); exact HO_8.out) hb); have n3_ := Aside0.mk (Kd.R_below (by (with_reducible repeat (first | apply Kd.R_alloc | apply Kd.R_drewN | apply Kd.R_drew)); exact HO_10.out) hb); have n4_ := Aside0.mk (below_step (by repeat (first | (with_reducible first | exact HB.out | apply below_alloc | apply pw_below_drewN | apply below_drew1) | exact HB.out)) hb); clear HO_5; clear HO_6; clear HO_8; clear HO_10; clear HB; have HO_5 := n0_; have HO_6 := n1_; have HO_8 := n2_; have HO_10 := n3_; have HB := n4_; clear n0_ n1_ n2_ n3_ n4_; (try clear hb); (try clear hb2); (try clear hk); (try clear hi))))
                                  go_ret
                                  exact ⟨by first | rfl | (simp [errW_none, errW_some] <;> rfl) | (simp only [← hji11]; first | rfl | (simp [errW_none, errW_some] <;> rfl)) | (simp [*, errW_none, errW_some] <;> rfl), by repeat (first | (with_reducible first | exact HB.out | apply below_alloc | apply pw_below_drewN | apply below_drew1) | exact HB.out | exact Below.refl _ _)⟩
                                · rw [if_neg c75] at H
                                  have c75b0 : ((t568 == 0) == ((t563.length : Int) == 0)) = false := by simpa using c75
                                  (try (have c75b1 : decide ((t568 == 0) = ((t563.length : Int) == 0)) = false := by simpa using c75))
                                  (try (have c75b2 : ((t568 == 0) == ((t563.length : Int) == 0)) = false := by simpa using c75))
                                  (try (have c75b3 : ¬ ((t568 == 0) = ((t563.length : Int) == 0)) := by simpa using c75))
                                  clear c75
                                  exact absurd ((Option.some.inj H).trans HT.out) (by decide)
                              · rw [if_neg c74] at H
                                have c74b0 : (t564 == 0) = false := beq_eq_false_iff_ne.mpr c74
                                have c74b1 : (t564 != 0) = true := bne_iff_ne.mpr c74
                                by_cases c80 : t568 = 11
                                · rw [if_pos c80] at H
                                  have c80b0 : (t568 == 11) = true := beq_iff_eq.mpr c80
                                  have c80b1 : (t568 != 11) = false := bne_eq_false_iff_eq.mpr c80
                                  clear c80
                                  replace H := Option.bind_eq_some_iff.mp H
                                  obtain ⟨t583, A810, H⟩ := H
                                  replace H : (some t583) = some r := H
                                  have A81 := Aside0.mk A810
                                  clear A810
                                  obtain rfl := Option.some.inj H
                                  go_wp2_with (first | (go_at_call 20; (with_reducible refine (nest_Whole.calls k3 _ _ y552 t581 _ ?side1 ?side2 A72.out).mono ?_); (case side1 => repeat (first | exact (Kd.R_reads' HO_5.out).2.2 | (with_reducible refine Kd.C_alloc ?_ _) | (with_reducible refine Kd.C_drewN ?_ _) | (with_reducible refine Kd.C_drew ?_))); (case side2 => exact (Kd.R_reads' HO_5.out).2.1); rintro e w82 ⟨rfl, hb⟩; have n0_ := Aside0.mk (Kd.R_below (by (with_reducible repeat (first | apply Kd.R_alloc | apply Kd.R_drewN | apply Kd.R_drew)); exact HO_5.out) hb); have n1_ := Aside0.mk (Kd.R_below (by (with_reducible repeat (first | apply Kd.R_alloc | apply Kd.R_drewN | apply Kd.R_drew)); exact HO_6.out) hb); have n2_ := Aside0.mk (Kd.R_below (by (with_reducible repeat (first | apply Kd.R_alloc | apply Kd.R_drewN | apply Kd.R_drew)); exact HO_8.out) hb); have n3_ := Aside0.mk (Kd.R_below (by (with_reducible repeat (first | apply Kd.R_alloc | apply Kd.R_drewN | apply Kd.R_drew)); exact HO_10.out) hb); have n4_ := Aside0.mk (below_step (by repeat (first | (with_reducible first | exact HB.out | apply below_alloc | apply pw_below_drewN | apply below_drew1) | exact HB.out)) hb); clear HO_5; clear HO_6; clear HO_8; clear HO_10; clear HB; have HO_5 := n0_; have HO_6 := n1_; have HO_8 := n2_; have HO_10 := n3_; have HB := n4_; clear n0_ n1_ n2_ n3_ n4_; (try clear hb); (try clear hb2); (try clear hk); (try clear hi)) | (go_at_call 10; (with_reducible refine (camshaftlaw06_known.calls k3  t583 _ A81.out).mono ?_); rintro e w83 ⟨rfl, hb⟩; have n0_ := Aside0.mk (Kd.R_below (by (with_reducible repeat (first | apply Kd.R_alloc | apply Kd.R_drewN | apply Kd.R_drew)); exact HO_5.out) hb); have n1_ := Aside0.mk (Kd.R_below (by (with_reducible repeat (first | apply Kd.R_alloc | apply Kd.R_drewN | apply Kd.R_drew)); exact HO_6.out) hb); have n2_ := Aside0.mk (Kd.R_below (by (with_reducible repeat (first | apply Kd.R_alloc | apply Kd.R_drewN | apply Kd.R_drew)); exact HO_8.out) hb); have n3_ := Aside0.mk (Kd.R_below (by (with_reducible repeat (first | apply Kd.R_alloc | apply Kd.R_drewN | apply Kd.R_drew)); exact HO_10.out) hb); have n4_ := Aside0.mk (below_step (by repeat (first | (with_reducible first | exact HB.out | apply below_alloc | apply pw_below_drewN | apply below_drew1) | exact HB.out)) hb); clear HO_5; clear HO_6; clear HO_8; clear HO_10; clear HB; have HO_5 := n0_; have HO_6 := n1_; have HO_8 := n2_; have HO_10 := n3_; have HB := n4_; clear n0_ n1_ n2_ n3_ n4_; (try clear hb); (try clear hb2); (try clear hk); (try clear hi)))
                                  repeat (go_quiet (first | (go_at_call 20; (with_reducible refine (nest_Whole.calls k3 _ _ y552 t581 _ ?side1 ?side2 A72.out).mono ?_); (case side1 => repeat (first | exact (Kd.R_reads' HO_5.out).2.2 | (with_reducible refine Kd.C_alloc ?_ _) | (with_reducible refine Kd.C_drewN ?_ _) | (with_reducible refine Kd.C_drew ?_))); (case side2 => exact (Kd.R_reads' HO_5.out).2.1); rintro e w82 ⟨rfl, hb⟩; have n0_ := Aside0.mk (Kd.R_below (by (with_reducible repeat (first | apply Kd.R_alloc | apply Kd.R_drewN | apply Kd.R_drew)); exact HO_5.out) hb); have n1_ := Aside0.mk (Kd.R_below (by (with_reducible repeat (first | apply Kd.R_alloc | apply Kd.R_drewN | apply Kd.R_drew)); exact HO_6.out) hb); have n2_ := Aside0.mk (Kd.R_below (by (with_reducible repeat (first | apply Kd.R_alloc | apply Kd.R_drewN | apply Kd.R_drew)); exact HO_8.out) hb); have n3_ := Aside0.mk (Kd.R_below (by (with_reducible repeat (first | apply Kd.R_alloc | apply Kd.R_drewN | apply Kd.R_drew)); exact HO_10.out) hb); have n4_ := Aside0.mk (below_step (by repeat (first | (with_reducible first | exact HB.out | apply below_alloc | apply pw_below_drewN | apply below_drew1) | exact HB.out)) hb); clear HO_5; clear HO_6; clear HO_8; clear HO_10; clear HB; have HO_5 := n0_; have HO_6 := n1_; have HO_8 := n2_; have HO_10 := n3_; have HB := n4_; clear n0_ n1_ n2_ n3_ n4_; (try clear hb); (try clear hb2); (try clear hk); (try clear hi)) | (go_at_call 10; (with_reducible refine (camshaftlaw06_known.calls k3  t583 _ A81.out).mono ?_); rintro e w83 ⟨rfl, hb⟩; have n0_ := Aside0.mk (Kd.R_below (by (with_reducible repeat (first | apply Kd.R_alloc | apply Kd.R_drewN | apply Kd.R_drew)); exact HO_5.out) hb); have n1_ := Aside0.mk (Kd.R_below (by (with_reducible repeat (first | apply Kd.R_alloc | apply Kd.R_drewN | apply Kd.R_drew)); exact HO_6.out) hb); have n2_ := Aside0.mk (Kd.R_below (by (with_reducible repeat (first | apply Kd.R_alloc | apply Kd.R_drewN | apply Kd.R_drew)); exact HO_8.out) hb); have n3_ := Aside0.mk (Kd.R_below (by (with_reducible repeat (first | apply Kd.R_alloc | apply Kd.R_drewN | apply Kd.R_drew)); exact HO_10.out) hb); have n4_ := Aside0.mk (below_step (by repeat (first | (with_reducible first | exact HB.out | apply below_alloc | apply pw_below_drewN | apply below_drew1) | exact HB.out)) hb); clear HO_5; clear HO_6; clear HO_8; clear HO_10; clear HB; have HO_5 := n0_; have HO_6 := n1_; have HO_8 := n2_; have HO_10 := n3_; have HB := n4_; clear n0_ n1_ n2_ n3_ n4_; (try clear hb); (try clear hb2); (try clear hk); (try clear hi))); try go_wp2_with (first | (go_at_call 20; (with_reducible refine (nest_Whole.calls k3 _ _ y552 t581 _ ?side1 ?side2 A72.out).mono ?_); (case side1 => repeat (first | exact (Kd.R_reads' HO_5.out).2.2 | (with_reducible refine Kd.C_alloc ?_ _) | (with_reducible refine Kd.C_drewN ?_ _) | (with_reducible refine Kd.C_drew ?_))); (case side2 => exact (Kd.R_reads' HO_5.out).2.1); rintro e w82 ⟨rfl, hb⟩; have n0_ := Aside0.mk (Kd.R_below (by (with_reducible repeat (first | apply Kd.R_alloc | apply Kd.R_drewN | apply Kd.R_drew)); exact HO_5.out) hb); have n1_ := Aside0.mk (Kd.R_below (by (with_reducible repeat (first | apply Kd.R_alloc | apply Kd.R_drewN | apply Kd.R_drew)); exact HO_6.out) hb); have n2_ := Aside0.mk (Kd.R_below (by (with_reducible repeat (first | apply Kd.R_alloc | apply Kd.R_drewN | apply Kd.R_drew)); exact HO_8.out) hb); have n3_ := Aside0.mk (Kd.R_below (by (with_reducible repeat (first | apply Kd.R_alloc | apply Kd.R_drewN | apply Kd.R_drew)); exact HO_10.out) hb); have n4_ := Aside0.mk (below_step (by repeat (first | (with_reducible first | exact HB.out | apply below_alloc | apply pw_below_drewN | apply below_drew1) | exact HB.out)) hb); clear HO_5; clear HO_6; clear HO_8; clear HO_10; clear HB; have HO_5 := n0_; have HO_6 := n1_; have HO_8 := n2_; have HO_10 := n3_; have HB := n4_; clear n0_ n1_ n2_ n3_ n4_; (try clear hb); (try clear hb2); (try clear hk); (try clear hi)) | (go_at_call 10; (with_reducible refine (camshaftlaw06_known.calls k3  t583 _ A81.out).mono ?_); rintro e w83 ⟨rfl, hb⟩; have n0_ := Aside0.mk (Kd.R_below (by (with_reducible repeat (first | apply Kd.R_alloc | apply Kd.R_drewN | apply Kd.R_drew)); exact HO_5.out) hb); have n1_ := Aside0.mk (Kd.R_below (by (with_reducible repeat (first | apply Kd.R_alloc | apply Kd.R_drewN | apply Kd.R_drew)); exact HO_6.out) hb); have n2_ := Aside0.mk (Kd.R_below (by (with_reducible repeat (first | apply Kd.R_alloc | apply Kd.R_drewN | apply Kd.R_drew)); exact HO_8.out) hb); have n3_ := Aside0.mk (Kd.R_below (by (with_reducible repeat (first | apply Kd.R_alloc | apply Kd.R_drewN | apply Kd.R_drew)); exact HO_10.out) hb); have n4_ := Aside0.mk (below_step (by repeat (first | (with_reducible first | exact HB.out | apply below_alloc | apply pw_below_drewN | apply below_drew1) | exact HB.out)) hb); clear HO_5; clear HO_6; clear HO_8; clear HO_10; clear HB; have HO_5 := n0_; have HO_6 := n1_; have HO_8 := n2_; have HO_10 := n3_; have HB := n4_; clear n0_ n1_ n2_ n3_ n4_; (try clear hb); (try clear hb2); (try clear hk); (try clear hi))))
                                  go_ret
                                  exact ⟨by first | rfl | (simp [errW_none, errW_some] <;> rfl) | (simp only [← hji11]; first | rfl | (simp [errW_none, errW_some] <;> rfl)) | (simp [*, errW_none, errW_some] <;> rfl), by repeat (first | (with_reducible first | exact HB.out | apply below_alloc | apply pw_below_drewN | apply below_drew1) | exact HB.out | exact Below.refl _ _)⟩
                                · rw [if_neg c80] at H
                                  have c80b0 : (t568 == 11) = false := beq_eq_false_iff_ne.mpr c80
                                  have c80b1 : (t568 != 11) = true := bne_iff_ne.mpr c80
                                  exact absurd ((Option.some.inj H).trans HT.out) (by decide)
                            · rw [if_neg c73] at H
                              have c73b0 : (t581 == 0) = false := beq_eq_false_iff_ne.mpr c73
                              have c73b1 : (t581 != 0) = true := bne_iff_ne.mpr c73
                              exact absurd ((Option.some.inj H).trans HT.out) (by decide)
              · rw [if_neg c15] at H
                exact absurd H (by simp)
            · rw [if_neg c14] at H
              exact absurd H (by simp)
          · rw [if_neg c13] at H
            exact absurd H (by simp)
        · rw [if_neg c12] at H
          exact absurd H (by simp)

/-- THE ONE PURE STATEMENT of camshaftlaw06_NestLoops. -/
def camshaftlaw06_NestLoops.Pure : Prop := ∀ (l0 : List S32) (a1 : Int), l0.length * 24 ≤ 140737488351232 → (∀ x ∈ l0, (Lit.int .i64 x.f0).wf = true ∧ (Lit.int .i64 x.f1).wf = true ∧ (Lit.int .i64 x.f2).wf = true) → (Lit.int .u8 a1).wf = true → ∃ k, camshaftlaw06_NestLoops.f k l0 a1 = some true
theorem camshaftlaw06_NestLoops.walk (P : camshaftlaw06_NestLoops.Pure) (A0 : Option Addr) (c0 : Nat) (l0 : List S32) (a1 : Int) (w : World) (hr0 : Kd.C k32 w A0 l0.length l0) (hc0 : l0.length ≤ c0) (y0 : l0.length * 24 ≤ 140737488351232) (hw0 : ∀ x ∈ l0, (Lit.int .i64 x.f0).wf = true ∧ (Lit.int .i64 x.f1).wf = true ∧ (Lit.int .i64 x.f2).wf = true) (w1 : (Lit.int .u8 a1).wf = true) :
    Calls Try.prog 9 #[.slice A0 l0.length c0, .int .u8 a1] w fun e w' => e = .returned (.bool true) ∧ Below w.heap.size w w' := by
  obtain ⟨k, h⟩ := P l0 a1 y0 hw0 w1
  refine (camshaftlaw06_NestLoops.calls k A0 c0 l0 a1 true w hr0 hc0 h rfl).mono ?_
  rintro e w' ⟨rfl, hd⟩
  exact ⟨rfl, hd⟩

end Go.Proofs.Ytljgllcllddcdaa.P
