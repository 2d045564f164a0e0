-- Written by a program of this session (wip/tools: patched print) for this claim. Not trusted: Lean checks it.
import Derived.Test.YtljgllcllddcdaaPx0
import Derived.Test.YtljgllcllddcdaaPx6
import Derived.Test.YtljgllcllddcdaaPx8
import Derived.Test.YtljgllcllddcdaaPx9
namespace Go.Proofs.Ytljgllcllddcdaa.P
open Go.RowKit Go.Proofs.YtljgllcllddcdaaW.PrintWords Go.Proofs.YtljgllcllddcdaaW.PrintLast Go.Proofs.YtljgllcllddcdaaW.PrintMore
attribute [local go_sem] max2_int min2_int max_two min_two max_three min_three max_four min_four   -- for this text's walks alone
set_option linter.unusedVariables false
set_option linter.unusedSimpArgs false

/-! ### camshaftlaw06_NestParts: function 8 -/
mutual
def camshaftlaw06_NestParts.j0 : Nat → List (S32) → List (S32) → Bool → Option (Bool)
  | 0, _, _, _ => none
  | k + 1, x0, x1, x32 => if x32 = true then ((camshaftlaw06_known.f k).bind fun t497 => (some t497)) else ((some (([] : List (S32)) : List (S32))).bind fun y498 => (if 0 ≤ (wrap64 ((x0.length : Int) - 1)) then (if (wrap64 ((x0.length : Int) - 1)) ≤ (x0.length : Int) then ((some (x0.take ((wrap64 ((x0.length : Int) - 1)) : Int).toNat : List (S32))).bind fun y501 => (if y498.length + y501.length < 5864062014805 then ((some (y498 ++ y501 : List (S32))).bind fun y505 => (if y505.length + x1.length < 5864062014805 then ((some (y505 ++ x1 : List (S32))).bind fun y508 => ((nest_Locks.f k x0).bind fun bt511 => ((nest_Locks.f k x1).bind fun bt515 => ((nest_Locks.f k y508).bind fun bt519 => ((nest_Whole.f k y508).bind fun t523 => (if t523 = 0 then (if bt511.2 = 0 then (camshaftlaw06_NestParts.j1 k bt511.1 bt515.1 bt519.1 bt519.2 (bt515.2 != 0)) else (camshaftlaw06_NestParts.j1 k bt511.1 bt515.1 bt519.1 bt519.2 true)) else (some false))))))) else (none))) else (none))) else (none)) else (none)))
def camshaftlaw06_NestParts.j1 : Nat → List Int → List Int → List Int → Int → Bool → Option (Bool)
  | 0, _, _, _, _, _ => none
  | k + 1, x6, x8, x10, x11, x66 => if x66 = true then (if x11 = 11 then ((camshaftlaw06_known.f k).bind fun t524 => (some t524)) else (some false)) else (if (x6.length : Int) > 0 then (camshaftlaw06_NestParts.j2 k x6 x8 x10 x11 (decide ((x8.length : Int) > 0))) else (camshaftlaw06_NestParts.j2 k x6 x8 x10 x11 false))
def camshaftlaw06_NestParts.j2 : Nat → List Int → List Int → List Int → Int → Bool → Option (Bool)
  | 0, _, _, _, _, _ => none
  | k + 1, x6, x8, x10, x11, x79 => if x79 = true then (if x11 = 11 then ((camshaftlaw06_known.f k).bind fun t525 => (some t525)) else (some false)) else (if x11 = 0 then ((some (([] : List Int) : List Int)).bind fun y526 => (if y526.length + x6.length < 17592186044416 then ((some (y526 ++ x6 : List Int)).bind fun y529 => (if y529.length + x8.length < 17592186044416 then ((camshaftref02_Same.f k x10 (y529 ++ x8)).bind fun t535 => (if t535 = true then ((camshaftlaw06_known.f k).bind fun t536 => (some t536)) else (some false))) else (none))) else (none))) else (some false))
end
def camshaftlaw06_NestParts.f (k : Nat) (l0 : List (S32)) (l1 : List (S32)) : Option (Bool) := if (l0.length : Int) < 1 then (camshaftlaw06_NestParts.j0 k l0 l1 true) else (if (wrap64 ((l0.length : Int) + (l1.length : Int))) > 190 then (camshaftlaw06_NestParts.j0 k l0 l1 true) else ((nest_Whole.f k l0).bind fun t495 => (if t495 = 0 then ((nest_Whole.f k l1).bind fun t496 => (camshaftlaw06_NestParts.j0 k l0 l1 (t496 != 0))) else (camshaftlaw06_NestParts.j0 k l0 l1 true))))
theorem camshaftlaw06_NestParts.mono_l : ∀ k, (∀ y0 y1 y2, LeO (camshaftlaw06_NestParts.j0 k y0 y1 y2) (camshaftlaw06_NestParts.j0 (k + 1) y0 y1 y2)) ∧ (∀ y0 y1 y2 y3 y4, LeO (camshaftlaw06_NestParts.j1 k y0 y1 y2 y3 y4) (camshaftlaw06_NestParts.j1 (k + 1) y0 y1 y2 y3 y4)) ∧ (∀ y0 y1 y2 y3 y4, LeO (camshaftlaw06_NestParts.j2 k y0 y1 y2 y3 y4) (camshaftlaw06_NestParts.j2 (k + 1) y0 y1 y2 y3 y4))
  | 0 => ⟨fun _ _ _ r h => by simp [camshaftlaw06_NestParts.j0] at h, fun _ _ _ _ _ r h => by simp [camshaftlaw06_NestParts.j1] at h, fun _ _ _ _ _ r h => by simp [camshaftlaw06_NestParts.j2] at h⟩
  | k + 1 => by
    obtain ⟨ih0, ih1, ih2⟩ := camshaftlaw06_NestParts.mono_l k
    refine ⟨?_, ?_, ?_⟩
    · intro y0 y1 y2
      unfold camshaftlaw06_NestParts.j0
      repeat' first
      | (with_reducible exact ih0 _ _ _)
      | (with_reducible exact ih1 _ _ _ _ _)
      | (with_reducible exact ih2 _ _ _ _ _)
      | (with_reducible exact camshaftlaw06_known.mono _)
      | (with_reducible exact camshaftref02_Same.mono _ _ _)
      | (with_reducible exact nest_Locks.mono _ _)
      | (with_reducible exact nest_Whole.mono _ _)
      | (with_reducible exact LeO.refl _)
      | (with_reducible exact LeO.none _)
      | (with_reducible refine LeO.ite ?_ ?_)
      | (with_reducible refine LeO.bind ?_ (fun _ => ?_))
      | exact ih0 _ _ _
      | exact ih1 _ _ _ _ _
      | exact ih2 _ _ _ _ _
      | exact camshaftlaw06_known.mono _
      | exact camshaftref02_Same.mono _ _ _
      | exact nest_Locks.mono _ _
      | exact nest_Whole.mono _ _
      | exact LeO.none _
      | refine LeO.ite ?_ ?_
      | refine LeO.bind ?_ (fun _ => ?_)
    · intro y0 y1 y2 y3 y4
      unfold camshaftlaw06_NestParts.j1
      repeat' first
      | (with_reducible exact ih0 _ _ _)
      | (with_reducible exact ih1 _ _ _ _ _)
      | (with_reducible exact ih2 _ _ _ _ _)
      | (with_reducible exact camshaftlaw06_known.mono _)
      | (with_reducible exact camshaftref02_Same.mono _ _ _)
      | (with_reducible exact nest_Locks.mono _ _)
      | (with_reducible exact nest_Whole.mono _ _)
      | (with_reducible exact LeO.refl _)
      | (with_reducible exact LeO.none _)
      | (with_reducible refine LeO.ite ?_ ?_)
      | (with_reducible refine LeO.bind ?_ (fun _ => ?_))
      | exact ih0 _ _ _
      | exact ih1 _ _ _ _ _
      | exact ih2 _ _ _ _ _
      | exact camshaftlaw06_known.mono _
      | exact camshaftref02_Same.mono _ _ _
      | exact nest_Locks.mono _ _
      | exact nest_Whole.mono _ _
      | exact LeO.none _
      | refine LeO.ite ?_ ?_
      | refine LeO.bind ?_ (fun _ => ?_)
    · intro y0 y1 y2 y3 y4
      unfold camshaftlaw06_NestParts.j2
      repeat' first
      | (with_reducible exact ih0 _ _ _)
      | (with_reducible exact ih1 _ _ _ _ _)
      | (with_reducible exact ih2 _ _ _ _ _)
      | (with_reducible exact camshaftlaw06_known.mono _)
      | (with_reducible exact camshaftref02_Same.mono _ _ _)
      | (with_reducible exact nest_Locks.mono _ _)
      | (with_reducible exact nest_Whole.mono _ _)
      | (with_reducible exact LeO.refl _)
      | (with_reducible exact LeO.none _)
      | (with_reducible refine LeO.ite ?_ ?_)
      | (with_reducible refine LeO.bind ?_ (fun _ => ?_))
      | exact ih0 _ _ _
      | exact ih1 _ _ _ _ _
      | exact ih2 _ _ _ _ _
      | exact camshaftlaw06_known.mono _
      | exact camshaftref02_Same.mono _ _ _
      | exact nest_Locks.mono _ _
      | exact nest_Whole.mono _ _
      | exact LeO.none _
      | refine LeO.ite ?_ ?_
      | refine LeO.bind ?_ (fun _ => ?_)
theorem camshaftlaw06_NestParts.mono : ∀ a0 a1 k, LeO (camshaftlaw06_NestParts.f k a0 a1) (camshaftlaw06_NestParts.f (k + 1) a0 a1) := by
  intro a0 a1 k
  obtain ⟨ih0, ih1, ih2⟩ := camshaftlaw06_NestParts.mono_l k
  unfold camshaftlaw06_NestParts.f
  repeat' first
      | (with_reducible exact ih0 _ _ _)
      | (with_reducible exact ih1 _ _ _ _ _)
      | (with_reducible exact ih2 _ _ _ _ _)
      | (with_reducible exact camshaftlaw06_known.mono _)
      | (with_reducible exact camshaftref02_Same.mono _ _ _)
      | (with_reducible exact nest_Locks.mono _ _)
      | (with_reducible exact nest_Whole.mono _ _)
      | (with_reducible exact LeO.refl _)
      | (with_reducible exact LeO.none _)
      | (with_reducible refine LeO.ite ?_ ?_)
      | (with_reducible refine LeO.bind ?_ (fun _ => ?_))
      | exact ih0 _ _ _
      | exact ih1 _ _ _ _ _
      | exact ih2 _ _ _ _ _
      | exact camshaftlaw06_known.mono _
      | exact camshaftref02_Same.mono _ _ _
      | exact nest_Locks.mono _ _
      | exact nest_Whole.mono _ _
      | exact LeO.none _
      | refine LeO.ite ?_ ?_
      | refine LeO.bind ?_ (fun _ => ?_)
set_option maxHeartbeats 8000000 in
set_option maxRecDepth 100000 in
theorem camshaftlaw06_NestParts.calls (k : Nat) (A0 : Option Addr) (c0 : Nat) (l0 : List (S32)) (A1 : Option Addr) (c1 : Nat) (l1 : List (S32)) (r : Bool) (w : World) (hr0 : Kd.C k32 w A0 l0.length l0) (hc0 : l0.length ≤ c0) (hr1 : Kd.C k32 w A1 l1.length l1) (hc1 : l1.length ≤ c1) (h : camshaftlaw06_NestParts.f k l0 l1 = some r) (ht : r = true) :
    Calls Try.prog 8 #[.slice A0 l0.length c0, .slice A1 l1.length c1] w fun e w' => e = .returned (.bool r) ∧ Below w.heap.size w w' := by
  have HT := Aside0.mk ht
  clear ht
  have HR0 := Aside0.mk hr0
  have HC0 := Aside0.mk hc0
  clear hr0 hc0
  have HR1 := Aside0.mk hr1
  have HC1 := Aside0.mk hc1
  clear hr1 hc1
  have HB := Aside0.mk (Below.refl w.heap.size w)
  have H : (if (l0.length : Int) < 1 then (camshaftlaw06_NestParts.j0 k l0 l1 true) else (if (wrap64 ((l0.length : Int) + (l1.length : Int))) > 190 then (camshaftlaw06_NestParts.j0 k l0 l1 true) else ((nest_Whole.f k l0).bind fun t495 => (if t495 = 0 then ((nest_Whole.f k l1).bind fun t496 => (camshaftlaw06_NestParts.j0 k l0 l1 (t496 != 0))) else (camshaftlaw06_NestParts.j0 k l0 l1 true))))) = some r := h
  clear h
  have HC3 := Aside0.mk H
  clear H
  go_enter Try.func8, Try.ntmps8
  go_upto_region 1 with (fail)
  go_cut [32] (fun v32 wc => ∃ (kq : Nat) (x32_2 : Bool), v32 = .bool x32_2 ∧ Aside0 (camshaftlaw06_NestParts.j0 kq l0 l1 x32_2 = some r) ∧ Aside0 (kq ≤ k) ∧ Aside0 (Below w.heap.size w wc))
  case first =>
    have H := HC3.out
    clear HC3
    by_cases c4 : (l0.length : Int) < 1
    · rw [if_pos c4] at H
      have c4b0 : decide ((l0.length : Int) < 1) = true := decide_eq_true c4
      have c4b1 : decide (l0.length < 1) = true := decide_eq_true (by omega)
      clear c4
      (first | rw [c4b0] | (simp only [i64_w, i32_w]; rw [c4b0]) | rw [c4b1] | skip)
      have H' := Aside0.mk H
      clear H
      go_wp2
      go_meet
      case rel => exact ⟨_, (true), (by first | rfl | (simp; done) | (simp [*]; done)), H', ⟨by first | omega | exact Nat.le_refl _⟩, ⟨by repeat (first | (with_reducible first | exact HB.out | apply below_alloc | apply pw_below_drewN | apply below_drew1) | exact HB.out | exact Below.refl _ _)⟩⟩
    · rw [if_neg c4] at H
      have c4b0 : decide ((l0.length : Int) < 1) = false := decide_eq_false c4
      have c4b1 : decide (l0.length < 1) = false := decide_eq_false (by omega)
      clear c4
      (first | rw [c4b0] | (simp only [i64_w, i32_w]; rw [c4b0]) | rw [c4b1] | skip)
      by_cases c5 : (wrap64 ((l0.length : Int) + (l1.length : Int))) > 190
      · rw [if_pos c5] at H
        have c5b0 : decide (190 < (wrap64 ((l0.length : Int) + (l1.length : Int)))) = true := decide_eq_true c5
        clear c5
        have H' := Aside0.mk H
        clear H
        go_wp2
        go_meet
        case rel => exact ⟨_, (true), (by first | rfl | (simp; done) | (simp [*]; done)), H', ⟨by first | omega | exact Nat.le_refl _⟩, ⟨by repeat (first | (with_reducible first | exact HB.out | apply below_alloc | apply pw_below_drewN | apply below_drew1) | exact HB.out | exact Below.refl _ _)⟩⟩
      · rw [if_neg c5] at H
        have c5b0 : decide (190 < (wrap64 ((l0.length : Int) + (l1.length : Int)))) = false := decide_eq_false c5
        clear c5
        replace H := Option.bind_eq_some_iff.mp H
        obtain ⟨t495, A60, H⟩ := H
        replace H : (if t495 = 0 then ((nest_Whole.f k l1).bind fun t496 => (camshaftlaw06_NestParts.j0 k l0 l1 (t496 != 0))) else (camshaftlaw06_NestParts.j0 k l0 l1 true)) = some r := H
        have A6 := Aside0.mk A60
        clear A60
        by_cases c7 : t495 = 0
        · rw [if_pos c7] at H
          have c7b0 : (t495 == 0) = true := beq_iff_eq.mpr c7
          have c7b1 : (t495 != 0) = false := bne_eq_false_iff_eq.mpr c7
          clear c7
          replace H := Option.bind_eq_some_iff.mp H
          obtain ⟨t496, A80, H⟩ := H
          replace H : (camshaftlaw06_NestParts.j0 k l0 l1 (t496 != 0)) = some r := H
          have A8 := Aside0.mk A80
          clear A80
          have H' := Aside0.mk H
          clear H
          go_wp2_with (first | (go_at_call 20; (with_reducible refine (nest_Whole.calls k _ _ l0 t495 _ ?side1 ?side2 A6.out).mono ?_); (case side1 => repeat (first | exact (Kd.C_below HR0.out HB.out) | (with_reducible refine Kd.C_alloc ?_ _) | (with_reducible refine Kd.C_drewN ?_ _) | (with_reducible refine Kd.C_drew ?_))); (case side2 => exact HC0.out); rintro e w9 ⟨rfl, hb⟩; have n0_ := Aside0.mk (below_step (by repeat (first | (with_reducible first | exact HB.out | apply below_alloc | apply pw_below_drewN | apply below_drew1) | exact HB.out)) hb); clear HB; have HB := n0_; clear n0_; (try clear hb); (try clear hb2); (try clear hk); (try clear hi)) | (go_at_call 20; (with_reducible refine (nest_Whole.calls k _ _ l1 t496 _ ?side1 ?side2 A8.out).mono ?_); (case side1 => repeat (first | exact (Kd.C_below HR1.out HB.out) | (with_reducible refine Kd.C_alloc ?_ _) | (with_reducible refine Kd.C_drewN ?_ _) | (with_reducible refine Kd.C_drew ?_))); (case side2 => exact HC1.out); rintro e w10 ⟨rfl, hb⟩; have n0_ := Aside0.mk (below_step (by repeat (first | (with_reducible first | exact HB.out | apply below_alloc | apply pw_below_drewN | apply below_drew1) | exact HB.out)) hb); clear HB; have HB := n0_; clear n0_; (try clear hb); (try clear hb2); (try clear hk); (try clear hi)))
          go_meet
          case rel => exact ⟨_, ((t496 != 0)), (by first | rfl | (simp; done) | (simp [*]; done)), H', ⟨by first | omega | exact Nat.le_refl _⟩, ⟨by repeat (first | (with_reducible first | exact HB.out | apply below_alloc | apply pw_below_drewN | apply below_drew1) | exact HB.out | exact Below.refl _ _)⟩⟩
        · rw [if_neg c7] at H
          have c7b0 : (t495 == 0) = false := beq_eq_false_iff_ne.mpr c7
          have c7b1 : (t495 != 0) = true := bne_iff_ne.mpr c7
          have H' := Aside0.mk H
          clear H
          go_wp2_with (first | (go_at_call 20; (with_reducible refine (nest_Whole.calls k _ _ l0 t495 _ ?side1 ?side2 A6.out).mono ?_); (case side1 => repeat (first | exact (Kd.C_below HR0.out HB.out) | (with_reducible refine Kd.C_alloc ?_ _) | (with_reducible refine Kd.C_drewN ?_ _) | (with_reducible refine Kd.C_drew ?_))); (case side2 => exact HC0.out); rintro e w11 ⟨rfl, hb⟩; have n0_ := Aside0.mk (below_step (by repeat (first | (with_reducible first | exact HB.out | apply below_alloc | apply pw_below_drewN | apply below_drew1) | exact HB.out)) hb); clear HB; have HB := n0_; clear n0_; (try clear hb); (try clear hb2); (try clear hk); (try clear hi)))
          go_meet
          case rel => exact ⟨_, (true), (by first | rfl | (simp; done) | (simp [*]; done)), H', ⟨by first | omega | exact Nat.le_refl _⟩, ⟨by repeat (first | (with_reducible first | exact HB.out | apply below_alloc | apply pw_below_drewN | apply below_drew1) | exact HB.out | exact Below.refl _ _)⟩⟩
  case rest =>
    clear HC3
    try clear c1
    try clear p2
    try clear c4
    try clear c4b0
    try clear c4b1
    try clear c5
    try clear c5b0
    try clear p6
    try clear c7
    try clear c7b0
    try clear c7b1
    try clear c8
    obtain ⟨kq, x32_2, rfl, HA, HJ2, HB⟩ := hcut
    cases kq with
    | zero => exact absurd HA.out (by simp [camshaftlaw06_NestParts.j0])
    | succ kj2 =>
      have H := HA.out
      clear HA
      simp only [camshaftlaw06_NestParts.j0] at H
      by_cases c12 : x32_2 = true
      · subst c12
        have H1 : ((camshaftlaw06_known.f kj2).bind fun t497 => (some t497)) = some r := by rw [if_pos rfl] at H; exact H
        clear H
        have H := H1
        clear H1
        replace H := Option.bind_eq_some_iff.mp H
        obtain ⟨t497, A130, H⟩ := H
        replace H : (some t497) = some r := H
        have A13 := Aside0.mk A130
        clear A130
        obtain rfl := Option.some.inj H
        go_wp2_with (first | ((with_reducible refine gate_callee (f := 10) rfl ?_); refine goesL_ (some 33) rfl rfl Try.func10 (by kernel_rfl) rfl #[] rfl (by (try simp only [List.map_toArray, List.map_cons, List.map_nil]); first | done | rfl | (simp only [List.length_drop, List.length_take]; rfl)) ?_; (with_reducible refine (camshaftlaw06_known.calls kj2  t497 _ A13.out).mono ?_); rintro e w14 ⟨rfl, hb⟩; refine ⟨_, rfl, ?_⟩; have n0_ := Aside0.mk (below_step (by repeat (first | (with_reducible first | exact HB.out | apply below_alloc | apply pw_below_drewN | apply below_drew1) | exact HB.out)) hb); clear HB; have HB := n0_; clear n0_; (try clear hb); (try clear hb2); (try clear hk); (try clear hi)))
        go_ret
        exact ⟨by first | rfl | (simp [errW_none, errW_some] <;> rfl) | (simp [*, errW_none, errW_some] <;> rfl), by repeat (first | (with_reducible first | exact HB.out | apply below_alloc | apply pw_below_drewN | apply below_drew1) | exact HB.out | exact Below.refl _ _)⟩
      · replace c12 := Bool.eq_false_iff.mpr c12
        subst c12
        have H1 : ((some (([] : List (S32)) : List (S32))).bind fun y498 => (if 0 ≤ (wrap64 ((l0.length : Int) - 1)) then (if (wrap64 ((l0.length : Int) - 1)) ≤ (l0.length : Int) then ((some (l0.take ((wrap64 ((l0.length : Int) - 1)) : Int).toNat : List (S32))).bind fun y501 => (if y498.length + y501.length < 5864062014805 then ((some (y498 ++ y501 : List (S32))).bind fun y505 => (if y505.length + l1.length < 5864062014805 then ((some (y505 ++ l1 : List (S32))).bind fun y508 => ((nest_Locks.f kj2 l0).bind fun bt511 => ((nest_Locks.f kj2 l1).bind fun bt515 => ((nest_Locks.f kj2 y508).bind fun bt519 => ((nest_Whole.f kj2 y508).bind fun t523 => (if t523 = 0 then (if bt511.2 = 0 then (camshaftlaw06_NestParts.j1 kj2 bt511.1 bt515.1 bt519.1 bt519.2 (bt515.2 != 0)) else (camshaftlaw06_NestParts.j1 kj2 bt511.1 bt515.1 bt519.1 bt519.2 true)) else (some false))))))) else (none))) else (none))) else (none)) else (none))) = some r := by rw [if_neg (show ¬ (false = true) by decide)] at H; exact H
        clear H
        have H := H1
        clear H1
        obtain ⟨y498, hy498⟩ : ∃ y_ : List (S32), y_ = (([] : List (S32))) := ⟨_, rfl⟩
        replace H : (if 0 ≤ (wrap64 ((l0.length : Int) - 1)) then (if (wrap64 ((l0.length : Int) - 1)) ≤ (l0.length : Int) then ((some (l0.take ((wrap64 ((l0.length : Int) - 1)) : Int).toNat : List (S32))).bind fun y501 => (if y498.length + y501.length < 5864062014805 then ((some (y498 ++ y501 : List (S32))).bind fun y505 => (if y505.length + l1.length < 5864062014805 then ((some (y505 ++ l1 : List (S32))).bind fun y508 => ((nest_Locks.f kj2 l0).bind fun bt511 => ((nest_Locks.f kj2 l1).bind fun bt515 => ((nest_Locks.f kj2 y508).bind fun bt519 => ((nest_Whole.f kj2 y508).bind fun t523 => (if t523 = 0 then (if bt511.2 = 0 then (camshaftlaw06_NestParts.j1 kj2 bt511.1 bt515.1 bt519.1 bt519.2 (bt515.2 != 0)) else (camshaftlaw06_NestParts.j1 kj2 bt511.1 bt515.1 bt519.1 bt519.2 true)) else (some false))))))) else (none))) else (none))) else (none)) else (none)) = some r := by first | (rw [hy498]; with_reducible exact H) | (have H2_ := (Option.bind_some _ _).symm.trans H; rw [hy498]; with_reducible exact H2_) | (have H2_ := (Option.bind_some _ _).symm.trans H; with_reducible exact H2_) | with_reducible exact H | (rw [hy498]; exact H) | exact H
        have Ny498 := Aside0.mk hy498
        clear hy498
        obtain ⟨ji15, hji15⟩ : ∃ j_ : Int, (wrap64 ((l0.length : Int) - 1)) = j_ := ⟨_, rfl⟩
        replace H : (if 0 ≤ (ji15) then (if (ji15) ≤ (l0.length : Int) then ((some (l0.take ((ji15) : Int).toNat : List (S32))).bind fun y501 => (if y498.length + y501.length < 5864062014805 then ((some (y498 ++ y501 : List (S32))).bind fun y505 => (if y505.length + l1.length < 5864062014805 then ((some (y505 ++ l1 : List (S32))).bind fun y508 => ((nest_Locks.f kj2 l0).bind fun bt511 => ((nest_Locks.f kj2 l1).bind fun bt515 => ((nest_Locks.f kj2 y508).bind fun bt519 => ((nest_Whole.f kj2 y508).bind fun t523 => (if t523 = 0 then (if bt511.2 = 0 then (camshaftlaw06_NestParts.j1 kj2 bt511.1 bt515.1 bt519.1 bt519.2 (bt515.2 != 0)) else (camshaftlaw06_NestParts.j1 kj2 bt511.1 bt515.1 bt519.1 bt519.2 true)) else (some false))))))) else (none))) else (none))) else (none)) else (none)) = some r := by first | (rw [hji15] at H; exact H) | (simp only [hji15] at H ⊢; exact H)
        have hji15w : (IntKind.i64.wrap ((l0.length : Int) - 1)) = ji15 := (i64_w _).trans hji15
        by_cases c16 : 0 ≤ (ji15)
        · rw [if_pos c16] at H
          have c16b0 := eq_true c16
          have c16b1 : decide (0 ≤ (ji15)) = true := decide_eq_true c16
          clear c16
          by_cases c17 : (ji15) ≤ (l0.length : Int)
          · rw [if_pos c17] at H
            have c17b0 := eq_true c17
            have c17b1 : decide ((ji15) ≤ (l0.length : Int)) = true := decide_eq_true c17
            clear c17
            obtain ⟨y501, hy501⟩ : ∃ y_ : List (S32), y_ = (l0.take ((ji15) : Int).toNat) := ⟨_, rfl⟩
            replace H : (if y498.length + y501.length < 5864062014805 then ((some (y498 ++ y501 : List (S32))).bind fun y505 => (if y505.length + l1.length < 5864062014805 then ((some (y505 ++ l1 : List (S32))).bind fun y508 => ((nest_Locks.f kj2 l0).bind fun bt511 => ((nest_Locks.f kj2 l1).bind fun bt515 => ((nest_Locks.f kj2 y508).bind fun bt519 => ((nest_Whole.f kj2 y508).bind fun t523 => (if t523 = 0 then (if bt511.2 = 0 then (camshaftlaw06_NestParts.j1 kj2 bt511.1 bt515.1 bt519.1 bt519.2 (bt515.2 != 0)) else (camshaftlaw06_NestParts.j1 kj2 bt511.1 bt515.1 bt519.1 bt519.2 true)) else (some false))))))) else (none))) else (none)) = some r := by first | (rw [hy501]; with_reducible exact H) | (have H2_ := (Option.bind_some _ _).symm.trans H; rw [hy501]; with_reducible exact H2_) | (have H2_ := (Option.bind_some _ _).symm.trans H; with_reducible exact H2_) | with_reducible exact H | (rw [hy501]; exact H) | exact H
            have Ny501 := Aside0.mk hy501
            clear hy501
            by_cases c18 : y498.length + y501.length < 5864062014805
            · rw [if_pos c18] at H
              have LMc18 := Aside0.mk c18
              clear c18
              obtain ⟨y505, hy505⟩ : ∃ y_ : List (S32), y_ = (y498 ++ y501) := ⟨_, rfl⟩
              replace H : (if y505.length + l1.length < 5864062014805 then ((some (y505 ++ l1 : List (S32))).bind fun y508 => ((nest_Locks.f kj2 l0).bind fun bt511 => ((nest_Locks.f kj2 l1).bind fun bt515 => ((nest_Locks.f kj2 y508).bind fun bt519 => ((nest_Whole.f kj2 y508).bind fun t523 => (if t523 = 0 then (if bt511.2 = 0 then (camshaftlaw06_NestParts.j1 kj2 bt511.1 bt515.1 bt519.1 bt519.2 (bt515.2 != 0)) else (camshaftlaw06_NestParts.j1 kj2 bt511.1 bt515.1 bt519.1 bt519.2 true)) else (some false))))))) else (none)) = some r := by first | (rw [hy505]; with_reducible exact H) | (have H2_ := (Option.bind_some _ _).symm.trans H; rw [hy505]; with_reducible exact H2_) | (have H2_ := (Option.bind_some _ _).symm.trans H; with_reducible exact H2_) | with_reducible exact H | (rw [hy505]; exact H) | exact H
              have Ny505 := Aside0.mk hy505
              clear hy505
              by_cases c19 : y505.length + l1.length < 5864062014805
              · rw [if_pos c19] at H
                have LMc19 := Aside0.mk c19
                clear c19
                obtain ⟨y508, hy508⟩ : ∃ y_ : List (S32), y_ = (y505 ++ l1) := ⟨_, rfl⟩
                replace H : ((nest_Locks.f kj2 l0).bind fun bt511 => ((nest_Locks.f kj2 l1).bind fun bt515 => ((nest_Locks.f kj2 y508).bind fun bt519 => ((nest_Whole.f kj2 y508).bind fun t523 => (if t523 = 0 then (if bt511.2 = 0 then (camshaftlaw06_NestParts.j1 kj2 bt511.1 bt515.1 bt519.1 bt519.2 (bt515.2 != 0)) else (camshaftlaw06_NestParts.j1 kj2 bt511.1 bt515.1 bt519.1 bt519.2 true)) else (some false)))))) = some r := by first | (rw [hy508]; with_reducible exact H) | (have H2_ := (Option.bind_some _ _).symm.trans H; rw [hy508]; with_reducible exact H2_) | (have H2_ := (Option.bind_some _ _).symm.trans H; with_reducible exact H2_) | with_reducible exact H | (rw [hy508]; exact H) | exact H
                have Ny508 := Aside0.mk hy508
                clear hy508
                replace H := Option.bind_eq_some_iff.mp H
                obtain ⟨⟨t511, t512⟩, A200, H⟩ := H
                replace H : ((nest_Locks.f kj2 l1).bind fun bt515 => ((nest_Locks.f kj2 y508).bind fun bt519 => ((nest_Whole.f kj2 y508).bind fun t523 => (if t523 = 0 then (if t512 = 0 then (camshaftlaw06_NestParts.j1 kj2 t511 bt515.1 bt519.1 bt519.2 (bt515.2 != 0)) else (camshaftlaw06_NestParts.j1 kj2 t511 bt515.1 bt519.1 bt519.2 true)) else (some false))))) = some r := H
                have A20 := Aside0.mk A200
                clear A200
                replace H := Option.bind_eq_some_iff.mp H
                obtain ⟨⟨t515, t516⟩, A210, H⟩ := H
                replace H : ((nest_Locks.f kj2 y508).bind fun bt519 => ((nest_Whole.f kj2 y508).bind fun t523 => (if t523 = 0 then (if t512 = 0 then (camshaftlaw06_NestParts.j1 kj2 t511 t515 bt519.1 bt519.2 (t516 != 0)) else (camshaftlaw06_NestParts.j1 kj2 t511 t515 bt519.1 bt519.2 true)) else (some false)))) = some r := H
                have A21 := Aside0.mk A210
                clear A210
                replace H := Option.bind_eq_some_iff.mp H
                obtain ⟨⟨t519, t520⟩, A220, H⟩ := H
                replace H : ((nest_Whole.f kj2 y508).bind fun t523 => (if t523 = 0 then (if t512 = 0 then (camshaftlaw06_NestParts.j1 kj2 t511 t515 t519 t520 (t516 != 0)) else (camshaftlaw06_NestParts.j1 kj2 t511 t515 t519 t520 true)) else (some false))) = some r := H
                have A22 := Aside0.mk A220
                clear A220
                replace H := Option.bind_eq_some_iff.mp H
                obtain ⟨t523, A230, H⟩ := H
                replace H : (if t523 = 0 then (if t512 = 0 then (camshaftlaw06_NestParts.j1 kj2 t511 t515 t519 t520 (t516 != 0)) else (camshaftlaw06_NestParts.j1 kj2 t511 t515 t519 t520 true)) else (some false)) = some r := H
                have A23 := Aside0.mk A230
                clear A230
                by_cases c24 : t523 = 0
                · rw [if_pos c24] at H
                  have c24b0 : (t523 == 0) = true := beq_iff_eq.mpr c24
                  have c24b1 : (t523 != 0) = false := bne_eq_false_iff_eq.mpr c24
                  clear c24
                  have HC25 := Aside0.mk H
                  clear H
                  go_upto_region 9 with (first | ((with_reducible refine gate_dst (N := 34) rfl ?_); (try (refine gate_guard (by rfl) ?_; dsimp only)); refine Kd.R_lit k32 _ 32 ?hg (N := 34) ?hd (xs := ([] : List (S32))) (inner := []) (ok := fun _ => True) (okp := fun _ => True) ?hr ?hp (fun _ hk => hk) trivial (Below.refl _ _) (Nat.le_refl _) (by simp) ?_; (case hd => rfl); (case hg => rfl); (case hr => first | (go_simp; done) | (go_simp; rfl)); (case hp => exact (Reps.none _ _)); intro v499 w26 ho27 hb hg_ hnew_; clear hg_ hnew_; (first | rw [← Ny498.out] at ho27 | (simp only [Int.reduceToNat] at ho27; rw [← Ny498.out] at ho27)); have n0_ := Aside0.mk (Kd.R_lower ho27 (below_size (by repeat (first | (with_reducible first | exact HB.out | apply below_alloc | apply pw_below_drewN | apply below_drew1) | exact HB.out)))); have n1_ := Aside0.mk (below_step (by repeat (first | (with_reducible first | exact HB.out | apply below_alloc | apply pw_below_drewN | apply below_drew1) | exact HB.out)) hb); clear HB; have HO500 := n0_; have HB := n1_; clear n0_ n1_; clear hb ho27; have q28 : ((ji15) : Int) ≤ ((l0.length : Int) : Int) := of_decide_eq_true (by first | (with_reducible assumption) | assumption); obtain ⟨i028, hi028, _, hsz28, _⟩ := info_parts info32; have hroom28 : l0.length ≤ c0 := HC0.out; have hC28 : Kd.C k32 _ A0 l0.length l0 := HR0.out; have hcut28 := cut_to (P := Try.prog) 22 32 .i64 Try.underlying22 hi028 A0 l0.length c0 (ji15) (of_decide_eq_true (by first | (with_reducible assumption) | assumption)) q28 hroom28; have hr28 := Kd.C_take (m := ((ji15) : Int).toNat) hC28 (by omega); have hy28 : y501.length = ((ji15) : Int).toNat := (by rw [Ny501.out, List.length_take]; omega); rw [← Ny501.out] at hr28; rw [← hy28] at hcut28; have HR504 := Aside0.mk hr28; have HC504 := Aside0.mk (show y501.length ≤ c0 from by omega); clear hr28 hC28 hroom28 hi028 hsz28; have KY28 := Aside0.mk hy28; clear hy28; replace q28 := eq_true q28) | ((with_reducible refine gate_builtin (b := .append) (xs := #[.tmp 34, .tmp 39]) rfl ?_); (try (refine gate_guard (by rfl) ?_; dsimp only)); at_builtin; refine Kd.R_append_rows k32 (w0 := w) w.heap.size rfl (.tmp 34) (.tmp 39) 22 32 (.agg #[(.int .i64 0), (.int .i64 0), (.int .i64 0)]) 24 rfl Try.underlying22 info32 rfl (by decide) (by omega) v499 y498 y501 _ _ _ (fun _ => True) (fun _ => False) rfl rfl ?aO ?aR (fun _ _ h => h) (fun _ h => h.elim) ?aF ?aB ?aS ?aL ?_; (case aR => repeat (first | exact (Kd.C_below HR504.out HB.out) | (with_reducible refine Kd.C_alloc ?_ _) | (with_reducible refine Kd.C_drewN ?_ _) | (with_reducible refine Kd.C_drew ?_))); (case aB => exact (by repeat (first | (with_reducible first | exact HB.out | apply below_alloc | apply pw_below_drewN | apply below_drew1) | exact HB.out))); (case aF => exact (fun _ _ => trivial)); (case aO => exact (by (with_reducible repeat (first | apply Kd.R_alloc | apply Kd.R_drewN | apply Kd.R_drew)); exact HO500.out)); (case aS => exact (below_size (by repeat (first | (with_reducible first | exact HB.out | apply below_alloc | apply pw_below_drewN | apply below_drew1) | exact HB.out)))); (case aL => have := LMc18.out; omega); intro v506 w29 ho hb hg hat; rw [← Ny505.out] at ho; have n0_ := Aside0.mk (hb); have n1_ := Aside0.mk (ho); clear HB; clear HO500; have HB := n0_; have HO507 := n1_; clear n0_ n1_; clear ho hb hg hat) | ((with_reducible refine gate_builtin (b := .append) (xs := #[.tmp 40, .tmp 41]) rfl ?_); (try (refine gate_guard (by rfl) ?_; dsimp only)); at_builtin; refine Kd.R_append_rows k32 (w0 := w) w.heap.size rfl (.tmp 40) (.tmp 41) 22 32 (.agg #[(.int .i64 0), (.int .i64 0), (.int .i64 0)]) 24 rfl Try.underlying22 info32 rfl (by decide) (by omega) v506 y505 l1 _ _ _ (fun _ => True) (fun _ => False) rfl rfl ?aO ?aR (fun _ _ h => h) (fun _ h => h.elim) ?aF ?aB ?aS ?aL ?_; (case aR => repeat (first | exact (Kd.C_below HR1.out HB.out) | (with_reducible refine Kd.C_alloc ?_ _) | (with_reducible refine Kd.C_drewN ?_ _) | (with_reducible refine Kd.C_drew ?_))); (case aB => exact (by repeat (first | (with_reducible first | exact HB.out | apply below_alloc | apply pw_below_drewN | apply below_drew1) | exact HB.out))); (case aF => exact (fun _ _ => trivial)); (case aO => exact (by (with_reducible repeat (first | apply Kd.R_alloc | apply Kd.R_drewN | apply Kd.R_drew)); exact HO507.out)); (case aS => exact (below_size (by repeat (first | (with_reducible first | exact HB.out | apply below_alloc | apply pw_below_drewN | apply below_drew1) | exact HB.out)))); (case aL => have := LMc19.out; omega); intro v509 w30 ho hb hg hat; rw [← Ny508.out] at ho; have n0_ := Aside0.mk (hb); have n1_ := Aside0.mk (ho); clear HB; clear HO507; have HB := n0_; have HO510 := n1_; clear n0_ n1_; clear ho hb hg hat) | ((with_reducible refine gate_callee (f := 15) rfl ?_); refine goesL_ (some 45) rfl rfl Try.func15 (by kernel_rfl) rfl #[.slice A0 l0.length c0] rfl (by (try simp only [List.map_toArray, List.map_cons, List.map_nil]); first | done | rfl | (simp only [List.length_drop, List.length_take]; rfl)) ?_; (with_reducible refine (nest_Locks.calls kj2 _ _ l0 t511 t512 _ ?side1 ?side2 A20.out).mono ?_); (case side1 => repeat (first | exact (Kd.C_below HR0.out HB.out) | (with_reducible refine Kd.C_alloc ?_ _) | (with_reducible refine Kd.C_drewN ?_ _) | (with_reducible refine Kd.C_drew ?_))); (case side2 => exact HC0.out); rintro e w31 ⟨v513, rfl, ho0, hb⟩; refine ⟨_, rfl, ?_⟩; have n0_ := Aside0.mk (Kd.R_below (by (with_reducible repeat (first | apply Kd.R_alloc | apply Kd.R_drewN | apply Kd.R_drew)); exact HO510.out) hb); have n1_ := Aside0.mk (Kd.R_lower ho0 (below_size (by repeat (first | (with_reducible first | exact HB.out | apply below_alloc | apply pw_below_drewN | apply below_drew1) | exact HB.out)))); have n2_ := Aside0.mk (below_step (by repeat (first | (with_reducible first | exact HB.out | apply below_alloc | apply pw_below_drewN | apply below_drew1) | exact HB.out)) hb); clear HO510; clear HB; have HO510 := n0_; have HO514 := n1_; have HB := n2_; clear n0_ n1_ n2_; (try clear hb); (try clear hb2); (try clear hk); (try clear hi); (try clear ho0)) | ((with_reducible refine gate_callee (f := 15) rfl ?_); refine goesL_ (some 50) rfl rfl Try.func15 (by kernel_rfl) rfl #[.slice A1 l1.length c1] rfl (by (try simp only [List.map_toArray, List.map_cons, List.map_nil]); first | done | rfl | (simp only [List.length_drop, List.length_take]; rfl)) ?_; (with_reducible refine (nest_Locks.calls kj2 _ _ l1 t515 t516 _ ?side1 ?side2 A21.out).mono ?_); (case side1 => repeat (first | exact (Kd.C_below HR1.out HB.out) | (with_reducible refine Kd.C_alloc ?_ _) | (with_reducible refine Kd.C_drewN ?_ _) | (with_reducible refine Kd.C_drew ?_))); (case side2 => exact HC1.out); rintro e w32 ⟨v517, rfl, ho0, hb⟩; refine ⟨_, rfl, ?_⟩; have n0_ := Aside0.mk (Kd.R_below (by (with_reducible repeat (first | apply Kd.R_alloc | apply Kd.R_drewN | apply Kd.R_drew)); exact HO510.out) hb); have n1_ := Aside0.mk (Kd.R_elder' (by (with_reducible repeat (first | apply Kd.R_alloc | apply Kd.R_drewN | apply Kd.R_drew)); exact HO514.out) (Kd.R_base ho0) hb); have n2_ := Aside0.mk (Kd.R_lower (Kd.R_new' ho0 (Kd.R_lt (by (with_reducible repeat (first | apply Kd.R_alloc | apply Kd.R_drewN | apply Kd.R_drew)); exact HO514.out))) (below_size (by repeat (first | (with_reducible first | exact HB.out | apply below_alloc | apply pw_below_drewN | apply below_drew1) | exact HB.out)))); have n3_ := Aside0.mk (below_step (by repeat (first | (with_reducible first | exact HB.out | apply below_alloc | apply pw_below_drewN | apply below_drew1) | exact HB.out)) hb); clear HO510; clear HO514; clear HB; have HO510 := n0_; have HO514 := n1_; have HO518 := n2_; have HB := n3_; clear n0_ n1_ n2_ n3_; (try clear hb); (try clear hb2); (try clear hk); (try clear hi); (try clear ho0); obtain ⟨Ao33, co33, eo33⟩ := Kd.R_slice HO510.out; subst eo33) | ((with_reducible refine gate_callee (f := 15) rfl ?_); refine goesL_ (some 55) rfl rfl Try.func15 (by kernel_rfl) rfl #[.slice Ao33 y508.length co33] rfl (by (try simp only [List.map_toArray, List.map_cons, List.map_nil]); first | done | rfl | (simp only [List.length_drop, List.length_take]; rfl)) ?_; (with_reducible refine (nest_Locks.calls kj2 _ _ y508 t519 t520 _ ?side1 ?side2 A22.out).mono ?_); (case side1 => repeat (first | exact (Kd.R_reads' HO510.out).2.2 | (with_reducible refine Kd.C_alloc ?_ _) | (with_reducible refine Kd.C_drewN ?_ _) | (with_reducible refine Kd.C_drew ?_))); (case side2 => exact (Kd.R_reads' HO510.out).2.1); rintro e w34 ⟨v521, rfl, ho0, hb⟩; refine ⟨_, rfl, ?_⟩; have n0_ := Aside0.mk (Kd.R_below (by (with_reducible repeat (first | apply Kd.R_alloc | apply Kd.R_drewN | apply Kd.R_drew)); exact HO510.out) hb); have n1_ := Aside0.mk (Kd.R_elder' (by (with_reducible repeat (first | apply Kd.R_alloc | apply Kd.R_drewN | apply Kd.R_drew)); exact HO514.out) (Kd.R_base ho0) hb); have n2_ := Aside0.mk (Kd.R_elder' (by (with_reducible repeat (first | apply Kd.R_alloc | apply Kd.R_drewN | apply Kd.R_drew)); exact HO518.out) (Kd.R_base ho0) hb); have n3_ := Aside0.mk (Kd.R_lower (Kd.R_new' (Kd.R_new' ho0 (Kd.R_lt (by (with_reducible repeat (first | apply Kd.R_alloc | apply Kd.R_drewN | apply Kd.R_drew)); exact HO514.out))) (Kd.R_lt (by (with_reducible repeat (first | apply Kd.R_alloc | apply Kd.R_drewN | apply Kd.R_drew)); exact HO518.out))) (below_size (by repeat (first | (with_reducible first | exact HB.out | apply below_alloc | apply pw_below_drewN | apply below_drew1) | exact HB.out)))); have n4_ := Aside0.mk (below_step (by repeat (first | (with_reducible first | exact HB.out | apply below_alloc | apply pw_below_drewN | apply below_drew1) | exact HB.out)) hb); clear HO510; clear HO514; clear HO518; clear HB; have HO510 := n0_; have HO514 := n1_; have HO518 := n2_; have HO522 := n3_; have HB := n4_; clear n0_ n1_ n2_ n3_ n4_; (try clear hb); (try clear hb2); (try clear hk); (try clear hi); (try clear ho0)) | ((with_reducible refine gate_callee (f := 20) rfl ?_); refine goesL_ (some 59) rfl rfl Try.func20 (by kernel_rfl) rfl #[.slice Ao33 y508.length co33] rfl (by (try simp only [List.map_toArray, List.map_cons, List.map_nil]); first | done | rfl | (simp only [List.length_drop, List.length_take]; rfl)) ?_; (with_reducible refine (nest_Whole.calls kj2 _ _ y508 t523 _ ?side1 ?side2 A23.out).mono ?_); (case side1 => repeat (first | exact (Kd.R_reads' HO510.out).2.2 | (with_reducible refine Kd.C_alloc ?_ _) | (with_reducible refine Kd.C_drewN ?_ _) | (with_reducible refine Kd.C_drew ?_))); (case side2 => exact (Kd.R_reads' HO510.out).2.1); rintro e w35 ⟨rfl, hb⟩; refine ⟨_, rfl, ?_⟩; have n0_ := Aside0.mk (Kd.R_below (by (with_reducible repeat (first | apply Kd.R_alloc | apply Kd.R_drewN | apply Kd.R_drew)); exact HO510.out) hb); have n1_ := Aside0.mk (Kd.R_below (by (with_reducible repeat (first | apply Kd.R_alloc | apply Kd.R_drewN | apply Kd.R_drew)); exact HO514.out) hb); have n2_ := Aside0.mk (Kd.R_below (by (with_reducible repeat (first | apply Kd.R_alloc | apply Kd.R_drewN | apply Kd.R_drew)); exact HO518.out) hb); have n3_ := Aside0.mk (Kd.R_below (by (with_reducible repeat (first | apply Kd.R_alloc | apply Kd.R_drewN | apply Kd.R_drew)); exact HO522.out) hb); have n4_ := Aside0.mk (below_step (by repeat (first | (with_reducible first | exact HB.out | apply below_alloc | apply pw_below_drewN | apply below_drew1) | exact HB.out)) hb); clear HO510; clear HO514; clear HO518; clear HO522; clear HB; have HO510 := n0_; have HO514 := n1_; have HO518 := n2_; have HO522 := n3_; have HB := n4_; clear n0_ n1_ n2_ n3_ n4_; (try clear hb); (try clear hb2); (try clear hk); (try clear hi)))
                  (try simp only [Act.put, List.setIfInBounds_toArray, List.set_cons_zero, List.set_cons_succ])
                  go_cut [66] (fun v66 wc => ∃ (kq : Nat) (x66_24 : Bool), v66 = .bool x66_24 ∧ Aside0 (camshaftlaw06_NestParts.j1 kq t511 t515 t519 t520 x66_24 = some r) ∧ Aside0 (kq ≤ kj2) ∧ Aside0 (Kd.R (Kd.int .i64) 3 wc w.heap.size (fun k_ => some k_ ≠ (v517 : Value).ownBlock ∧ some k_ ≠ (v521 : Value).ownBlock) v513 t511) ∧ Aside0 (Kd.R (Kd.int .i64) 3 wc w.heap.size (fun k_ => some k_ ≠ (v513 : Value).ownBlock ∧ some k_ ≠ (v521 : Value).ownBlock) v517 t515) ∧ Aside0 (Kd.R (Kd.int .i64) 3 wc w.heap.size (fun k_ => some k_ ≠ (v513 : Value).ownBlock ∧ some k_ ≠ (v517 : Value).ownBlock) v521 t519) ∧ Aside0 (Below w.heap.size w wc))
                  case first =>
                    have H := HC25.out
                    clear HC25
                    by_cases c36 : t512 = 0
                    · rw [if_pos c36] at H
                      have c36b0 : (t512 == 0) = true := beq_iff_eq.mpr c36
                      have c36b1 : (t512 != 0) = false := bne_eq_false_iff_eq.mpr c36
                      clear c36
                      (first | rw [c36b0] | (simp only [i64_w, i32_w]; rw [c36b0]) | rw [c36b1] | skip)
                      have H' := Aside0.mk H
                      clear H
                      go_wp2
                      go_meet
                      case rel => exact ⟨_, ((t516 != 0)), (by first | rfl | (simp; done) | (simp [*]; done)), H', ⟨by have := HJ2.out; first | omega | exact Nat.le_refl _⟩, ⟨by (with_reducible repeat (first | apply Kd.R_alloc | apply Kd.R_drewN | apply Kd.R_drew)); exact Kd.R_mono HO514.out (fun _ hk => ⟨hk.1.2, hk.2⟩)⟩, ⟨by (with_reducible repeat (first | apply Kd.R_alloc | apply Kd.R_drewN | apply Kd.R_drew)); exact Kd.R_mono HO518.out (fun _ hk => ⟨hk.1.2, hk.2⟩)⟩, ⟨by (with_reducible repeat (first | apply Kd.R_alloc | apply Kd.R_drewN | apply Kd.R_drew)); exact Kd.R_mono HO522.out (fun _ hk => ⟨hk.1.2, hk.2⟩)⟩, ⟨by repeat (first | (with_reducible first | exact HB.out | apply below_alloc | apply pw_below_drewN | apply below_drew1) | exact HB.out | exact Below.refl _ _)⟩⟩
                    · rw [if_neg c36] at H
                      have c36b0 : (t512 == 0) = false := beq_eq_false_iff_ne.mpr c36
                      have c36b1 : (t512 != 0) = true := bne_iff_ne.mpr c36
                      (first | rw [c36b0] | (simp only [i64_w, i32_w]; rw [c36b0]) | rw [c36b1] | skip)
                      have H' := Aside0.mk H
                      clear H
                      go_wp2
                      go_meet
                      case rel => exact ⟨_, (true), (by first | rfl | (simp; done) | (simp [*]; done)), H', ⟨by have := HJ2.out; first | omega | exact Nat.le_refl _⟩, ⟨by (with_reducible repeat (first | apply Kd.R_alloc | apply Kd.R_drewN | apply Kd.R_drew)); exact Kd.R_mono HO514.out (fun _ hk => ⟨hk.1.2, hk.2⟩)⟩, ⟨by (with_reducible repeat (first | apply Kd.R_alloc | apply Kd.R_drewN | apply Kd.R_drew)); exact Kd.R_mono HO518.out (fun _ hk => ⟨hk.1.2, hk.2⟩)⟩, ⟨by (with_reducible repeat (first | apply Kd.R_alloc | apply Kd.R_drewN | apply Kd.R_drew)); exact Kd.R_mono HO522.out (fun _ hk => ⟨hk.1.2, hk.2⟩)⟩, ⟨by repeat (first | (with_reducible first | exact HB.out | apply below_alloc | apply pw_below_drewN | apply below_drew1) | exact HB.out | exact Below.refl _ _)⟩⟩
                  case rest =>
                    clear HC25
                    try clear c1
                    try clear c2
                    try clear p2
                    try clear q2
                    try clear c3
                    try clear c4
                    try clear c4b0
                    try clear c4b1
                    try clear c5
                    try clear c5b0
                    try clear p6
                    try clear c7
                    try clear c7b0
                    try clear c7b1
                    try clear c8
                    try clear c10
                    try clear c12
                    try clear c15
                    try clear c16
                    try clear c16b0
                    try clear c16b1
                    try clear c17
                    try clear c17b0
                    try clear c17b1
                    try clear c18
                    try clear c19
                    try clear c20
                    try clear c24
                    try clear c24b0
                    try clear c24b1
                    try clear q28
                    try clear c36
                    try clear c36b0
                    try clear c36b1
                    try clear p2
                    try clear p6
                    try clear q28
                    obtain ⟨kq, x66_24, rfl, HA, HJ24, HO_6, HO_8, HO_10, HB⟩ := hcut
                    cases kq with
                    | zero => exact absurd HA.out (by simp [camshaftlaw06_NestParts.j1])
                    | succ kj24 =>
                      have H := HA.out
                      clear HA
                      simp only [camshaftlaw06_NestParts.j1] at H
                      by_cases c37 : x66_24 = true
                      · subst c37
                        have H1 : (if t520 = 11 then ((camshaftlaw06_known.f kj24).bind fun t524 => (some t524)) else (some false)) = some r := by rw [if_pos rfl] at H; exact H
                        clear H
                        have H := H1
                        clear H1
                        by_cases c38 : t520 = 11
                        · rw [if_pos c38] at H
                          have c38b0 : (t520 == 11) = true := beq_iff_eq.mpr c38
                          have c38b1 : (t520 != 11) = false := bne_eq_false_iff_eq.mpr c38
                          clear c38
                          replace H := Option.bind_eq_some_iff.mp H
                          obtain ⟨t524, A390, H⟩ := H
                          replace H : (some t524) = some r := H
                          have A39 := Aside0.mk A390
                          clear A390
                          obtain rfl := Option.some.inj H
                          go_wp2_with (first | (go_at_call 10; (with_reducible refine (camshaftlaw06_known.calls kj24  t524 _ A39.out).mono ?_); rintro e w40 ⟨rfl, hb⟩; have n0_ := Aside0.mk (Kd.R_below (by (with_reducible repeat (first | apply Kd.R_alloc | apply Kd.R_drewN | apply Kd.R_drew)); exact HO_6.out) hb); have n1_ := Aside0.mk (Kd.R_below (by (with_reducible repeat (first | apply Kd.R_alloc | apply Kd.R_drewN | apply Kd.R_drew)); exact HO_8.out) hb); have n2_ := Aside0.mk (Kd.R_below (by (with_reducible repeat (first | apply Kd.R_alloc | apply Kd.R_drewN | apply Kd.R_drew)); exact HO_10.out) hb); have n3_ := Aside0.mk (below_step (by repeat (first | (with_reducible first | exact HB.out | apply below_alloc | apply pw_below_drewN | apply below_drew1) | exact HB.out)) hb); clear HO_6; clear HO_8; clear HO_10; clear HB; have HO_6 := n0_; have HO_8 := n1_; have HO_10 := n2_; have HB := n3_; clear n0_ n1_ n2_ n3_; (try clear hb); (try clear hb2); (try clear hk); (try clear hi)))
                          go_ret
                          exact ⟨by first | rfl | (simp [errW_none, errW_some] <;> rfl) | (simp only [← hji15]; first | rfl | (simp [errW_none, errW_some] <;> rfl)) | (simp [*, errW_none, errW_some] <;> rfl), by repeat (first | (with_reducible first | exact HB.out | apply below_alloc | apply pw_below_drewN | apply below_drew1) | exact HB.out | exact Below.refl _ _)⟩
                        · rw [if_neg c38] at H
                          have c38b0 : (t520 == 11) = false := beq_eq_false_iff_ne.mpr c38
                          have c38b1 : (t520 != 11) = true := bne_iff_ne.mpr c38
                          exact absurd ((Option.some.inj H).trans HT.out) (by decide)
                      · replace c37 := Bool.eq_false_iff.mpr c37
                        subst c37
                        have H1 : (if (t511.length : Int) > 0 then (camshaftlaw06_NestParts.j2 kj24 t511 t515 t519 t520 (decide ((t515.length : Int) > 0))) else (camshaftlaw06_NestParts.j2 kj24 t511 t515 t519 t520 false)) = some r := by rw [if_neg (show ¬ (false = true) by decide)] at H; exact H
                        clear H
                        have H := H1
                        clear H1
                        have HC41 := Aside0.mk H
                        clear H
                        go_upto_region 11 with (fail)
                        go_cut [79] (fun v79 wc => ∃ (kq : Nat) (x79_40 : Bool), v79 = .bool x79_40 ∧ Aside0 (camshaftlaw06_NestParts.j2 kq t511 t515 t519 t520 x79_40 = some r) ∧ Aside0 (kq ≤ kj24) ∧ Aside0 (Kd.R (Kd.int .i64) 3 wc w.heap.size (fun k_ => some k_ ≠ (v517 : Value).ownBlock ∧ some k_ ≠ (v521 : Value).ownBlock) v513 t511) ∧ Aside0 (Kd.R (Kd.int .i64) 3 wc w.heap.size (fun k_ => some k_ ≠ (v513 : Value).ownBlock ∧ some k_ ≠ (v521 : Value).ownBlock) v517 t515) ∧ Aside0 (Kd.R (Kd.int .i64) 3 wc w.heap.size (fun k_ => some k_ ≠ (v513 : Value).ownBlock ∧ some k_ ≠ (v517 : Value).ownBlock) v521 t519) ∧ Aside0 (Below w.heap.size w wc))
                        case first =>
                          have H := HC41.out
                          clear HC41
                          by_cases c42 : (t511.length : Int) > 0
                          · rw [if_pos c42] at H
                            have c42b0 : decide (0 < (t511.length : Int)) = true := decide_eq_true c42
                            have c42b1 : decide (0 < t511.length) = true := decide_eq_true (by omega)
                            clear c42
                            (first | rw [c42b0] | (simp only [i64_w, i32_w]; rw [c42b0]) | rw [c42b1] | skip)
                            have H' := Aside0.mk H
                            clear H
                            obtain ⟨Ao43, co43, eo43⟩ := Kd.R_slice HO_6.out
                            subst eo43
                            obtain ⟨Ao44, co44, eo44⟩ := Kd.R_slice HO_8.out
                            subst eo44
                            go_wp2
                            go_meet
                            case rel => exact ⟨_, (decide ((t515.length : Int) > 0)), (by first | rfl | (simp; done) | (simp [*]; done)), H', ⟨by have := HJ2.out; have := HJ24.out; first | omega | exact Nat.le_refl _⟩, ⟨by (with_reducible repeat (first | apply Kd.R_alloc | apply Kd.R_drewN | apply Kd.R_drew)); exact HO_6.out⟩, ⟨by (with_reducible repeat (first | apply Kd.R_alloc | apply Kd.R_drewN | apply Kd.R_drew)); exact HO_8.out⟩, ⟨by (with_reducible repeat (first | apply Kd.R_alloc | apply Kd.R_drewN | apply Kd.R_drew)); exact HO_10.out⟩, ⟨by repeat (first | (with_reducible first | exact HB.out | apply below_alloc | apply pw_below_drewN | apply below_drew1) | exact HB.out | exact Below.refl _ _)⟩⟩
                          · rw [if_neg c42] at H
                            have c42b0 : decide (0 < (t511.length : Int)) = false := decide_eq_false c42
                            have c42b1 : decide (0 < t511.length) = false := decide_eq_false (by omega)
                            clear c42
                            (first | rw [c42b0] | (simp only [i64_w, i32_w]; rw [c42b0]) | rw [c42b1] | skip)
                            have H' := Aside0.mk H
                            clear H
                            obtain ⟨Ao45, co45, eo45⟩ := Kd.R_slice HO_6.out
                            subst eo45
                            go_wp2
                            go_meet
                            case rel => exact ⟨_, (false), (by first | rfl | (simp; done) | (simp [*]; done)), H', ⟨by have := HJ2.out; have := HJ24.out; first | omega | exact Nat.le_refl _⟩, ⟨by (with_reducible repeat (first | apply Kd.R_alloc | apply Kd.R_drewN | apply Kd.R_drew)); exact HO_6.out⟩, ⟨by (with_reducible repeat (first | apply Kd.R_alloc | apply Kd.R_drewN | apply Kd.R_drew)); exact HO_8.out⟩, ⟨by (with_reducible repeat (first | apply Kd.R_alloc | apply Kd.R_drewN | apply Kd.R_drew)); exact HO_10.out⟩, ⟨by repeat (first | (with_reducible first | exact HB.out | apply below_alloc | apply pw_below_drewN | apply below_drew1) | exact HB.out | exact Below.refl _ _)⟩⟩
                        case rest =>
                          clear HC41
                          try clear c1
                          try clear c2
                          try clear p2
                          try clear q2
                          try clear c3
                          try clear c4
                          try clear c4b0
                          try clear c4b1
                          try clear c5
                          try clear c5b0
                          try clear p6
                          try clear c7
                          try clear c7b0
                          try clear c7b1
                          try clear c8
                          try clear c10
                          try clear c12
                          try clear c15
                          try clear c16
                          try clear c16b0
                          try clear c16b1
                          try clear c17
                          try clear c17b0
                          try clear c17b1
                          try clear c18
                          try clear c19
                          try clear c20
                          try clear c24
                          try clear c24b0
                          try clear c24b1
                          try clear q28
                          try clear c36
                          try clear c36b0
                          try clear c36b1
                          try clear c37
                          try clear c38
                          try clear c38b0
                          try clear c38b1
                          try clear c42
                          try clear c42b0
                          try clear c42b1
                          try clear p2
                          try clear p6
                          try clear q2
                          try clear q28
                          obtain ⟨kq, x79_40, rfl, HA, HJ40, HO_6, HO_8, HO_10, HB⟩ := hcut
                          cases kq with
                          | zero => exact absurd HA.out (by simp [camshaftlaw06_NestParts.j2])
                          | succ kj40 =>
                            have H := HA.out
                            clear HA
                            simp only [camshaftlaw06_NestParts.j2] at H
                            by_cases c46 : x79_40 = true
                            · subst c46
                              have H1 : (if t520 = 11 then ((camshaftlaw06_known.f kj40).bind fun t525 => (some t525)) else (some false)) = some r := by rw [if_pos rfl] at H; exact H
                              clear H
                              have H := H1
                              clear H1
                              by_cases c47 : t520 = 11
                              · rw [if_pos c47] at H
                                have c47b0 : (t520 == 11) = true := beq_iff_eq.mpr c47
                                have c47b1 : (t520 != 11) = false := bne_eq_false_iff_eq.mpr c47
                                clear c47
                                replace H := Option.bind_eq_some_iff.mp H
                                obtain ⟨t525, A480, H⟩ := H
                                replace H : (some t525) = some r := H
                                have A48 := Aside0.mk A480
                                clear A480
                                obtain rfl := Option.some.inj H
                                go_wp2_with (first | (go_at_call 10; (with_reducible refine (camshaftlaw06_known.calls kj40  t525 _ A48.out).mono ?_); rintro e w49 ⟨rfl, hb⟩; have n0_ := Aside0.mk (Kd.R_below (by (with_reducible repeat (first | apply Kd.R_alloc | apply Kd.R_drewN | apply Kd.R_drew)); exact HO_6.out) hb); have n1_ := Aside0.mk (Kd.R_below (by (with_reducible repeat (first | apply Kd.R_alloc | apply Kd.R_drewN | apply Kd.R_drew)); exact HO_8.out) hb); have n2_ := Aside0.mk (Kd.R_below (by (with_reducible repeat (first | apply Kd.R_alloc | apply Kd.R_drewN | apply Kd.R_drew)); exact HO_10.out) hb); have n3_ := Aside0.mk (below_step (by repeat (first | (with_reducible first | exact HB.out | apply below_alloc | apply pw_below_drewN | apply below_drew1) | exact HB.out)) hb); clear HO_6; clear HO_8; clear HO_10; clear HB; have HO_6 := n0_; have HO_8 := n1_; have HO_10 := n2_; have HB := n3_; clear n0_ n1_ n2_ n3_; (try clear hb); (try clear hb2); (try clear hk); (try clear hi)))
                                go_ret
                                exact ⟨by first | rfl | (simp [errW_none, errW_some] <;> rfl) | (simp only [← hji15]; first | rfl | (simp [errW_none, errW_some] <;> rfl)) | (simp [*, errW_none, errW_some] <;> rfl), by repeat (first | (with_reducible first | exact HB.out | apply below_alloc | apply pw_below_drewN | apply below_drew1) | exact HB.out | exact Below.refl _ _)⟩
                              · rw [if_neg c47] at H
                                have c47b0 : (t520 == 11) = false := beq_eq_false_iff_ne.mpr c47
                                have c47b1 : (t520 != 11) = true := bne_iff_ne.mpr c47
                                exact absurd ((Option.some.inj H).trans HT.out) (by decide)
                            · replace c46 := Bool.eq_false_iff.mpr c46
                              subst c46
                              have H1 : (if t520 = 0 then ((some (([] : List Int) : List Int)).bind fun y526 => (if y526.length + t511.length < 17592186044416 then ((some (y526 ++ t511 : List Int)).bind fun y529 => (if y529.length + t515.length < 17592186044416 then ((camshaftref02_Same.f kj40 t519 (y529 ++ t515)).bind fun t535 => (if t535 = true then ((camshaftlaw06_known.f kj40).bind fun t536 => (some t536)) else (some false))) else (none))) else (none))) else (some false)) = some r := by rw [if_neg (show ¬ (false = true) by decide)] at H; exact H
                              clear H
                              have H := H1
                              clear H1
                              by_cases c50 : t520 = 0
                              · rw [if_pos c50] at H
                                have c50b0 : (t520 == 0) = true := beq_iff_eq.mpr c50
                                have c50b1 : (t520 != 0) = false := bne_eq_false_iff_eq.mpr c50
                                clear c50
                                obtain ⟨y526, hy526⟩ : ∃ y_ : List Int, y_ = (([] : List Int)) := ⟨_, rfl⟩
                                replace H : (if y526.length + t511.length < 17592186044416 then ((some (y526 ++ t511 : List Int)).bind fun y529 => (if y529.length + t515.length < 17592186044416 then ((camshaftref02_Same.f kj40 t519 (y529 ++ t515)).bind fun t535 => (if t535 = true then ((camshaftlaw06_known.f kj40).bind fun t536 => (some t536)) else (some false))) else (none))) else (none)) = some r := by first | (rw [hy526]; with_reducible exact H) | (have H2_ := (Option.bind_some _ _).symm.trans H; rw [hy526]; with_reducible exact H2_) | (have H2_ := (Option.bind_some _ _).symm.trans H; with_reducible exact H2_) | with_reducible exact H | (rw [hy526]; exact H) | exact H
                                have Ny526 := Aside0.mk hy526
                                clear hy526
                                by_cases c51 : y526.length + t511.length < 17592186044416
                                · rw [if_pos c51] at H
                                  have LMc51 := Aside0.mk c51
                                  clear c51
                                  obtain ⟨y529, hy529⟩ : ∃ y_ : List Int, y_ = (y526 ++ t511) := ⟨_, rfl⟩
                                  replace H : (if y529.length + t515.length < 17592186044416 then ((camshaftref02_Same.f kj40 t519 (y529 ++ t515)).bind fun t535 => (if t535 = true then ((camshaftlaw06_known.f kj40).bind fun t536 => (some t536)) else (some false))) else (none)) = some r := by first | (rw [hy529]; with_reducible exact H) | (have H2_ := (Option.bind_some _ _).symm.trans H; rw [hy529]; with_reducible exact H2_) | (have H2_ := (Option.bind_some _ _).symm.trans H; with_reducible exact H2_) | with_reducible exact H | (rw [hy529]; exact H) | exact H
                                  have Ny529 := Aside0.mk hy529
                                  clear hy529
                                  by_cases c52 : y529.length + t515.length < 17592186044416
                                  · rw [if_pos c52] at H
                                    have LMc52 := Aside0.mk c52
                                    clear c52
                                    obtain ⟨y532, hy532⟩ : ∃ y_ : List Int, y_ = (y529 ++ t515) := ⟨_, rfl⟩
                                    replace H : ((camshaftref02_Same.f kj40 t519 y532).bind fun t535 => (if t535 = true then ((camshaftlaw06_known.f kj40).bind fun t536 => (some t536)) else (some false))) = some r := by first | (rw [hy532]; with_reducible exact H) | (have H2_ := (Option.bind_some _ _).symm.trans H; rw [hy532]; with_reducible exact H2_) | (have H2_ := (Option.bind_some _ _).symm.trans H; with_reducible exact H2_) | with_reducible exact H | (rw [hy532]; exact H) | exact H
                                    have Ny532 := Aside0.mk hy532
                                    clear hy532
                                    replace H := Option.bind_eq_some_iff.mp H
                                    obtain ⟨t535, A530, H⟩ := H
                                    replace H : (if t535 = true then ((camshaftlaw06_known.f kj40).bind fun t536 => (some t536)) else (some false)) = some r := H
                                    have A53 := Aside0.mk A530
                                    clear A530
                                    by_cases c54 : t535 = true
                                    · subst c54
                                      have H1 : ((camshaftlaw06_known.f kj40).bind fun t536 => (some t536)) = some r := by rw [if_pos rfl] at H; exact H
                                      clear H
                                      have H := H1
                                      clear H1
                                      replace H := Option.bind_eq_some_iff.mp H
                                      obtain ⟨t536, A550, H⟩ := H
                                      replace H : (some t536) = some r := H
                                      have A55 := Aside0.mk A550
                                      clear A550
                                      obtain rfl := Option.some.inj H
                                      go_wp2_with (first | ((with_reducible refine gate_dst (N := 89) rfl ?_); (try (refine gate_guard (by rfl) ?_; dsimp only)); refine Kd.R_lit (Kd.int .i64) _ 3 ?hg (N := 89) ?hd (xs := ([] : List Int)) (inner := []) (ok := fun _ => True) (okp := fun _ => True) ?hr ?hp (fun _ hk => hk) trivial (Below.refl _ _) (Nat.le_refl _) (by simp) ?_; (case hd => rfl); (case hg => rfl); (case hr => first | (go_simp; done) | (go_simp; rfl)); (case hp => exact (Reps.none _ _)); intro v527 w56 ho57 hb hg_ hnew_; clear hg_ hnew_; (first | rw [← Ny526.out] at ho57 | (simp only [Int.reduceToNat] at ho57; rw [← Ny526.out] at ho57)); have n0_ := Aside0.mk (Kd.R_elder' (by (with_reducible repeat (first | apply Kd.R_alloc | apply Kd.R_drewN | apply Kd.R_drew)); exact HO_6.out) (Kd.R_base ho57) hb); have n1_ := Aside0.mk (Kd.R_elder' (by (with_reducible repeat (first | apply Kd.R_alloc | apply Kd.R_drewN | apply Kd.R_drew)); exact HO_8.out) (Kd.R_base ho57) hb); have n2_ := Aside0.mk (Kd.R_elder' (by (with_reducible repeat (first | apply Kd.R_alloc | apply Kd.R_drewN | apply Kd.R_drew)); exact HO_10.out) (Kd.R_base ho57) hb); have n3_ := Aside0.mk (Kd.R_lower (Kd.R_new' (Kd.R_new' (Kd.R_new' ho57 (Kd.R_lt (by (with_reducible repeat (first | apply Kd.R_alloc | apply Kd.R_drewN | apply Kd.R_drew)); exact HO_6.out))) (Kd.R_lt (by (with_reducible repeat (first | apply Kd.R_alloc | apply Kd.R_drewN | apply Kd.R_drew)); exact HO_8.out))) (Kd.R_lt (by (with_reducible repeat (first | apply Kd.R_alloc | apply Kd.R_drewN | apply Kd.R_drew)); exact HO_10.out))) (below_size (by repeat (first | (with_reducible first | exact HB.out | apply below_alloc | apply pw_below_drewN | apply below_drew1) | exact HB.out)))); have n4_ := Aside0.mk (below_step (by repeat (first | (with_reducible first | exact HB.out | apply below_alloc | apply pw_below_drewN | apply below_drew1) | exact HB.out)) hb); clear HO_6; clear HO_8; clear HO_10; clear HB; have HO_6 := n0_; have HO_8 := n1_; have HO_10 := n2_; have HO528 := n3_; have HB := n4_; clear n0_ n1_ n2_ n3_ n4_; clear hb ho57; obtain ⟨Ao59, co59, eo59⟩ := Kd.R_slice HO_6.out; subst eo59) | ((with_reducible refine gate_builtin (b := .append) (xs := #[.tmp 89, .tmp 90]) rfl ?_); (try (refine gate_guard (by rfl) ?_; dsimp only)); at_builtin; refine Kd.R_append_rows (Kd.int .i64) (w0 := w) w.heap.size rfl (.tmp 89) (.tmp 90) 24 3 (.int .i64 0) 8 rfl Try.underlying24 info3 rfl (by decide) (by omega) v527 y526 t511 _ _ _ (fun k_ => some k_ ≠ (.slice Ao59 t511.length co59 : Value).ownBlock ∧ some k_ ≠ (v517 : Value).ownBlock ∧ some k_ ≠ (v521 : Value).ownBlock) (fun _ => False) rfl rfl ?aO ?aR (fun _ _ h => h) (fun _ h => h.elim) ?aF ?aB ?aS ?aL ?_; (case aR => repeat (first | exact (Kd.R_reads' HO_6.out).2.2 | (with_reducible refine Kd.C_alloc ?_ _) | (with_reducible refine Kd.C_drewN ?_ _) | (with_reducible refine Kd.C_drew ?_))); (case aB => exact (by repeat (first | (with_reducible first | exact HB.out | apply below_alloc | apply pw_below_drewN | apply below_drew1) | exact HB.out))); (case aF => exact (fun k_ hk => ⟨Kd.fresh' (Kd.R_lt (by (with_reducible repeat (first | apply Kd.R_alloc | apply Kd.R_drewN | apply Kd.R_drew)); exact HO_6.out)) k_ hk, Kd.fresh' (Kd.R_lt (by (with_reducible repeat (first | apply Kd.R_alloc | apply Kd.R_drewN | apply Kd.R_drew)); exact HO_8.out)) k_ hk, Kd.fresh' (Kd.R_lt (by (with_reducible repeat (first | apply Kd.R_alloc | apply Kd.R_drewN | apply Kd.R_drew)); exact HO_10.out)) k_ hk⟩)); (case aO => exact (by (with_reducible repeat (first | apply Kd.R_alloc | apply Kd.R_drewN | apply Kd.R_drew)); exact Kd.R_mono HO528.out (fun _ hk => ⟨hk.1.1.2, ⟨hk.1.2, hk.2⟩⟩))); (case aS => exact (below_size (by repeat (first | (with_reducible first | exact HB.out | apply below_alloc | apply pw_below_drewN | apply below_drew1) | exact HB.out)))); (case aL => have := LMc51.out; omega); intro v530 w58 ho hb hg hat; rw [← Ny529.out] at ho; have n0_ := Aside0.mk (Kd.R_after (ok := (fun k_ => some k_ ≠ (v517 : Value).ownBlock ∧ some k_ ≠ (v521 : Value).ownBlock)) (by (with_reducible repeat (first | apply Kd.R_alloc | apply Kd.R_drewN | apply Kd.R_drew)); exact HO_6.out) hg hat); have n1_ := Aside0.mk (Kd.R_after (ok := (fun k_ => some k_ ≠ (.slice Ao59 t511.length co59 : Value).ownBlock ∧ some k_ ≠ (v521 : Value).ownBlock)) (by (with_reducible repeat (first | apply Kd.R_alloc | apply Kd.R_drewN | apply Kd.R_drew)); exact HO_8.out) hg hat); have n2_ := Aside0.mk (Kd.R_after (ok := (fun k_ => some k_ ≠ (.slice Ao59 t511.length co59 : Value).ownBlock ∧ some k_ ≠ (v517 : Value).ownBlock)) (by (with_reducible repeat (first | apply Kd.R_alloc | apply Kd.R_drewN | apply Kd.R_drew)); exact HO_10.out) hg hat); have n3_ := Aside0.mk (hb); have n4_ := Aside0.mk (ho); clear HO_6; clear HO_8; clear HO_10; clear HB; clear HO528; have HO_6 := n0_; have HO_8 := n1_; have HO_10 := n2_; have HB := n3_; have HO531 := n4_; clear n0_ n1_ n2_ n3_ n4_; clear ho hb hg hat; obtain ⟨Ao61, co61, eo61⟩ := Kd.R_slice HO_8.out; subst eo61) | ((with_reducible refine gate_builtin (b := .append) (xs := #[.tmp 91, .tmp 92]) rfl ?_); (try (refine gate_guard (by rfl) ?_; dsimp only)); at_builtin; refine Kd.R_append_rows (Kd.int .i64) (w0 := w) w.heap.size rfl (.tmp 91) (.tmp 92) 24 3 (.int .i64 0) 8 rfl Try.underlying24 info3 rfl (by decide) (by omega) v530 y529 t515 _ _ _ (fun k_ => some k_ ≠ (.slice Ao59 t511.length co59 : Value).ownBlock ∧ some k_ ≠ (.slice Ao61 t515.length co61 : Value).ownBlock ∧ some k_ ≠ (v521 : Value).ownBlock) (fun _ => False) rfl rfl ?aO ?aR (fun _ _ h => h) (fun _ h => h.elim) ?aF ?aB ?aS ?aL ?_; (case aR => repeat (first | exact (Kd.R_reads' HO_8.out).2.2 | (with_reducible refine Kd.C_alloc ?_ _) | (with_reducible refine Kd.C_drewN ?_ _) | (with_reducible refine Kd.C_drew ?_))); (case aB => exact (by repeat (first | (with_reducible first | exact HB.out | apply below_alloc | apply pw_below_drewN | apply below_drew1) | exact HB.out))); (case aF => exact (fun k_ hk => ⟨Kd.fresh' (Kd.R_lt (by (with_reducible repeat (first | apply Kd.R_alloc | apply Kd.R_drewN | apply Kd.R_drew)); exact HO_6.out)) k_ hk, Kd.fresh' (Kd.R_lt (by (with_reducible repeat (first | apply Kd.R_alloc | apply Kd.R_drewN | apply Kd.R_drew)); exact HO_8.out)) k_ hk, Kd.fresh' (Kd.R_lt (by (with_reducible repeat (first | apply Kd.R_alloc | apply Kd.R_drewN | apply Kd.R_drew)); exact HO_10.out)) k_ hk⟩)); (case aO => exact (by (with_reducible repeat (first | apply Kd.R_alloc | apply Kd.R_drewN | apply Kd.R_drew)); exact HO531.out)); (case aS => exact (below_size (by repeat (first | (with_reducible first | exact HB.out | apply below_alloc | apply pw_below_drewN | apply below_drew1) | exact HB.out)))); (case aL => have := LMc52.out; omega); intro v533 w60 ho hb hg hat; rw [← Ny532.out] at ho; have n0_ := Aside0.mk (Kd.R_after (ok := (fun k_ => some k_ ≠ (.slice Ao61 t515.length co61 : Value).ownBlock ∧ some k_ ≠ (v521 : Value).ownBlock)) (by (with_reducible repeat (first | apply Kd.R_alloc | apply Kd.R_drewN | apply Kd.R_drew)); exact HO_6.out) hg hat); have n1_ := Aside0.mk (Kd.R_after (ok := (fun k_ => some k_ ≠ (.slice Ao59 t511.length co59 : Value).ownBlock ∧ some k_ ≠ (v521 : Value).ownBlock)) (by (with_reducible repeat (first | apply Kd.R_alloc | apply Kd.R_drewN | apply Kd.R_drew)); exact HO_8.out) hg hat); have n2_ := Aside0.mk (Kd.R_after (ok := (fun k_ => some k_ ≠ (.slice Ao59 t511.length co59 : Value).ownBlock ∧ some k_ ≠ (.slice Ao61 t515.length co61 : Value).ownBlock)) (by (with_reducible repeat (first | apply Kd.R_alloc | apply Kd.R_drewN | apply Kd.R_drew)); exact HO_10.out) hg hat); have n3_ := Aside0.mk (hb); have n4_ := Aside0.mk (ho); clear HO_6; clear HO_8; clear HO_10; clear HB; clear HO531; have HO_6 := n0_; have HO_8 := n1_; have HO_10 := n2_; have HB := n3_; have HO534 := n4_; clear n0_ n1_ n2_ n3_ n4_; clear ho hb hg hat; obtain ⟨Ao62, co62, eo62⟩ := Kd.R_slice HO_10.out; subst eo62; obtain ⟨Ao63, co63, eo63⟩ := Kd.R_slice HO534.out; subst eo63) | (go_at_call 19; (with_reducible refine (camshaftref02_Same.calls kj40 _ _ t519 _ _ y532 true _ ?side1 ?side2 ?side3 ?side4 A53.out).mono ?_); (case side1 => repeat (first | exact (Kd.R_reads' HO_10.out).2.2 | (with_reducible refine Kd.C_alloc ?_ _) | (with_reducible refine Kd.C_drewN ?_ _) | (with_reducible refine Kd.C_drew ?_))); (case side2 => exact (Kd.R_reads' HO_10.out).2.1); (case side3 => repeat (first | exact (Kd.R_reads' HO534.out).2.2 | (with_reducible refine Kd.C_alloc ?_ _) | (with_reducible refine Kd.C_drewN ?_ _) | (with_reducible refine Kd.C_drew ?_))); (case side4 => exact (Kd.R_reads' HO534.out).2.1); rintro e w' ⟨rfl, ⟨nd, rfl⟩⟩) | (go_at_call 10; (with_reducible refine (camshaftlaw06_known.calls kj40  t536 _ A55.out).mono ?_); rintro e w64 ⟨rfl, hb⟩; have n0_ := Aside0.mk (Kd.R_below (by (with_reducible repeat (first | apply Kd.R_alloc | apply Kd.R_drewN | apply Kd.R_drew)); exact HO_6.out) hb); have n1_ := Aside0.mk (Kd.R_below (by (with_reducible repeat (first | apply Kd.R_alloc | apply Kd.R_drewN | apply Kd.R_drew)); exact HO_8.out) hb); have n2_ := Aside0.mk (Kd.R_below (by (with_reducible repeat (first | apply Kd.R_alloc | apply Kd.R_drewN | apply Kd.R_drew)); exact HO_10.out) hb); have n3_ := Aside0.mk (Kd.R_below (by (with_reducible repeat (first | apply Kd.R_alloc | apply Kd.R_drewN | apply Kd.R_drew)); exact HO534.out) hb); have n4_ := Aside0.mk (below_step (by repeat (first | (with_reducible first | exact HB.out | apply below_alloc | apply pw_below_drewN | apply below_drew1) | exact HB.out)) hb); clear HO_6; clear HO_8; clear HO_10; clear HO534; clear HB; have HO_6 := n0_; have HO_8 := n1_; have HO_10 := n2_; have HO534 := n3_; have HB := n4_; clear n0_ n1_ n2_ n3_ n4_; (try clear hb); (try clear hb2); (try clear hk); (try clear hi)))
                                      go_ret
                                      exact ⟨by first | rfl | (simp [errW_none, errW_some] <;> rfl) | (simp only [← hji15]; first | rfl | (simp [errW_none, errW_some] <;> rfl)) | (simp [*, errW_none, errW_some] <;> rfl), by repeat (first | (with_reducible first | exact HB.out | apply below_alloc | apply pw_below_drewN | apply below_drew1) | exact HB.out | exact Below.refl _ _)⟩
                                    · replace c54 := Bool.eq_false_iff.mpr c54
                                      subst c54
                                      have H1 : (some false) = some r := by rw [if_neg (show ¬ (false = true) by decide)] at H; exact H
                                      clear H
                                      have H := H1
                                      clear H1
                                      exact absurd ((Option.some.inj H).trans HT.out) (by decide)
                                  · rw [if_neg c52] at H
                                    exact absurd H (by simp)
                                · rw [if_neg c51] at H
                                  exact absurd H (by simp)
                              · rw [if_neg c50] at H
                                have c50b0 : (t520 == 0) = false := beq_eq_false_iff_ne.mpr c50
                                have c50b1 : (t520 != 0) = true := bne_iff_ne.mpr c50
                                exact absurd ((Option.some.inj H).trans HT.out) (by decide)
                · rw [if_neg c24] at H
                  have c24b0 : (t523 == 0) = false := beq_eq_false_iff_ne.mpr c24
                  have c24b1 : (t523 != 0) = true := bne_iff_ne.mpr c24
                  exact absurd ((Option.some.inj H).trans HT.out) (by decide)
              · rw [if_neg c19] at H
                exact absurd H (by simp)
            · rw [if_neg c18] at H
              exact absurd H (by simp)
          · rw [if_neg c17] at H
            exact absurd H (by simp)
        · rw [if_neg c16] at H
          exact absurd H (by simp)

/-- THE ONE PURE STATEMENT of camshaftlaw06_NestParts. -/
def camshaftlaw06_NestParts.Pure : Prop := ∀ (l0 : List S32) (l1 : List S32), l0.length * 24 ≤ 140737488351232 → (∀ x ∈ l0, (Lit.int .i64 x.f0).wf = true ∧ (Lit.int .i64 x.f1).wf = true ∧ (Lit.int .i64 x.f2).wf = true) → l1.length * 24 ≤ 140737488351232 → (∀ x ∈ l1, (Lit.int .i64 x.f0).wf = true ∧ (Lit.int .i64 x.f1).wf = true ∧ (Lit.int .i64 x.f2).wf = true) → ∃ k, camshaftlaw06_NestParts.f k l0 l1 = some true
theorem camshaftlaw06_NestParts.walk (P : camshaftlaw06_NestParts.Pure) (A0 : Option Addr) (c0 : Nat) (l0 : List S32) (A1 : Option Addr) (c1 : Nat) (l1 : List S32) (w : World) (hr0 : Kd.C k32 w A0 l0.length l0) (hc0 : l0.length ≤ c0) (y0 : l0.length * 24 ≤ 140737488351232) (hw0 : ∀ x ∈ l0, (Lit.int .i64 x.f0).wf = true ∧ (Lit.int .i64 x.f1).wf = true ∧ (Lit.int .i64 x.f2).wf = true) (hr1 : Kd.C k32 w A1 l1.length l1) (hc1 : l1.length ≤ c1) (y1 : l1.length * 24 ≤ 140737488351232) (hw1 : ∀ x ∈ l1, (Lit.int .i64 x.f0).wf = true ∧ (Lit.int .i64 x.f1).wf = true ∧ (Lit.int .i64 x.f2).wf = true) :
    Calls Try.prog 8 #[.slice A0 l0.length c0, .slice A1 l1.length c1] w fun e w' => e = .returned (.bool true) ∧ Below w.heap.size w w' := by
  obtain ⟨k, h⟩ := P l0 l1 y0 hw0 y1 hw1
  refine (camshaftlaw06_NestParts.calls k A0 c0 l0 A1 c1 l1 true w hr0 hc0 hr1 hc1 h rfl).mono ?_
  rintro e w' ⟨rfl, hd⟩
  exact ⟨rfl, hd⟩

end Go.Proofs.Ytljgllcllddcdaa.P
