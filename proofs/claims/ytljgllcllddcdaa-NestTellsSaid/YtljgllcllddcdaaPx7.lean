-- Written by a program of this session (wip/tools: patched print) for this claim. Not trusted: Lean checks it.
import Derived.Test.YtljgllcllddcdaaPx0
namespace Go.Proofs.Ytljgllcllddcdaa.P
open Go.RowKit Go.Proofs.YtljgllcllddcdaaW.PrintWords Go.Proofs.YtljgllcllddcdaaW.PrintLast Go.Proofs.YtljgllcllddcdaaW.PrintMore
attribute [local go_sem] max2_int min2_int max_two min_two max_three min_three max_four min_four   -- for this text's walks alone
set_option linter.unusedVariables false
set_option linter.unusedSimpArgs false

/-! ### nest_looped: function 28 -/
def nest_looped.l0 : Nat → List (S32) → List Int → Int → Option (Bool)
 | 0, _, _, _ => none
 | k + 1, x0, x1, x7 => if x7 = (-1) then (some false) else (if 0 ≤ x7 then (if x7 < (x0.length : Int) then (if ((rd_T32 x0 x7).f0) = 21 then (some true) else (if x7 < (x1.length : Int) then (nest_looped.l0 k x0 x1 (rd x1 x7)) else (none))) else (none)) else (none))
def nest_looped.f (k : Nat) (l0 : List (S32)) (l1 : List Int) (a2 : Int) : Option (Bool) := if 0 ≤ a2 then (if a2 < (l1.length : Int) then (nest_looped.l0 k l0 l1 (rd l1 a2)) else (none)) else (none)
theorem nest_looped.mono_l : ∀ k, (∀ y0 y1 y2, LeO (nest_looped.l0 k y0 y1 y2) (nest_looped.l0 (k + 1) y0 y1 y2))
 | 0 => fun _ _ _ r h => by simp [nest_looped.l0] at h
 | k + 1 => by
  have ih0 := nest_looped.mono_l k
  ·intro y0 y1 y2
   unfold nest_looped.l0
   repeat' first
   | (with_reducible exact ih0 _ _ _)
   | (with_reducible exact LeO.refl _)
   | (with_reducible exact LeO.none _)
   | (with_reducible refine LeO.ite ?_ ?_)
   | (with_reducible refine LeO.bind ?_ (fun _ => ?_))
   | exact ih0 _ _ _
   | exact LeO.none _
   | refine LeO.ite ?_ ?_
   | refine LeO.bind ?_ (fun _ => ?_)
theorem nest_looped.mono : ∀ a0 a1 a2 k, LeO (nest_looped.f k a0 a1 a2) (nest_looped.f (k + 1) a0 a1 a2) := by
 intro a0 a1 a2 k
 have ih0 := nest_looped.mono_l k
 unfold nest_looped.f
 repeat' first
   | (with_reducible exact ih0 _ _ _)
   | (with_reducible exact LeO.refl _)
   | (with_reducible exact LeO.none _)
   | (with_reducible refine LeO.ite ?_ ?_)
   | (with_reducible refine LeO.bind ?_ (fun _ => ?_))
   | exact ih0 _ _ _
   | exact LeO.none _
   | refine LeO.ite ?_ ?_
   | refine LeO.bind ?_ (fun _ => ?_)
set_option maxHeartbeats 8000000 in
set_option maxRecDepth 100000 in
theorem nest_looped.calls (k : Nat) (A0 : Option Addr) (c0 : Nat) (l0 : List (S32)) (A1 : Option Addr) (c1 : Nat) (l1 : List Int) (a2 : Int) (r : Bool) (w : World) (hr0 : Kd.C k32 w A0 l0.length l0) (hc0 : l0.length ≤ c0) (hr1 : Kd.C (Kd.int .i64) w A1 l1.length l1) (hc1 : l1.length ≤ c1) (h : nest_looped.f k l0 l1 a2 = some r) :
  Calls Try.prog 28 #[.slice A0 l0.length c0, .slice A1 l1.length c1, .int .i64 a2] w fun e w' => e = .returned (.bool r) ∧ Drawn0 w w' := by
 have HR0 := Aside0.mk hr0
 have HC0 := Aside0.mk hc0
 clear hr0 hc0
 have HR1 := Aside0.mk hr1
 have HC1 := Aside0.mk hc1
 clear hr1 hc1
 have H : (if 0 ≤ a2 then (if a2 < (l1.length : Int) then (nest_looped.l0 k l0 l1 (rd l1 a2)) else (none)) else (none)) = some r := h
 clear h
 by_cases c4 : 0 ≤ a2
 rotate_left
 ·rw [if_neg c4] at H
  exact absurd H (by simp)
 rw [if_pos c4] at H
 have c4b0 : decide (0 ≤ a2) = true := decide_eq_true c4
 clear c4
 by_cases c5 : a2 < (l1.length : Int)
 rotate_left
 ·rw [if_neg c5] at H
  exact absurd H (by simp)
 rw [if_pos c5] at H
 have c5b0 : decide (a2 < (l1.length : Int)) = true := decide_eq_true c5
 clear c5
 have H' := Aside0.mk H
 clear H
 have p179 : 0 ≤ (a2 : Int) := of_decide_eq_true (by first | (with_reducible assumption) | assumption)
 have q179 : a2 < (l1.length : Int) := of_decide_eq_true (by first | (with_reducible assumption) | assumption)
 obtain ⟨ad179, e179, hx179_0⟩ := Kd.at_int HR1.out a2 p179 q179
 cases e179
 replace p179 := eq_true p179
 replace q179 := eq_true q179
 go_enter Try.func28, Try.ntmps28
 go_wp2
 go_loopg [7] k (fun kq v7 w' => ∃ (x7_1 : Int), v7 = .int .i64 x7_1 ∧ Aside0 (nest_looped.l0 kq l0 l1 x7_1 = some r) ∧ Aside0 (kq ≤ k) ∧ Drawn0 w w')
 case atStart => exact ⟨(rd l1 a2), (by first | rfl | (simp; done) | (simp [*]; done)), H', ⟨Nat.le_refl _⟩, by repeat (first | exact Drawn0.refl _ | apply Drawn0.step)⟩
 case round =>
  clear H'
  try clear c1
  try clear p1
  try clear q1
  try clear hx1
  try clear c2
  try clear p2
  try clear c4
  try clear c4b0
  try clear c5
  try clear c5b0
  try clear hx179_0
  try clear p179
  try clear q179
  obtain ⟨x7_1, rfl, HA, HK1, ⟨m1, rfl⟩⟩ := hrel
  cases gk with
  | zero => exact absurd HA.out (by simp [nest_looped.l0])
  | succ k1 =>
   have H := HA.out
   clear HA
   simp only [nest_looped.l0] at H
   by_cases c6 : x7_1 = (-1)
   ·rw [if_pos c6] at H
    have c6b0 : (x7_1 == (-1)) = true := beq_iff_eq.mpr c6
    have c6b1 : (x7_1 != (-1)) = false := bne_eq_false_iff_eq.mpr c6
    clear c6
    obtain rfl := Option.some.inj H
    go_wp2
    go_ret
    exact ⟨by first | rfl | (simp; done) | (simp [*]; done), by repeat (first | exact Drawn0.refl _ | apply Drawn0.step)⟩
   rw [if_neg c6] at H
   have c6b0 : (x7_1 == (-1)) = false := beq_eq_false_iff_ne.mpr c6
   have c6b1 : (x7_1 != (-1)) = true := bne_iff_ne.mpr c6
   by_cases c7 : 0 ≤ x7_1
   rotate_left
   ·rw [if_neg c7] at H
    exact absurd H (by simp)
   rw [if_pos c7] at H
   have c7b0 : decide (0 ≤ x7_1) = true := decide_eq_true c7
   clear c7
   by_cases c8 : x7_1 < (l0.length : Int)
   rotate_left
   ·rw [if_neg c8] at H
    exact absurd H (by simp)
   rw [if_pos c8] at H
   have c8b0 : decide (x7_1 < (l0.length : Int)) = true := decide_eq_true c8
   clear c8
   by_cases c9 : ((rd_T32 l0 x7_1).f0) = 21
   ·rw [if_pos c9] at H
    have c9b0 : (((rd_T32 l0 x7_1).f0) == 21) = true := beq_iff_eq.mpr c9
    have c9b1 : (((rd_T32 l0 x7_1).f0) != 21) = false := bne_eq_false_iff_eq.mpr c9
    clear c9
    obtain rfl := Option.some.inj H
    have p180 : 0 ≤ (x7_1 : Int) := of_decide_eq_true (by first | (with_reducible assumption) | assumption)
    have q180 : x7_1 < (l0.length : Int) := of_decide_eq_true (by first | (with_reducible assumption) | assumption)
    obtain ⟨ad180, e180, hx180_0, hx180_1, hx180_2⟩ := at_T32 HR0.out x7_1 p180 q180
    cases e180
    replace p180 := eq_true p180
    replace q180 := eq_true q180
    go_wp2
    go_ret
    exact ⟨by first | rfl | (simp; done) | (simp [*]; done), by repeat (first | exact Drawn0.refl _ | apply Drawn0.step)⟩
   rw [if_neg c9] at H
   have c9b0 : (((rd_T32 l0 x7_1).f0) == 21) = false := beq_eq_false_iff_ne.mpr c9
   have c9b1 : (((rd_T32 l0 x7_1).f0) != 21) = true := bne_iff_ne.mpr c9
   by_cases c10 : x7_1 < (l1.length : Int)
   rotate_left
   ·rw [if_neg c10] at H
    exact absurd H (by simp)
   rw [if_pos c10] at H
   have c10b0 : decide (x7_1 < (l1.length : Int)) = true := decide_eq_true c10
   clear c10
   have H' := Aside0.mk H
   clear H
   have p180 : 0 ≤ (x7_1 : Int) := of_decide_eq_true (by first | (with_reducible assumption) | assumption)
   have q180 : x7_1 < (l0.length : Int) := of_decide_eq_true (by first | (with_reducible assumption) | assumption)
   obtain ⟨ad180, e180, hx180_0, hx180_1, hx180_2⟩ := at_T32 HR0.out x7_1 p180 q180
   cases e180
   replace p180 := eq_true p180
   replace q180 := eq_true q180
   have p181 : 0 ≤ (x7_1 : Int) := of_decide_eq_true (by first | (with_reducible assumption) | assumption)
   have q181 : x7_1 < (l1.length : Int) := of_decide_eq_true (by first | (with_reducible assumption) | assumption)
   obtain ⟨ad181, e181, hx181_0⟩ := Kd.at_int HR1.out x7_1 p181 q181
   obtain rfl : ad179 = ad181 := (by injection e181)
   replace p181 := eq_true p181
   replace q181 := eq_true q181
   go_wp2
   go_roundg k1
   case measure => have := HK1.out; omega
   case rel => exact ⟨(rd l1 x7_1), (by first | rfl | (simp; done) | (simp [*]; done)), H', ⟨by have := HK1.out; omega⟩, by repeat (first | exact Drawn0.refl _ | apply Drawn0.step)⟩

end Go.Proofs.Ytljgllcllddcdaa.P
