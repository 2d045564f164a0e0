-- Written by a program of this session (wip/tools: patched print) for this claim. Not trusted: Lean checks it.
import Derived.Test.YtdhlhbhclggheaaQx0
import Derived.Test.YtdhlhbhclggheaaQx4
namespace Go.Proofs.Ytdhlhbhclggheaa.Q
open Go.RowKit Go.Proofs.Ytdhlhbhclggheaa.P Go.Proofs.Ytdhlhbhclggheaa.D Go.Proofs.YtdhlhbhclggheaaW.PrintWords Go.Proofs.YtdhlhbhclggheaaW.PrintLast Go.Proofs.YtdhlhbhclggheaaW.PrintMore
attribute [local go_sem] max2_int min2_int max_two min_two max_three min_three max_four min_four   -- for this text's walks alone
set_option linter.unusedVariables false
set_option linter.unusedSimpArgs false

/-! ### camshaftref06_home: function 31 -/
def camshaftref06_home.l0 : Nat → List (S37) → List Int → Int → Int → Option (Int)
 | 0, _, _, _, _ => none
 | k + 1, x0, x1, x2, x7 => if x7 ≥ 0 then (if 0 ≤ x7 then (if x7 < (x0.length : Int) then ((camshaftref06_opens.f ((rd_T37 x0 x7).f0) ((rd_T37 x0 x7).f1) ((rd_T37 x0 x7).f2)).bind fun t198 => (if t198 = true then (if x7 < (x1.length : Int) then (if (rd x1 x7) ≥ x2 then (some x7) else (camshaftref06_home.l0 k x0 x1 x2 (wrap64 (x7 - 1)))) else (none)) else (camshaftref06_home.l0 k x0 x1 x2 (wrap64 (x7 - 1))))) else (none)) else (none)) else (some (-1))
def camshaftref06_home.f (k : Nat) (l0 : List (S37)) (l1 : List Int) (a2 : Int) : Option (Int) := camshaftref06_home.l0 k l0 l1 a2 (wrap64 (a2 - 1))
theorem camshaftref06_home.mono_l : ∀ k, (∀ y0 y1 y2 y3, LeO (camshaftref06_home.l0 k y0 y1 y2 y3) (camshaftref06_home.l0 (k + 1) y0 y1 y2 y3))
 | 0 => fun _ _ _ _ r h => by simp [camshaftref06_home.l0] at h
 | k + 1 => by
  have ih0 := camshaftref06_home.mono_l k
  ·intro y0 y1 y2 y3
   unfold camshaftref06_home.l0
   repeat' first
   | (with_reducible exact ih0 _ _ _ _)
   | (with_reducible exact LeO.refl _)
   | (with_reducible exact LeO.none _)
   | (with_reducible refine LeO.ite ?_ ?_)
   | (with_reducible refine LeO.bind ?_ (fun _ => ?_))
   | exact ih0 _ _ _ _
   | exact LeO.none _
   | refine LeO.ite ?_ ?_
   | refine LeO.bind ?_ (fun _ => ?_)
theorem camshaftref06_home.mono : ∀ a0 a1 a2 k, LeO (camshaftref06_home.f k a0 a1 a2) (camshaftref06_home.f (k + 1) a0 a1 a2) := by
 intro a0 a1 a2 k
 have ih0 := camshaftref06_home.mono_l k
 unfold camshaftref06_home.f
 repeat' first
   | (with_reducible exact ih0 _ _ _ _)
   | (with_reducible exact LeO.refl _)
   | (with_reducible exact LeO.none _)
   | (with_reducible refine LeO.ite ?_ ?_)
   | (with_reducible refine LeO.bind ?_ (fun _ => ?_))
   | exact ih0 _ _ _ _
   | exact LeO.none _
   | refine LeO.ite ?_ ?_
   | refine LeO.bind ?_ (fun _ => ?_)
set_option maxHeartbeats 8000000 in
set_option maxRecDepth 100000 in
theorem camshaftref06_home.calls (k : Nat) (A0 : Option Addr) (c0 : Nat) (l0 : List (S37)) (A1 : Option Addr) (c1 : Nat) (l1 : List Int) (a2 : Int) (r : Int) (w : World) (hr0 : Kd.C k37 w A0 l0.length l0) (hc0 : l0.length ≤ c0) (hr1 : Kd.C (Kd.int .i64) w A1 l1.length l1) (hc1 : l1.length ≤ c1) (h : camshaftref06_home.f k l0 l1 a2 = some r) :
  Calls Try.prog 31 #[.slice A0 l0.length c0, .slice A1 l1.length c1, .int .i64 a2] w fun e w' => e = .returned (.int .i64 r) ∧ Below w.heap.size w w' := by
 have hu37 := Try.underlying37
 have HR0 := Aside0.mk hr0
 have HC0 := Aside0.mk hc0
 clear hr0 hc0
 have HR1 := Aside0.mk hr1
 have HC1 := Aside0.mk hc1
 clear hr1 hc1
 have HB := Aside0.mk (Below.refl w.heap.size w)
 have H : (camshaftref06_home.l0 k l0 l1 a2 (wrap64 (a2 - 1))) = some r := h
 clear h
 have H' := Aside0.mk H
 clear H
 go_enter Try.func31, Try.ntmps31
 go_wp2
 go_loopg [7] k (fun kq v7 w' => ∃ (x7_1 : Int), v7 = .int .i64 x7_1 ∧ Aside0 (camshaftref06_home.l0 kq l0 l1 a2 x7_1 = some r) ∧ Aside0 (kq ≤ k) ∧ Aside0 (Below w.heap.size w w'))
 case atStart => exact ⟨(wrap64 (a2 - 1)), (by first | rfl | (simp; done) | (simp [*]; done)), H', ⟨Nat.le_refl _⟩, ⟨by repeat (first | (with_reducible first | exact HB.out | apply below_alloc | apply pw_below_drewN | apply below_drew1) | exact HB.out)⟩⟩
 case round =>
  clear H'
  try clear c1
  try clear p2
  try clear c3
  obtain ⟨x7_1, rfl, HA, HK1, HB⟩ := hrel
  cases gk with
  | zero => exact absurd HA.out (by simp [camshaftref06_home.l0])
  | succ k1 =>
   have H := HA.out
   clear HA
   simp only [camshaftref06_home.l0] at H
   by_cases c4 : x7_1 ≥ 0
   rotate_left
   ·rw [if_neg c4] at H
    have c4b0 : decide (0 ≤ x7_1) = false := decide_eq_false c4
    clear c4
    obtain rfl := Option.some.inj H
    go_wp2
    go_ret
    exact ⟨by first | rfl | (simp [errW_none, errW_some] <;> rfl) | (simp [*, errW_none, errW_some] <;> rfl), by repeat (first | (with_reducible first | exact HB.out | apply below_alloc | apply pw_below_drewN | apply below_drew1) | exact HB.out | exact Below.refl _ _)⟩
   rw [if_pos c4] at H
   have c4b0 : decide (0 ≤ x7_1) = true := decide_eq_true c4
   clear c4
   by_cases c5 : 0 ≤ x7_1
   rotate_left
   ·rw [if_neg c5] at H
    exact absurd H (by simp)
   rw [if_pos c5] at H
   have c5b0 : decide (0 ≤ x7_1) = true := decide_eq_true c5
   clear c5
   by_cases c6 : x7_1 < (l0.length : Int)
   rotate_left
   ·rw [if_neg c6] at H
    exact absurd H (by simp)
   rw [if_pos c6] at H
   have c6b0 : decide (x7_1 < (l0.length : Int)) = true := decide_eq_true c6
   clear c6
   replace H := Option.bind_eq_some_iff.mp H
   obtain ⟨t198, A70, H⟩ := H
   replace H : (if t198 = true then (if x7_1 < (l1.length : Int) then (if (rd l1 x7_1) ≥ a2 then (some x7_1) else (camshaftref06_home.l0 k1 l0 l1 a2 (wrap64 (x7_1 - 1)))) else (none)) else (camshaftref06_home.l0 k1 l0 l1 a2 (wrap64 (x7_1 - 1)))) = some r := H
   have A7 := Aside0.mk A70
   clear A70
   by_cases c8 : t198 = true
   rotate_left
   ·replace c8 := Bool.eq_false_iff.mpr c8
    subst c8
    have H1 : (camshaftref06_home.l0 k1 l0 l1 a2 (wrap64 (x7_1 - 1))) = some r := by rw [if_neg (show ¬ (false = true) by decide)] at H; exact H
    clear H
    have H := H1
    clear H1
    have H' := Aside0.mk H
    clear H
    have p197 : 0 ≤ (x7_1 : Int) := of_decide_eq_true as_
    have q197 : x7_1 < (l0.length : Int) := of_decide_eq_true as_
    obtain ⟨ad197, e197, hx197_0, hx197_1, hx197_2⟩ := at_T37 HR0.out x7_1 p197 q197
    cases e197
    replace hx197_0 := (HB.out.cell (World.block_lt_of_cell? w _ hx197_0)).trans hx197_0
    replace hx197_1 := (HB.out.cell (World.block_lt_of_cell? w _ hx197_1)).trans hx197_1
    replace hx197_2 := (HB.out.cell (World.block_lt_of_cell? w _ hx197_2)).trans hx197_2
    replace p197 := eq_true p197
    replace q197 := eq_true q197
    go_wp2_with (first | ((with_reducible refine gate_callee (f := 33) rfl ?_); refine goesL_ (some 18) rfl rfl Try.func33 (by kernel_rfl) rfl #[.agg #[.int .i64 ((rd_T37 l0 x7_1).f0), .int .i64 ((rd_T37 l0 x7_1).f1), .int .i64 ((rd_T37 l0 x7_1).f2)]] rfl am_ ?_; (with_reducible refine (camshaftref06_opens.calls ((rd_T37 l0 x7_1).f0) ((rd_T37 l0 x7_1).f1) ((rd_T37 l0 x7_1).f2) false _ A7.out).mono ?_); rintro e w13 ⟨rfl, hb⟩; refine ⟨_, rfl, ?_⟩; have n0_ := Aside0.mk (below_step ab_ hb); clear HB; have HB := n0_; clear n0_; (try clear hb); (try clear hb2); (try clear hk); (try clear hi)))
    go_roundg k1
    case measure => have := HK1.out; omega
    case rel => exact ⟨(wrap64 (x7_1 - 1)), (by first | rfl | (simp; done) | (simp [*]; done)), H', ⟨by have := HK1.out; omega⟩, ⟨by repeat (first | (with_reducible first | exact HB.out | apply below_alloc | apply pw_below_drewN | apply below_drew1) | exact HB.out | exact Below.refl _ _)⟩⟩
   subst c8
   have H1 : (if x7_1 < (l1.length : Int) then (if (rd l1 x7_1) ≥ a2 then (some x7_1) else (camshaftref06_home.l0 k1 l0 l1 a2 (wrap64 (x7_1 - 1)))) else (none)) = some r := by rw [if_pos rfl] at H; exact H
   clear H
   have H := H1
   clear H1
   by_cases c9 : x7_1 < (l1.length : Int)
   rotate_left
   ·rw [if_neg c9] at H
    exact absurd H (by simp)
   rw [if_pos c9] at H
   have c9b0 : decide (x7_1 < (l1.length : Int)) = true := decide_eq_true c9
   clear c9
   by_cases c10 : (rd l1 x7_1) ≥ a2
   ·rw [if_pos c10] at H
    have c10b0 : decide (a2 ≤ (rd l1 x7_1)) = true := decide_eq_true c10
    clear c10
    obtain rfl := Option.some.inj H
    have p197 : 0 ≤ (x7_1 : Int) := of_decide_eq_true as_
    have q197 : x7_1 < (l0.length : Int) := of_decide_eq_true as_
    obtain ⟨ad197, e197, hx197_0, hx197_1, hx197_2⟩ := at_T37 HR0.out x7_1 p197 q197
    cases e197
    replace hx197_0 := (HB.out.cell (World.block_lt_of_cell? w _ hx197_0)).trans hx197_0
    replace hx197_1 := (HB.out.cell (World.block_lt_of_cell? w _ hx197_1)).trans hx197_1
    replace hx197_2 := (HB.out.cell (World.block_lt_of_cell? w _ hx197_2)).trans hx197_2
    replace p197 := eq_true p197
    replace q197 := eq_true q197
    go_wp2_with (first | ((with_reducible refine gate_callee (f := 33) rfl ?_); refine goesL_ (some 18) rfl rfl Try.func33 (by kernel_rfl) rfl #[.agg #[.int .i64 ((rd_T37 l0 x7_1).f0), .int .i64 ((rd_T37 l0 x7_1).f1), .int .i64 ((rd_T37 l0 x7_1).f2)]] rfl am_ ?_; (with_reducible refine (camshaftref06_opens.calls ((rd_T37 l0 x7_1).f0) ((rd_T37 l0 x7_1).f1) ((rd_T37 l0 x7_1).f2) true _ A7.out).mono ?_); rintro e w11 ⟨rfl, hb⟩; refine ⟨_, rfl, ?_⟩; have n0_ := Aside0.mk (below_step ab_ hb); clear HB; have HB := n0_; clear n0_; (try clear hb); (try clear hb2); (try clear hk); (try clear hi); have p199 : 0 ≤ (x7_1 : Int) := of_decide_eq_true as_; have q199 : x7_1 < (l1.length : Int) := of_decide_eq_true as_; obtain ⟨ad199, e199, hx199_0⟩ := Kd.at_int HR1.out x7_1 p199 q199; cases e199; replace hx199_0 := (HB.out.cell (World.block_lt_of_cell? w _ hx199_0)).trans hx199_0; replace p199 := eq_true p199; replace q199 := eq_true q199))
    go_ret
    exact ⟨by first | rfl | (simp [errW_none, errW_some] <;> rfl) | (simp [*, errW_none, errW_some] <;> rfl), by repeat (first | (with_reducible first | exact HB.out | apply below_alloc | apply pw_below_drewN | apply below_drew1) | exact HB.out | exact Below.refl _ _)⟩
   rw [if_neg c10] at H
   have c10b0 : decide (a2 ≤ (rd l1 x7_1)) = false := decide_eq_false c10
   clear c10
   have H' := Aside0.mk H
   clear H
   have p197 : 0 ≤ (x7_1 : Int) := of_decide_eq_true as_
   have q197 : x7_1 < (l0.length : Int) := of_decide_eq_true as_
   obtain ⟨ad197, e197, hx197_0, hx197_1, hx197_2⟩ := at_T37 HR0.out x7_1 p197 q197
   cases e197
   replace hx197_0 := (HB.out.cell (World.block_lt_of_cell? w _ hx197_0)).trans hx197_0
   replace hx197_1 := (HB.out.cell (World.block_lt_of_cell? w _ hx197_1)).trans hx197_1
   replace hx197_2 := (HB.out.cell (World.block_lt_of_cell? w _ hx197_2)).trans hx197_2
   replace p197 := eq_true p197
   replace q197 := eq_true q197
   go_wp2_with (first | ((with_reducible refine gate_callee (f := 33) rfl ?_); refine goesL_ (some 18) rfl rfl Try.func33 (by kernel_rfl) rfl #[.agg #[.int .i64 ((rd_T37 l0 x7_1).f0), .int .i64 ((rd_T37 l0 x7_1).f1), .int .i64 ((rd_T37 l0 x7_1).f2)]] rfl am_ ?_; (with_reducible refine (camshaftref06_opens.calls ((rd_T37 l0 x7_1).f0) ((rd_T37 l0 x7_1).f1) ((rd_T37 l0 x7_1).f2) true _ A7.out).mono ?_); rintro e w12 ⟨rfl, hb⟩; refine ⟨_, rfl, ?_⟩; have n0_ := Aside0.mk (below_step ab_ hb); clear HB; have HB := n0_; clear n0_; (try clear hb); (try clear hb2); (try clear hk); (try clear hi); have p199 : 0 ≤ (x7_1 : Int) := of_decide_eq_true as_; have q199 : x7_1 < (l1.length : Int) := of_decide_eq_true as_; obtain ⟨ad199, e199, hx199_0⟩ := Kd.at_int HR1.out x7_1 p199 q199; cases e199; replace hx199_0 := (HB.out.cell (World.block_lt_of_cell? w _ hx199_0)).trans hx199_0; replace p199 := eq_true p199; replace q199 := eq_true q199))
   go_roundg k1
   case measure => have := HK1.out; omega
   case rel => exact ⟨(wrap64 (x7_1 - 1)), (by first | rfl | (simp; done) | (simp [*]; done)), H', ⟨by have := HK1.out; omega⟩, ⟨by repeat (first | (with_reducible first | exact HB.out | apply below_alloc | apply pw_below_drewN | apply below_drew1) | exact HB.out | exact Below.refl _ _)⟩⟩

end Go.Proofs.Ytdhlhbhclggheaa.Q
