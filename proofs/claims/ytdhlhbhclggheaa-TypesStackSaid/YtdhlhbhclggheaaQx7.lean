-- Written by a program of this session (wip/tools: patched print) for this claim. Not trusted: Lean checks it.
import Derived.Test.YtdhlhbhclggheaaQx0
import Derived.Test.YtdhlhbhclggheaaQx5
import Derived.Test.YtdhlhbhclggheaaQx6
namespace Go.Proofs.Ytdhlhbhclggheaa.Q
open Go.RowKit Go.Proofs.Ytdhlhbhclggheaa.P Go.Proofs.Ytdhlhbhclggheaa.D Go.Proofs.YtdhlhbhclggheaaW.PrintWords Go.Proofs.YtdhlhbhclggheaaW.PrintLast Go.Proofs.YtdhlhbhclggheaaW.PrintMore
attribute [local go_sem] max2_int min2_int max_two min_two max_three min_three max_four min_four   -- for this text's walks alone
set_option linter.unusedVariables false
set_option linter.unusedSimpArgs false

/-! ### camshaftref06_Whole: function 20 -/
mutual
def camshaftref06_Whole.l0 : Nat → List (S37) → List Int → Int → Option (Int)
 | 0, _, _, _ => none
 | k + 1, x0, x3, x5 => if x5 < (x0.length : Int) then (if 0 ≤ x5 then (if ((((rd_T37 x0 x5).f0) == 25) != (x5 == (wrap64 ((x0.length : Int) - 1)))) = true then (some 7) else (camshaftref06_Whole.l0 k x0 x3 (wrap64 (x5 + 1)))) else (none)) else (camshaftref06_Whole.l1 k x0 x3 0)
def camshaftref06_Whole.l1 : Nat → List (S37) → List Int → Int → Option (Int)
 | 0, _, _, _ => none
 | k + 1, x0, x3, x6 => if x6 < (x0.length : Int) then (if 0 ≤ x6 then (if ((rd_T37 x0 x6).f0) = 19 then (camshaftref06_Whole.j2 k x0 x3 x6 true) else (camshaftref06_Whole.j2 k x0 x3 x6 (((rd_T37 x0 x6).f0) == 20))) else (none)) else (some 0)
def camshaftref06_Whole.j2 : Nat → List (S37) → List Int → Int → Bool → Option (Int)
 | 0, _, _, _, _ => none
 | k + 1, x0, x3, x6, x53 => if x53 = true then (if 0 ≤ x6 then (if x6 < (x0.length : Int) then (if (wrap64 ((wrap64 (x6 + 1)) + ((rd_T37 x0 x6).f1))) ≥ (x0.length : Int) then (some 8) else ((camshaftref06_home.f k x0 x3 (wrap64 ((wrap64 (x6 + 1)) + ((rd_T37 x0 x6).f1)))).bind fun t208 => ((camshaftref06_home.f k x0 x3 x6).bind fun t209 => (if t208 = t209 then (camshaftref06_Whole.l1 k x0 x3 (wrap64 (x6 + 1))) else (some 8))))) else (none)) else (none)) else (camshaftref06_Whole.l1 k x0 x3 (wrap64 (x6 + 1)))
end
def camshaftref06_Whole.f (k : Nat) (l0 : List (S37)) : Option (Int) := (camshaftref06_Match.f k l0).bind fun bt200 => (if bt200.2 = 0 then (camshaftref06_Whole.l0 k l0 bt200.1 0) else (some bt200.2))
theorem camshaftref06_Whole.mono_l : ∀ k, (∀ y0 y1 y2, LeO (camshaftref06_Whole.l0 k y0 y1 y2) (camshaftref06_Whole.l0 (k + 1) y0 y1 y2)) ∧ (∀ y0 y1 y2, LeO (camshaftref06_Whole.l1 k y0 y1 y2) (camshaftref06_Whole.l1 (k + 1) y0 y1 y2)) ∧ (∀ y0 y1 y2 y3, LeO (camshaftref06_Whole.j2 k y0 y1 y2 y3) (camshaftref06_Whole.j2 (k + 1) y0 y1 y2 y3))
 | 0 => ⟨fun _ _ _ r h => by simp [camshaftref06_Whole.l0] at h, fun _ _ _ r h => by simp [camshaftref06_Whole.l1] at h, fun _ _ _ _ r h => by simp [camshaftref06_Whole.j2] at h⟩
 | k + 1 => by
  obtain ⟨ih0, ih1, ih2⟩ := camshaftref06_Whole.mono_l k
  refine ⟨?_, ?_, ?_⟩
  ·intro y0 y1 y2
   unfold camshaftref06_Whole.l0
   repeat' first
   | (with_reducible exact ih0 _ _ _)
   | (with_reducible exact ih1 _ _ _)
   | (with_reducible exact ih2 _ _ _ _)
   | (with_reducible exact camshaftref06_Match.mono _ _)
   | (with_reducible exact camshaftref06_home.mono _ _ _ _)
   | (with_reducible exact LeO.refl _)
   | (with_reducible exact LeO.none _)
   | (with_reducible refine LeO.ite ?_ ?_)
   | (with_reducible refine LeO.bind ?_ (fun _ => ?_))
   | exact ih0 _ _ _
   | exact ih1 _ _ _
   | exact ih2 _ _ _ _
   | exact camshaftref06_Match.mono _ _
   | exact camshaftref06_home.mono _ _ _ _
   | exact LeO.none _
   | refine LeO.ite ?_ ?_
   | refine LeO.bind ?_ (fun _ => ?_)
  ·intro y0 y1 y2
   unfold camshaftref06_Whole.l1
   repeat' first
   | (with_reducible exact ih0 _ _ _)
   | (with_reducible exact ih1 _ _ _)
   | (with_reducible exact ih2 _ _ _ _)
   | (with_reducible exact camshaftref06_Match.mono _ _)
   | (with_reducible exact camshaftref06_home.mono _ _ _ _)
   | (with_reducible exact LeO.refl _)
   | (with_reducible exact LeO.none _)
   | (with_reducible refine LeO.ite ?_ ?_)
   | (with_reducible refine LeO.bind ?_ (fun _ => ?_))
   | exact ih0 _ _ _
   | exact ih1 _ _ _
   | exact ih2 _ _ _ _
   | exact camshaftref06_Match.mono _ _
   | exact camshaftref06_home.mono _ _ _ _
   | exact LeO.none _
   | refine LeO.ite ?_ ?_
   | refine LeO.bind ?_ (fun _ => ?_)
  ·intro y0 y1 y2 y3
   unfold camshaftref06_Whole.j2
   repeat' first
   | (with_reducible exact ih0 _ _ _)
   | (with_reducible exact ih1 _ _ _)
   | (with_reducible exact ih2 _ _ _ _)
   | (with_reducible exact camshaftref06_Match.mono _ _)
   | (with_reducible exact camshaftref06_home.mono _ _ _ _)
   | (with_reducible exact LeO.refl _)
   | (with_reducible exact LeO.none _)
   | (with_reducible refine LeO.ite ?_ ?_)
   | (with_reducible refine LeO.bind ?_ (fun _ => ?_))
   | exact ih0 _ _ _
   | exact ih1 _ _ _
   | exact ih2 _ _ _ _
   | exact camshaftref06_Match.mono _ _
   | exact camshaftref06_home.mono _ _ _ _
   | exact LeO.none _
   | refine LeO.ite ?_ ?_
   | refine LeO.bind ?_ (fun _ => ?_)
theorem camshaftref06_Whole.mono : ∀ a0 k, LeO (camshaftref06_Whole.f k a0) (camshaftref06_Whole.f (k + 1) a0) := by
 intro a0 k
 obtain ⟨ih0, ih1, ih2⟩ := camshaftref06_Whole.mono_l k
 unfold camshaftref06_Whole.f
 repeat' first
   | (with_reducible exact ih0 _ _ _)
   | (with_reducible exact ih1 _ _ _)
   | (with_reducible exact ih2 _ _ _ _)
   | (with_reducible exact camshaftref06_Match.mono _ _)
   | (with_reducible exact camshaftref06_home.mono _ _ _ _)
   | (with_reducible exact LeO.refl _)
   | (with_reducible exact LeO.none _)
   | (with_reducible refine LeO.ite ?_ ?_)
   | (with_reducible refine LeO.bind ?_ (fun _ => ?_))
   | exact ih0 _ _ _
   | exact ih1 _ _ _
   | exact ih2 _ _ _ _
   | exact camshaftref06_Match.mono _ _
   | exact camshaftref06_home.mono _ _ _ _
   | exact LeO.none _
   | refine LeO.ite ?_ ?_
   | refine LeO.bind ?_ (fun _ => ?_)
set_option maxHeartbeats 8000000 in
set_option maxRecDepth 100000 in
theorem camshaftref06_Whole.calls (k : Nat) (A0 : Option Addr) (c0 : Nat) (l0 : List (S37)) (r : Int) (w : World) (hr0 : Kd.C k37 w A0 l0.length l0) (hc0 : l0.length ≤ c0) (h : camshaftref06_Whole.f k l0 = some r) :
  Calls Try.prog 20 #[.slice A0 l0.length c0] w fun e w' => e = .returned (.int .i64 r) ∧ Below w.heap.size w w' := by
 have HR0 := Aside0.mk hr0
 have HC0 := Aside0.mk hc0
 clear hr0 hc0
 have HB := Aside0.mk (Below.refl w.heap.size w)
 have H : ((camshaftref06_Match.f k l0).bind fun bt200 => (if bt200.2 = 0 then (camshaftref06_Whole.l0 k l0 bt200.1 0) else (some bt200.2))) = some r := h
 clear h
 replace H := Option.bind_eq_some_iff.mp H
 obtain ⟨⟨t200, t201⟩, A20, H⟩ := H
 replace H : (if t201 = 0 then (camshaftref06_Whole.l0 k l0 t200 0) else (some t201)) = some r := H
 have A2 := Aside0.mk A20
 clear A20
 by_cases c3 : t201 = 0
 rotate_left
 ·rw [if_neg c3] at H
  have c3b0 : (t201 == 0) = false := beq_eq_false_iff_ne.mpr c3
  have c3b1 : (t201 != 0) = true := bne_iff_ne.mpr c3
  obtain rfl := Option.some.inj H
  go_enter Try.func20, Try.ntmps20
  go_wp2_with (first | ((with_reducible refine gate_callee (f := 21) rfl ?_); refine goesL_ (some 10) rfl rfl Try.func21 (by kernel_rfl) rfl #[.slice A0 l0.length c0] rfl am_ ?_; (with_reducible refine (camshaftref06_Match.calls k _ _ l0 t200 t201 _ ?side1 ?side2 A2.out).mono ?_); (case side1 => repeat (first | exact HR0.out | (with_reducible refine Kd.C_alloc ?_ _) | (with_reducible refine Kd.C_drewN ?_ _) | (with_reducible refine Kd.C_drew ?_))); (case side2 => exact HC0.out); rintro e w25 ⟨v202, rfl, ho0, hb⟩; refine ⟨_, rfl, ?_⟩; have n0_ := Aside0.mk (Kd.R_lower ho0 (below_size ab_)); have n1_ := Aside0.mk (below_step ab_ hb); clear HB; have HO203 := n0_; have HB := n1_; clear n0_ n1_; (try clear hb); (try clear hb2); (try clear hk); (try clear hi); (try clear ho0)))
  go_ret
  exact ⟨by first | rfl | (simp [errW_none, errW_some] <;> rfl) | (simp [*, errW_none, errW_some] <;> rfl), by repeat (first | (with_reducible first | exact HB.out | apply below_alloc | apply pw_below_drewN | apply below_drew1) | exact HB.out | exact Below.refl _ _)⟩
 rw [if_pos c3] at H
 have c3b0 : (t201 == 0) = true := beq_iff_eq.mpr c3
 have c3b1 : (t201 != 0) = false := bne_eq_false_iff_eq.mpr c3
 clear c3
 have H' := Aside0.mk H
 clear H
 go_enter Try.func20, Try.ntmps20
 go_wp2_with (first | ((with_reducible refine gate_callee (f := 21) rfl ?_); refine goesL_ (some 10) rfl rfl Try.func21 (by kernel_rfl) rfl #[.slice A0 l0.length c0] rfl am_ ?_; (with_reducible refine (camshaftref06_Match.calls k _ _ l0 t200 t201 _ ?side1 ?side2 A2.out).mono ?_); (case side1 => repeat (first | exact HR0.out | (with_reducible refine Kd.C_alloc ?_ _) | (with_reducible refine Kd.C_drewN ?_ _) | (with_reducible refine Kd.C_drew ?_))); (case side2 => exact HC0.out); rintro e w4 ⟨v202, rfl, ho0, hb⟩; refine ⟨_, rfl, ?_⟩; have n0_ := Aside0.mk (Kd.R_lower ho0 (below_size ab_)); have n1_ := Aside0.mk (below_step ab_ hb); clear HB; have HO203 := n0_; have HB := n1_; clear n0_ n1_; (try clear hb); (try clear hb2); (try clear hk); (try clear hi); (try clear ho0)))
 go_loopg [5] k (fun kq v5 w' => ∃ (x5_1 : Int), v5 = .int .i64 x5_1 ∧ Aside0 (camshaftref06_Whole.l0 kq l0 t200 x5_1 = some r) ∧ Aside0 (kq ≤ k) ∧ Aside0 (Kd.R (Kd.int .i64) 3 w' w.heap.size (fun _ => True) v202 t200) ∧ Aside0 (Below w.heap.size w w'))
 case atStart => exact ⟨(0), (by first | rfl | (simp; done) | (simp [*]; done)), H', ⟨Nat.le_refl _⟩, ⟨by (with_reducible repeat (first | apply Kd.R_alloc | apply Kd.R_drewN | apply Kd.R_drew)); exact HO203.out⟩, ⟨by repeat (first | (with_reducible first | exact HB.out | apply below_alloc | apply pw_below_drewN | apply below_drew1) | exact HB.out)⟩⟩
 case round =>
  clear H'
  try clear c2
  try clear p2
  try clear c3
  try clear c3b0
  try clear c3b1
  obtain ⟨x5_1, rfl, HA, HK1, HO_3, HB⟩ := hrel
  cases gk with
  | zero => exact absurd HA.out (by simp [camshaftref06_Whole.l0])
  | succ k1 =>
   have H := HA.out
   clear HA
   simp only [camshaftref06_Whole.l0] at H
   by_cases c5 : x5_1 < (l0.length : Int)
   ·rw [if_pos c5] at H
    have c5b0 : decide (x5_1 < (l0.length : Int)) = true := decide_eq_true c5
    clear c5
    by_cases c6 : 0 ≤ x5_1
    rotate_left
    ·rw [if_neg c6] at H
     exact absurd H (by simp)
    rw [if_pos c6] at H
    have c6b0 : decide (0 ≤ x5_1) = true := decide_eq_true c6
    clear c6
    by_cases c7 : ((((rd_T37 l0 x5_1).f0) == 25) != (x5_1 == (wrap64 ((l0.length : Int) - 1)))) = true
    ·rw [if_pos c7] at H
     have c7b0 : ((((rd_T37 l0 x5_1).f0) == 25) != (x5_1 == (wrap64 ((l0.length : Int) - 1)))) = true := c7
     (try (have c7b1 : decide ((((rd_T37 l0 x5_1).f0) == 25) = (x5_1 == (wrap64 ((l0.length : Int) - 1)))) = false := by simpa using c7))
     (try (have c7b2 : ((((rd_T37 l0 x5_1).f0) == 25) == (x5_1 == (wrap64 ((l0.length : Int) - 1)))) = false := by simpa using c7))
     (try (have c7b3 : ¬ ((((rd_T37 l0 x5_1).f0) == 25) = (x5_1 == (wrap64 ((l0.length : Int) - 1)))) := by simpa using c7))
     clear c7
     obtain rfl := Option.some.inj H
     have p204 : 0 ≤ (x5_1 : Int) := of_decide_eq_true as_
     have q204 : x5_1 < (l0.length : Int) := of_decide_eq_true as_
     obtain ⟨ad204, e204, hx204_0, hx204_1, hx204_2⟩ := at_T37 HR0.out x5_1 p204 q204
     cases e204
     replace hx204_0 := (HB.out.cell (World.block_lt_of_cell? w _ hx204_0)).trans hx204_0
     replace hx204_1 := (HB.out.cell (World.block_lt_of_cell? w _ hx204_1)).trans hx204_1
     replace hx204_2 := (HB.out.cell (World.block_lt_of_cell? w _ hx204_2)).trans hx204_2
     replace p204 := eq_true p204
     replace q204 := eq_true q204
     go_wp2
     go_ret
     exact ⟨by first | rfl | (simp [errW_none, errW_some] <;> rfl) | (simp [*, errW_none, errW_some] <;> rfl), by repeat (first | (with_reducible first | exact HB.out | apply below_alloc | apply pw_below_drewN | apply below_drew1) | exact HB.out | exact Below.refl _ _)⟩
    rw [if_neg c7] at H
    have c7b0 : ((((rd_T37 l0 x5_1).f0) == 25) != (x5_1 == (wrap64 ((l0.length : Int) - 1)))) = false := by simpa using c7
    (try (have c7b1 : decide ((((rd_T37 l0 x5_1).f0) == 25) = (x5_1 == (wrap64 ((l0.length : Int) - 1)))) = true := by simpa using c7))
    (try (have c7b2 : ((((rd_T37 l0 x5_1).f0) == 25) == (x5_1 == (wrap64 ((l0.length : Int) - 1)))) = true := by simpa using c7))
    clear c7
    have H' := Aside0.mk H
    clear H
    have p204 : 0 ≤ (x5_1 : Int) := of_decide_eq_true as_
    have q204 : x5_1 < (l0.length : Int) := of_decide_eq_true as_
    obtain ⟨ad204, e204, hx204_0, hx204_1, hx204_2⟩ := at_T37 HR0.out x5_1 p204 q204
    cases e204
    replace hx204_0 := (HB.out.cell (World.block_lt_of_cell? w _ hx204_0)).trans hx204_0
    replace hx204_1 := (HB.out.cell (World.block_lt_of_cell? w _ hx204_1)).trans hx204_1
    replace hx204_2 := (HB.out.cell (World.block_lt_of_cell? w _ hx204_2)).trans hx204_2
    replace p204 := eq_true p204
    replace q204 := eq_true q204
    go_wp2
    go_roundg k1
    case measure => have := HK1.out; omega
    case rel => exact ⟨(wrap64 (x5_1 + 1)), (by first | rfl | (simp; done) | (simp [*]; done)), H', ⟨by have := HK1.out; omega⟩, ⟨by (with_reducible repeat (first | apply Kd.R_alloc | apply Kd.R_drewN | apply Kd.R_drew)); exact HO_3.out⟩, ⟨by repeat (first | (with_reducible first | exact HB.out | apply below_alloc | apply pw_below_drewN | apply below_drew1) | exact HB.out | exact Below.refl _ _)⟩⟩
   rw [if_neg c5] at H
   have c5b0 : decide (x5_1 < (l0.length : Int)) = false := decide_eq_false c5
   clear c5
   have H' := Aside0.mk H
   clear H
   go_wp2
   go_loopg [6] k1 (fun kq v6 w' => ∃ (x6_2 : Int), v6 = .int .i64 x6_2 ∧ Aside0 (camshaftref06_Whole.l1 kq l0 t200 x6_2 = some r) ∧ Aside0 (kq ≤ k1) ∧ Aside0 (Kd.R (Kd.int .i64) 3 w' w.heap.size (fun _ => True) v202 t200) ∧ Aside0 (Below w.heap.size w w'))
   case atStart => exact ⟨(0), (by first | rfl | (simp; done) | (simp [*]; done)), H', ⟨Nat.le_refl _⟩, ⟨by (with_reducible repeat (first | apply Kd.R_alloc | apply Kd.R_drewN | apply Kd.R_drew)); exact HO_3.out⟩, ⟨by repeat (first | (with_reducible first | exact HB.out | apply below_alloc | apply pw_below_drewN | apply below_drew1) | exact HB.out)⟩⟩
   case round =>
    clear H'
    try clear c2
    try clear p2
    try clear q2
    try clear hx2
    try clear c3
    try clear c3b0
    try clear c3b1
    try clear c5
    try clear c5b0
    try clear c6
    try clear c6b0
    try clear p6
    try clear c7
    try clear c7b0
    try clear c7b1
    try clear c7b2
    try clear hx204_0
    try clear hx204_1
    try clear hx204_2
    try clear p2
    try clear p204
    try clear q204
    obtain ⟨x6_2, rfl, HA, HK2, HO_3, HB⟩ := hrel
    cases gk with
    | zero => exact absurd HA.out (by simp [camshaftref06_Whole.l1])
    | succ k2 =>
     have H := HA.out
     clear HA
     simp only [camshaftref06_Whole.l1] at H
     by_cases c8 : x6_2 < (l0.length : Int)
     rotate_left
     ·rw [if_neg c8] at H
      have c8b0 : decide (x6_2 < (l0.length : Int)) = false := decide_eq_false c8
      clear c8
      obtain rfl := Option.some.inj H
      go_wp2
      go_ret
      exact ⟨by first | rfl | (simp [errW_none, errW_some] <;> rfl) | (simp [*, errW_none, errW_some] <;> rfl), by repeat (first | (with_reducible first | exact HB.out | apply below_alloc | apply pw_below_drewN | apply below_drew1) | exact HB.out | exact Below.refl _ _)⟩
     rw [if_pos c8] at H
     have c8b0 : decide (x6_2 < (l0.length : Int)) = true := decide_eq_true c8
     clear c8
     have HC9 := Aside0.mk H
     clear H
     go_upto_region 12 with (fail)
     go_cut [53] (fun v53 wc => ∃ (kq : Nat) (x53_8 : Bool), v53 = .bool x53_8 ∧ Aside0 (camshaftref06_Whole.j2 kq l0 t200 x6_2 x53_8 = some r) ∧ Aside0 (kq ≤ k2) ∧ Aside0 (Kd.R (Kd.int .i64) 3 wc w.heap.size (fun _ => True) v202 t200) ∧ Aside0 (Below w.heap.size w wc))
     case first =>
      have H := HC9.out
      clear HC9
      by_cases c10 : 0 ≤ x6_2
      rotate_left
      ·rw [if_neg c10] at H
       exact absurd H (by simp)
      rw [if_pos c10] at H
      have c10b0 : decide (0 ≤ x6_2) = true := decide_eq_true c10
      clear c10
      (first | rw [c10b0] | (simp only [i64_w, i32_w]; rw [c10b0]) | rw [c10b1] | skip)
      by_cases c11 : ((rd_T37 l0 x6_2).f0) = 19
      ·rw [if_pos c11] at H
       have c11b0 : (((rd_T37 l0 x6_2).f0) == 19) = true := beq_iff_eq.mpr c11
       have c11b1 : (((rd_T37 l0 x6_2).f0) != 19) = false := bne_eq_false_iff_eq.mpr c11
       clear c11
       have H' := Aside0.mk H
       clear H
       have p205 : 0 ≤ (x6_2 : Int) := of_decide_eq_true as_
       have q205 : x6_2 < (l0.length : Int) := of_decide_eq_true as_
       obtain ⟨ad205, e205, hx205_0, hx205_1, hx205_2⟩ := at_T37 HR0.out x6_2 p205 q205
       cases e205
       replace hx205_0 := (HB.out.cell (World.block_lt_of_cell? w _ hx205_0)).trans hx205_0
       replace hx205_1 := (HB.out.cell (World.block_lt_of_cell? w _ hx205_1)).trans hx205_1
       replace hx205_2 := (HB.out.cell (World.block_lt_of_cell? w _ hx205_2)).trans hx205_2
       replace p205 := eq_true p205
       replace q205 := eq_true q205
       go_wp2
       go_meet
       case rel => exact ⟨_, (true), (by first | rfl | (simp; done) | (simp [*]; done)), H', ⟨by have := HK1.out; have := HK2.out; first | omega | exact Nat.le_refl _⟩, ⟨by (with_reducible repeat (first | apply Kd.R_alloc | apply Kd.R_drewN | apply Kd.R_drew)); exact HO_3.out⟩, ⟨by repeat (first | (with_reducible first | exact HB.out | apply below_alloc | apply pw_below_drewN | apply below_drew1) | exact HB.out | exact Below.refl _ _)⟩⟩
      rw [if_neg c11] at H
      have c11b0 : (((rd_T37 l0 x6_2).f0) == 19) = false := beq_eq_false_iff_ne.mpr c11
      have c11b1 : (((rd_T37 l0 x6_2).f0) != 19) = true := bne_iff_ne.mpr c11
      have H' := Aside0.mk H
      clear H
      have p205 : 0 ≤ (x6_2 : Int) := of_decide_eq_true as_
      have q205 : x6_2 < (l0.length : Int) := of_decide_eq_true as_
      obtain ⟨ad205, e205, hx205_0, hx205_1, hx205_2⟩ := at_T37 HR0.out x6_2 p205 q205
      cases e205
      replace hx205_0 := (HB.out.cell (World.block_lt_of_cell? w _ hx205_0)).trans hx205_0
      replace hx205_1 := (HB.out.cell (World.block_lt_of_cell? w _ hx205_1)).trans hx205_1
      replace hx205_2 := (HB.out.cell (World.block_lt_of_cell? w _ hx205_2)).trans hx205_2
      replace p205 := eq_true p205
      replace q205 := eq_true q205
      have p206 : 0 ≤ (x6_2 : Int) := of_decide_eq_true as_
      have q206 : x6_2 < (l0.length : Int) := of_decide_eq_true as_
      obtain ⟨ad206, e206, hx206_0, hx206_1, hx206_2⟩ := at_T37 HR0.out x6_2 p206 q206
      obtain rfl : ad205 = ad206 := (by injection e206)
      replace hx206_0 := (HB.out.cell (World.block_lt_of_cell? w _ hx206_0)).trans hx206_0
      replace hx206_1 := (HB.out.cell (World.block_lt_of_cell? w _ hx206_1)).trans hx206_1
      replace hx206_2 := (HB.out.cell (World.block_lt_of_cell? w _ hx206_2)).trans hx206_2
      replace p206 := eq_true p206
      replace q206 := eq_true q206
      go_wp2
      go_meet
      case rel => exact ⟨_, ((((rd_T37 l0 x6_2).f0) == 20)), (by first | rfl | (simp; done) | (simp [*]; done)), H', ⟨by have := HK1.out; have := HK2.out; first | omega | exact Nat.le_refl _⟩, ⟨by (with_reducible repeat (first | apply Kd.R_alloc | apply Kd.R_drewN | apply Kd.R_drew)); exact HO_3.out⟩, ⟨by repeat (first | (with_reducible first | exact HB.out | apply below_alloc | apply pw_below_drewN | apply below_drew1) | exact HB.out | exact Below.refl _ _)⟩⟩
     case rest =>
      clear HC9
      try clear c1
      try clear c2
      try clear p2
      try clear q2
      try clear hx2
      try clear c3
      try clear c3b0
      try clear c3b1
      try clear c5
      try clear c5b0
      try clear c6
      try clear c6b0
      try clear p6
      try clear c7
      try clear c7b0
      try clear c7b1
      try clear c7b2
      try clear c8
      try clear c8b0
      try clear c10
      try clear c10b0
      try clear c10b1
      try clear c11
      try clear c11b0
      try clear c11b1
      try clear hx204_0
      try clear hx204_1
      try clear hx204_2
      try clear hx205_0
      try clear hx205_1
      try clear hx205_2
      try clear hx206_0
      try clear hx206_1
      try clear hx206_2
      try clear p2
      try clear p204
      try clear p205
      try clear p206
      try clear p6
      try clear q2
      try clear q204
      try clear q205
      try clear q206
      obtain ⟨kq, x53_8, rfl, HA, HJ8, HO_3, HB⟩ := hcut
      cases kq with
      | zero => exact absurd HA.out (by simp [camshaftref06_Whole.j2])
      | succ kj8 =>
       have H := HA.out
       clear HA
       simp only [camshaftref06_Whole.j2] at H
       by_cases c12 : x53_8 = true
       rotate_left
       ·replace c12 := Bool.eq_false_iff.mpr c12
        subst c12
        have H1 : (camshaftref06_Whole.l1 kj8 l0 t200 (wrap64 (x6_2 + 1))) = some r := by rw [if_neg (show ¬ (false = true) by decide)] at H; exact H
        clear H
        have H := H1
        clear H1
        have H' := Aside0.mk H
        clear H
        go_wp2
        go_roundg kj8
        case measure => have := HK1.out; have := HK2.out; have := HJ8.out; omega
        case rel => exact ⟨(wrap64 (x6_2 + 1)), (by first | rfl | (simp; done) | (simp [*]; done)), H', ⟨by have := HK1.out; have := HK2.out; have := HJ8.out; omega⟩, ⟨by (with_reducible repeat (first | apply Kd.R_alloc | apply Kd.R_drewN | apply Kd.R_drew)); exact HO_3.out⟩, ⟨by repeat (first | (with_reducible first | exact HB.out | apply below_alloc | apply pw_below_drewN | apply below_drew1) | exact HB.out | exact Below.refl _ _)⟩⟩
       subst c12
       have H1 : (if 0 ≤ x6_2 then (if x6_2 < (l0.length : Int) then (if (wrap64 ((wrap64 (x6_2 + 1)) + ((rd_T37 l0 x6_2).f1))) ≥ (l0.length : Int) then (some 8) else ((camshaftref06_home.f kj8 l0 t200 (wrap64 ((wrap64 (x6_2 + 1)) + ((rd_T37 l0 x6_2).f1)))).bind fun t208 => ((camshaftref06_home.f kj8 l0 t200 x6_2).bind fun t209 => (if t208 = t209 then (camshaftref06_Whole.l1 kj8 l0 t200 (wrap64 (x6_2 + 1))) else (some 8))))) else (none)) else (none)) = some r := by rw [if_pos rfl] at H; exact H
       clear H
       have H := H1
       clear H1
       by_cases c13 : 0 ≤ x6_2
       rotate_left
       ·rw [if_neg c13] at H
        exact absurd H (by simp)
       rw [if_pos c13] at H
       have c13b0 : decide (0 ≤ x6_2) = true := decide_eq_true c13
       clear c13
       by_cases c14 : x6_2 < (l0.length : Int)
       rotate_left
       ·rw [if_neg c14] at H
        exact absurd H (by simp)
       rw [if_pos c14] at H
       have c14b0 : decide (x6_2 < (l0.length : Int)) = true := decide_eq_true c14
       clear c14
       by_cases c15 : (wrap64 ((wrap64 (x6_2 + 1)) + ((rd_T37 l0 x6_2).f1))) ≥ (l0.length : Int)
       ·rw [if_pos c15] at H
        have c15b0 : decide ((l0.length : Int) ≤ (wrap64 ((wrap64 (x6_2 + 1)) + ((rd_T37 l0 x6_2).f1)))) = true := decide_eq_true c15
        clear c15
        obtain rfl := Option.some.inj H
        have p207 : 0 ≤ (x6_2 : Int) := of_decide_eq_true as_
        have q207 : x6_2 < (l0.length : Int) := of_decide_eq_true as_
        obtain ⟨ad207, e207, hx207_0, hx207_1, hx207_2⟩ := at_T37 HR0.out x6_2 p207 q207
        cases e207
        replace hx207_0 := (HB.out.cell (World.block_lt_of_cell? w _ hx207_0)).trans hx207_0
        replace hx207_1 := (HB.out.cell (World.block_lt_of_cell? w _ hx207_1)).trans hx207_1
        replace hx207_2 := (HB.out.cell (World.block_lt_of_cell? w _ hx207_2)).trans hx207_2
        replace p207 := eq_true p207
        replace q207 := eq_true q207
        go_wp2
        go_ret
        exact ⟨by first | rfl | (simp [errW_none, errW_some] <;> rfl) | (simp [*, errW_none, errW_some] <;> rfl), by repeat (first | (with_reducible first | exact HB.out | apply below_alloc | apply pw_below_drewN | apply below_drew1) | exact HB.out | exact Below.refl _ _)⟩
       rw [if_neg c15] at H
       have c15b0 : decide ((l0.length : Int) ≤ (wrap64 ((wrap64 (x6_2 + 1)) + ((rd_T37 l0 x6_2).f1)))) = false := decide_eq_false c15
       clear c15
       replace H := Option.bind_eq_some_iff.mp H
       obtain ⟨t208, A160, H⟩ := H
       replace H : ((camshaftref06_home.f kj8 l0 t200 x6_2).bind fun t209 => (if t208 = t209 then (camshaftref06_Whole.l1 kj8 l0 t200 (wrap64 (x6_2 + 1))) else (some 8))) = some r := H
       have A16 := Aside0.mk A160
       clear A160
       replace H := Option.bind_eq_some_iff.mp H
       obtain ⟨t209, A170, H⟩ := H
       replace H : (if t208 = t209 then (camshaftref06_Whole.l1 kj8 l0 t200 (wrap64 (x6_2 + 1))) else (some 8)) = some r := H
       have A17 := Aside0.mk A170
       clear A170
       by_cases c18 : t208 = t209
       rotate_left
       ·rw [if_neg c18] at H
        have c18b0 : (t208 == t209) = false := beq_eq_false_iff_ne.mpr c18
        have c18b1 : (t208 != t209) = true := bne_iff_ne.mpr c18
        obtain rfl := Option.some.inj H
        have p207 : 0 ≤ (x6_2 : Int) := of_decide_eq_true as_
        have q207 : x6_2 < (l0.length : Int) := of_decide_eq_true as_
        obtain ⟨ad207, e207, hx207_0, hx207_1, hx207_2⟩ := at_T37 HR0.out x6_2 p207 q207
        cases e207
        replace hx207_0 := (HB.out.cell (World.block_lt_of_cell? w _ hx207_0)).trans hx207_0
        replace hx207_1 := (HB.out.cell (World.block_lt_of_cell? w _ hx207_1)).trans hx207_1
        replace hx207_2 := (HB.out.cell (World.block_lt_of_cell? w _ hx207_2)).trans hx207_2
        replace p207 := eq_true p207
        replace q207 := eq_true q207
        obtain ⟨Ao22, co22, eo22⟩ := Kd.R_slice HO_3.out
        subst eo22
        go_wp2_with (first | (go_at_call 31; (with_reducible refine (camshaftref06_home.calls kj8 _ _ l0 _ _ t200 (wrap64 ((wrap64 (x6_2 + 1)) + ((rd_T37 l0 x6_2).f1))) t208 _ ?side1 ?side2 ?side3 ?side4 A16.out).mono ?_); (case side1 => repeat (first | exact (Kd.C_below HR0.out HB.out) | (with_reducible refine Kd.C_alloc ?_ _) | (with_reducible refine Kd.C_drewN ?_ _) | (with_reducible refine Kd.C_drew ?_))); (case side2 => exact HC0.out); (case side3 => repeat (first | exact (Kd.R_reads' HO_3.out).2.2 | (with_reducible refine Kd.C_alloc ?_ _) | (with_reducible refine Kd.C_drewN ?_ _) | (with_reducible refine Kd.C_drew ?_))); (case side4 => exact (Kd.R_reads' HO_3.out).2.1); rintro e w23 ⟨rfl, hb⟩; have n0_ := Aside0.mk (Kd.R_below (by (with_reducible repeat (first | apply Kd.R_alloc | apply Kd.R_drewN | apply Kd.R_drew)); exact HO_3.out) hb); have n1_ := Aside0.mk (below_step ab_ hb); clear HO_3; clear HB; have HO_3 := n0_; have HB := n1_; clear n0_ n1_; (try clear hb); (try clear hb2); (try clear hk); (try clear hi)) | (go_at_call 31; (with_reducible refine (camshaftref06_home.calls kj8 _ _ l0 _ _ t200 x6_2 t209 _ ?side1 ?side2 ?side3 ?side4 A17.out).mono ?_); (case side1 => repeat (first | exact (Kd.C_below HR0.out HB.out) | (with_reducible refine Kd.C_alloc ?_ _) | (with_reducible refine Kd.C_drewN ?_ _) | (with_reducible refine Kd.C_drew ?_))); (case side2 => exact HC0.out); (case side3 => repeat (first | exact (Kd.R_reads' HO_3.out).2.2 | (with_reducible refine Kd.C_alloc ?_ _) | (with_reducible refine Kd.C_drewN ?_ _) | (with_reducible refine Kd.C_drew ?_))); (case side4 => exact (Kd.R_reads' HO_3.out).2.1); rintro e w24 ⟨rfl, hb⟩; have n0_ := Aside0.mk (Kd.R_below (by (with_reducible repeat (first | apply Kd.R_alloc | apply Kd.R_drewN | apply Kd.R_drew)); exact HO_3.out) hb); have n1_ := Aside0.mk (below_step ab_ hb); clear HO_3; clear HB; have HO_3 := n0_; have HB := n1_; clear n0_ n1_; (try clear hb); (try clear hb2); (try clear hk); (try clear hi)))
        go_ret
        exact ⟨by first | rfl | (simp [errW_none, errW_some] <;> rfl) | (simp [*, errW_none, errW_some] <;> rfl), by repeat (first | (with_reducible first | exact HB.out | apply below_alloc | apply pw_below_drewN | apply below_drew1) | exact HB.out | exact Below.refl _ _)⟩
       rw [if_pos c18] at H
       have c18b0 : (t208 == t209) = true := beq_iff_eq.mpr c18
       have c18b1 : (t208 != t209) = false := bne_eq_false_iff_eq.mpr c18
       clear c18
       have H' := Aside0.mk H
       clear H
       have p207 : 0 ≤ (x6_2 : Int) := of_decide_eq_true as_
       have q207 : x6_2 < (l0.length : Int) := of_decide_eq_true as_
       obtain ⟨ad207, e207, hx207_0, hx207_1, hx207_2⟩ := at_T37 HR0.out x6_2 p207 q207
       cases e207
       replace hx207_0 := (HB.out.cell (World.block_lt_of_cell? w _ hx207_0)).trans hx207_0
       replace hx207_1 := (HB.out.cell (World.block_lt_of_cell? w _ hx207_1)).trans hx207_1
       replace hx207_2 := (HB.out.cell (World.block_lt_of_cell? w _ hx207_2)).trans hx207_2
       replace p207 := eq_true p207
       replace q207 := eq_true q207
       obtain ⟨Ao19, co19, eo19⟩ := Kd.R_slice HO_3.out
       subst eo19
       go_wp2_with (first | (go_at_call 31; (with_reducible refine (camshaftref06_home.calls kj8 _ _ l0 _ _ t200 (wrap64 ((wrap64 (x6_2 + 1)) + ((rd_T37 l0 x6_2).f1))) t208 _ ?side1 ?side2 ?side3 ?side4 A16.out).mono ?_); (case side1 => repeat (first | exact (Kd.C_below HR0.out HB.out) | (with_reducible refine Kd.C_alloc ?_ _) | (with_reducible refine Kd.C_drewN ?_ _) | (with_reducible refine Kd.C_drew ?_))); (case side2 => exact HC0.out); (case side3 => repeat (first | exact (Kd.R_reads' HO_3.out).2.2 | (with_reducible refine Kd.C_alloc ?_ _) | (with_reducible refine Kd.C_drewN ?_ _) | (with_reducible refine Kd.C_drew ?_))); (case side4 => exact (Kd.R_reads' HO_3.out).2.1); rintro e w20 ⟨rfl, hb⟩; have n0_ := Aside0.mk (Kd.R_below (by (with_reducible repeat (first | apply Kd.R_alloc | apply Kd.R_drewN | apply Kd.R_drew)); exact HO_3.out) hb); have n1_ := Aside0.mk (below_step ab_ hb); clear HO_3; clear HB; have HO_3 := n0_; have HB := n1_; clear n0_ n1_; (try clear hb); (try clear hb2); (try clear hk); (try clear hi)) | (go_at_call 31; (with_reducible refine (camshaftref06_home.calls kj8 _ _ l0 _ _ t200 x6_2 t209 _ ?side1 ?side2 ?side3 ?side4 A17.out).mono ?_); (case side1 => repeat (first | exact (Kd.C_below HR0.out HB.out) | (with_reducible refine Kd.C_alloc ?_ _) | (with_reducible refine Kd.C_drewN ?_ _) | (with_reducible refine Kd.C_drew ?_))); (case side2 => exact HC0.out); (case side3 => repeat (first | exact (Kd.R_reads' HO_3.out).2.2 | (with_reducible refine Kd.C_alloc ?_ _) | (with_reducible refine Kd.C_drewN ?_ _) | (with_reducible refine Kd.C_drew ?_))); (case side4 => exact (Kd.R_reads' HO_3.out).2.1); rintro e w21 ⟨rfl, hb⟩; have n0_ := Aside0.mk (Kd.R_below (by (with_reducible repeat (first | apply Kd.R_alloc | apply Kd.R_drewN | apply Kd.R_drew)); exact HO_3.out) hb); have n1_ := Aside0.mk (below_step ab_ hb); clear HO_3; clear HB; have HO_3 := n0_; have HB := n1_; clear n0_ n1_; (try clear hb); (try clear hb2); (try clear hk); (try clear hi)))
       go_roundg kj8
       case measure => have := HK1.out; have := HK2.out; have := HJ8.out; omega
       case rel => exact ⟨(wrap64 (x6_2 + 1)), (by first | rfl | (simp; done) | (simp [*]; done)), H', ⟨by have := HK1.out; have := HK2.out; have := HJ8.out; omega⟩, ⟨by (with_reducible repeat (first | apply Kd.R_alloc | apply Kd.R_drewN | apply Kd.R_drew)); exact HO_3.out⟩, ⟨by repeat (first | (with_reducible first | exact HB.out | apply below_alloc | apply pw_below_drewN | apply below_drew1) | exact HB.out | exact Below.refl _ _)⟩⟩

end Go.Proofs.Ytdhlhbhclggheaa.Q
