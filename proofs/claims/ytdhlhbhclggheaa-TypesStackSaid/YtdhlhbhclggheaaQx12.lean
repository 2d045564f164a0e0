-- Written by a program of this session (wip/tools: patched print) for this claim. Not trusted: Lean checks it.
import Derived.Test.YtdhlhbhclggheaaQx0
import Derived.Test.YtdhlhbhclggheaaQx1
import Derived.Test.YtdhlhbhclggheaaQx11
namespace Go.Proofs.Ytdhlhbhclggheaa.Q
open Go.RowKit Go.Proofs.Ytdhlhbhclggheaa.P Go.Proofs.Ytdhlhbhclggheaa.D Go.Proofs.YtdhlhbhclggheaaW.PrintWords Go.Proofs.YtdhlhbhclggheaaW.PrintLast Go.Proofs.YtdhlhbhclggheaaW.PrintMore
attribute [local go_sem] max2_int min2_int max_two min_two max_three min_three max_four min_four   -- for this text's walks alone
set_option linter.unusedVariables false
set_option linter.unusedSimpArgs false

/-! ### camshaftref07_Deep: function 12 -/
def camshaftref07_Deep.l0 : Nat → List ByteArray → Int → Int → Int → Option (Int × Int)
 | 0, _, _, _, _ => none
 | k + 1, x4, x5, x6, x7 => if x7 < (x4.length : Int) then (if 0 ≤ x7 then (camshaftref07_Deep.l0 k x4 x5 (mx x6 ((rdOf ByteArray.empty x4 x7).size : Int)) (wrap64 (x7 + 1))) else (none)) else (some (x6, x5))
def camshaftref07_Deep.f (k : Nat) (l0 : List (S37)) : Option (Int × Int) := (camshaftref07_Stacks.f k l0).bind fun bt288 => (camshaftref07_Deep.l0 k bt288.1 bt288.2 0 0)
theorem camshaftref07_Deep.mono_l : ∀ k, (∀ y0 y1 y2 y3, LeO (camshaftref07_Deep.l0 k y0 y1 y2 y3) (camshaftref07_Deep.l0 (k + 1) y0 y1 y2 y3))
 | 0 => fun _ _ _ _ r h => by simp [camshaftref07_Deep.l0] at h
 | k + 1 => by
  have ih0 := camshaftref07_Deep.mono_l k
  ·intro y0 y1 y2 y3
   unfold camshaftref07_Deep.l0
   repeat' first
   | (with_reducible exact ih0 _ _ _ _)
   | (with_reducible exact camshaftref07_Stacks.mono _ _)
   | (with_reducible exact LeO.refl _)
   | (with_reducible exact LeO.none _)
   | (with_reducible refine LeO.ite ?_ ?_)
   | (with_reducible refine LeO.bind ?_ (fun _ => ?_))
   | exact ih0 _ _ _ _
   | exact camshaftref07_Stacks.mono _ _
   | exact LeO.none _
   | refine LeO.ite ?_ ?_
   | refine LeO.bind ?_ (fun _ => ?_)
theorem camshaftref07_Deep.mono : ∀ a0 k, LeO (camshaftref07_Deep.f k a0) (camshaftref07_Deep.f (k + 1) a0) := by
 intro a0 k
 have ih0 := camshaftref07_Deep.mono_l k
 unfold camshaftref07_Deep.f
 repeat' first
   | (with_reducible exact ih0 _ _ _ _)
   | (with_reducible exact camshaftref07_Stacks.mono _ _)
   | (with_reducible exact LeO.refl _)
   | (with_reducible exact LeO.none _)
   | (with_reducible refine LeO.ite ?_ ?_)
   | (with_reducible refine LeO.bind ?_ (fun _ => ?_))
   | exact ih0 _ _ _ _
   | exact camshaftref07_Stacks.mono _ _
   | exact LeO.none _
   | refine LeO.ite ?_ ?_
   | refine LeO.bind ?_ (fun _ => ?_)
set_option maxHeartbeats 8000000 in
set_option maxRecDepth 100000 in
theorem camshaftref07_Deep.calls (k : Nat) (A0 : Option Addr) (c0 : Nat) (l0 : List (S37)) (r1 : Int) (r2 : Int) (w : World) (hr0 : Kd.C k37 w A0 l0.length l0) (hc0 : l0.length ≤ c0) (h : camshaftref07_Deep.f k l0 = some (r1, r2)) :
  Calls Try.prog 12 #[.slice A0 l0.length c0] w fun e w' => e = .returned (.tuple #[.int .i64 r1, .int .i64 r2]) ∧ Below w.heap.size w w' := by
 have HR0 := Aside0.mk hr0
 have HC0 := Aside0.mk hc0
 clear hr0 hc0
 have HB := Aside0.mk (Below.refl w.heap.size w)
 have H : ((camshaftref07_Stacks.f k l0).bind fun bt288 => (camshaftref07_Deep.l0 k bt288.1 bt288.2 0 0)) = some (r1, r2) := h
 clear h
 replace H := Option.bind_eq_some_iff.mp H
 obtain ⟨⟨t288, t289⟩, A20, H⟩ := H
 replace H : (camshaftref07_Deep.l0 k t288 t289 0 0) = some (r1, r2) := H
 have A2 := Aside0.mk A20
 clear A20
 have H' := Aside0.mk H
 clear H
 go_enter Try.func12, Try.ntmps12
 go_wp2_with (first | ((with_reducible refine gate_callee (f := 10) rfl ?_); refine goesL_ (some 10) rfl rfl Try.func10 (by kernel_rfl) rfl #[.slice A0 l0.length c0] rfl am_ ?_; (with_reducible refine (camshaftref07_Stacks.calls k _ _ l0 t288 t289 _ ?side1 ?side2 A2.out).mono ?_); (case side1 => repeat (first | exact HR0.out | (with_reducible refine Kd.C_alloc ?_ _) | (with_reducible refine Kd.C_drewN ?_ _) | (with_reducible refine Kd.C_drew ?_))); (case side2 => exact HC0.out); rintro e w3 ⟨v290, rfl, ho0, hb⟩; refine ⟨_, rfl, ?_⟩; have n0_ := Aside0.mk (Kd.R_lower ho0 (below_size ab_)); have n1_ := Aside0.mk (below_step ab_ hb); clear HB; have HO291 := n0_; have HB := n1_; clear n0_ n1_; (try clear hb); (try clear hb2); (try clear hk); (try clear hi); (try clear ho0)))
 go_loopg [6, 7] k (fun kq v6 v7 w' => ∃ (x6_1 : Int) (x7_1 : Int), v6 = .int .i64 x6_1 ∧ v7 = .int .i64 x7_1 ∧ Aside0 (camshaftref07_Deep.l0 kq t288 t289 x6_1 x7_1 = some (r1, r2)) ∧ Aside0 (kq ≤ k) ∧ Aside0 (Kd.R Kd.string 9 w' w.heap.size (fun _ => True) v290 t288) ∧ Aside0 (Below w.heap.size w w'))
 case atStart => exact ⟨(0), (0), (by first | rfl | (simp; done) | (simp [*]; done)), (by first | rfl | (simp; done) | (simp [*]; done)), H', ⟨Nat.le_refl _⟩, ⟨by (with_reducible repeat (first | apply Kd.R_alloc | apply Kd.R_drewN | apply Kd.R_drew)); exact HO291.out⟩, ⟨by repeat (first | (with_reducible first | exact HB.out | apply below_alloc | apply pw_below_drewN | apply below_drew1) | exact HB.out)⟩⟩
 case round =>
  clear H'
  try clear c1
  try clear p2
  obtain ⟨x6_1, x7_1, rfl, rfl, HA, HK1, HO_4, HB⟩ := hrel
  cases gk with
  | zero => exact absurd HA.out (by simp [camshaftref07_Deep.l0])
  | succ k1 =>
   have H := HA.out
   clear HA
   simp only [camshaftref07_Deep.l0] at H
   by_cases c4 : x7_1 < (t288.length : Int)
   rotate_left
   ·rw [if_neg c4] at H
    have c4b0 : decide (x7_1 < (t288.length : Int)) = false := decide_eq_false c4
    clear c4
    simp only [Option.some.injEq, Prod.mk.injEq] at H
    obtain ⟨rfl, rfl⟩ := H
    obtain ⟨Ao8, co8, eo8⟩ := Kd.R_slice HO_4.out
    subst eo8
    go_wp2
    go_ret2
    exact ⟨by first | rfl | (simp [errW_none, errW_some] <;> rfl) | (simp [*, errW_none, errW_some] <;> rfl), by repeat (first | (with_reducible first | exact HB.out | apply below_alloc | apply pw_below_drewN | apply below_drew1) | exact HB.out | exact Below.refl _ _)⟩
   rw [if_pos c4] at H
   have c4b0 : decide (x7_1 < (t288.length : Int)) = true := decide_eq_true c4
   clear c4
   by_cases c5 : 0 ≤ x7_1
   rotate_left
   ·rw [if_neg c5] at H
    exact absurd H (by simp)
   rw [if_pos c5] at H
   have c5b0 : decide (0 ≤ x7_1) = true := decide_eq_true c5
   clear c5
   obtain ⟨ji6, hji6⟩ : ∃ j_ : Int, (mx x6_1 ((rdOf ByteArray.empty t288 x7_1).size : Int)) = j_ := ⟨_, rfl⟩
   replace H : (camshaftref07_Deep.l0 k1 t288 t289 ji6 (wrap64 (x7_1 + 1))) = some (r1, r2) := by first | (rw [hji6] at H; exact H) | (simp only [hji6] at H ⊢; exact H)
   have hji6_ : (if x6_1 < ((rdOf ByteArray.empty t288 x7_1).size : Int) then ((rdOf ByteArray.empty t288 x7_1).size : Int) else x6_1) = ji6 := hji6
   have H' := Aside0.mk H
   clear H
   obtain ⟨Ao7, co7, eo7⟩ := Kd.R_slice HO_4.out
   subst eo7
   have p292 : 0 ≤ (x7_1 : Int) := of_decide_eq_true as_
   have q292 : x7_1 < (t288.length : Int) := of_decide_eq_true as_
   obtain ⟨ad292, e292, hx292_0⟩ := Kd.at_string (Kd.R_reads' HO_4.out).2.2 x7_1 p292 q292
   cases e292
   replace p292 := eq_true p292
   replace q292 := eq_true q292
   go_wp2
   go_roundg k1
   case measure => have := HK1.out; omega
   case rel => exact ⟨(ji6), (wrap64 (x7_1 + 1)), (by first | rfl | (simp; done) | (simp only [← hji6] <;> (first | rfl | simp)) | (simp [*]; done)), (by first | rfl | (simp; done) | (simp [*]; done)), H', ⟨by have := HK1.out; omega⟩, ⟨by (with_reducible repeat (first | apply Kd.R_alloc | apply Kd.R_drewN | apply Kd.R_drew)); exact HO_4.out⟩, ⟨by repeat (first | (with_reducible first | exact HB.out | apply below_alloc | apply pw_below_drewN | apply below_drew1) | exact HB.out | exact Below.refl _ _)⟩⟩

/-! ### camshaftlaw07_TypesStack: function 3 -/
def camshaftlaw07_TypesStack.f (k : Nat) (l0 : List (S37)) : Option (Bool) := if (l0.length : Int) > 250 then ((camshaftlaw07_known.f k).bind fun t293 => (some t293)) else ((types_Stacks.f k l0).bind fun bt294 => ((camshaftref07_Stacks.f k l0).bind fun bt298 => ((types_Deep.f k l0).bind fun bt302 => ((camshaftref07_Deep.f k l0).bind fun bt304 => ((camshaftref07_Same.f k bt294.1 bt298.1).bind fun t306 => (if t306 = true then (if bt294.2 = bt298.2 then (if bt302.1 = bt304.1 then (if bt302.2 = bt304.2 then ((camshaftlaw07_known.f k).bind fun t307 => (some t307)) else (some false)) else (some false)) else (some false)) else (some false)))))))
theorem camshaftlaw07_TypesStack.mono : ∀ a0 k, LeO (camshaftlaw07_TypesStack.f k a0) (camshaftlaw07_TypesStack.f (k + 1) a0) := by
 intro a0 k
 unfold camshaftlaw07_TypesStack.f
 repeat' first
   | (with_reducible exact camshaftlaw07_known.mono _)
   | (with_reducible exact camshaftref07_Deep.mono _ _)
   | (with_reducible exact camshaftref07_Same.mono _ _ _)
   | (with_reducible exact camshaftref07_Stacks.mono _ _)
   | (with_reducible exact types_Deep.mono _ _)
   | (with_reducible exact types_Stacks.mono _ _)
   | (with_reducible exact LeO.refl _)
   | (with_reducible exact LeO.none _)
   | (with_reducible refine LeO.ite ?_ ?_)
   | (with_reducible refine LeO.bind ?_ (fun _ => ?_))
   | exact camshaftlaw07_known.mono _
   | exact camshaftref07_Deep.mono _ _
   | exact camshaftref07_Same.mono _ _ _
   | exact camshaftref07_Stacks.mono _ _
   | exact types_Deep.mono _ _
   | exact types_Stacks.mono _ _
   | exact LeO.none _
   | refine LeO.ite ?_ ?_
   | refine LeO.bind ?_ (fun _ => ?_)
set_option maxHeartbeats 8000000 in
set_option maxRecDepth 100000 in
theorem camshaftlaw07_TypesStack.calls (k : Nat) (A0 : Option Addr) (c0 : Nat) (l0 : List (S37)) (r : Bool) (w : World) (hr0 : Kd.C k37 w A0 l0.length l0) (hc0 : l0.length ≤ c0) (h : camshaftlaw07_TypesStack.f k l0 = some r) (ht : r = true) :
  Calls Try.prog 3 #[.slice A0 l0.length c0] w fun e w' => e = .returned (.bool r) ∧ Below w.heap.size w w' := by
 have HT := Aside0.mk ht
 clear ht
 have HR0 := Aside0.mk hr0
 have HC0 := Aside0.mk hc0
 clear hr0 hc0
 have HB := Aside0.mk (Below.refl w.heap.size w)
 have H : (if (l0.length : Int) > 250 then ((camshaftlaw07_known.f k).bind fun t293 => (some t293)) else ((types_Stacks.f k l0).bind fun bt294 => ((camshaftref07_Stacks.f k l0).bind fun bt298 => ((types_Deep.f k l0).bind fun bt302 => ((camshaftref07_Deep.f k l0).bind fun bt304 => ((camshaftref07_Same.f k bt294.1 bt298.1).bind fun t306 => (if t306 = true then (if bt294.2 = bt298.2 then (if bt302.1 = bt304.1 then (if bt302.2 = bt304.2 then ((camshaftlaw07_known.f k).bind fun t307 => (some t307)) else (some false)) else (some false)) else (some false)) else (some false)))))))) = some r := h
 clear h
 by_cases c2 : (l0.length : Int) > 250
 ·rw [if_pos c2] at H
  have c2b0 : decide (250 < (l0.length : Int)) = true := decide_eq_true c2
  have c2b1 : decide (250 < l0.length) = true := decide_eq_true (by omega)
  clear c2
  replace H := Option.bind_eq_some_iff.mp H
  obtain ⟨t293, A30, H⟩ := H
  replace H : (some t293) = some r := H
  have A3 := Aside0.mk A30
  clear A30
  obtain rfl := Option.some.inj H
  go_enter Try.func3, Try.ntmps3
  go_wp2_with (first | ((with_reducible refine gate_callee (f := 8) rfl ?_); refine goesL_ (some 14) rfl rfl Try.func8 (by kernel_rfl) rfl #[] rfl am_ ?_; (with_reducible refine (camshaftlaw07_known.calls k  t293 _ A3.out).mono ?_); rintro e w4 ⟨rfl, hb⟩; refine ⟨_, rfl, ?_⟩; have n0_ := Aside0.mk (below_step ab_ hb); clear HB; have HB := n0_; clear n0_; (try clear hb); (try clear hb2); (try clear hk); (try clear hi)))
  go_ret
  exact ⟨by first | rfl | (simp [errW_none, errW_some] <;> rfl) | (simp [*, errW_none, errW_some] <;> rfl), by repeat (first | (with_reducible first | exact HB.out | apply below_alloc | apply pw_below_drewN | apply below_drew1) | exact HB.out | exact Below.refl _ _)⟩
 rw [if_neg c2] at H
 have c2b0 : decide (250 < (l0.length : Int)) = false := decide_eq_false c2
 have c2b1 : decide (250 < l0.length) = false := decide_eq_false (by omega)
 clear c2
 replace H := Option.bind_eq_some_iff.mp H
 obtain ⟨⟨t294, t295⟩, A50, H⟩ := H
 replace H : ((camshaftref07_Stacks.f k l0).bind fun bt298 => ((types_Deep.f k l0).bind fun bt302 => ((camshaftref07_Deep.f k l0).bind fun bt304 => ((camshaftref07_Same.f k t294 bt298.1).bind fun t306 => (if t306 = true then (if t295 = bt298.2 then (if bt302.1 = bt304.1 then (if bt302.2 = bt304.2 then ((camshaftlaw07_known.f k).bind fun t307 => (some t307)) else (some false)) else (some false)) else (some false)) else (some false)))))) = some r := H
 have A5 := Aside0.mk A50
 clear A50
 replace H := Option.bind_eq_some_iff.mp H
 obtain ⟨⟨t298, t299⟩, A60, H⟩ := H
 replace H : ((types_Deep.f k l0).bind fun bt302 => ((camshaftref07_Deep.f k l0).bind fun bt304 => ((camshaftref07_Same.f k t294 t298).bind fun t306 => (if t306 = true then (if t295 = t299 then (if bt302.1 = bt304.1 then (if bt302.2 = bt304.2 then ((camshaftlaw07_known.f k).bind fun t307 => (some t307)) else (some false)) else (some false)) else (some false)) else (some false))))) = some r := H
 have A6 := Aside0.mk A60
 clear A60
 replace H := Option.bind_eq_some_iff.mp H
 obtain ⟨⟨t302, t303⟩, A70, H⟩ := H
 replace H : ((camshaftref07_Deep.f k l0).bind fun bt304 => ((camshaftref07_Same.f k t294 t298).bind fun t306 => (if t306 = true then (if t295 = t299 then (if t302 = bt304.1 then (if t303 = bt304.2 then ((camshaftlaw07_known.f k).bind fun t307 => (some t307)) else (some false)) else (some false)) else (some false)) else (some false)))) = some r := H
 have A7 := Aside0.mk A70
 clear A70
 replace H := Option.bind_eq_some_iff.mp H
 obtain ⟨⟨t304, t305⟩, A80, H⟩ := H
 replace H : ((camshaftref07_Same.f k t294 t298).bind fun t306 => (if t306 = true then (if t295 = t299 then (if t302 = t304 then (if t303 = t305 then ((camshaftlaw07_known.f k).bind fun t307 => (some t307)) else (some false)) else (some false)) else (some false)) else (some false))) = some r := H
 have A8 := Aside0.mk A80
 clear A80
 replace H := Option.bind_eq_some_iff.mp H
 obtain ⟨t306, A90, H⟩ := H
 replace H : (if t306 = true then (if t295 = t299 then (if t302 = t304 then (if t303 = t305 then ((camshaftlaw07_known.f k).bind fun t307 => (some t307)) else (some false)) else (some false)) else (some false)) else (some false)) = some r := H
 have A9 := Aside0.mk A90
 clear A90
 by_cases c10 : t306 = true
 rotate_left
 ·replace c10 := Bool.eq_false_iff.mpr c10
  subst c10
  have H1 : (some false) = some r := by rw [if_neg (show ¬ (false = true) by decide)] at H; exact H
  clear H
  have H := H1
  clear H1
  exact absurd ((Option.some.inj H).trans HT.out) (by decide)
 subst c10
 have H1 : (if t295 = t299 then (if t302 = t304 then (if t303 = t305 then ((camshaftlaw07_known.f k).bind fun t307 => (some t307)) else (some false)) else (some false)) else (some false)) = some r := by rw [if_pos rfl] at H; exact H
 clear H
 have H := H1
 clear H1
 by_cases c11 : t295 = t299
 rotate_left
 ·rw [if_neg c11] at H
  have c11b0 : (t295 == t299) = false := beq_eq_false_iff_ne.mpr c11
  have c11b1 : (t295 != t299) = true := bne_iff_ne.mpr c11
  exact absurd ((Option.some.inj H).trans HT.out) (by decide)
 rw [if_pos c11] at H
 have c11b0 : (t295 == t299) = true := beq_iff_eq.mpr c11
 have c11b1 : (t295 != t299) = false := bne_eq_false_iff_eq.mpr c11
 clear c11
 by_cases c12 : t302 = t304
 rotate_left
 ·rw [if_neg c12] at H
  have c12b0 : (t302 == t304) = false := beq_eq_false_iff_ne.mpr c12
  have c12b1 : (t302 != t304) = true := bne_iff_ne.mpr c12
  exact absurd ((Option.some.inj H).trans HT.out) (by decide)
 rw [if_pos c12] at H
 have c12b0 : (t302 == t304) = true := beq_iff_eq.mpr c12
 have c12b1 : (t302 != t304) = false := bne_eq_false_iff_eq.mpr c12
 clear c12
 by_cases c13 : t303 = t305
 rotate_left
 ·rw [if_neg c13] at H
  have c13b0 : (t303 == t305) = false := beq_eq_false_iff_ne.mpr c13
  have c13b1 : (t303 != t305) = true := bne_iff_ne.mpr c13
  exact absurd ((Option.some.inj H).trans HT.out) (by decide)
 rw [if_pos c13] at H
 have c13b0 : (t303 == t305) = true := beq_iff_eq.mpr c13
 have c13b1 : (t303 != t305) = false := bne_eq_false_iff_eq.mpr c13
 clear c13
 replace H := Option.bind_eq_some_iff.mp H
 obtain ⟨t307, A140, H⟩ := H
 replace H : (some t307) = some r := H
 have A14 := Aside0.mk A140
 clear A140
 obtain rfl := Option.some.inj H
 go_enter Try.func3, Try.ntmps3
 go_wp2_with (first | ((with_reducible refine gate_callee (f := 9) rfl ?_); refine goesL_ (some 17) rfl rfl Try.func9 (by kernel_rfl) rfl #[.slice A0 l0.length c0] rfl am_ ?_; (with_reducible refine (types_Stacks.calls k _ _ l0 t294 t295 _ ?side1 ?side2 A5.out).mono ?_); (case side1 => repeat (first | exact HR0.out | (with_reducible refine Kd.C_alloc ?_ _) | (with_reducible refine Kd.C_drewN ?_ _) | (with_reducible refine Kd.C_drew ?_))); (case side2 => exact HC0.out); rintro e w15 ⟨v296, rfl, ho0, hb⟩; refine ⟨_, rfl, ?_⟩; have n0_ := Aside0.mk (Kd.R_lower ho0 (below_size ab_)); have n1_ := Aside0.mk (below_step ab_ hb); clear HB; have HO297 := n0_; have HB := n1_; clear n0_ n1_; (try clear hb); (try clear hb2); (try clear hk); (try clear hi); (try clear ho0)) | ((with_reducible refine gate_callee (f := 10) rfl ?_); refine goesL_ (some 22) rfl rfl Try.func10 (by kernel_rfl) rfl #[.slice A0 l0.length c0] rfl am_ ?_; (with_reducible refine (camshaftref07_Stacks.calls k _ _ l0 t298 t299 _ ?side1 ?side2 A6.out).mono ?_); (case side1 => repeat (first | exact (Kd.C_below HR0.out HB.out) | (with_reducible refine Kd.C_alloc ?_ _) | (with_reducible refine Kd.C_drewN ?_ _) | (with_reducible refine Kd.C_drew ?_))); (case side2 => exact HC0.out); rintro e w16 ⟨v300, rfl, ho0, hb⟩; refine ⟨_, rfl, ?_⟩; have n0_ := Aside0.mk (Kd.R_elder' (by (with_reducible repeat (first | apply Kd.R_alloc | apply Kd.R_drewN | apply Kd.R_drew)); exact HO297.out) (Kd.R_base ho0) hb); have n1_ := Aside0.mk (Kd.R_lower (Kd.R_new' ho0 (Kd.R_lt (by (with_reducible repeat (first | apply Kd.R_alloc | apply Kd.R_drewN | apply Kd.R_drew)); exact HO297.out))) (below_size ab_)); have n2_ := Aside0.mk (below_step ab_ hb); clear HO297; clear HB; have HO297 := n0_; have HO301 := n1_; have HB := n2_; clear n0_ n1_ n2_; (try clear hb); (try clear hb2); (try clear hk); (try clear hi); (try clear ho0)) | ((with_reducible refine gate_callee (f := 11) rfl ?_); refine goesL_ (some 27) rfl rfl Try.func11 (by kernel_rfl) rfl #[.slice A0 l0.length c0] rfl am_ ?_; (with_reducible refine (types_Deep.calls k _ _ l0 t302 t303 _ ?side1 ?side2 A7.out).mono ?_); (case side1 => repeat (first | exact (Kd.C_below HR0.out HB.out) | (with_reducible refine Kd.C_alloc ?_ _) | (with_reducible refine Kd.C_drewN ?_ _) | (with_reducible refine Kd.C_drew ?_))); (case side2 => exact HC0.out); rintro e w17 ⟨rfl, hb⟩; refine ⟨_, rfl, ?_⟩; have n0_ := Aside0.mk (Kd.R_below (by (with_reducible repeat (first | apply Kd.R_alloc | apply Kd.R_drewN | apply Kd.R_drew)); exact HO297.out) hb); have n1_ := Aside0.mk (Kd.R_below (by (with_reducible repeat (first | apply Kd.R_alloc | apply Kd.R_drewN | apply Kd.R_drew)); exact HO301.out) hb); have n2_ := Aside0.mk (below_step ab_ hb); clear HO297; clear HO301; clear HB; have HO297 := n0_; have HO301 := n1_; have HB := n2_; clear n0_ n1_ n2_; (try clear hb); (try clear hb2); (try clear hk); (try clear hi)) | ((with_reducible refine gate_callee (f := 12) rfl ?_); refine goesL_ (some 32) rfl rfl Try.func12 (by kernel_rfl) rfl #[.slice A0 l0.length c0] rfl am_ ?_; (with_reducible refine (camshaftref07_Deep.calls k _ _ l0 t304 t305 _ ?side1 ?side2 A8.out).mono ?_); (case side1 => repeat (first | exact (Kd.C_below HR0.out HB.out) | (with_reducible refine Kd.C_alloc ?_ _) | (with_reducible refine Kd.C_drewN ?_ _) | (with_reducible refine Kd.C_drew ?_))); (case side2 => exact HC0.out); rintro e w18 ⟨rfl, hb⟩; refine ⟨_, rfl, ?_⟩; have n0_ := Aside0.mk (Kd.R_below (by (with_reducible repeat (first | apply Kd.R_alloc | apply Kd.R_drewN | apply Kd.R_drew)); exact HO297.out) hb); have n1_ := Aside0.mk (Kd.R_below (by (with_reducible repeat (first | apply Kd.R_alloc | apply Kd.R_drewN | apply Kd.R_drew)); exact HO301.out) hb); have n2_ := Aside0.mk (below_step ab_ hb); clear HO297; clear HO301; clear HB; have HO297 := n0_; have HO301 := n1_; have HB := n2_; clear n0_ n1_ n2_; (try clear hb); (try clear hb2); (try clear hk); (try clear hi); obtain ⟨Ao19, co19, eo19⟩ := Kd.R_slice HO297.out; subst eo19; obtain ⟨Ao20, co20, eo20⟩ := Kd.R_slice HO301.out; subst eo20) | ((with_reducible refine gate_callee (f := 13) rfl ?_); refine goesL_ (some 37) rfl rfl Try.func13 (by kernel_rfl) rfl #[.slice Ao19 t294.length co19, .slice Ao20 t298.length co20] rfl am_ ?_; (with_reducible refine (camshaftref07_Same.calls k _ _ t294 _ _ t298 true _ ?side1 ?side2 ?side3 ?side4 A9.out).mono ?_); (case side1 => repeat (first | exact (Kd.R_reads' HO297.out).2.2 | (with_reducible refine Kd.C_alloc ?_ _) | (with_reducible refine Kd.C_drewN ?_ _) | (with_reducible refine Kd.C_drew ?_))); (case side2 => exact (Kd.R_reads' HO297.out).2.1); (case side3 => repeat (first | exact (Kd.R_reads' HO301.out).2.2 | (with_reducible refine Kd.C_alloc ?_ _) | (with_reducible refine Kd.C_drewN ?_ _) | (with_reducible refine Kd.C_drew ?_))); (case side4 => exact (Kd.R_reads' HO301.out).2.1); rintro e w' ⟨rfl, ⟨nd, rfl⟩⟩; refine ⟨_, rfl, ?_⟩) | ((with_reducible refine gate_callee (f := 8) rfl ?_); (with_reducible refine gate_dst (N := 54) rfl ?_); (refine gate_guard (by rfl) ?_; dsimp only); refine goesL_ (some 54) rfl rfl Try.func8 (by kernel_rfl) rfl #[] rfl am_ ?_; (with_reducible refine (camshaftlaw07_known.calls k  t307 _ A14.out).mono ?_); rintro e w21 ⟨rfl, hb⟩; refine ⟨_, rfl, ?_⟩; have n0_ := Aside0.mk (Kd.R_below (by (with_reducible repeat (first | apply Kd.R_alloc | apply Kd.R_drewN | apply Kd.R_drew)); exact HO297.out) hb); have n1_ := Aside0.mk (Kd.R_below (by (with_reducible repeat (first | apply Kd.R_alloc | apply Kd.R_drewN | apply Kd.R_drew)); exact HO301.out) hb); have n2_ := Aside0.mk (below_step ab_ hb); clear HO297; clear HO301; clear HB; have HO297 := n0_; have HO301 := n1_; have HB := n2_; clear n0_ n1_ n2_; (try clear hb); (try clear hb2); (try clear hk); (try clear hi)))
 go_ret
 exact ⟨by first | rfl | (simp [errW_none, errW_some] <;> rfl) | (simp [*, errW_none, errW_some] <;> rfl), by repeat (first | (with_reducible first | exact HB.out | apply below_alloc | apply pw_below_drewN | apply below_drew1) | exact HB.out | exact Below.refl _ _)⟩

/-- THE ONE PURE STATEMENT of camshaftlaw07_TypesStack. -/
def camshaftlaw07_TypesStack.Pure : Prop := ∀ (l0 : List S37), l0.length * 24 ≤ 140737488351232 → (∀ x ∈ l0, (Lit.int .i64 x.f0).wf = true ∧ (Lit.int .i64 x.f1).wf = true ∧ (Lit.int .i64 x.f2).wf = true) → ∃ k, camshaftlaw07_TypesStack.f k l0 = some true
theorem camshaftlaw07_TypesStack.walk (P : camshaftlaw07_TypesStack.Pure) (A0 : Option Addr) (c0 : Nat) (l0 : List S37) (w : World) (hr0 : Kd.C k37 w A0 l0.length l0) (hc0 : l0.length ≤ c0) (y0 : l0.length * 24 ≤ 140737488351232) (hw0 : ∀ x ∈ l0, (Lit.int .i64 x.f0).wf = true ∧ (Lit.int .i64 x.f1).wf = true ∧ (Lit.int .i64 x.f2).wf = true) :
  Calls Try.prog 3 #[.slice A0 l0.length c0] w fun e w' => e = .returned (.bool true) ∧ Below w.heap.size w w' := by
 obtain ⟨k, h⟩ := P l0 y0 hw0
 refine (camshaftlaw07_TypesStack.calls k A0 c0 l0 true w hr0 hc0 h rfl).mono ?_
 rintro e w' ⟨rfl, hd⟩
 exact ⟨rfl, hd⟩

end Go.Proofs.Ytdhlhbhclggheaa.Q
