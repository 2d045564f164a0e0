-- Written by a program of this session (wip/tools: patched print) for this claim. Not trusted: Lean checks it.
import Derived.Test.YtnfoebbdmekbiaaPx0
import Derived.Test.YtnfoebbdmekbiaaPx6
namespace Go.Proofs.Ytnfoebbdmekbiaa.P
open Go.RowKit Go.Proofs.Ytnfoebbdmekbiaa.C Go.Proofs.YtnfoebbdmekbiaaW.PrintWords Go.Proofs.YtnfoebbdmekbiaaW.PrintLast Go.Proofs.YtnfoebbdmekbiaaW.PrintMore
attribute [local go_sem] max2_int min2_int max_two min_two max_three min_three max_four min_four   -- for this text's walks alone
set_option linter.unusedVariables false
set_option linter.unusedSimpArgs false

/-! ### camshaftlaw04_OpNames: function 9 -/
def camshaftlaw04_OpNames.j0 : Nat → Int → Int → ByteArray → ByteArray → Bool → Int → Int → Int → Option (Bool)
  | 0, _, _, _, _, _, _, _, _ => none
  | k + 1, x0, x1, x7, x8, x9, x305000, x305001, x305002 => if ((x7.toList != ([] : List UInt8)) == x9) = true then ((op_Args.f x0).bind fun t307 => (if ((decide (t307 ≥ 0)) == x9) = true then (if x7.toList = ([] : List UInt8) then ((op_Name.f x305000).bind fun t308 => (if t308.toList = ([] : List UInt8) then ((op_Right.f x305000 x305001 x305002).bind fun t309 => (if t309 = true then (some false) else ((camshaftlaw04_known.f k).bind fun t310 => (some t310)))) else ((camshaftlaw04_known.f k).bind fun t311 => (some t311)))) else (if ((x7.toList == x8.toList) == (x0 == x1)) = true then ((op_Name.f x305000).bind fun t312 => (if t312.toList = ([] : List UInt8) then ((op_Right.f x305000 x305001 x305002).bind fun t313 => (if t313 = true then (some false) else ((camshaftlaw04_known.f k).bind fun t314 => (some t314)))) else ((camshaftlaw04_known.f k).bind fun t315 => (some t315)))) else (some false))) else (some false))) else (some false)
def camshaftlaw04_OpNames.f (k : Nat) (a0 : Int) (a1 : Int) (a2_0 : Int) (a2_1 : Int) (a2_2 : Int) : Option (Bool) := (op_Name.f a0).bind fun t305 => ((op_Name.f a1).bind fun t306 => (if a0 ≥ 1 then (camshaftlaw04_OpNames.j0 k a0 a1 t305 t306 (decide (a0 ≤ 25)) a2_0 a2_1 a2_2) else (camshaftlaw04_OpNames.j0 k a0 a1 t305 t306 false a2_0 a2_1 a2_2)))
theorem camshaftlaw04_OpNames.mono_l : ∀ k, (∀ y0 y1 y2 y3 y4 y5 y6 y7, LeO (camshaftlaw04_OpNames.j0 k y0 y1 y2 y3 y4 y5 y6 y7) (camshaftlaw04_OpNames.j0 (k + 1) y0 y1 y2 y3 y4 y5 y6 y7))
  | 0 => fun _ _ _ _ _ _ _ _ r h => by simp [camshaftlaw04_OpNames.j0] at h
  | k + 1 => by
    have ih0 := camshaftlaw04_OpNames.mono_l k
    · intro y0 y1 y2 y3 y4 y5 y6 y7
      unfold camshaftlaw04_OpNames.j0
      repeat' first
      | (with_reducible exact ih0 _ _ _ _ _ _ _ _)
      | (with_reducible exact camshaftlaw04_known.mono _)
      | (with_reducible exact LeO.refl _)
      | (with_reducible exact LeO.none _)
      | (with_reducible refine LeO.ite ?_ ?_)
      | (with_reducible refine LeO.bind ?_ (fun _ => ?_))
      | exact ih0 _ _ _ _ _ _ _ _
      | exact camshaftlaw04_known.mono _
      | exact LeO.none _
      | refine LeO.ite ?_ ?_
      | refine LeO.bind ?_ (fun _ => ?_)
theorem camshaftlaw04_OpNames.mono : ∀ a0 a1 a2 a3 a4 k, LeO (camshaftlaw04_OpNames.f k a0 a1 a2 a3 a4) (camshaftlaw04_OpNames.f (k + 1) a0 a1 a2 a3 a4) := by
  intro a0 a1 a2 a3 a4 k
  have ih0 := camshaftlaw04_OpNames.mono_l k
  unfold camshaftlaw04_OpNames.f
  repeat' first
      | (with_reducible exact ih0 _ _ _ _ _ _ _ _)
      | (with_reducible exact camshaftlaw04_known.mono _)
      | (with_reducible exact LeO.refl _)
      | (with_reducible exact LeO.none _)
      | (with_reducible refine LeO.ite ?_ ?_)
      | (with_reducible refine LeO.bind ?_ (fun _ => ?_))
      | exact ih0 _ _ _ _ _ _ _ _
      | exact camshaftlaw04_known.mono _
      | exact LeO.none _
      | refine LeO.ite ?_ ?_
      | refine LeO.bind ?_ (fun _ => ?_)
set_option maxHeartbeats 8000000 in
set_option maxRecDepth 100000 in
theorem camshaftlaw04_OpNames.calls (k : Nat) (a0 : Int) (a1 : Int) (a2_0 : Int) (a2_1 : Int) (a2_2 : Int) (r : Bool) (w : World) (h : camshaftlaw04_OpNames.f k a0 a1 a2_0 a2_1 a2_2 = some r) (ht : r = true) :
    Calls Try.prog 9 #[.int .i64 a0, .int .i64 a1, .agg #[.int .i64 a2_0, .int .i64 a2_1, .int .i64 a2_2]] w fun e w' => e = .returned (.bool r) ∧ Below w.heap.size w w' := by
  have hu23 := Try.underlying23
  have HT := Aside0.mk ht
  clear ht
  have HB := Aside0.mk (Below.refl w.heap.size w)
  have H : ((op_Name.f a0).bind fun t305 => ((op_Name.f a1).bind fun t306 => (if a0 ≥ 1 then (camshaftlaw04_OpNames.j0 k a0 a1 t305 t306 (decide (a0 ≤ 25)) a2_0 a2_1 a2_2) else (camshaftlaw04_OpNames.j0 k a0 a1 t305 t306 false a2_0 a2_1 a2_2)))) = some r := h
  clear h
  replace H := Option.bind_eq_some_iff.mp H
  obtain ⟨t305, A40, H⟩ := H
  replace H : ((op_Name.f a1).bind fun t306 => (if a0 ≥ 1 then (camshaftlaw04_OpNames.j0 k a0 a1 t305 t306 (decide (a0 ≤ 25)) a2_0 a2_1 a2_2) else (camshaftlaw04_OpNames.j0 k a0 a1 t305 t306 false a2_0 a2_1 a2_2))) = some r := H
  have A4 := Aside0.mk A40
  clear A40
  replace H := Option.bind_eq_some_iff.mp H
  obtain ⟨t306, A50, H⟩ := H
  replace H : (if a0 ≥ 1 then (camshaftlaw04_OpNames.j0 k a0 a1 t305 t306 (decide (a0 ≤ 25)) a2_0 a2_1 a2_2) else (camshaftlaw04_OpNames.j0 k a0 a1 t305 t306 false a2_0 a2_1 a2_2)) = some r := H
  have A5 := Aside0.mk A50
  clear A50
  have HC6 := Aside0.mk H
  clear H
  go_enter Try.func9, Try.ntmps9
  go_upto_region 3 with (first | ((with_reducible refine gate_dst (N := 5) rfl ?_); refine box_event ?hg (N := 5) ?hd (cs := #[.int .i64 a2_0, .int .i64 a2_1, .int .i64 a2_2]) (t := 23) ?hr ?_; (case hd => rfl); (case hg => rfl); (case hr => first | (go_simp; done) | (go_simp; rfl)); intro gb304 hg w7 hbox hb; have n0_ := Aside0.mk (below_step (by repeat (first | (with_reducible first | exact HB.out | apply below_alloc | apply pw_below_drewN | apply below_drew1) | exact HB.out)) hb); have n1_ := Aside0.mk (hbox); have n2_ := Aside0.mk ((by rw [hg]; exact (below_size (by repeat (first | (with_reducible first | exact HB.out | apply below_alloc | apply pw_below_drewN | apply below_drew1) | exact HB.out))) : w.heap.size ≤ gb304)); have n3_ := Aside0.mk ((by rw [hg]; exact (below_size (by repeat (first | (with_reducible first | exact HB.out | apply below_alloc | apply pw_below_drewN | apply below_drew1) | exact HB.out))) : w.heap.size ≤ gb304)); clear HB; have HB := n0_; have BK304 := n1_; have GW304 := n2_; have GE304 := n3_; clear n0_ n1_ n2_ n3_; clear hb hbox hg) | ((with_reducible refine gate_callee (f := 14) rfl ?_); refine goesL_ (some 11) rfl rfl Try.func14 (by kernel_rfl) rfl #[.int .i64 a0] rfl (by (try simp only [List.map_toArray, List.map_cons, List.map_nil]); first | done | rfl | (simp only [List.length_drop, List.length_take]; rfl)) ?_; (with_reducible refine (op_Name.calls a0 t305 _ A4.out).mono ?_); rintro e w8 ⟨rfl, hb⟩; refine ⟨_, rfl, ?_⟩; have n0_ := Aside0.mk (blk_below (g := gb304) (o := .cells #[.int .i64 a2_0, .int .i64 a2_1, .int .i64 a2_2] 23 (0, 0)) (by (with_reducible repeat (first | refine blk_drewN ?_ _ | refine blk_drew ?_ | refine blk_alloc ?_ _)); exact BK304.out) hb); have n1_ := Aside0.mk (below_step (by repeat (first | (with_reducible first | exact HB.out | apply below_alloc | apply pw_below_drewN | apply below_drew1 | refine below_set ?_ GE304.out) | exact HB.out)) hb); clear BK304; clear HB; have BK304 := n0_; have HB := n1_; clear n0_ n1_; (try clear hb); (try clear hb2); (try clear hk); (try clear hi)) | ((with_reducible refine gate_callee (f := 14) rfl ?_); refine goesL_ (some 13) rfl rfl Try.func14 (by kernel_rfl) rfl #[.int .i64 a1] rfl (by (try simp only [List.map_toArray, List.map_cons, List.map_nil]); first | done | rfl | (simp only [List.length_drop, List.length_take]; rfl)) ?_; (with_reducible refine (op_Name.calls a1 t306 _ A5.out).mono ?_); rintro e w9 ⟨rfl, hb⟩; refine ⟨_, rfl, ?_⟩; have n0_ := Aside0.mk (blk_below (g := gb304) (o := .cells #[.int .i64 a2_0, .int .i64 a2_1, .int .i64 a2_2] 23 (0, 0)) (by (with_reducible repeat (first | refine blk_drewN ?_ _ | refine blk_drew ?_ | refine blk_alloc ?_ _)); exact BK304.out) hb); have n1_ := Aside0.mk (below_step (by repeat (first | (with_reducible first | exact HB.out | apply below_alloc | apply pw_below_drewN | apply below_drew1 | refine below_set ?_ GE304.out) | exact HB.out)) hb); clear BK304; clear HB; have BK304 := n0_; have HB := n1_; clear n0_ n1_; (try clear hb); (try clear hb2); (try clear hk); (try clear hi)))
  (try simp only [Act.put, List.setIfInBounds_toArray, List.set_cons_zero, List.set_cons_succ])
  go_cut [9] (fun v9 wc => ∃ (kq : Nat) (x9_5 : Bool), v9 = .bool x9_5 ∧ Aside0 (camshaftlaw04_OpNames.j0 kq a0 a1 t305 t306 x9_5 a2_0 a2_1 a2_2 = some r) ∧ Aside0 (kq ≤ k) ∧ Aside0 (wc.heap[gb304]? = some (.cells #[.int .i64 a2_0, .int .i64 a2_1, .int .i64 a2_2] 23 (0, 0))) ∧ Aside0 (Below w.heap.size w wc))
  case first =>
    have H := HC6.out
    clear HC6
    by_cases c10 : a0 ≥ 1
    · rw [if_pos c10] at H
      have c10b0 : decide (1 ≤ a0) = true := decide_eq_true c10
      clear c10
      (first | rw [c10b0] | (simp only [i64_w, i32_w]; rw [c10b0]) | skip)
      have H' := Aside0.mk H
      clear H
      go_wp2
      go_meet
      case rel => exact ⟨_, (decide (a0 ≤ 25)), (by first | rfl | (simp; done) | (simp [*]; done)), H', ⟨by first | omega | exact Nat.le_refl _⟩, ⟨by (with_reducible repeat (first | refine blk_drewN ?_ _ | refine blk_drew ?_ | refine blk_alloc ?_ _)); exact BK304.out⟩, ⟨by repeat (first | (with_reducible first | exact HB.out | apply below_alloc | apply pw_below_drewN | apply below_drew1 | refine below_set ?_ GE304.out) | exact HB.out | exact Below.refl _ _)⟩⟩
    · rw [if_neg c10] at H
      have c10b0 : decide (1 ≤ a0) = false := decide_eq_false c10
      clear c10
      (first | rw [c10b0] | (simp only [i64_w, i32_w]; rw [c10b0]) | skip)
      have H' := Aside0.mk H
      clear H
      go_wp2
      go_meet
      case rel => exact ⟨_, (false), (by first | rfl | (simp; done) | (simp [*]; done)), H', ⟨by first | omega | exact Nat.le_refl _⟩, ⟨by (with_reducible repeat (first | refine blk_drewN ?_ _ | refine blk_drew ?_ | refine blk_alloc ?_ _)); exact BK304.out⟩, ⟨by repeat (first | (with_reducible first | exact HB.out | apply below_alloc | apply pw_below_drewN | apply below_drew1 | refine below_set ?_ GE304.out) | exact HB.out | exact Below.refl _ _)⟩⟩
  case rest =>
    clear HC6
    try clear c1
    try clear p2
    try clear c9
    try clear c10
    try clear c10b0
    obtain ⟨kq, x9_5, rfl, HA, HJ5, BK304, HB⟩ := hcut
    cases kq with
    | zero => exact absurd HA.out (by simp [camshaftlaw04_OpNames.j0])
    | succ kj5 =>
      have H := HA.out
      clear HA
      simp only [camshaftlaw04_OpNames.j0] at H
      by_cases c11 : ((t305.toList != ([] : List UInt8)) == x9_5) = true
      · rw [if_pos c11] at H
        have c11b0 : ((t305.toList != ([] : List UInt8)) == x9_5) = true := c11
        (try (have c11b1 : decide ((t305.toList != ([] : List UInt8)) = x9_5) = true := by simpa using c11))
        (try (have c11b2 : ((t305.toList != ([] : List UInt8)) == x9_5) = true := by simpa using c11))
        clear c11
        replace H := Option.bind_eq_some_iff.mp H
        obtain ⟨t307, A120, H⟩ := H
        replace H : (if ((decide (t307 ≥ 0)) == x9_5) = true then (if t305.toList = ([] : List UInt8) then ((op_Name.f a2_0).bind fun t308 => (if t308.toList = ([] : List UInt8) then ((op_Right.f a2_0 a2_1 a2_2).bind fun t309 => (if t309 = true then (some false) else ((camshaftlaw04_known.f kj5).bind fun t310 => (some t310)))) else ((camshaftlaw04_known.f kj5).bind fun t311 => (some t311)))) else (if ((t305.toList == t306.toList) == (a0 == a1)) = true then ((op_Name.f a2_0).bind fun t312 => (if t312.toList = ([] : List UInt8) then ((op_Right.f a2_0 a2_1 a2_2).bind fun t313 => (if t313 = true then (some false) else ((camshaftlaw04_known.f kj5).bind fun t314 => (some t314)))) else ((camshaftlaw04_known.f kj5).bind fun t315 => (some t315)))) else (some false))) else (some false)) = some r := H
        have A12 := Aside0.mk A120
        clear A120
        by_cases c13 : ((decide (t307 ≥ 0)) == x9_5) = true
        · rw [if_pos c13] at H
          have c13b0 : ((decide (t307 ≥ 0)) == x9_5) = true := c13
          (try (have c13b1 : decide ((decide (t307 ≥ 0)) = x9_5) = true := by simpa using c13))
          (try (have c13b2 : ((decide (t307 ≥ 0)) == x9_5) = true := by simpa using c13))
          clear c13
          by_cases c14 : t305.toList = ([] : List UInt8)
          · rw [if_pos c14] at H
            have c14b0 : (t305.toList == ([] : List UInt8)) = true := beq_iff_eq.mpr c14
            have c14b1 : (t305.toList != ([] : List UInt8)) = false := bne_eq_false_iff_eq.mpr c14
            clear c14
            replace H := Option.bind_eq_some_iff.mp H
            obtain ⟨t308, A150, H⟩ := H
            replace H : (if t308.toList = ([] : List UInt8) then ((op_Right.f a2_0 a2_1 a2_2).bind fun t309 => (if t309 = true then (some false) else ((camshaftlaw04_known.f kj5).bind fun t310 => (some t310)))) else ((camshaftlaw04_known.f kj5).bind fun t311 => (some t311))) = some r := H
            have A15 := Aside0.mk A150
            clear A150
            by_cases c16 : t308.toList = ([] : List UInt8)
            · rw [if_pos c16] at H
              have c16b0 : (t308.toList == ([] : List UInt8)) = true := beq_iff_eq.mpr c16
              have c16b1 : (t308.toList != ([] : List UInt8)) = false := bne_eq_false_iff_eq.mpr c16
              clear c16
              replace H := Option.bind_eq_some_iff.mp H
              obtain ⟨t309, A170, H⟩ := H
              replace H : (if t309 = true then (some false) else ((camshaftlaw04_known.f kj5).bind fun t310 => (some t310))) = some r := H
              have A17 := Aside0.mk A170
              clear A170
              by_cases c18 : t309 = true
              · subst c18
                have H1 : (some false) = some r := by rw [if_pos rfl] at H; exact H
                clear H
                have H := H1
                clear H1
                exact absurd ((Option.some.inj H).trans HT.out) (by decide)
              · replace c18 := Bool.eq_false_iff.mpr c18
                subst c18
                have H1 : ((camshaftlaw04_known.f kj5).bind fun t310 => (some t310)) = some r := by rw [if_neg (show ¬ (false = true) by decide)] at H; exact H
                clear H
                have H := H1
                clear H1
                replace H := Option.bind_eq_some_iff.mp H
                obtain ⟨t310, A190, H⟩ := H
                replace H : (some t310) = some r := H
                have A19 := Aside0.mk A190
                clear A190
                obtain rfl := Option.some.inj H
                have X9 : x9_5 = (t305.toList != ([] : List UInt8)) := (eq_of_beq c11b0).symm
                rw [c14b1] at X9
                subst X9
                have c13d := eq_of_beq c13b0
                go_wp2_with (first | (go_at_call 16; (with_reducible refine (op_Args.calls a0 t307 _ A12.out).mono ?_); rintro e w20 ⟨rfl, hb⟩; have n0_ := Aside0.mk (blk_below (g := gb304) (o := .cells #[.int .i64 a2_0, .int .i64 a2_1, .int .i64 a2_2] 23 (0, 0)) (by (with_reducible repeat (first | refine blk_drewN ?_ _ | refine blk_drew ?_ | refine blk_alloc ?_ _)); exact BK304.out) hb); have n1_ := Aside0.mk (below_step (by repeat (first | (with_reducible first | exact HB.out | apply below_alloc | apply pw_below_drewN | apply below_drew1 | refine below_set ?_ GE304.out) | exact HB.out)) hb); clear BK304; clear HB; have BK304 := n0_; have HB := n1_; clear n0_ n1_; (try clear hb); (try clear hb2); (try clear hk); (try clear hi); have hcz21_0 : w20.cell? ⟨gb304, 0, none⟩ = some (.int .i64 a2_0) := (blk_cell BK304.out 0).trans rfl; have hcz21_1 : w20.cell? ⟨gb304, 1, none⟩ = some (.int .i64 a2_1) := (blk_cell BK304.out 1).trans rfl; have hcz21_2 : w20.cell? ⟨gb304, 2, none⟩ = some (.int .i64 a2_2) := (blk_cell BK304.out 2).trans rfl; have hfz21_0 := blk_frozen BK304.out 0; have hfz21_1 := blk_frozen BK304.out 1; have hfz21_2 := blk_frozen BK304.out 2) | (go_at_call 14; (with_reducible refine (op_Name.calls a2_0 t308 _ A15.out).mono ?_); rintro e w22 ⟨rfl, hb⟩; have n0_ := Aside0.mk (blk_below (g := gb304) (o := .cells #[.int .i64 a2_0, .int .i64 a2_1, .int .i64 a2_2] 23 (0, 0)) (by (with_reducible repeat (first | refine blk_drewN ?_ _ | refine blk_drew ?_ | refine blk_alloc ?_ _)); exact BK304.out) hb); have n1_ := Aside0.mk (below_step (by repeat (first | (with_reducible first | exact HB.out | apply below_alloc | apply pw_below_drewN | apply below_drew1 | refine below_set ?_ GE304.out) | exact HB.out)) hb); clear BK304; clear HB; have BK304 := n0_; have HB := n1_; clear n0_ n1_; (try clear hb); (try clear hb2); (try clear hk); (try clear hi); have hcz23_0 : w22.cell? ⟨gb304, 0, none⟩ = some (.int .i64 a2_0) := (blk_cell BK304.out 0).trans rfl; have hcz23_1 : w22.cell? ⟨gb304, 1, none⟩ = some (.int .i64 a2_1) := (blk_cell BK304.out 1).trans rfl; have hcz23_2 : w22.cell? ⟨gb304, 2, none⟩ = some (.int .i64 a2_2) := (blk_cell BK304.out 2).trans rfl; have hfz23_0 := blk_frozen BK304.out 0; have hfz23_1 := blk_frozen BK304.out 1; have hfz23_2 := blk_frozen BK304.out 2) | (go_at_call 10; (with_reducible refine (op_Right.calls a2_0 a2_1 a2_2 false _ A17.out).mono ?_); rintro e w24 ⟨rfl, hb⟩; have n0_ := Aside0.mk (blk_below (g := gb304) (o := .cells #[.int .i64 a2_0, .int .i64 a2_1, .int .i64 a2_2] 23 (0, 0)) (by (with_reducible repeat (first | refine blk_drewN ?_ _ | refine blk_drew ?_ | refine blk_alloc ?_ _)); exact BK304.out) hb); have n1_ := Aside0.mk (below_step (by repeat (first | (with_reducible first | exact HB.out | apply below_alloc | apply pw_below_drewN | apply below_drew1 | refine below_set ?_ GE304.out) | exact HB.out)) hb); clear BK304; clear HB; have BK304 := n0_; have HB := n1_; clear n0_ n1_; (try clear hb); (try clear hb2); (try clear hk); (try clear hi)) | (go_at_call 18; (with_reducible refine (camshaftlaw04_known.calls kj5  t310 _ A19.out).mono ?_); rintro e w25 ⟨rfl, hb⟩; have n0_ := Aside0.mk (blk_below (g := gb304) (o := .cells #[.int .i64 a2_0, .int .i64 a2_1, .int .i64 a2_2] 23 (0, 0)) (by (with_reducible repeat (first | refine blk_drewN ?_ _ | refine blk_drew ?_ | refine blk_alloc ?_ _)); exact BK304.out) hb); have n1_ := Aside0.mk (below_step (by repeat (first | (with_reducible first | exact HB.out | apply below_alloc | apply pw_below_drewN | apply below_drew1 | refine below_set ?_ GE304.out) | exact HB.out)) hb); clear BK304; clear HB; have BK304 := n0_; have HB := n1_; clear n0_ n1_; (try clear hb); (try clear hb2); (try clear hk); (try clear hi)))
                go_ret
                exact ⟨by first | rfl | (rw [bne_nil_eq]; rfl) | (simp [bne_nil_eq]; done) | (simp [errW_none, errW_some] <;> rfl) | (simp [*, errW_none, errW_some] <;> rfl), by repeat (first | (with_reducible first | exact HB.out | apply below_alloc | apply pw_below_drewN | apply below_drew1 | refine below_set ?_ GE304.out) | exact HB.out | exact Below.refl _ _)⟩
            · rw [if_neg c16] at H
              have c16b0 : (t308.toList == ([] : List UInt8)) = false := beq_eq_false_iff_ne.mpr c16
              have c16b1 : (t308.toList != ([] : List UInt8)) = true := bne_iff_ne.mpr c16
              replace H := Option.bind_eq_some_iff.mp H
              obtain ⟨t311, A260, H⟩ := H
              replace H : (some t311) = some r := H
              have A26 := Aside0.mk A260
              clear A260
              obtain rfl := Option.some.inj H
              have X9 : x9_5 = (t305.toList != ([] : List UInt8)) := (eq_of_beq c11b0).symm
              rw [c14b1] at X9
              subst X9
              have c13d := eq_of_beq c13b0
              go_wp2_with (first | (go_at_call 16; (with_reducible refine (op_Args.calls a0 t307 _ A12.out).mono ?_); rintro e w27 ⟨rfl, hb⟩; have n0_ := Aside0.mk (blk_below (g := gb304) (o := .cells #[.int .i64 a2_0, .int .i64 a2_1, .int .i64 a2_2] 23 (0, 0)) (by (with_reducible repeat (first | refine blk_drewN ?_ _ | refine blk_drew ?_ | refine blk_alloc ?_ _)); exact BK304.out) hb); have n1_ := Aside0.mk (below_step (by repeat (first | (with_reducible first | exact HB.out | apply below_alloc | apply pw_below_drewN | apply below_drew1 | refine below_set ?_ GE304.out) | exact HB.out)) hb); clear BK304; clear HB; have BK304 := n0_; have HB := n1_; clear n0_ n1_; (try clear hb); (try clear hb2); (try clear hk); (try clear hi); have hcz28_0 : w27.cell? ⟨gb304, 0, none⟩ = some (.int .i64 a2_0) := (blk_cell BK304.out 0).trans rfl; have hcz28_1 : w27.cell? ⟨gb304, 1, none⟩ = some (.int .i64 a2_1) := (blk_cell BK304.out 1).trans rfl; have hcz28_2 : w27.cell? ⟨gb304, 2, none⟩ = some (.int .i64 a2_2) := (blk_cell BK304.out 2).trans rfl; have hfz28_0 := blk_frozen BK304.out 0; have hfz28_1 := blk_frozen BK304.out 1; have hfz28_2 := blk_frozen BK304.out 2) | (go_at_call 14; (with_reducible refine (op_Name.calls a2_0 t308 _ A15.out).mono ?_); rintro e w29 ⟨rfl, hb⟩; have n0_ := Aside0.mk (blk_below (g := gb304) (o := .cells #[.int .i64 a2_0, .int .i64 a2_1, .int .i64 a2_2] 23 (0, 0)) (by (with_reducible repeat (first | refine blk_drewN ?_ _ | refine blk_drew ?_ | refine blk_alloc ?_ _)); exact BK304.out) hb); have n1_ := Aside0.mk (below_step (by repeat (first | (with_reducible first | exact HB.out | apply below_alloc | apply pw_below_drewN | apply below_drew1 | refine below_set ?_ GE304.out) | exact HB.out)) hb); clear BK304; clear HB; have BK304 := n0_; have HB := n1_; clear n0_ n1_; (try clear hb); (try clear hb2); (try clear hk); (try clear hi)) | (go_at_call 18; (with_reducible refine (camshaftlaw04_known.calls kj5  t311 _ A26.out).mono ?_); rintro e w30 ⟨rfl, hb⟩; have n0_ := Aside0.mk (blk_below (g := gb304) (o := .cells #[.int .i64 a2_0, .int .i64 a2_1, .int .i64 a2_2] 23 (0, 0)) (by (with_reducible repeat (first | refine blk_drewN ?_ _ | refine blk_drew ?_ | refine blk_alloc ?_ _)); exact BK304.out) hb); have n1_ := Aside0.mk (below_step (by repeat (first | (with_reducible first | exact HB.out | apply below_alloc | apply pw_below_drewN | apply below_drew1 | refine below_set ?_ GE304.out) | exact HB.out)) hb); clear BK304; clear HB; have BK304 := n0_; have HB := n1_; clear n0_ n1_; (try clear hb); (try clear hb2); (try clear hk); (try clear hi)))
              go_ret
              exact ⟨by first | rfl | (rw [bne_nil_eq]; rfl) | (simp [bne_nil_eq]; done) | (simp [errW_none, errW_some] <;> rfl) | (simp [*, errW_none, errW_some] <;> rfl), by repeat (first | (with_reducible first | exact HB.out | apply below_alloc | apply pw_below_drewN | apply below_drew1 | refine below_set ?_ GE304.out) | exact HB.out | exact Below.refl _ _)⟩
          · rw [if_neg c14] at H
            have c14b0 : (t305.toList == ([] : List UInt8)) = false := beq_eq_false_iff_ne.mpr c14
            have c14b1 : (t305.toList != ([] : List UInt8)) = true := bne_iff_ne.mpr c14
            by_cases c31 : ((t305.toList == t306.toList) == (a0 == a1)) = true
            · rw [if_pos c31] at H
              have c31b0 : ((t305.toList == t306.toList) == (a0 == a1)) = true := c31
              (try (have c31b1 : decide ((t305.toList == t306.toList) = (a0 == a1)) = true := by simpa using c31))
              (try (have c31b2 : ((t305.toList == t306.toList) == (a0 == a1)) = true := by simpa using c31))
              clear c31
              replace H := Option.bind_eq_some_iff.mp H
              obtain ⟨t312, A320, H⟩ := H
              replace H : (if t312.toList = ([] : List UInt8) then ((op_Right.f a2_0 a2_1 a2_2).bind fun t313 => (if t313 = true then (some false) else ((camshaftlaw04_known.f kj5).bind fun t314 => (some t314)))) else ((camshaftlaw04_known.f kj5).bind fun t315 => (some t315))) = some r := H
              have A32 := Aside0.mk A320
              clear A320
              by_cases c33 : t312.toList = ([] : List UInt8)
              · rw [if_pos c33] at H
                have c33b0 : (t312.toList == ([] : List UInt8)) = true := beq_iff_eq.mpr c33
                have c33b1 : (t312.toList != ([] : List UInt8)) = false := bne_eq_false_iff_eq.mpr c33
                clear c33
                replace H := Option.bind_eq_some_iff.mp H
                obtain ⟨t313, A340, H⟩ := H
                replace H : (if t313 = true then (some false) else ((camshaftlaw04_known.f kj5).bind fun t314 => (some t314))) = some r := H
                have A34 := Aside0.mk A340
                clear A340
                by_cases c35 : t313 = true
                · subst c35
                  have H1 : (some false) = some r := by rw [if_pos rfl] at H; exact H
                  clear H
                  have H := H1
                  clear H1
                  exact absurd ((Option.some.inj H).trans HT.out) (by decide)
                · replace c35 := Bool.eq_false_iff.mpr c35
                  subst c35
                  have H1 : ((camshaftlaw04_known.f kj5).bind fun t314 => (some t314)) = some r := by rw [if_neg (show ¬ (false = true) by decide)] at H; exact H
                  clear H
                  have H := H1
                  clear H1
                  replace H := Option.bind_eq_some_iff.mp H
                  obtain ⟨t314, A360, H⟩ := H
                  replace H : (some t314) = some r := H
                  have A36 := Aside0.mk A360
                  clear A360
                  obtain rfl := Option.some.inj H
                  have X9 : x9_5 = (t305.toList != ([] : List UInt8)) := (eq_of_beq c11b0).symm
                  rw [c14b1] at X9
                  subst X9
                  have c13d := eq_of_beq c13b0
                  go_wp2_with (first | (go_at_call 16; (with_reducible refine (op_Args.calls a0 t307 _ A12.out).mono ?_); rintro e w37 ⟨rfl, hb⟩; have n0_ := Aside0.mk (blk_below (g := gb304) (o := .cells #[.int .i64 a2_0, .int .i64 a2_1, .int .i64 a2_2] 23 (0, 0)) (by (with_reducible repeat (first | refine blk_drewN ?_ _ | refine blk_drew ?_ | refine blk_alloc ?_ _)); exact BK304.out) hb); have n1_ := Aside0.mk (below_step (by repeat (first | (with_reducible first | exact HB.out | apply below_alloc | apply pw_below_drewN | apply below_drew1 | refine below_set ?_ GE304.out) | exact HB.out)) hb); clear BK304; clear HB; have BK304 := n0_; have HB := n1_; clear n0_ n1_; (try clear hb); (try clear hb2); (try clear hk); (try clear hi); have hcz38_0 : w37.cell? ⟨gb304, 0, none⟩ = some (.int .i64 a2_0) := (blk_cell BK304.out 0).trans rfl; have hcz38_1 : w37.cell? ⟨gb304, 1, none⟩ = some (.int .i64 a2_1) := (blk_cell BK304.out 1).trans rfl; have hcz38_2 : w37.cell? ⟨gb304, 2, none⟩ = some (.int .i64 a2_2) := (blk_cell BK304.out 2).trans rfl; have hfz38_0 := blk_frozen BK304.out 0; have hfz38_1 := blk_frozen BK304.out 1; have hfz38_2 := blk_frozen BK304.out 2) | (go_at_call 14; (with_reducible refine (op_Name.calls a2_0 t312 _ A32.out).mono ?_); rintro e w39 ⟨rfl, hb⟩; have n0_ := Aside0.mk (blk_below (g := gb304) (o := .cells #[.int .i64 a2_0, .int .i64 a2_1, .int .i64 a2_2] 23 (0, 0)) (by (with_reducible repeat (first | refine blk_drewN ?_ _ | refine blk_drew ?_ | refine blk_alloc ?_ _)); exact BK304.out) hb); have n1_ := Aside0.mk (below_step (by repeat (first | (with_reducible first | exact HB.out | apply below_alloc | apply pw_below_drewN | apply below_drew1 | refine below_set ?_ GE304.out) | exact HB.out)) hb); clear BK304; clear HB; have BK304 := n0_; have HB := n1_; clear n0_ n1_; (try clear hb); (try clear hb2); (try clear hk); (try clear hi); have hcz40_0 : w39.cell? ⟨gb304, 0, none⟩ = some (.int .i64 a2_0) := (blk_cell BK304.out 0).trans rfl; have hcz40_1 : w39.cell? ⟨gb304, 1, none⟩ = some (.int .i64 a2_1) := (blk_cell BK304.out 1).trans rfl; have hcz40_2 : w39.cell? ⟨gb304, 2, none⟩ = some (.int .i64 a2_2) := (blk_cell BK304.out 2).trans rfl; have hfz40_0 := blk_frozen BK304.out 0; have hfz40_1 := blk_frozen BK304.out 1; have hfz40_2 := blk_frozen BK304.out 2) | (go_at_call 10; (with_reducible refine (op_Right.calls a2_0 a2_1 a2_2 false _ A34.out).mono ?_); rintro e w41 ⟨rfl, hb⟩; have n0_ := Aside0.mk (blk_below (g := gb304) (o := .cells #[.int .i64 a2_0, .int .i64 a2_1, .int .i64 a2_2] 23 (0, 0)) (by (with_reducible repeat (first | refine blk_drewN ?_ _ | refine blk_drew ?_ | refine blk_alloc ?_ _)); exact BK304.out) hb); have n1_ := Aside0.mk (below_step (by repeat (first | (with_reducible first | exact HB.out | apply below_alloc | apply pw_below_drewN | apply below_drew1 | refine below_set ?_ GE304.out) | exact HB.out)) hb); clear BK304; clear HB; have BK304 := n0_; have HB := n1_; clear n0_ n1_; (try clear hb); (try clear hb2); (try clear hk); (try clear hi)) | (go_at_call 18; (with_reducible refine (camshaftlaw04_known.calls kj5  t314 _ A36.out).mono ?_); rintro e w42 ⟨rfl, hb⟩; have n0_ := Aside0.mk (blk_below (g := gb304) (o := .cells #[.int .i64 a2_0, .int .i64 a2_1, .int .i64 a2_2] 23 (0, 0)) (by (with_reducible repeat (first | refine blk_drewN ?_ _ | refine blk_drew ?_ | refine blk_alloc ?_ _)); exact BK304.out) hb); have n1_ := Aside0.mk (below_step (by repeat (first | (with_reducible first | exact HB.out | apply below_alloc | apply pw_below_drewN | apply below_drew1 | refine below_set ?_ GE304.out) | exact HB.out)) hb); clear BK304; clear HB; have BK304 := n0_; have HB := n1_; clear n0_ n1_; (try clear hb); (try clear hb2); (try clear hk); (try clear hi)))
                  go_ret
                  exact ⟨by first | rfl | (rw [bne_nil_eq]; rfl) | (simp [bne_nil_eq]; done) | (simp [errW_none, errW_some] <;> rfl) | (simp [*, errW_none, errW_some] <;> rfl), by repeat (first | (with_reducible first | exact HB.out | apply below_alloc | apply pw_below_drewN | apply below_drew1 | refine below_set ?_ GE304.out) | exact HB.out | exact Below.refl _ _)⟩
              · rw [if_neg c33] at H
                have c33b0 : (t312.toList == ([] : List UInt8)) = false := beq_eq_false_iff_ne.mpr c33
                have c33b1 : (t312.toList != ([] : List UInt8)) = true := bne_iff_ne.mpr c33
                replace H := Option.bind_eq_some_iff.mp H
                obtain ⟨t315, A430, H⟩ := H
                replace H : (some t315) = some r := H
                have A43 := Aside0.mk A430
                clear A430
                obtain rfl := Option.some.inj H
                have X9 : x9_5 = (t305.toList != ([] : List UInt8)) := (eq_of_beq c11b0).symm
                rw [c14b1] at X9
                subst X9
                have c13d := eq_of_beq c13b0
                go_wp2_with (first | (go_at_call 16; (with_reducible refine (op_Args.calls a0 t307 _ A12.out).mono ?_); rintro e w44 ⟨rfl, hb⟩; have n0_ := Aside0.mk (blk_below (g := gb304) (o := .cells #[.int .i64 a2_0, .int .i64 a2_1, .int .i64 a2_2] 23 (0, 0)) (by (with_reducible repeat (first | refine blk_drewN ?_ _ | refine blk_drew ?_ | refine blk_alloc ?_ _)); exact BK304.out) hb); have n1_ := Aside0.mk (below_step (by repeat (first | (with_reducible first | exact HB.out | apply below_alloc | apply pw_below_drewN | apply below_drew1 | refine below_set ?_ GE304.out) | exact HB.out)) hb); clear BK304; clear HB; have BK304 := n0_; have HB := n1_; clear n0_ n1_; (try clear hb); (try clear hb2); (try clear hk); (try clear hi); have hcz45_0 : w44.cell? ⟨gb304, 0, none⟩ = some (.int .i64 a2_0) := (blk_cell BK304.out 0).trans rfl; have hcz45_1 : w44.cell? ⟨gb304, 1, none⟩ = some (.int .i64 a2_1) := (blk_cell BK304.out 1).trans rfl; have hcz45_2 : w44.cell? ⟨gb304, 2, none⟩ = some (.int .i64 a2_2) := (blk_cell BK304.out 2).trans rfl; have hfz45_0 := blk_frozen BK304.out 0; have hfz45_1 := blk_frozen BK304.out 1; have hfz45_2 := blk_frozen BK304.out 2) | (go_at_call 14; (with_reducible refine (op_Name.calls a2_0 t312 _ A32.out).mono ?_); rintro e w46 ⟨rfl, hb⟩; have n0_ := Aside0.mk (blk_below (g := gb304) (o := .cells #[.int .i64 a2_0, .int .i64 a2_1, .int .i64 a2_2] 23 (0, 0)) (by (with_reducible repeat (first | refine blk_drewN ?_ _ | refine blk_drew ?_ | refine blk_alloc ?_ _)); exact BK304.out) hb); have n1_ := Aside0.mk (below_step (by repeat (first | (with_reducible first | exact HB.out | apply below_alloc | apply pw_below_drewN | apply below_drew1 | refine below_set ?_ GE304.out) | exact HB.out)) hb); clear BK304; clear HB; have BK304 := n0_; have HB := n1_; clear n0_ n1_; (try clear hb); (try clear hb2); (try clear hk); (try clear hi)) | (go_at_call 18; (with_reducible refine (camshaftlaw04_known.calls kj5  t315 _ A43.out).mono ?_); rintro e w47 ⟨rfl, hb⟩; have n0_ := Aside0.mk (blk_below (g := gb304) (o := .cells #[.int .i64 a2_0, .int .i64 a2_1, .int .i64 a2_2] 23 (0, 0)) (by (with_reducible repeat (first | refine blk_drewN ?_ _ | refine blk_drew ?_ | refine blk_alloc ?_ _)); exact BK304.out) hb); have n1_ := Aside0.mk (below_step (by repeat (first | (with_reducible first | exact HB.out | apply below_alloc | apply pw_below_drewN | apply below_drew1 | refine below_set ?_ GE304.out) | exact HB.out)) hb); clear BK304; clear HB; have BK304 := n0_; have HB := n1_; clear n0_ n1_; (try clear hb); (try clear hb2); (try clear hk); (try clear hi)))
                go_ret
                exact ⟨by first | rfl | (rw [bne_nil_eq]; rfl) | (simp [bne_nil_eq]; done) | (simp [errW_none, errW_some] <;> rfl) | (simp [*, errW_none, errW_some] <;> rfl), by repeat (first | (with_reducible first | exact HB.out | apply below_alloc | apply pw_below_drewN | apply below_drew1 | refine below_set ?_ GE304.out) | exact HB.out | exact Below.refl _ _)⟩
            · rw [if_neg c31] at H
              have c31b0 : ((t305.toList == t306.toList) == (a0 == a1)) = false := by simpa using c31
              (try (have c31b1 : decide ((t305.toList == t306.toList) = (a0 == a1)) = false := by simpa using c31))
              (try (have c31b2 : ((t305.toList == t306.toList) == (a0 == a1)) = false := by simpa using c31))
              (try (have c31b3 : ¬ ((t305.toList == t306.toList) = (a0 == a1)) := by simpa using c31))
              clear c31
              exact absurd ((Option.some.inj H).trans HT.out) (by decide)
        · rw [if_neg c13] at H
          have c13b0 : ((decide (t307 ≥ 0)) == x9_5) = false := by simpa using c13
          (try (have c13b1 : decide ((decide (t307 ≥ 0)) = x9_5) = false := by simpa using c13))
          (try (have c13b2 : ((decide (t307 ≥ 0)) == x9_5) = false := by simpa using c13))
          (try (have c13b3 : ¬ ((decide (t307 ≥ 0)) = x9_5) := by simpa using c13))
          clear c13
          exact absurd ((Option.some.inj H).trans HT.out) (by decide)
      · rw [if_neg c11] at H
        have c11b0 : ((t305.toList != ([] : List UInt8)) == x9_5) = false := by simpa using c11
        (try (have c11b1 : decide ((t305.toList != ([] : List UInt8)) = x9_5) = false := by simpa using c11))
        (try (have c11b2 : ((t305.toList != ([] : List UInt8)) == x9_5) = false := by simpa using c11))
        (try (have c11b3 : ¬ ((t305.toList != ([] : List UInt8)) = x9_5) := by simpa using c11))
        clear c11
        exact absurd ((Option.some.inj H).trans HT.out) (by decide)

/-- THE ONE PURE STATEMENT of camshaftlaw04_OpNames. -/
def camshaftlaw04_OpNames.Pure : Prop := ∀ (a0 : Int) (a1 : Int) (a2_0 a2_1 a2_2 : Int), (Lit.int .i64 a0).wf = true → (Lit.int .i64 a1).wf = true → (Lit.int .i64 a2_0).wf = true → (Lit.int .i64 a2_1).wf = true → (Lit.int .i64 a2_2).wf = true → ∃ k, camshaftlaw04_OpNames.f k a0 a1 a2_0 a2_1 a2_2 = some true
theorem camshaftlaw04_OpNames.walk (P : camshaftlaw04_OpNames.Pure) (a0 : Int) (a1 : Int) (a2_0 a2_1 a2_2 : Int) (w : World) (w0 : (Lit.int .i64 a0).wf = true) (w1 : (Lit.int .i64 a1).wf = true) (w2_0 : (Lit.int .i64 a2_0).wf = true) (w2_1 : (Lit.int .i64 a2_1).wf = true) (w2_2 : (Lit.int .i64 a2_2).wf = true) :
    Calls Try.prog 9 #[.int .i64 a0, .int .i64 a1, .agg #[.int .i64 a2_0, .int .i64 a2_1, .int .i64 a2_2]] w fun e w' => e = .returned (.bool true) ∧ Below w.heap.size w w' := by
  obtain ⟨k, h⟩ := P a0 a1 a2_0 a2_1 a2_2 w0 w1 w2_0 w2_1 w2_2
  refine (camshaftlaw04_OpNames.calls k a0 a1 a2_0 a2_1 a2_2 true w h rfl).mono ?_
  rintro e w' ⟨rfl, hd⟩
  exact ⟨rfl, hd⟩

end Go.Proofs.Ytnfoebbdmekbiaa.P
