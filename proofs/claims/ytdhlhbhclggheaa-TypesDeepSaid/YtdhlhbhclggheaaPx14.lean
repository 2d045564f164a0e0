-- Written by a program of this session (wip/tools: patched print) for this claim. Not trusted: Lean checks it.
import Derived.Test.YtdhlhbhclggheaaPx0
import Derived.Test.YtdhlhbhclggheaaPx2
namespace Go.Proofs.Ytdhlhbhclggheaa.P
open Go.RowKit Go.Proofs.YtdhlhbhclggheaaW.PrintWords Go.Proofs.YtdhlhbhclggheaaW.PrintLast Go.Proofs.YtdhlhbhclggheaaW.PrintMore
attribute [local go_sem] max2_int min2_int max_two min_two max_three min_three max_four min_four   -- for this text's walks alone
set_option linter.unusedVariables false
set_option linter.unusedSimpArgs false

/-! ### camshaftlaw07_TypesDeep: function 7 -/
def camshaftlaw07_TypesDeep.l0 : Nat → List ByteArray → Int → Int → Bool → Int → Option (Bool)
  | 0, _, _, _, _, _ => none
  | k + 1, x3, x5, x6, x7, x8 => if x8 < (x3.length : Int) then (if 0 ≤ x8 then (if ((rdOf ByteArray.empty x3 x8).size : Int) > x5 then (some false) else (if x7 = true then (camshaftlaw07_TypesDeep.l0 k x3 x5 x6 true (wrap64 (x8 + 1))) else (camshaftlaw07_TypesDeep.l0 k x3 x5 x6 (((rdOf ByteArray.empty x3 x8).size : Int) == x5) (wrap64 (x8 + 1))))) else (none)) else (if x6 = 0 then (if x7 = true then (if x5 ≤ 16 then ((camshaftlaw07_known.f k).bind fun t410 => (some t410)) else (some false)) else (some false)) else (some false))
def camshaftlaw07_TypesDeep.f (k : Nat) (l0 : List (S37)) : Option (Bool) := if (l0.length : Int) > 200 then ((camshaftlaw07_known.f k).bind fun t400 => (some t400)) else ((types_Stacks.f k l0).bind fun bt401 => ((types_Deep.f k l0).bind fun bt405 => (if bt401.2 = 0 then (camshaftlaw07_TypesDeep.l0 k bt401.1 bt405.1 bt405.2 false 0) else (if bt405.2 = bt401.2 then (if bt405.1 = 0 then ((camshaftlaw07_known.f k).bind fun t407 => (some t407)) else (some false)) else (some false)))))
theorem camshaftlaw07_TypesDeep.mono_l : ∀ k, (∀ y0 y1 y2 y3 y4, LeO (camshaftlaw07_TypesDeep.l0 k y0 y1 y2 y3 y4) (camshaftlaw07_TypesDeep.l0 (k + 1) y0 y1 y2 y3 y4))
  | 0 => fun _ _ _ _ _ r h => by simp [camshaftlaw07_TypesDeep.l0] at h
  | k + 1 => by
    have ih0 := camshaftlaw07_TypesDeep.mono_l k
    · intro y0 y1 y2 y3 y4
      unfold camshaftlaw07_TypesDeep.l0
      repeat' first
      | (with_reducible exact ih0 _ _ _ _ _)
      | (with_reducible exact camshaftlaw07_known.mono _)
      | (with_reducible exact types_Deep.mono _ _)
      | (with_reducible exact types_Stacks.mono _ _)
      | (with_reducible exact LeO.refl _)
      | (with_reducible exact LeO.none _)
      | (with_reducible refine LeO.ite ?_ ?_)
      | (with_reducible refine LeO.bind ?_ (fun _ => ?_))
      | exact ih0 _ _ _ _ _
      | exact camshaftlaw07_known.mono _
      | exact types_Deep.mono _ _
      | exact types_Stacks.mono _ _
      | exact LeO.none _
      | refine LeO.ite ?_ ?_
      | refine LeO.bind ?_ (fun _ => ?_)
theorem camshaftlaw07_TypesDeep.mono : ∀ a0 k, LeO (camshaftlaw07_TypesDeep.f k a0) (camshaftlaw07_TypesDeep.f (k + 1) a0) := by
  intro a0 k
  have ih0 := camshaftlaw07_TypesDeep.mono_l k
  unfold camshaftlaw07_TypesDeep.f
  repeat' first
      | (with_reducible exact ih0 _ _ _ _ _)
      | (with_reducible exact camshaftlaw07_known.mono _)
      | (with_reducible exact types_Deep.mono _ _)
      | (with_reducible exact types_Stacks.mono _ _)
      | (with_reducible exact LeO.refl _)
      | (with_reducible exact LeO.none _)
      | (with_reducible refine LeO.ite ?_ ?_)
      | (with_reducible refine LeO.bind ?_ (fun _ => ?_))
      | exact ih0 _ _ _ _ _
      | exact camshaftlaw07_known.mono _
      | exact types_Deep.mono _ _
      | exact types_Stacks.mono _ _
      | exact LeO.none _
      | refine LeO.ite ?_ ?_
      | refine LeO.bind ?_ (fun _ => ?_)
set_option maxHeartbeats 8000000 in
set_option maxRecDepth 100000 in
theorem camshaftlaw07_TypesDeep.calls (k : Nat) (A0 : Option Addr) (c0 : Nat) (l0 : List (S37)) (r : Bool) (w : World) (hr0 : Kd.C k37 w A0 l0.length l0) (hc0 : l0.length ≤ c0) (h : camshaftlaw07_TypesDeep.f k l0 = some r) (ht : r = true) :
    Calls Try.prog 7 #[.slice A0 l0.length c0] w fun e w' => e = .returned (.bool r) ∧ Below w.heap.size w w' := by
  have HT := Aside0.mk ht
  clear ht
  have HR0 := Aside0.mk hr0
  have HC0 := Aside0.mk hc0
  clear hr0 hc0
  have HB := Aside0.mk (Below.refl w.heap.size w)
  have H : (if (l0.length : Int) > 200 then ((camshaftlaw07_known.f k).bind fun t400 => (some t400)) else ((types_Stacks.f k l0).bind fun bt401 => ((types_Deep.f k l0).bind fun bt405 => (if bt401.2 = 0 then (camshaftlaw07_TypesDeep.l0 k bt401.1 bt405.1 bt405.2 false 0) else (if bt405.2 = bt401.2 then (if bt405.1 = 0 then ((camshaftlaw07_known.f k).bind fun t407 => (some t407)) else (some false)) else (some false)))))) = some r := h
  clear h
  by_cases c2 : (l0.length : Int) > 200
  · rw [if_pos c2] at H
    have c2b0 : decide (200 < (l0.length : Int)) = true := decide_eq_true c2
    have c2b1 : decide (200 < l0.length) = true := decide_eq_true (by omega)
    clear c2
    replace H := Option.bind_eq_some_iff.mp H
    obtain ⟨t400, A30, H⟩ := H
    replace H : (some t400) = some r := H
    have A3 := Aside0.mk A30
    clear A30
    obtain rfl := Option.some.inj H
    go_enter Try.func7, Try.ntmps7
    go_wp2_with (first | ((with_reducible refine gate_callee (f := 8) rfl ?_); refine goesL_ (some 12) rfl rfl Try.func8 (by kernel_rfl) rfl #[] rfl (by (try simp only [List.map_toArray, List.map_cons, List.map_nil]); first | done | rfl | (simp only [List.length_drop, List.length_take]; rfl)) ?_; (with_reducible refine (camshaftlaw07_known.calls k  t400 _ A3.out).mono ?_); rintro e w4 ⟨rfl, hb⟩; refine ⟨_, rfl, ?_⟩; have n0_ := Aside0.mk (below_step (by repeat (first | (with_reducible first | exact HB.out | apply below_alloc | apply pw_below_drewN | apply below_drew1) | exact HB.out)) hb); clear HB; have HB := n0_; clear n0_; (try clear hb); (try clear hb2); (try clear hk); (try clear hi)))
    go_ret
    exact ⟨by first | rfl | (simp [errW_none, errW_some] <;> rfl) | (simp [*, errW_none, errW_some] <;> rfl), by repeat (first | (with_reducible first | exact HB.out | apply below_alloc | apply pw_below_drewN | apply below_drew1) | exact HB.out | exact Below.refl _ _)⟩
  · rw [if_neg c2] at H
    have c2b0 : decide (200 < (l0.length : Int)) = false := decide_eq_false c2
    have c2b1 : decide (200 < l0.length) = false := decide_eq_false (by omega)
    clear c2
    replace H := Option.bind_eq_some_iff.mp H
    obtain ⟨⟨t401, t402⟩, A50, H⟩ := H
    replace H : ((types_Deep.f k l0).bind fun bt405 => (if t402 = 0 then (camshaftlaw07_TypesDeep.l0 k t401 bt405.1 bt405.2 false 0) else (if bt405.2 = t402 then (if bt405.1 = 0 then ((camshaftlaw07_known.f k).bind fun t407 => (some t407)) else (some false)) else (some false)))) = some r := H
    have A5 := Aside0.mk A50
    clear A50
    replace H := Option.bind_eq_some_iff.mp H
    obtain ⟨⟨t405, t406⟩, A60, H⟩ := H
    replace H : (if t402 = 0 then (camshaftlaw07_TypesDeep.l0 k t401 t405 t406 false 0) else (if t406 = t402 then (if t405 = 0 then ((camshaftlaw07_known.f k).bind fun t407 => (some t407)) else (some false)) else (some false))) = some r := H
    have A6 := Aside0.mk A60
    clear A60
    by_cases c7 : t402 = 0
    · rw [if_pos c7] at H
      have c7b0 : (t402 == 0) = true := beq_iff_eq.mpr c7
      have c7b1 : (t402 != 0) = false := bne_eq_false_iff_eq.mpr c7
      clear c7
      have H' := Aside0.mk H
      clear H
      go_enter Try.func7, Try.ntmps7
      go_wp2_with (first | ((with_reducible refine gate_callee (f := 9) rfl ?_); refine goesL_ (some 15) rfl rfl Try.func9 (by kernel_rfl) rfl #[.slice A0 l0.length c0] rfl (by (try simp only [List.map_toArray, List.map_cons, List.map_nil]); first | done | rfl | (simp only [List.length_drop, List.length_take]; rfl)) ?_; (with_reducible refine (types_Stacks.calls k _ _ l0 t401 t402 _ ?side1 ?side2 A5.out).mono ?_); (case side1 => repeat (first | exact HR0.out | (with_reducible refine Kd.C_alloc ?_ _) | (with_reducible refine Kd.C_drewN ?_ _) | (with_reducible refine Kd.C_drew ?_))); (case side2 => exact HC0.out); rintro e w8 ⟨v403, rfl, ho0, hb⟩; refine ⟨_, rfl, ?_⟩; have n0_ := Aside0.mk (Kd.R_lower ho0 (below_size (by repeat (first | (with_reducible first | exact HB.out | apply below_alloc | apply pw_below_drewN | apply below_drew1) | exact HB.out)))); have n1_ := Aside0.mk (below_step (by repeat (first | (with_reducible first | exact HB.out | apply below_alloc | apply pw_below_drewN | apply below_drew1) | exact HB.out)) hb); clear HB; have HO404 := n0_; have HB := n1_; clear n0_ n1_; (try clear hb); (try clear hb2); (try clear hk); (try clear hi); (try clear ho0)) | ((with_reducible refine gate_callee (f := 11) rfl ?_); refine goesL_ (some 20) rfl rfl Try.func11 (by kernel_rfl) rfl #[.slice A0 l0.length c0] rfl (by (try simp only [List.map_toArray, List.map_cons, List.map_nil]); first | done | rfl | (simp only [List.length_drop, List.length_take]; rfl)) ?_; (with_reducible refine (types_Deep.calls k _ _ l0 t405 t406 _ ?side1 ?side2 A6.out).mono ?_); (case side1 => repeat (first | exact (Kd.C_below HR0.out HB.out) | (with_reducible refine Kd.C_alloc ?_ _) | (with_reducible refine Kd.C_drewN ?_ _) | (with_reducible refine Kd.C_drew ?_))); (case side2 => exact HC0.out); rintro e w9 ⟨rfl, hb⟩; refine ⟨_, rfl, ?_⟩; have n0_ := Aside0.mk (Kd.R_below (by (with_reducible repeat (first | apply Kd.R_alloc | apply Kd.R_drewN | apply Kd.R_drew)); exact HO404.out) hb); have n1_ := Aside0.mk (below_step (by repeat (first | (with_reducible first | exact HB.out | apply below_alloc | apply pw_below_drewN | apply below_drew1) | exact HB.out)) hb); clear HO404; clear HB; have HO404 := n0_; have HB := n1_; clear n0_ n1_; (try clear hb); (try clear hb2); (try clear hk); (try clear hi)))
      go_loopg [7, 8] k (fun kq v7 v8 w' => ∃ (x7_1 : Bool) (x8_1 : Int), v7 = .bool x7_1 ∧ v8 = .int .i64 x8_1 ∧ Aside0 (camshaftlaw07_TypesDeep.l0 kq t401 t405 t406 x7_1 x8_1 = some r) ∧ Aside0 (kq ≤ k) ∧ Aside0 (Kd.R Kd.string 9 w' w.heap.size (fun _ => True) v403 t401) ∧ Aside0 (Below w.heap.size w w'))
      case atStart => exact ⟨(false), (0), (by first | rfl | (simp; done) | (simp [*]; done)), (by first | rfl | (simp; done) | (simp [*]; done)), H', ⟨Nat.le_refl _⟩, ⟨by (with_reducible repeat (first | apply Kd.R_alloc | apply Kd.R_drewN | apply Kd.R_drew)); exact HO404.out⟩, ⟨by repeat (first | (with_reducible first | exact HB.out | apply below_alloc | apply pw_below_drewN | apply below_drew1) | exact HB.out)⟩⟩
      case round =>
        clear H'
        try clear c1
        try clear c2
        try clear c2b0
        try clear c2b1
        try clear p2
        try clear c7
        try clear c7b0
        try clear c7b1
        try clear c8
        try clear c9
        obtain ⟨x7_1, x8_1, rfl, rfl, HA, HK1, HO_3, HB⟩ := hrel
        cases gk with
        | zero => exact absurd HA.out (by simp [camshaftlaw07_TypesDeep.l0])
        | succ k1 =>
          have H := HA.out
          clear HA
          simp only [camshaftlaw07_TypesDeep.l0] at H
          by_cases c10 : x8_1 < (t401.length : Int)
          · rw [if_pos c10] at H
            have c10b0 : decide (x8_1 < (t401.length : Int)) = true := decide_eq_true c10
            clear c10
            by_cases c11 : 0 ≤ x8_1
            · rw [if_pos c11] at H
              have c11b0 : decide (0 ≤ x8_1) = true := decide_eq_true c11
              clear c11
              by_cases c12 : ((rdOf ByteArray.empty t401 x8_1).size : Int) > t405
              · rw [if_pos c12] at H
                have c12b0 : decide (t405 < ((rdOf ByteArray.empty t401 x8_1).size : Int)) = true := decide_eq_true c12
                clear c12
                exact absurd ((Option.some.inj H).trans HT.out) (by decide)
              · rw [if_neg c12] at H
                have c12b0 : decide (t405 < ((rdOf ByteArray.empty t401 x8_1).size : Int)) = false := decide_eq_false c12
                clear c12
                by_cases c13 : x7_1 = true
                · subst c13
                  have H1 : (camshaftlaw07_TypesDeep.l0 k1 t401 t405 t406 true (wrap64 (x8_1 + 1))) = some r := by rw [if_pos rfl] at H; exact H
                  clear H
                  have H := H1
                  clear H1
                  have H' := Aside0.mk H
                  clear H
                  obtain ⟨Ao14, co14, eo14⟩ := Kd.R_slice HO_3.out
                  subst eo14
                  have p408 : 0 ≤ (x8_1 : Int) := of_decide_eq_true (by first | (with_reducible assumption) | assumption)
                  have q408 : x8_1 < (t401.length : Int) := of_decide_eq_true (by first | (with_reducible assumption) | assumption)
                  obtain ⟨ad408, e408, hx408_0⟩ := Kd.at_string (Kd.R_reads' HO_3.out).2.2 x8_1 p408 q408
                  cases e408
                  replace p408 := eq_true p408
                  replace q408 := eq_true q408
                  go_wp2
                  go_roundg k1
                  case measure => have := HK1.out; omega
                  case rel => exact ⟨(true), (wrap64 (x8_1 + 1)), (by first | rfl | (simp; done) | (simp [*]; done)), (by first | rfl | (simp; done) | (simp [*]; done)), H', ⟨by have := HK1.out; omega⟩, ⟨by (with_reducible repeat (first | apply Kd.R_alloc | apply Kd.R_drewN | apply Kd.R_drew)); exact HO_3.out⟩, ⟨by repeat (first | (with_reducible first | exact HB.out | apply below_alloc | apply pw_below_drewN | apply below_drew1) | exact HB.out | exact Below.refl _ _)⟩⟩
                · replace c13 := Bool.eq_false_iff.mpr c13
                  subst c13
                  have H1 : (camshaftlaw07_TypesDeep.l0 k1 t401 t405 t406 (((rdOf ByteArray.empty t401 x8_1).size : Int) == t405) (wrap64 (x8_1 + 1))) = some r := by rw [if_neg (show ¬ (false = true) by decide)] at H; exact H
                  clear H
                  have H := H1
                  clear H1
                  have H' := Aside0.mk H
                  clear H
                  obtain ⟨Ao15, co15, eo15⟩ := Kd.R_slice HO_3.out
                  subst eo15
                  have p408 : 0 ≤ (x8_1 : Int) := of_decide_eq_true (by first | (with_reducible assumption) | assumption)
                  have q408 : x8_1 < (t401.length : Int) := of_decide_eq_true (by first | (with_reducible assumption) | assumption)
                  obtain ⟨ad408, e408, hx408_0⟩ := Kd.at_string (Kd.R_reads' HO_3.out).2.2 x8_1 p408 q408
                  cases e408
                  replace p408 := eq_true p408
                  replace q408 := eq_true q408
                  have p409 : 0 ≤ (x8_1 : Int) := of_decide_eq_true (by first | (with_reducible assumption) | assumption)
                  have q409 : x8_1 < (t401.length : Int) := of_decide_eq_true (by first | (with_reducible assumption) | assumption)
                  obtain ⟨ad409, e409, hx409_0⟩ := Kd.at_string (Kd.R_reads' HO_3.out).2.2 x8_1 p409 q409
                  obtain rfl : ad408 = ad409 := (by injection e409)
                  replace p409 := eq_true p409
                  replace q409 := eq_true q409
                  go_wp2
                  go_roundg k1
                  case measure => have := HK1.out; omega
                  case rel => exact ⟨((((rdOf ByteArray.empty t401 x8_1).size : Int) == t405)), (wrap64 (x8_1 + 1)), (by first | rfl | (simp; done) | (simp [*]; done)), (by first | rfl | (simp; done) | (simp [*]; done)), H', ⟨by have := HK1.out; omega⟩, ⟨by (with_reducible repeat (first | apply Kd.R_alloc | apply Kd.R_drewN | apply Kd.R_drew)); exact HO_3.out⟩, ⟨by repeat (first | (with_reducible first | exact HB.out | apply below_alloc | apply pw_below_drewN | apply below_drew1) | exact HB.out | exact Below.refl _ _)⟩⟩
            · rw [if_neg c11] at H
              exact absurd H (by simp)
          · rw [if_neg c10] at H
            have c10b0 : decide (x8_1 < (t401.length : Int)) = false := decide_eq_false c10
            clear c10
            by_cases c16 : t406 = 0
            · rw [if_pos c16] at H
              have c16b0 : (t406 == 0) = true := beq_iff_eq.mpr c16
              have c16b1 : (t406 != 0) = false := bne_eq_false_iff_eq.mpr c16
              clear c16
              by_cases c17 : x7_1 = true
              · subst c17
                have H1 : (if t405 ≤ 16 then ((camshaftlaw07_known.f k1).bind fun t410 => (some t410)) else (some false)) = some r := by rw [if_pos rfl] at H; exact H
                clear H
                have H := H1
                clear H1
                by_cases c18 : t405 ≤ 16
                · rw [if_pos c18] at H
                  have c18b0 : decide (t405 ≤ 16) = true := decide_eq_true c18
                  clear c18
                  replace H := Option.bind_eq_some_iff.mp H
                  obtain ⟨t410, A190, H⟩ := H
                  replace H : (some t410) = some r := H
                  have A19 := Aside0.mk A190
                  clear A190
                  obtain rfl := Option.some.inj H
                  obtain ⟨Ao20, co20, eo20⟩ := Kd.R_slice HO_3.out
                  subst eo20
                  go_wp2_with (first | ((with_reducible refine gate_callee (f := 8) rfl ?_); (with_reducible refine gate_dst (N := 68) rfl ?_); (refine gate_guard (by rfl) ?_; dsimp only); refine goesL_ (some 68) rfl rfl Try.func8 (by kernel_rfl) rfl #[] rfl (by (try simp only [List.map_toArray, List.map_cons, List.map_nil]); first | done | rfl | (simp only [List.length_drop, List.length_take]; rfl)) ?_; (with_reducible refine (camshaftlaw07_known.calls k1  t410 _ A19.out).mono ?_); rintro e w21 ⟨rfl, hb⟩; refine ⟨_, rfl, ?_⟩; have n0_ := Aside0.mk (Kd.R_below (by (with_reducible repeat (first | apply Kd.R_alloc | apply Kd.R_drewN | apply Kd.R_drew)); exact HO_3.out) hb); have n1_ := Aside0.mk (below_step (by repeat (first | (with_reducible first | exact HB.out | apply below_alloc | apply pw_below_drewN | apply below_drew1) | exact HB.out)) hb); clear HO_3; clear HB; have HO_3 := n0_; have HB := n1_; clear n0_ n1_; (try clear hb); (try clear hb2); (try clear hk); (try clear hi)))
                  go_ret
                  exact ⟨by first | rfl | (simp [errW_none, errW_some] <;> rfl) | (simp [*, errW_none, errW_some] <;> rfl), by repeat (first | (with_reducible first | exact HB.out | apply below_alloc | apply pw_below_drewN | apply below_drew1) | exact HB.out | exact Below.refl _ _)⟩
                · rw [if_neg c18] at H
                  have c18b0 : decide (t405 ≤ 16) = false := decide_eq_false c18
                  clear c18
                  exact absurd ((Option.some.inj H).trans HT.out) (by decide)
              · replace c17 := Bool.eq_false_iff.mpr c17
                subst c17
                have H1 : (some false) = some r := by rw [if_neg (show ¬ (false = true) by decide)] at H; exact H
                clear H
                have H := H1
                clear H1
                exact absurd ((Option.some.inj H).trans HT.out) (by decide)
            · rw [if_neg c16] at H
              have c16b0 : (t406 == 0) = false := beq_eq_false_iff_ne.mpr c16
              have c16b1 : (t406 != 0) = true := bne_iff_ne.mpr c16
              exact absurd ((Option.some.inj H).trans HT.out) (by decide)
    · rw [if_neg c7] at H
      have c7b0 : (t402 == 0) = false := beq_eq_false_iff_ne.mpr c7
      have c7b1 : (t402 != 0) = true := bne_iff_ne.mpr c7
      by_cases c22 : t406 = t402
      · rw [if_pos c22] at H
        have c22b0 : (t406 == t402) = true := beq_iff_eq.mpr c22
        have c22b1 : (t406 != t402) = false := bne_eq_false_iff_eq.mpr c22
        clear c22
        by_cases c23 : t405 = 0
        · rw [if_pos c23] at H
          have c23b0 : (t405 == 0) = true := beq_iff_eq.mpr c23
          have c23b1 : (t405 != 0) = false := bne_eq_false_iff_eq.mpr c23
          clear c23
          replace H := Option.bind_eq_some_iff.mp H
          obtain ⟨t407, A240, H⟩ := H
          replace H : (some t407) = some r := H
          have A24 := Aside0.mk A240
          clear A240
          obtain rfl := Option.some.inj H
          go_enter Try.func7, Try.ntmps7
          go_wp2_with (first | ((with_reducible refine gate_callee (f := 9) rfl ?_); refine goesL_ (some 15) rfl rfl Try.func9 (by kernel_rfl) rfl #[.slice A0 l0.length c0] rfl (by (try simp only [List.map_toArray, List.map_cons, List.map_nil]); first | done | rfl | (simp only [List.length_drop, List.length_take]; rfl)) ?_; (with_reducible refine (types_Stacks.calls k _ _ l0 t401 t402 _ ?side1 ?side2 A5.out).mono ?_); (case side1 => repeat (first | exact HR0.out | (with_reducible refine Kd.C_alloc ?_ _) | (with_reducible refine Kd.C_drewN ?_ _) | (with_reducible refine Kd.C_drew ?_))); (case side2 => exact HC0.out); rintro e w25 ⟨v403, rfl, ho0, hb⟩; refine ⟨_, rfl, ?_⟩; have n0_ := Aside0.mk (Kd.R_lower ho0 (below_size (by repeat (first | (with_reducible first | exact HB.out | apply below_alloc | apply pw_below_drewN | apply below_drew1) | exact HB.out)))); have n1_ := Aside0.mk (below_step (by repeat (first | (with_reducible first | exact HB.out | apply below_alloc | apply pw_below_drewN | apply below_drew1) | exact HB.out)) hb); clear HB; have HO404 := n0_; have HB := n1_; clear n0_ n1_; (try clear hb); (try clear hb2); (try clear hk); (try clear hi); (try clear ho0)) | ((with_reducible refine gate_callee (f := 11) rfl ?_); refine goesL_ (some 20) rfl rfl Try.func11 (by kernel_rfl) rfl #[.slice A0 l0.length c0] rfl (by (try simp only [List.map_toArray, List.map_cons, List.map_nil]); first | done | rfl | (simp only [List.length_drop, List.length_take]; rfl)) ?_; (with_reducible refine (types_Deep.calls k _ _ l0 t405 t406 _ ?side1 ?side2 A6.out).mono ?_); (case side1 => repeat (first | exact (Kd.C_below HR0.out HB.out) | (with_reducible refine Kd.C_alloc ?_ _) | (with_reducible refine Kd.C_drewN ?_ _) | (with_reducible refine Kd.C_drew ?_))); (case side2 => exact HC0.out); rintro e w26 ⟨rfl, hb⟩; refine ⟨_, rfl, ?_⟩; have n0_ := Aside0.mk (Kd.R_below (by (with_reducible repeat (first | apply Kd.R_alloc | apply Kd.R_drewN | apply Kd.R_drew)); exact HO404.out) hb); have n1_ := Aside0.mk (below_step (by repeat (first | (with_reducible first | exact HB.out | apply below_alloc | apply pw_below_drewN | apply below_drew1) | exact HB.out)) hb); clear HO404; clear HB; have HO404 := n0_; have HB := n1_; clear n0_ n1_; (try clear hb); (try clear hb2); (try clear hk); (try clear hi)) | ((with_reducible refine gate_callee (f := 8) rfl ?_); (with_reducible refine gate_dst (N := 33) rfl ?_); (refine gate_guard (by rfl) ?_; dsimp only); refine goesL_ (some 33) rfl rfl Try.func8 (by kernel_rfl) rfl #[] rfl (by (try simp only [List.map_toArray, List.map_cons, List.map_nil]); first | done | rfl | (simp only [List.length_drop, List.length_take]; rfl)) ?_; (with_reducible refine (camshaftlaw07_known.calls k  t407 _ A24.out).mono ?_); rintro e w27 ⟨rfl, hb⟩; refine ⟨_, rfl, ?_⟩; have n0_ := Aside0.mk (Kd.R_below (by (with_reducible repeat (first | apply Kd.R_alloc | apply Kd.R_drewN | apply Kd.R_drew)); exact HO404.out) hb); have n1_ := Aside0.mk (below_step (by repeat (first | (with_reducible first | exact HB.out | apply below_alloc | apply pw_below_drewN | apply below_drew1) | exact HB.out)) hb); clear HO404; clear HB; have HO404 := n0_; have HB := n1_; clear n0_ n1_; (try clear hb); (try clear hb2); (try clear hk); (try clear hi)))
          go_ret
          exact ⟨by first | rfl | (simp [errW_none, errW_some] <;> rfl) | (simp [*, errW_none, errW_some] <;> rfl), by repeat (first | (with_reducible first | exact HB.out | apply below_alloc | apply pw_below_drewN | apply below_drew1) | exact HB.out | exact Below.refl _ _)⟩
        · rw [if_neg c23] at H
          have c23b0 : (t405 == 0) = false := beq_eq_false_iff_ne.mpr c23
          have c23b1 : (t405 != 0) = true := bne_iff_ne.mpr c23
          exact absurd ((Option.some.inj H).trans HT.out) (by decide)
      · rw [if_neg c22] at H
        have c22b0 : (t406 == t402) = false := beq_eq_false_iff_ne.mpr c22
        have c22b1 : (t406 != t402) = true := bne_iff_ne.mpr c22
        exact absurd ((Option.some.inj H).trans HT.out) (by decide)

/-- THE ONE PURE STATEMENT of camshaftlaw07_TypesDeep. -/
def camshaftlaw07_TypesDeep.Pure : Prop := ∀ (l0 : List S37), l0.length * 24 ≤ 140737488351232 → (∀ x ∈ l0, (Lit.int .i64 x.f0).wf = true ∧ (Lit.int .i64 x.f1).wf = true ∧ (Lit.int .i64 x.f2).wf = true) → ∃ k, camshaftlaw07_TypesDeep.f k l0 = some true
theorem camshaftlaw07_TypesDeep.walk (P : camshaftlaw07_TypesDeep.Pure) (A0 : Option Addr) (c0 : Nat) (l0 : List S37) (w : World) (hr0 : Kd.C k37 w A0 l0.length l0) (hc0 : l0.length ≤ c0) (y0 : l0.length * 24 ≤ 140737488351232) (hw0 : ∀ x ∈ l0, (Lit.int .i64 x.f0).wf = true ∧ (Lit.int .i64 x.f1).wf = true ∧ (Lit.int .i64 x.f2).wf = true) :
    Calls Try.prog 7 #[.slice A0 l0.length c0] w fun e w' => e = .returned (.bool true) ∧ Below w.heap.size w w' := by
  obtain ⟨k, h⟩ := P l0 y0 hw0
  refine (camshaftlaw07_TypesDeep.calls k A0 c0 l0 true w hr0 hc0 h rfl).mono ?_
  rintro e w' ⟨rfl, hd⟩
  exact ⟨rfl, hd⟩

end Go.Proofs.Ytdhlhbhclggheaa.P
