-- Written by a program of this session (wip/tools: patched print) for this claim. Not trusted: Lean checks it.
import Derived.Test.YtnfoebbdmekbiaaPx0
import Derived.Test.YtnfoebbdmekbiaaPx4
import Derived.Test.YtnfoebbdmekbiaaPx5
import Derived.Test.YtnfoebbdmekbiaaPx6
namespace Go.Proofs.Ytnfoebbdmekbiaa.P
open Go.RowKit Go.Proofs.Ytnfoebbdmekbiaa.C Go.Proofs.YtnfoebbdmekbiaaW.PrintWords Go.Proofs.YtnfoebbdmekbiaaW.PrintLast Go.Proofs.YtnfoebbdmekbiaaW.PrintMore
attribute [local go_sem] max2_int min2_int max_two min_two max_three min_three max_four min_four   -- for this text's walks alone
set_option linter.unusedVariables false
set_option linter.unusedSimpArgs false

/-! ### camshaftlaw04_OpCuts: function 8 -/
mutual
def camshaftlaw04_OpCuts.j1 : Nat → List (S23) → Int → List (S23) → Int → Int → Int → Option (Bool)
  | 0, _, _, _, _, _, _ => none
  | k + 1, x0, x6, x7, x8, x9, x10 => if x9 = x6 then (if x8 = 0 then (if 0 ≤ x10 then (if x10 ≤ (x0.length : Int) then ((camshaftref04_Same.f k x7 (x0.take (x10 : Int).toNat)).bind fun t301 => (if t301 = true then ((camshaftlaw04_known.f k).bind fun t302 => (some t302)) else (some false))) else (none)) else (none)) else (some false)) else (if x8 = 2 then (if (x7.length : Int) = 0 then ((camshaftlaw04_known.f k).bind fun t303 => (some t303)) else (some false)) else (some false))
def camshaftlaw04_OpCuts.l0 : Nat → List (S23) → Int → List (S23) → Int → Int → Int → Option (Bool)
  | 0, _, _, _, _, _, _ => none
  | k + 1, x0, x6, x7, x8, x9, x10 => if x10 < (x0.length : Int) then (if 0 ≤ x10 then ((op_Encode.f k ((rd_T23 x0 x10).f0) ((rd_T23 x0 x10).f1) ((rd_T23 x0 x10).f2)).bind fun t294 => (if (wrap64 (x9 + (t294.size : Int))) ≤ x6 then ((op_Encode.f k ((rd_T23 x0 x10).f0) ((rd_T23 x0 x10).f1) ((rd_T23 x0 x10).f2)).bind fun t296 => (camshaftlaw04_OpCuts.l0 k x0 x6 x7 x8 (wrap64 (x9 + (t296.size : Int))) (wrap64 (x10 + 1)))) else (camshaftlaw04_OpCuts.j1 k x0 x6 x7 x8 x9 x10))) else (none)) else (camshaftlaw04_OpCuts.j1 k x0 x6 x7 x8 x9 x10)
end
def camshaftlaw04_OpCuts.f (k : Nat) (l0 : List (S23)) (a1 : Int) : Option (Bool) := if (l0.length : Int) > 100 then ((camshaftlaw04_known.f k).bind fun t286 => (some t286)) else ((op_Code.f k l0).bind fun t287 => (if t287.toList = ([] : List UInt8) then ((camshaftlaw04_known.f k).bind fun t288 => (some t288)) else (if (wrap64 ((t287.size : Int) + 1)) = 0 then (none) else (if 0 ≤ (Int.tmod (wrap64 (a1)) (wrap64 ((t287.size : Int) + 1))) then (if (Int.tmod (wrap64 (a1)) (wrap64 ((t287.size : Int) + 1))) ≤ (t287.size : Int) then ((op_Read.f k (t287.extract 0 ((Int.tmod (wrap64 (a1)) (wrap64 ((t287.size : Int) + 1))) : Int).toNat)).bind fun bt289 => (camshaftlaw04_OpCuts.l0 k l0 (Int.tmod (wrap64 (a1)) (wrap64 ((t287.size : Int) + 1))) bt289.1 bt289.2 0 0)) else (none)) else (none)))))
theorem camshaftlaw04_OpCuts.mono_l : ∀ k, (∀ y0 y1 y2 y3 y4 y5, LeO (camshaftlaw04_OpCuts.j1 k y0 y1 y2 y3 y4 y5) (camshaftlaw04_OpCuts.j1 (k + 1) y0 y1 y2 y3 y4 y5)) ∧ (∀ y0 y1 y2 y3 y4 y5, LeO (camshaftlaw04_OpCuts.l0 k y0 y1 y2 y3 y4 y5) (camshaftlaw04_OpCuts.l0 (k + 1) y0 y1 y2 y3 y4 y5))
  | 0 => ⟨fun _ _ _ _ _ _ r h => by simp [camshaftlaw04_OpCuts.j1] at h, fun _ _ _ _ _ _ r h => by simp [camshaftlaw04_OpCuts.l0] at h⟩
  | k + 1 => by
    obtain ⟨ih0, ih1⟩ := camshaftlaw04_OpCuts.mono_l k
    refine ⟨?_, ?_⟩
    · intro y0 y1 y2 y3 y4 y5
      unfold camshaftlaw04_OpCuts.j1
      repeat' first
      | (with_reducible exact ih0 _ _ _ _ _ _)
      | (with_reducible exact ih1 _ _ _ _ _ _)
      | (with_reducible exact camshaftlaw04_known.mono _)
      | (with_reducible exact camshaftref04_Same.mono _ _ _)
      | (with_reducible exact op_Code.mono _ _)
      | (with_reducible exact op_Encode.mono _ _ _ _)
      | (with_reducible exact op_Read.mono _ _)
      | (with_reducible exact LeO.refl _)
      | (with_reducible exact LeO.none _)
      | (with_reducible refine LeO.ite ?_ ?_)
      | (with_reducible refine LeO.bind ?_ (fun _ => ?_))
      | exact ih0 _ _ _ _ _ _
      | exact ih1 _ _ _ _ _ _
      | exact camshaftlaw04_known.mono _
      | exact camshaftref04_Same.mono _ _ _
      | exact op_Code.mono _ _
      | exact op_Encode.mono _ _ _ _
      | exact op_Read.mono _ _
      | exact LeO.none _
      | refine LeO.ite ?_ ?_
      | refine LeO.bind ?_ (fun _ => ?_)
    · intro y0 y1 y2 y3 y4 y5
      unfold camshaftlaw04_OpCuts.l0
      repeat' first
      | (with_reducible exact ih0 _ _ _ _ _ _)
      | (with_reducible exact ih1 _ _ _ _ _ _)
      | (with_reducible exact camshaftlaw04_known.mono _)
      | (with_reducible exact camshaftref04_Same.mono _ _ _)
      | (with_reducible exact op_Code.mono _ _)
      | (with_reducible exact op_Encode.mono _ _ _ _)
      | (with_reducible exact op_Read.mono _ _)
      | (with_reducible exact LeO.refl _)
      | (with_reducible exact LeO.none _)
      | (with_reducible refine LeO.ite ?_ ?_)
      | (with_reducible refine LeO.bind ?_ (fun _ => ?_))
      | exact ih0 _ _ _ _ _ _
      | exact ih1 _ _ _ _ _ _
      | exact camshaftlaw04_known.mono _
      | exact camshaftref04_Same.mono _ _ _
      | exact op_Code.mono _ _
      | exact op_Encode.mono _ _ _ _
      | exact op_Read.mono _ _
      | exact LeO.none _
      | refine LeO.ite ?_ ?_
      | refine LeO.bind ?_ (fun _ => ?_)
theorem camshaftlaw04_OpCuts.mono : ∀ a0 a1 k, LeO (camshaftlaw04_OpCuts.f k a0 a1) (camshaftlaw04_OpCuts.f (k + 1) a0 a1) := by
  intro a0 a1 k
  obtain ⟨ih0, ih1⟩ := camshaftlaw04_OpCuts.mono_l k
  unfold camshaftlaw04_OpCuts.f
  repeat' first
      | (with_reducible exact ih0 _ _ _ _ _ _)
      | (with_reducible exact ih1 _ _ _ _ _ _)
      | (with_reducible exact camshaftlaw04_known.mono _)
      | (with_reducible exact camshaftref04_Same.mono _ _ _)
      | (with_reducible exact op_Code.mono _ _)
      | (with_reducible exact op_Encode.mono _ _ _ _)
      | (with_reducible exact op_Read.mono _ _)
      | (with_reducible exact LeO.refl _)
      | (with_reducible exact LeO.none _)
      | (with_reducible refine LeO.ite ?_ ?_)
      | (with_reducible refine LeO.bind ?_ (fun _ => ?_))
      | exact ih0 _ _ _ _ _ _
      | exact ih1 _ _ _ _ _ _
      | exact camshaftlaw04_known.mono _
      | exact camshaftref04_Same.mono _ _ _
      | exact op_Code.mono _ _
      | exact op_Encode.mono _ _ _ _
      | exact op_Read.mono _ _
      | exact LeO.none _
      | refine LeO.ite ?_ ?_
      | refine LeO.bind ?_ (fun _ => ?_)
set_option maxHeartbeats 8000000 in
set_option maxRecDepth 100000 in
theorem camshaftlaw04_OpCuts.calls (k : Nat) (A0 : Option Addr) (c0 : Nat) (l0 : List (S23)) (a1 : Int) (r : Bool) (w : World) (hr0 : Kd.C k23 w A0 l0.length l0) (hc0 : l0.length ≤ c0) (h : camshaftlaw04_OpCuts.f k l0 a1 = some r) (ht : r = true) :
    Calls Try.prog 8 #[.slice A0 l0.length c0, .int .u16 a1] w fun e w' => e = .returned (.bool r) ∧ Below w.heap.size w w' := by
  have hu23 := Try.underlying23
  have HT := Aside0.mk ht
  clear ht
  have HR0 := Aside0.mk hr0
  have HC0 := Aside0.mk hc0
  clear hr0 hc0
  have HB := Aside0.mk (Below.refl w.heap.size w)
  have H : (if (l0.length : Int) > 100 then ((camshaftlaw04_known.f k).bind fun t286 => (some t286)) else ((op_Code.f k l0).bind fun t287 => (if t287.toList = ([] : List UInt8) then ((camshaftlaw04_known.f k).bind fun t288 => (some t288)) else (if (wrap64 ((t287.size : Int) + 1)) = 0 then (none) else (if 0 ≤ (Int.tmod (wrap64 (a1)) (wrap64 ((t287.size : Int) + 1))) then (if (Int.tmod (wrap64 (a1)) (wrap64 ((t287.size : Int) + 1))) ≤ (t287.size : Int) then ((op_Read.f k (t287.extract 0 ((Int.tmod (wrap64 (a1)) (wrap64 ((t287.size : Int) + 1))) : Int).toNat)).bind fun bt289 => (camshaftlaw04_OpCuts.l0 k l0 (Int.tmod (wrap64 (a1)) (wrap64 ((t287.size : Int) + 1))) bt289.1 bt289.2 0 0)) else (none)) else (none)))))) = some r := h
  clear h
  by_cases c3 : (l0.length : Int) > 100
  · rw [if_pos c3] at H
    have c3b0 : decide (100 < (l0.length : Int)) = true := decide_eq_true c3
    have c3b1 : decide (100 < l0.length) = true := decide_eq_true (by omega)
    clear c3
    replace H := Option.bind_eq_some_iff.mp H
    obtain ⟨t286, A40, H⟩ := H
    replace H : (some t286) = some r := H
    have A4 := Aside0.mk A40
    clear A40
    obtain rfl := Option.some.inj H
    go_enter Try.func8, Try.ntmps8
    go_wp2_with (first | ((with_reducible refine gate_callee (f := 18) rfl ?_); refine goesL_ (some 14) rfl rfl Try.func18 (by kernel_rfl) rfl #[] rfl (by (try simp only [List.map_toArray, List.map_cons, List.map_nil]); first | done | rfl | (simp only [List.length_drop, List.length_take]; rfl)) ?_; (with_reducible refine (camshaftlaw04_known.calls k  t286 _ A4.out).mono ?_); rintro e w5 ⟨rfl, hb⟩; refine ⟨_, rfl, ?_⟩; have n0_ := Aside0.mk (below_step (by repeat (first | (with_reducible first | exact HB.out | apply below_alloc | apply pw_below_drewN | apply below_drew1) | exact HB.out)) hb); clear HB; have HB := n0_; clear n0_; (try clear hb); (try clear hb2); (try clear hk); (try clear hi)))
    go_ret
    exact ⟨by first | rfl | (rw [bne_nil_eq]; rfl) | (simp [bne_nil_eq]; done) | (simp [errW_none, errW_some] <;> rfl) | (simp [*, errW_none, errW_some] <;> rfl), by repeat (first | (with_reducible first | exact HB.out | apply below_alloc | apply pw_below_drewN | apply below_drew1) | exact HB.out | exact Below.refl _ _)⟩
  · rw [if_neg c3] at H
    have c3b0 : decide (100 < (l0.length : Int)) = false := decide_eq_false c3
    have c3b1 : decide (100 < l0.length) = false := decide_eq_false (by omega)
    clear c3
    replace H := Option.bind_eq_some_iff.mp H
    obtain ⟨t287, A60, H⟩ := H
    replace H : (if t287.toList = ([] : List UInt8) then ((camshaftlaw04_known.f k).bind fun t288 => (some t288)) else (if (wrap64 ((t287.size : Int) + 1)) = 0 then (none) else (if 0 ≤ (Int.tmod (wrap64 (a1)) (wrap64 ((t287.size : Int) + 1))) then (if (Int.tmod (wrap64 (a1)) (wrap64 ((t287.size : Int) + 1))) ≤ (t287.size : Int) then ((op_Read.f k (t287.extract 0 ((Int.tmod (wrap64 (a1)) (wrap64 ((t287.size : Int) + 1))) : Int).toNat)).bind fun bt289 => (camshaftlaw04_OpCuts.l0 k l0 (Int.tmod (wrap64 (a1)) (wrap64 ((t287.size : Int) + 1))) bt289.1 bt289.2 0 0)) else (none)) else (none)))) = some r := H
    have A6 := Aside0.mk A60
    clear A60
    by_cases c7 : t287.toList = ([] : List UInt8)
    · rw [if_pos c7] at H
      have c7b0 : (t287.toList == ([] : List UInt8)) = true := beq_iff_eq.mpr c7
      have c7b1 : (t287.toList != ([] : List UInt8)) = false := bne_eq_false_iff_eq.mpr c7
      clear c7
      replace H := Option.bind_eq_some_iff.mp H
      obtain ⟨t288, A80, H⟩ := H
      replace H : (some t288) = some r := H
      have A8 := Aside0.mk A80
      clear A80
      obtain rfl := Option.some.inj H
      go_enter Try.func8, Try.ntmps8
      go_wp2_with (first | ((with_reducible refine gate_callee (f := 24) rfl ?_); refine goesL_ (some 16) rfl rfl Try.func24 (by kernel_rfl) rfl #[.slice A0 l0.length c0] rfl (by (try simp only [List.map_toArray, List.map_cons, List.map_nil]); first | done | rfl | (simp only [List.length_drop, List.length_take]; rfl)) ?_; (with_reducible refine (op_Code.calls k _ _ l0 t287 _ ?side1 ?side2 A6.out).mono ?_); (case side1 => repeat (first | exact HR0.out | (with_reducible refine Kd.C_alloc ?_ _) | (with_reducible refine Kd.C_drewN ?_ _) | (with_reducible refine Kd.C_drew ?_))); (case side2 => exact HC0.out); rintro e w9 ⟨rfl, hb⟩; refine ⟨_, rfl, ?_⟩; have n0_ := Aside0.mk (below_step (by repeat (first | (with_reducible first | exact HB.out | apply below_alloc | apply pw_below_drewN | apply below_drew1) | exact HB.out)) hb); clear HB; have HB := n0_; clear n0_; (try clear hb); (try clear hb2); (try clear hk); (try clear hi)) | ((with_reducible refine gate_callee (f := 18) rfl ?_); refine goesL_ (some 19) rfl rfl Try.func18 (by kernel_rfl) rfl #[] rfl (by (try simp only [List.map_toArray, List.map_cons, List.map_nil]); first | done | rfl | (simp only [List.length_drop, List.length_take]; rfl)) ?_; (with_reducible refine (camshaftlaw04_known.calls k  t288 _ A8.out).mono ?_); rintro e w10 ⟨rfl, hb⟩; refine ⟨_, rfl, ?_⟩; have n0_ := Aside0.mk (below_step (by repeat (first | (with_reducible first | exact HB.out | apply below_alloc | apply pw_below_drewN | apply below_drew1) | exact HB.out)) hb); clear HB; have HB := n0_; clear n0_; (try clear hb); (try clear hb2); (try clear hk); (try clear hi)))
      go_ret
      exact ⟨by first | rfl | (rw [bne_nil_eq]; rfl) | (simp [bne_nil_eq]; done) | (simp [errW_none, errW_some] <;> rfl) | (simp [*, errW_none, errW_some] <;> rfl), by repeat (first | (with_reducible first | exact HB.out | apply below_alloc | apply pw_below_drewN | apply below_drew1) | exact HB.out | exact Below.refl _ _)⟩
    · rw [if_neg c7] at H
      have c7b0 : (t287.toList == ([] : List UInt8)) = false := beq_eq_false_iff_ne.mpr c7
      have c7b1 : (t287.toList != ([] : List UInt8)) = true := bne_iff_ne.mpr c7
      by_cases c11 : (wrap64 ((t287.size : Int) + 1)) = 0
      · rw [if_pos c11] at H
        exact absurd H (by simp)
      · rw [if_neg c11] at H
        have c11b0 : ((wrap64 ((t287.size : Int) + 1)) == 0) = false := beq_eq_false_iff_ne.mpr c11
        have c11b1 : ((wrap64 ((t287.size : Int) + 1)) != 0) = true := bne_iff_ne.mpr c11
        obtain ⟨ji12, hji12⟩ : ∃ j_ : Int, (Int.tmod (wrap64 (a1)) (wrap64 ((t287.size : Int) + 1))) = j_ := ⟨_, rfl⟩
        replace H : (if 0 ≤ (ji12) then (if (ji12) ≤ (t287.size : Int) then ((op_Read.f k (t287.extract 0 ((ji12) : Int).toNat)).bind fun bt289 => (camshaftlaw04_OpCuts.l0 k l0 ji12 bt289.1 bt289.2 0 0)) else (none)) else (none)) = some r := by first | (rw [hji12] at H; exact H) | (simp only [hji12] at H ⊢; exact H)
        (try rw [hji12] at A6)
        by_cases c13 : 0 ≤ (ji12)
        · rw [if_pos c13] at H
          have c13b0 := eq_true c13
          have c13b1 : decide (0 ≤ (ji12)) = true := decide_eq_true c13
          clear c13
          by_cases c14 : (ji12) ≤ (t287.size : Int)
          · rw [if_pos c14] at H
            have c14b0 := eq_true c14
            have c14b1 : decide ((ji12) ≤ (t287.size : Int)) = true := decide_eq_true c14
            clear c14
            replace H := Option.bind_eq_some_iff.mp H
            obtain ⟨⟨t289, t290⟩, A150, H⟩ := H
            replace H : (camshaftlaw04_OpCuts.l0 k l0 ji12 t289 t290 0 0) = some r := H
            have A15 := Aside0.mk A150
            clear A150
            have HC16 := Aside0.mk H
            clear H
            go_enter Try.func8, Try.ntmps8
            go_upto_block 0 with (first | ((with_reducible refine gate_callee (f := 24) rfl ?_); refine goesL_ (some 16) rfl rfl Try.func24 (by kernel_rfl) rfl #[.slice A0 l0.length c0] rfl (by (try simp only [List.map_toArray, List.map_cons, List.map_nil]); first | done | rfl | (simp only [List.length_drop, List.length_take]; rfl)) ?_; (with_reducible refine (op_Code.calls k _ _ l0 t287 _ ?side1 ?side2 A6.out).mono ?_); (case side1 => repeat (first | exact HR0.out | (with_reducible refine Kd.C_alloc ?_ _) | (with_reducible refine Kd.C_drewN ?_ _) | (with_reducible refine Kd.C_drew ?_))); (case side2 => exact HC0.out); rintro e w17 ⟨rfl, hb⟩; refine ⟨_, rfl, ?_⟩; have n0_ := Aside0.mk (below_step (by repeat (first | (with_reducible first | exact HB.out | apply below_alloc | apply pw_below_drewN | apply below_drew1) | exact HB.out)) hb); clear HB; have HB := n0_; clear n0_; (try clear hb); (try clear hb2); (try clear hk); (try clear hi)) | ((with_reducible refine gate_callee (f := 21) rfl ?_); refine goesL_ (some 30) rfl rfl Try.func21 (by kernel_rfl) rfl #[.string (t287.extract 0 ((ji12) : Int).toNat)] rfl (by (try simp only [List.map_toArray, List.map_cons, List.map_nil]); first | done | (simp only [hji12]; rfl) | rfl | (simp only [List.length_drop, List.length_take]; rfl)) ?_; (with_reducible refine (op_Read.calls k (t287.extract 0 ((ji12) : Int).toNat) t289 t290 _ A15.out).mono ?_); rintro e w18 ⟨v291, rfl, ho0, hb⟩; refine ⟨_, rfl, ?_⟩; have n0_ := Aside0.mk (Kd.R_lower ho0 (below_size (by repeat (first | (with_reducible first | exact HB.out | apply below_alloc | apply pw_below_drewN | apply below_drew1) | exact HB.out)))); have n1_ := Aside0.mk (below_step (by repeat (first | (with_reducible first | exact HB.out | apply below_alloc | apply pw_below_drewN | apply below_drew1) | exact HB.out)) hb); clear HB; have HO292 := n0_; have HB := n1_; clear n0_ n1_; (try clear hb); (try clear hb2); (try clear hk); (try clear hi); (try clear ho0)))
            (try simp only [Act.put, List.setIfInBounds_toArray, List.set_cons_zero, List.set_cons_succ])
            go_cut [9, 10] (fun v9 v10 wc => ∃ (kq : Nat) (x9_15 : Int) (x10_15 : Int), v9 = .int .i64 x9_15 ∧ v10 = .int .i64 x10_15 ∧ Aside0 (camshaftlaw04_OpCuts.j1 kq l0 ji12 t289 t290 x9_15 x10_15 = some r) ∧ Aside0 (kq ≤ k) ∧ Aside0 (Kd.R k23 23 wc w.heap.size (fun _ => True) v291 t289) ∧ Aside0 (Below w.heap.size w wc))
            case first =>
              have H := HC16.out
              clear HC16
              have H' := Aside0.mk H
              clear H
              go_wp2
              go_loopg [9, 10] k (fun kq v9 v10 w' => ∃ (x9_1 : Int) (x10_1 : Int), v9 = .int .i64 x9_1 ∧ v10 = .int .i64 x10_1 ∧ Aside0 (camshaftlaw04_OpCuts.l0 kq l0 ji12 t289 t290 x9_1 x10_1 = some r) ∧ Aside0 (kq ≤ k) ∧ Aside0 (Kd.R k23 23 w' w.heap.size (fun _ => True) v291 t289) ∧ Aside0 (Below w.heap.size w w'))
              case atStart => exact ⟨(0), (0), (by first | rfl | (simp; done) | (simp [*]; done)), (by first | rfl | (simp; done) | (simp [*]; done)), H', ⟨Nat.le_refl _⟩, ⟨by (with_reducible repeat (first | apply Kd.R_alloc | apply Kd.R_drewN | apply Kd.R_drew)); exact HO292.out⟩, ⟨by repeat (first | (with_reducible first | exact HB.out | apply below_alloc | apply pw_below_drewN | apply below_drew1) | exact HB.out)⟩⟩
              case round =>
                clear H'
                try clear c1
                try clear c2
                try clear p2
                try clear c3
                try clear c3b0
                try clear c3b1
                try clear p6
                try clear c7
                try clear c7b0
                try clear c7b1
                try clear c8
                try clear c11
                try clear c11b0
                try clear c11b1
                try clear c13
                try clear c13b0
                try clear c13b1
                try clear c14
                try clear c14b0
                try clear c14b1
                try clear c18
                obtain ⟨x9_1, x10_1, rfl, rfl, HA, HK1, HO_7, HB⟩ := hrel
                cases gk with
                | zero => exact absurd HA.out (by simp [camshaftlaw04_OpCuts.l0])
                | succ k1 =>
                  have H := HA.out
                  clear HA
                  simp only [camshaftlaw04_OpCuts.l0] at H
                  by_cases c19 : x10_1 < (l0.length : Int)
                  · rw [if_pos c19] at H
                    have c19b0 : decide (x10_1 < (l0.length : Int)) = true := decide_eq_true c19
                    clear c19
                    (first | rw [c19b0] | (simp only [i64_w, i32_w]; rw [c19b0]) | skip)
                    by_cases c20 : 0 ≤ x10_1
                    · rw [if_pos c20] at H
                      have c20b0 : decide (0 ≤ x10_1) = true := decide_eq_true c20
                      clear c20
                      replace H := Option.bind_eq_some_iff.mp H
                      obtain ⟨t294, A210, H⟩ := H
                      replace H : (if (wrap64 (x9_1 + (t294.size : Int))) ≤ ji12 then ((op_Encode.f k1 ((rd_T23 l0 x10_1).f0) ((rd_T23 l0 x10_1).f1) ((rd_T23 l0 x10_1).f2)).bind fun t296 => (camshaftlaw04_OpCuts.l0 k1 l0 ji12 t289 t290 (wrap64 (x9_1 + (t296.size : Int))) (wrap64 (x10_1 + 1)))) else (camshaftlaw04_OpCuts.j1 k1 l0 ji12 t289 t290 x9_1 x10_1)) = some r := H
                      have A21 := Aside0.mk A210
                      clear A210
                      by_cases c22 : (wrap64 (x9_1 + (t294.size : Int))) ≤ ji12
                      · rw [if_pos c22] at H
                        have c22b0 : decide ((wrap64 (x9_1 + (t294.size : Int))) ≤ ji12) = true := decide_eq_true c22
                        clear c22
                        replace H := Option.bind_eq_some_iff.mp H
                        obtain ⟨t296, A230, H⟩ := H
                        replace H : (camshaftlaw04_OpCuts.l0 k1 l0 ji12 t289 t290 (wrap64 (x9_1 + (t296.size : Int))) (wrap64 (x10_1 + 1))) = some r := H
                        have A23 := Aside0.mk A230
                        clear A230
                        have H' := Aside0.mk H
                        clear H
                        have p293 : 0 ≤ (x10_1 : Int) := of_decide_eq_true (by first | (with_reducible assumption) | assumption)
                        have q293 : x10_1 < (l0.length : Int) := of_decide_eq_true (by first | (with_reducible assumption) | assumption)
                        obtain ⟨ad293, e293, hx293_0, hx293_1, hx293_2⟩ := at_T23 HR0.out x10_1 p293 q293
                        cases e293
                        replace hx293_0 := (HB.out.cell (World.block_lt_of_cell? w _ hx293_0)).trans hx293_0
                        replace hx293_1 := (HB.out.cell (World.block_lt_of_cell? w _ hx293_1)).trans hx293_1
                        replace hx293_2 := (HB.out.cell (World.block_lt_of_cell? w _ hx293_2)).trans hx293_2
                        replace p293 := eq_true p293
                        replace q293 := eq_true q293
                        go_wp2_with (first | ((with_reducible refine gate_callee (f := 12) rfl ?_); (with_reducible refine gate_dst (N := 43) rfl ?_); (refine gate_guard (by rfl) ?_; dsimp only); refine goesL_ (some 43) rfl rfl Try.func12 (by kernel_rfl) rfl #[.agg #[.int .i64 ((rd_T23 l0 x10_1).f0), .int .i64 ((rd_T23 l0 x10_1).f1), .int .i64 ((rd_T23 l0 x10_1).f2)]] rfl (by (try simp only [List.map_toArray, List.map_cons, List.map_nil]); first | done | rfl | (simp only [List.length_drop, List.length_take]; rfl)) ?_; (with_reducible refine (op_Encode.calls k1 ((rd_T23 l0 x10_1).f0) ((rd_T23 l0 x10_1).f1) ((rd_T23 l0 x10_1).f2) t294 _ A21.out).mono ?_); rintro e w24 ⟨rfl, hb⟩; refine ⟨_, rfl, ?_⟩; have n0_ := Aside0.mk (Kd.R_below (by (with_reducible repeat (first | apply Kd.R_alloc | apply Kd.R_drewN | apply Kd.R_drew)); exact HO_7.out) hb); have n1_ := Aside0.mk (below_step (by repeat (first | (with_reducible first | exact HB.out | apply below_alloc | apply pw_below_drewN | apply below_drew1) | exact HB.out)) hb); clear HO_7; clear HB; have HO_7 := n0_; have HB := n1_; clear n0_ n1_; (try clear hb); (try clear hb2); (try clear hk); (try clear hi); have p295 : 0 ≤ (x10_1 : Int) := of_decide_eq_true (by first | (with_reducible assumption) | assumption); have q295 : x10_1 < (l0.length : Int) := of_decide_eq_true (by first | (with_reducible assumption) | assumption); obtain ⟨ad295, e295, hx295_0, hx295_1, hx295_2⟩ := at_T23 HR0.out x10_1 p295 q295; obtain rfl : ad293 = ad295 := (by injection e295); replace hx295_0 := (HB.out.cell (World.block_lt_of_cell? w _ hx295_0)).trans hx295_0; replace hx295_1 := (HB.out.cell (World.block_lt_of_cell? w _ hx295_1)).trans hx295_1; replace hx295_2 := (HB.out.cell (World.block_lt_of_cell? w _ hx295_2)).trans hx295_2; replace p295 := eq_true p295; replace q295 := eq_true q295) | ((with_reducible refine gate_callee (f := 12) rfl ?_); refine goesL_ (some 54) rfl rfl Try.func12 (by kernel_rfl) rfl #[.agg #[.int .i64 ((rd_T23 l0 x10_1).f0), .int .i64 ((rd_T23 l0 x10_1).f1), .int .i64 ((rd_T23 l0 x10_1).f2)]] rfl (by (try simp only [List.map_toArray, List.map_cons, List.map_nil]); first | done | rfl | (simp only [List.length_drop, List.length_take]; rfl)) ?_; (with_reducible refine (op_Encode.calls k1 ((rd_T23 l0 x10_1).f0) ((rd_T23 l0 x10_1).f1) ((rd_T23 l0 x10_1).f2) t296 _ A23.out).mono ?_); rintro e w25 ⟨rfl, hb⟩; refine ⟨_, rfl, ?_⟩; have n0_ := Aside0.mk (Kd.R_below (by (with_reducible repeat (first | apply Kd.R_alloc | apply Kd.R_drewN | apply Kd.R_drew)); exact HO_7.out) hb); have n1_ := Aside0.mk (below_step (by repeat (first | (with_reducible first | exact HB.out | apply below_alloc | apply pw_below_drewN | apply below_drew1) | exact HB.out)) hb); clear HO_7; clear HB; have HO_7 := n0_; have HB := n1_; clear n0_ n1_; (try clear hb); (try clear hb2); (try clear hk); (try clear hi)))
                        go_roundg k1
                        case measure => have := HK1.out; omega
                        case rel => exact ⟨(wrap64 (x9_1 + (t296.size : Int))), (wrap64 (x10_1 + 1)), (by first | rfl | (simp; done) | (simp [*]; done)), (by first | rfl | (simp; done) | (simp [*]; done)), H', ⟨by have := HK1.out; omega⟩, ⟨by (with_reducible repeat (first | apply Kd.R_alloc | apply Kd.R_drewN | apply Kd.R_drew)); exact HO_7.out⟩, ⟨by repeat (first | (with_reducible first | exact HB.out | apply below_alloc | apply pw_below_drewN | apply below_drew1) | exact HB.out | exact Below.refl _ _)⟩⟩
                      · rw [if_neg c22] at H
                        have c22b0 : decide ((wrap64 (x9_1 + (t294.size : Int))) ≤ ji12) = false := decide_eq_false c22
                        clear c22
                        have H' := Aside0.mk H
                        clear H
                        have p293 : 0 ≤ (x10_1 : Int) := of_decide_eq_true (by first | (with_reducible assumption) | assumption)
                        have q293 : x10_1 < (l0.length : Int) := of_decide_eq_true (by first | (with_reducible assumption) | assumption)
                        obtain ⟨ad293, e293, hx293_0, hx293_1, hx293_2⟩ := at_T23 HR0.out x10_1 p293 q293
                        cases e293
                        replace hx293_0 := (HB.out.cell (World.block_lt_of_cell? w _ hx293_0)).trans hx293_0
                        replace hx293_1 := (HB.out.cell (World.block_lt_of_cell? w _ hx293_1)).trans hx293_1
                        replace hx293_2 := (HB.out.cell (World.block_lt_of_cell? w _ hx293_2)).trans hx293_2
                        replace p293 := eq_true p293
                        replace q293 := eq_true q293
                        go_wp2_with (first | ((with_reducible refine gate_callee (f := 12) rfl ?_); (with_reducible refine gate_dst (N := 43) rfl ?_); (refine gate_guard (by rfl) ?_; dsimp only); refine goesL_ (some 43) rfl rfl Try.func12 (by kernel_rfl) rfl #[.agg #[.int .i64 ((rd_T23 l0 x10_1).f0), .int .i64 ((rd_T23 l0 x10_1).f1), .int .i64 ((rd_T23 l0 x10_1).f2)]] rfl (by (try simp only [List.map_toArray, List.map_cons, List.map_nil]); first | done | rfl | (simp only [List.length_drop, List.length_take]; rfl)) ?_; (with_reducible refine (op_Encode.calls k1 ((rd_T23 l0 x10_1).f0) ((rd_T23 l0 x10_1).f1) ((rd_T23 l0 x10_1).f2) t294 _ A21.out).mono ?_); rintro e w26 ⟨rfl, hb⟩; refine ⟨_, rfl, ?_⟩; have n0_ := Aside0.mk (Kd.R_below (by (with_reducible repeat (first | apply Kd.R_alloc | apply Kd.R_drewN | apply Kd.R_drew)); exact HO_7.out) hb); have n1_ := Aside0.mk (below_step (by repeat (first | (with_reducible first | exact HB.out | apply below_alloc | apply pw_below_drewN | apply below_drew1) | exact HB.out)) hb); clear HO_7; clear HB; have HO_7 := n0_; have HB := n1_; clear n0_ n1_; (try clear hb); (try clear hb2); (try clear hk); (try clear hi)))
                        go_meet
                        case rel => exact ⟨_, (x9_1), (x10_1), (by first | rfl | (simp; done) | (simp [*]; done)), (by first | rfl | (simp; done) | (simp [*]; done)), H', ⟨by have := HK1.out; first | omega | exact Nat.le_refl _⟩, ⟨by (with_reducible repeat (first | apply Kd.R_alloc | apply Kd.R_drewN | apply Kd.R_drew)); exact HO_7.out⟩, ⟨by repeat (first | (with_reducible first | exact HB.out | apply below_alloc | apply pw_below_drewN | apply below_drew1) | exact HB.out | exact Below.refl _ _)⟩⟩
                    · rw [if_neg c20] at H
                      exact absurd H (by simp)
                  · rw [if_neg c19] at H
                    have c19b0 : decide (x10_1 < (l0.length : Int)) = false := decide_eq_false c19
                    clear c19
                    (first | rw [c19b0] | (simp only [i64_w, i32_w]; rw [c19b0]) | skip)
                    have H' := Aside0.mk H
                    clear H
                    go_wp2
                    go_meet
                    case rel => exact ⟨_, (x9_1), (x10_1), (by first | rfl | (simp; done) | (simp [*]; done)), (by first | rfl | (simp; done) | (simp [*]; done)), H', ⟨by have := HK1.out; first | omega | exact Nat.le_refl _⟩, ⟨by (with_reducible repeat (first | apply Kd.R_alloc | apply Kd.R_drewN | apply Kd.R_drew)); exact HO_7.out⟩, ⟨by repeat (first | (with_reducible first | exact HB.out | apply below_alloc | apply pw_below_drewN | apply below_drew1) | exact HB.out | exact Below.refl _ _)⟩⟩
            case rest =>
              clear HC16
              try clear c1
              try clear c2
              try clear p2
              try clear q2
              try clear hx2
              try clear c3
              try clear c3b0
              try clear c3b1
              try clear p6
              try clear c7
              try clear c7b0
              try clear c7b1
              try clear c8
              try clear c11
              try clear c11b0
              try clear c11b1
              try clear c12
              try clear c13
              try clear c13b0
              try clear c13b1
              try clear c14
              try clear c14b0
              try clear c14b1
              try clear c18
              try clear c19
              try clear c19b0
              try clear c20
              try clear c20b0
              try clear c21
              try clear c22
              try clear c22b0
              try clear c24
              try clear hx293_0
              try clear hx293_1
              try clear hx293_2
              try clear hx295_0
              try clear hx295_1
              try clear hx295_2
              try clear p2
              try clear p293
              try clear p295
              try clear p6
              try clear q293
              try clear q295
              obtain ⟨kq, x9_15, x10_15, rfl, rfl, HA, HJ15, HO_7, HB⟩ := hcut
              cases kq with
              | zero => exact absurd HA.out (by simp [camshaftlaw04_OpCuts.j1])
              | succ kj15 =>
                have H := HA.out
                clear HA
                simp only [camshaftlaw04_OpCuts.j1] at H
                by_cases c27 : x9_15 = ji12
                · rw [if_pos c27] at H
                  have c27b0 : (x9_15 == ji12) = true := beq_iff_eq.mpr c27
                  have c27b1 : (x9_15 != ji12) = false := bne_eq_false_iff_eq.mpr c27
                  clear c27
                  by_cases c28 : t290 = 0
                  · rw [if_pos c28] at H
                    have c28b0 : (t290 == 0) = true := beq_iff_eq.mpr c28
                    have c28b1 : (t290 != 0) = false := bne_eq_false_iff_eq.mpr c28
                    clear c28
                    by_cases c29 : 0 ≤ x10_15
                    · rw [if_pos c29] at H
                      have c29b0 := eq_true c29
                      have c29b1 : decide (0 ≤ x10_15) = true := decide_eq_true c29
                      clear c29
                      by_cases c30 : x10_15 ≤ (l0.length : Int)
                      · rw [if_pos c30] at H
                        have c30b0 := eq_true c30
                        have c30b1 : decide (x10_15 ≤ (l0.length : Int)) = true := decide_eq_true c30
                        clear c30
                        obtain ⟨y297, hy297⟩ : ∃ y_ : List (S23), y_ = (l0.take (x10_15 : Int).toNat) := ⟨_, rfl⟩
                        replace H : ((camshaftref04_Same.f kj15 t289 y297).bind fun t301 => (if t301 = true then ((camshaftlaw04_known.f kj15).bind fun t302 => (some t302)) else (some false))) = some r := by first | (rw [hy297]; with_reducible exact H) | (have H2_ := (Option.bind_some _ _).symm.trans H; rw [hy297]; with_reducible exact H2_) | (have H2_ := (Option.bind_some _ _).symm.trans H; with_reducible exact H2_) | with_reducible exact H | (rw [hy297]; exact H) | exact H
                        have Ny297 := Aside0.mk hy297
                        clear hy297
                        replace H := Option.bind_eq_some_iff.mp H
                        obtain ⟨t301, A310, H⟩ := H
                        replace H : (if t301 = true then ((camshaftlaw04_known.f kj15).bind fun t302 => (some t302)) else (some false)) = some r := H
                        have A31 := Aside0.mk A310
                        clear A310
                        by_cases c32 : t301 = true
                        · subst c32
                          have H1 : ((camshaftlaw04_known.f kj15).bind fun t302 => (some t302)) = some r := by rw [if_pos rfl] at H; exact H
                          clear H
                          have H := H1
                          clear H1
                          replace H := Option.bind_eq_some_iff.mp H
                          obtain ⟨t302, A330, H⟩ := H
                          replace H : (some t302) = some r := H
                          have A33 := Aside0.mk A330
                          clear A330
                          obtain rfl := Option.some.inj H
                          have q34 : (x10_15 : Int) ≤ ((l0.length : Int) : Int) := of_decide_eq_true (by first | (with_reducible assumption) | assumption)
                          obtain ⟨i034, hi034, _, hsz34, _⟩ := info_parts info23
                          have hroom34 : l0.length ≤ c0 := HC0.out
                          have hC34 : Kd.C k23 _ A0 l0.length l0 := HR0.out
                          have hcut34 := cut_to (P := Try.prog) 32 23 .i64 Try.underlying32 hi034 A0 l0.length c0 x10_15 (of_decide_eq_true (by first | (with_reducible assumption) | assumption)) q34 hroom34
                          have hr34 := Kd.C_take (m := (x10_15 : Int).toNat) hC34 (by omega)
                          have hy34 : y297.length = (x10_15 : Int).toNat := (by rw [Ny297.out, List.length_take]; omega)
                          rw [← Ny297.out] at hr34
                          rw [← hy34] at hcut34
                          have HR300 := Aside0.mk hr34
                          have HC300 := Aside0.mk (show y297.length ≤ c0 from by omega)
                          clear hr34 hC34 hroom34 hi034 hsz34
                          have KY34 := Aside0.mk hy34
                          clear hy34
                          replace q34 := eq_true q34
                          obtain ⟨Ao35, co35, eo35⟩ := Kd.R_slice HO_7.out
                          subst eo35
                          go_wp2_with (first | ((with_reducible refine gate_callee (f := 23) rfl ?_); (with_reducible refine gate_dst (N := 69) rfl ?_); (refine gate_guard (by rfl) ?_; dsimp only); refine goesL_ (some 69) rfl rfl Try.func23 (by kernel_rfl) rfl #[.slice Ao35 t289.length co35, .slice A0 y297.length c0] rfl (by (try simp only [List.map_toArray, List.map_cons, List.map_nil]); first | done | rfl | (simp only [List.length_drop, List.length_take]; rfl)) ?_; (with_reducible refine (camshaftref04_Same.calls kj15 _ _ t289 _ _ y297 true _ ?side1 ?side2 ?side3 ?side4 A31.out).mono ?_); (case side1 => repeat (first | exact (Kd.R_reads' HO_7.out).2.2 | (with_reducible refine Kd.C_alloc ?_ _) | (with_reducible refine Kd.C_drewN ?_ _) | (with_reducible refine Kd.C_drew ?_))); (case side2 => exact (Kd.R_reads' HO_7.out).2.1); (case side3 => repeat (first | exact (Kd.C_below HR300.out HB.out) | (with_reducible refine Kd.C_alloc ?_ _) | (with_reducible refine Kd.C_drewN ?_ _) | (with_reducible refine Kd.C_drew ?_))); (case side4 => exact HC300.out); rintro e w' ⟨rfl, ⟨nd, rfl⟩⟩; refine ⟨_, rfl, ?_⟩) | ((with_reducible refine gate_callee (f := 18) rfl ?_); (with_reducible refine gate_dst (N := 72) rfl ?_); (refine gate_guard (by rfl) ?_; dsimp only); refine goesL_ (some 72) rfl rfl Try.func18 (by kernel_rfl) rfl #[] rfl (by (try simp only [List.map_toArray, List.map_cons, List.map_nil]); first | done | rfl | (simp only [List.length_drop, List.length_take]; rfl)) ?_; (with_reducible refine (camshaftlaw04_known.calls kj15  t302 _ A33.out).mono ?_); rintro e w36 ⟨rfl, hb⟩; refine ⟨_, rfl, ?_⟩; have n0_ := Aside0.mk (Kd.R_below (by (with_reducible repeat (first | apply Kd.R_alloc | apply Kd.R_drewN | apply Kd.R_drew)); exact HO_7.out) hb); have n1_ := Aside0.mk (below_step (by repeat (first | (with_reducible first | exact HB.out | apply below_alloc | apply pw_below_drewN | apply below_drew1) | exact HB.out)) hb); clear HO_7; clear HB; have HO_7 := n0_; have HB := n1_; clear n0_ n1_; (try clear hb); (try clear hb2); (try clear hk); (try clear hi)))
                          go_ret
                          exact ⟨by first | rfl | (rw [bne_nil_eq]; rfl) | (simp [bne_nil_eq]; done) | (simp [errW_none, errW_some] <;> rfl) | (simp only [← hji12]; first | rfl | (simp [errW_none, errW_some] <;> rfl)) | (simp [*, errW_none, errW_some] <;> rfl), by repeat (first | (with_reducible first | exact HB.out | apply below_alloc | apply pw_below_drewN | apply below_drew1) | exact HB.out | exact Below.refl _ _)⟩
                        · replace c32 := Bool.eq_false_iff.mpr c32
                          subst c32
                          have H1 : (some false) = some r := by rw [if_neg (show ¬ (false = true) by decide)] at H; exact H
                          clear H
                          have H := H1
                          clear H1
                          exact absurd ((Option.some.inj H).trans HT.out) (by decide)
                      · rw [if_neg c30] at H
                        exact absurd H (by simp)
                    · rw [if_neg c29] at H
                      exact absurd H (by simp)
                  · rw [if_neg c28] at H
                    have c28b0 : (t290 == 0) = false := beq_eq_false_iff_ne.mpr c28
                    have c28b1 : (t290 != 0) = true := bne_iff_ne.mpr c28
                    exact absurd ((Option.some.inj H).trans HT.out) (by decide)
                · rw [if_neg c27] at H
                  have c27b0 : (x9_15 == ji12) = false := beq_eq_false_iff_ne.mpr c27
                  have c27b1 : (x9_15 != ji12) = true := bne_iff_ne.mpr c27
                  by_cases c37 : t290 = 2
                  · rw [if_pos c37] at H
                    have c37b0 : (t290 == 2) = true := beq_iff_eq.mpr c37
                    have c37b1 : (t290 != 2) = false := bne_eq_false_iff_eq.mpr c37
                    clear c37
                    by_cases c38 : (t289.length : Int) = 0
                    · rw [if_pos c38] at H
                      have c38b0 : ((t289.length : Int) == 0) = true := beq_iff_eq.mpr c38
                      have c38b1 : ((t289.length : Int) != 0) = false := bne_eq_false_iff_eq.mpr c38
                      clear c38
                      replace H := Option.bind_eq_some_iff.mp H
                      obtain ⟨t303, A390, H⟩ := H
                      replace H : (some t303) = some r := H
                      have A39 := Aside0.mk A390
                      clear A390
                      obtain rfl := Option.some.inj H
                      obtain ⟨Ao40, co40, eo40⟩ := Kd.R_slice HO_7.out
                      subst eo40
                      go_wp2_with (first | ((with_reducible refine gate_callee (f := 18) rfl ?_); (with_reducible refine gate_dst (N := 82) rfl ?_); (refine gate_guard (by rfl) ?_; dsimp only); refine goesL_ (some 82) rfl rfl Try.func18 (by kernel_rfl) rfl #[] rfl (by (try simp only [List.map_toArray, List.map_cons, List.map_nil]); first | done | rfl | (simp only [List.length_drop, List.length_take]; rfl)) ?_; (with_reducible refine (camshaftlaw04_known.calls kj15  t303 _ A39.out).mono ?_); rintro e w41 ⟨rfl, hb⟩; refine ⟨_, rfl, ?_⟩; have n0_ := Aside0.mk (Kd.R_below (by (with_reducible repeat (first | apply Kd.R_alloc | apply Kd.R_drewN | apply Kd.R_drew)); exact HO_7.out) hb); have n1_ := Aside0.mk (below_step (by repeat (first | (with_reducible first | exact HB.out | apply below_alloc | apply pw_below_drewN | apply below_drew1) | exact HB.out)) hb); clear HO_7; clear HB; have HO_7 := n0_; have HB := n1_; clear n0_ n1_; (try clear hb); (try clear hb2); (try clear hk); (try clear hi)))
                      go_ret
                      exact ⟨by first | rfl | (rw [bne_nil_eq]; rfl) | (simp [bne_nil_eq]; done) | (simp [errW_none, errW_some] <;> rfl) | (simp only [← hji12]; first | rfl | (simp [errW_none, errW_some] <;> rfl)) | (simp [*, errW_none, errW_some] <;> rfl), by repeat (first | (with_reducible first | exact HB.out | apply below_alloc | apply pw_below_drewN | apply below_drew1) | exact HB.out | exact Below.refl _ _)⟩
                    · rw [if_neg c38] at H
                      have c38b0 : ((t289.length : Int) == 0) = false := beq_eq_false_iff_ne.mpr c38
                      have c38b1 : ((t289.length : Int) != 0) = true := bne_iff_ne.mpr c38
                      have c38b2 : ¬ (t289 = []) := fun h_ => c38 (by rw [h_]; rfl)
                      exact absurd ((Option.some.inj H).trans HT.out) (by decide)
                  · rw [if_neg c37] at H
                    have c37b0 : (t290 == 2) = false := beq_eq_false_iff_ne.mpr c37
                    have c37b1 : (t290 != 2) = true := bne_iff_ne.mpr c37
                    exact absurd ((Option.some.inj H).trans HT.out) (by decide)
          · rw [if_neg c14] at H
            exact absurd H (by simp)
        · rw [if_neg c13] at H
          exact absurd H (by simp)

/-- THE ONE PURE STATEMENT of camshaftlaw04_OpCuts. -/
def camshaftlaw04_OpCuts.Pure : Prop := ∀ (l0 : List S23) (a1 : Int), l0.length * 24 ≤ 140737488351232 → (∀ x ∈ l0, (Lit.int .i64 x.f0).wf = true ∧ (Lit.int .i64 x.f1).wf = true ∧ (Lit.int .i64 x.f2).wf = true) → (Lit.int .u16 a1).wf = true → ∃ k, camshaftlaw04_OpCuts.f k l0 a1 = some true
theorem camshaftlaw04_OpCuts.walk (P : camshaftlaw04_OpCuts.Pure) (A0 : Option Addr) (c0 : Nat) (l0 : List S23) (a1 : Int) (w : World) (hr0 : Kd.C k23 w A0 l0.length l0) (hc0 : l0.length ≤ c0) (y0 : l0.length * 24 ≤ 140737488351232) (hw0 : ∀ x ∈ l0, (Lit.int .i64 x.f0).wf = true ∧ (Lit.int .i64 x.f1).wf = true ∧ (Lit.int .i64 x.f2).wf = true) (w1 : (Lit.int .u16 a1).wf = true) :
    Calls Try.prog 8 #[.slice A0 l0.length c0, .int .u16 a1] w fun e w' => e = .returned (.bool true) ∧ Below w.heap.size w w' := by
  obtain ⟨k, h⟩ := P l0 a1 y0 hw0 w1
  refine (camshaftlaw04_OpCuts.calls k A0 c0 l0 a1 true w hr0 hc0 h rfl).mono ?_
  rintro e w' ⟨rfl, hd⟩
  exact ⟨rfl, hd⟩

end Go.Proofs.Ytnfoebbdmekbiaa.P
