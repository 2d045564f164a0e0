-- Written by a program of this session (wip/tools: patched print) for this claim. Not trusted: Lean checks it.
import Derived.Test.YteioenlkdidpgaaPx0
import Derived.Test.YteioenlkdidpgaaPx1
import Derived.Test.YteioenlkdidpgaaPx3
import Derived.Test.YteioenlkdidpgaaPx4
namespace Go.Proofs.Yteioenlkdidpgaa.P
open Go.RowKit Go.Proofs.YteioenlkdidpgaaW.PrintWords Go.Proofs.YteioenlkdidpgaaW.PrintLast Go.Proofs.YteioenlkdidpgaaW.PrintMore
attribute [local go_sem] max2_int min2_int max_two min_two max_three min_three max_four min_four   -- for this text's walks alone
set_option linter.unusedVariables false
set_option linter.unusedSimpArgs false

/-! ### camshaftlaw02_CodeParts: function 8 -/
def camshaftlaw02_CodeParts.j0 : Nat → ByteArray → List Int → Bool → Option (Bool)
  | 0, _, _, _ => none
  | k + 1, x0, x1, x27 => if x27 = true then ((camshaftlaw02_known.f k).bind fun t263 => (some t263)) else ((code_List.f k x1).bind fun t264 => ((code_GetList.f k t264 0 (x1.length : Int)).bind fun bt265 => (if x0.size + t264.size ≤ 9223372036854775807 then ((code_GetList.f k (x0 ++ t264) (x0.size : Int) 100).bind fun bt270 => ((code_GetList.f k t264 0 (wrap64 ((x1.length : Int) - 1))).bind fun bt275 => ((camshaftref02_Same.f k bt265.1 x1).bind fun t280 => (if t280 = true then ((camshaftref02_Same.f k bt270.1 x1).bind fun t281 => (if t281 = true then (if bt265.2.1 = (t264.size : Int) then (if bt270.2.1 = (wrap64 (bt265.2.1 + (x0.size : Int))) then (if bt265.2.2 = 0 then (if bt270.2.2 = 0 then (if bt275.2.2 = 4 then ((camshaftlaw02_known.f k).bind fun t282 => (some t282)) else (some false)) else (some false)) else (some false)) else (some false)) else (some false)) else (some false))) else (some false))))) else (none))))
def camshaftlaw02_CodeParts.f (k : Nat) (a0 : ByteArray) (l1 : List Int) : Option (Bool) := if (a0.size : Int) > 100 then (camshaftlaw02_CodeParts.j0 k a0 l1 true) else (if (l1.length : Int) < 1 then (camshaftlaw02_CodeParts.j0 k a0 l1 true) else (camshaftlaw02_CodeParts.j0 k a0 l1 (decide ((l1.length : Int) > 60))))
theorem camshaftlaw02_CodeParts.mono_l : ∀ k, (∀ y0 y1 y2, LeO (camshaftlaw02_CodeParts.j0 k y0 y1 y2) (camshaftlaw02_CodeParts.j0 (k + 1) y0 y1 y2))
  | 0 => fun _ _ _ r h => by simp [camshaftlaw02_CodeParts.j0] at h
  | k + 1 => by
    have ih0 := camshaftlaw02_CodeParts.mono_l k
    · intro y0 y1 y2
      unfold camshaftlaw02_CodeParts.j0
      repeat' first
      | (with_reducible exact ih0 _ _ _)
      | (with_reducible exact camshaftlaw02_known.mono _)
      | (with_reducible exact camshaftref02_Same.mono _ _ _)
      | (with_reducible exact code_GetList.mono _ _ _ _)
      | (with_reducible exact code_List.mono _ _)
      | (with_reducible exact LeO.refl _)
      | (with_reducible exact LeO.none _)
      | (with_reducible refine LeO.ite ?_ ?_)
      | (with_reducible refine LeO.bind ?_ (fun _ => ?_))
      | exact ih0 _ _ _
      | exact camshaftlaw02_known.mono _
      | exact camshaftref02_Same.mono _ _ _
      | exact code_GetList.mono _ _ _ _
      | exact code_List.mono _ _
      | exact LeO.none _
      | refine LeO.ite ?_ ?_
      | refine LeO.bind ?_ (fun _ => ?_)
theorem camshaftlaw02_CodeParts.mono : ∀ a0 a1 k, LeO (camshaftlaw02_CodeParts.f k a0 a1) (camshaftlaw02_CodeParts.f (k + 1) a0 a1) := by
  intro a0 a1 k
  have ih0 := camshaftlaw02_CodeParts.mono_l k
  unfold camshaftlaw02_CodeParts.f
  repeat' first
      | (with_reducible exact ih0 _ _ _)
      | (with_reducible exact camshaftlaw02_known.mono _)
      | (with_reducible exact camshaftref02_Same.mono _ _ _)
      | (with_reducible exact code_GetList.mono _ _ _ _)
      | (with_reducible exact code_List.mono _ _)
      | (with_reducible exact LeO.refl _)
      | (with_reducible exact LeO.none _)
      | (with_reducible refine LeO.ite ?_ ?_)
      | (with_reducible refine LeO.bind ?_ (fun _ => ?_))
      | exact ih0 _ _ _
      | exact camshaftlaw02_known.mono _
      | exact camshaftref02_Same.mono _ _ _
      | exact code_GetList.mono _ _ _ _
      | exact code_List.mono _ _
      | exact LeO.none _
      | refine LeO.ite ?_ ?_
      | refine LeO.bind ?_ (fun _ => ?_)
set_option maxHeartbeats 8000000 in
set_option maxRecDepth 100000 in
theorem camshaftlaw02_CodeParts.calls (k : Nat) (a0 : ByteArray) (A1 : Option Addr) (c1 : Nat) (l1 : List Int) (r : Bool) (w : World) (hr1 : Kd.C (Kd.int .i64) w A1 l1.length l1) (hc1 : l1.length ≤ c1) (h : camshaftlaw02_CodeParts.f k a0 l1 = some r) (ht : r = true) :
    Calls Try.prog 8 #[.string a0, .slice A1 l1.length c1] w fun e w' => e = .returned (.bool r) ∧ Below w.heap.size w w' := by
  have HT := Aside0.mk ht
  clear ht
  have HR1 := Aside0.mk hr1
  have HC1 := Aside0.mk hc1
  clear hr1 hc1
  have HB := Aside0.mk (Below.refl w.heap.size w)
  have H : (if (a0.size : Int) > 100 then (camshaftlaw02_CodeParts.j0 k a0 l1 true) else (if (l1.length : Int) < 1 then (camshaftlaw02_CodeParts.j0 k a0 l1 true) else (camshaftlaw02_CodeParts.j0 k a0 l1 (decide ((l1.length : Int) > 60))))) = some r := h
  clear h
  have HC3 := Aside0.mk H
  clear H
  go_enter Try.func8, Try.ntmps8
  go_upto_region 1 with (fail)
  go_cut [27] (fun v27 wc => ∃ (kq : Nat) (x27_2 : Bool), v27 = .bool x27_2 ∧ Aside0 (camshaftlaw02_CodeParts.j0 kq a0 l1 x27_2 = some r) ∧ Aside0 (kq ≤ k) ∧ Aside0 (Below w.heap.size w wc))
  case first =>
    have H := HC3.out
    clear HC3
    by_cases c4 : (a0.size : Int) > 100
    · rw [if_pos c4] at H
      have c4b0 : decide (100 < (a0.size : Int)) = true := decide_eq_true c4
      have c4b1 : decide (100 < a0.size) = true := decide_eq_true (by omega)
      clear c4
      (first | rw [c4b0] | (simp only [i64_w, i32_w]; rw [c4b0]) | skip)
      have H' := Aside0.mk H
      clear H
      go_wp2
      go_meet
      case rel => exact ⟨_, (true), (by first | rfl | (simp; done) | (simp [*]; done)), H', ⟨by first | omega | exact Nat.le_refl _⟩, ⟨by repeat (first | (with_reducible first | exact HB.out | apply below_alloc | apply pw_below_drewN | apply below_drew1) | exact HB.out | exact Below.refl _ _)⟩⟩
    · rw [if_neg c4] at H
      have c4b0 : decide (100 < (a0.size : Int)) = false := decide_eq_false c4
      have c4b1 : decide (100 < a0.size) = false := decide_eq_false (by omega)
      clear c4
      (first | rw [c4b0] | (simp only [i64_w, i32_w]; rw [c4b0]) | skip)
      by_cases c5 : (l1.length : Int) < 1
      · rw [if_pos c5] at H
        have c5b0 : decide ((l1.length : Int) < 1) = true := decide_eq_true c5
        have c5b1 : decide (l1.length < 1) = true := decide_eq_true (by omega)
        clear c5
        have H' := Aside0.mk H
        clear H
        go_wp2
        go_meet
        case rel => exact ⟨_, (true), (by first | rfl | (simp; done) | (simp [*]; done)), H', ⟨by first | omega | exact Nat.le_refl _⟩, ⟨by repeat (first | (with_reducible first | exact HB.out | apply below_alloc | apply pw_below_drewN | apply below_drew1) | exact HB.out | exact Below.refl _ _)⟩⟩
      · rw [if_neg c5] at H
        have c5b0 : decide ((l1.length : Int) < 1) = false := decide_eq_false c5
        have c5b1 : decide (l1.length < 1) = false := decide_eq_false (by omega)
        clear c5
        have H' := Aside0.mk H
        clear H
        go_wp2
        go_meet
        case rel => exact ⟨_, (decide ((l1.length : Int) > 60)), (by first | rfl | (simp; done) | (simp [*]; done)), H', ⟨by first | omega | exact Nat.le_refl _⟩, ⟨by repeat (first | (with_reducible first | exact HB.out | apply below_alloc | apply pw_below_drewN | apply below_drew1) | exact HB.out | exact Below.refl _ _)⟩⟩
  case rest =>
    clear HC3
    try clear c1
    try clear p2
    try clear c4
    try clear c4b0
    try clear c4b1
    try clear c5
    try clear c5b0
    try clear c5b1
    obtain ⟨kq, x27_2, rfl, HA, HJ2, HB⟩ := hcut
    cases kq with
    | zero => exact absurd HA.out (by simp [camshaftlaw02_CodeParts.j0])
    | succ kj2 =>
      have H := HA.out
      clear HA
      simp only [camshaftlaw02_CodeParts.j0] at H
      by_cases c6 : x27_2 = true
      · subst c6
        have H1 : ((camshaftlaw02_known.f kj2).bind fun t263 => (some t263)) = some r := by rw [if_pos rfl] at H; exact H
        clear H
        have H := H1
        clear H1
        replace H := Option.bind_eq_some_iff.mp H
        obtain ⟨t263, A70, H⟩ := H
        replace H : (some t263) = some r := H
        have A7 := Aside0.mk A70
        clear A70
        obtain rfl := Option.some.inj H
        go_wp2_with (first | ((with_reducible refine gate_callee (f := 10) rfl ?_); refine goesL_ (some 28) rfl rfl Try.func10 (by kernel_rfl) rfl #[] rfl (by (try simp only [List.map_toArray, List.map_cons, List.map_nil]); first | done | rfl | (simp only [List.length_drop, List.length_take]; rfl)) ?_; (with_reducible refine (camshaftlaw02_known.calls kj2  t263 _ A7.out).mono ?_); rintro e w8 ⟨rfl, hb⟩; refine ⟨_, rfl, ?_⟩; have n0_ := Aside0.mk (below_step (by repeat (first | (with_reducible first | exact HB.out | apply below_alloc | apply pw_below_drewN | apply below_drew1) | exact HB.out)) hb); clear HB; have HB := n0_; clear n0_; (try clear hb); (try clear hb2); (try clear hk); (try clear hi)))
        go_ret
        exact ⟨by first | rfl | (simp [errW_none, errW_some] <;> rfl) | (simp [*, errW_none, errW_some] <;> rfl), by repeat (first | (with_reducible first | exact HB.out | apply below_alloc | apply pw_below_drewN | apply below_drew1) | exact HB.out | exact Below.refl _ _)⟩
      · replace c6 := Bool.eq_false_iff.mpr c6
        subst c6
        have H1 : ((code_List.f kj2 l1).bind fun t264 => ((code_GetList.f kj2 t264 0 (l1.length : Int)).bind fun bt265 => (if a0.size + t264.size ≤ 9223372036854775807 then ((code_GetList.f kj2 (a0 ++ t264) (a0.size : Int) 100).bind fun bt270 => ((code_GetList.f kj2 t264 0 (wrap64 ((l1.length : Int) - 1))).bind fun bt275 => ((camshaftref02_Same.f kj2 bt265.1 l1).bind fun t280 => (if t280 = true then ((camshaftref02_Same.f kj2 bt270.1 l1).bind fun t281 => (if t281 = true then (if bt265.2.1 = (t264.size : Int) then (if bt270.2.1 = (wrap64 (bt265.2.1 + (a0.size : Int))) then (if bt265.2.2 = 0 then (if bt270.2.2 = 0 then (if bt275.2.2 = 4 then ((camshaftlaw02_known.f kj2).bind fun t282 => (some t282)) else (some false)) else (some false)) else (some false)) else (some false)) else (some false)) else (some false))) else (some false))))) else (none)))) = some r := by rw [if_neg (show ¬ (false = true) by decide)] at H; exact H
        clear H
        have H := H1
        clear H1
        replace H := Option.bind_eq_some_iff.mp H
        obtain ⟨t264, A90, H⟩ := H
        replace H : ((code_GetList.f kj2 t264 0 (l1.length : Int)).bind fun bt265 => (if a0.size + t264.size ≤ 9223372036854775807 then ((code_GetList.f kj2 (a0 ++ t264) (a0.size : Int) 100).bind fun bt270 => ((code_GetList.f kj2 t264 0 (wrap64 ((l1.length : Int) - 1))).bind fun bt275 => ((camshaftref02_Same.f kj2 bt265.1 l1).bind fun t280 => (if t280 = true then ((camshaftref02_Same.f kj2 bt270.1 l1).bind fun t281 => (if t281 = true then (if bt265.2.1 = (t264.size : Int) then (if bt270.2.1 = (wrap64 (bt265.2.1 + (a0.size : Int))) then (if bt265.2.2 = 0 then (if bt270.2.2 = 0 then (if bt275.2.2 = 4 then ((camshaftlaw02_known.f kj2).bind fun t282 => (some t282)) else (some false)) else (some false)) else (some false)) else (some false)) else (some false)) else (some false))) else (some false))))) else (none))) = some r := H
        have A9 := Aside0.mk A90
        clear A90
        replace H := Option.bind_eq_some_iff.mp H
        obtain ⟨⟨t265, t266, t267⟩, A100, H⟩ := H
        replace H : (if a0.size + t264.size ≤ 9223372036854775807 then ((code_GetList.f kj2 (a0 ++ t264) (a0.size : Int) 100).bind fun bt270 => ((code_GetList.f kj2 t264 0 (wrap64 ((l1.length : Int) - 1))).bind fun bt275 => ((camshaftref02_Same.f kj2 t265 l1).bind fun t280 => (if t280 = true then ((camshaftref02_Same.f kj2 bt270.1 l1).bind fun t281 => (if t281 = true then (if t266 = (t264.size : Int) then (if bt270.2.1 = (wrap64 (t266 + (a0.size : Int))) then (if t267 = 0 then (if bt270.2.2 = 0 then (if bt275.2.2 = 4 then ((camshaftlaw02_known.f kj2).bind fun t282 => (some t282)) else (some false)) else (some false)) else (some false)) else (some false)) else (some false)) else (some false))) else (some false))))) else (none)) = some r := H
        have A10 := Aside0.mk A100
        clear A100
        by_cases c11 : a0.size + t264.size ≤ 9223372036854775807
        · rw [if_pos c11] at H
          have c11b0 := eq_true c11
          have c11b1 : decide (a0.size + t264.size ≤ 9223372036854775807) = true := decide_eq_true c11
          try have c11b2 : (9223372036854775807 < a0.size + t264.size) = False := eq_false (Nat.not_lt.2 c11)
          replace H := Option.bind_eq_some_iff.mp H
          obtain ⟨⟨t270, t271, t272⟩, A120, H⟩ := H
          replace H : ((code_GetList.f kj2 t264 0 (wrap64 ((l1.length : Int) - 1))).bind fun bt275 => ((camshaftref02_Same.f kj2 t265 l1).bind fun t280 => (if t280 = true then ((camshaftref02_Same.f kj2 t270 l1).bind fun t281 => (if t281 = true then (if t266 = (t264.size : Int) then (if t271 = (wrap64 (t266 + (a0.size : Int))) then (if t267 = 0 then (if t272 = 0 then (if bt275.2.2 = 4 then ((camshaftlaw02_known.f kj2).bind fun t282 => (some t282)) else (some false)) else (some false)) else (some false)) else (some false)) else (some false)) else (some false))) else (some false)))) = some r := H
          have A12 := Aside0.mk A120
          clear A120
          replace H := Option.bind_eq_some_iff.mp H
          obtain ⟨⟨t275, t276, t277⟩, A130, H⟩ := H
          replace H : ((camshaftref02_Same.f kj2 t265 l1).bind fun t280 => (if t280 = true then ((camshaftref02_Same.f kj2 t270 l1).bind fun t281 => (if t281 = true then (if t266 = (t264.size : Int) then (if t271 = (wrap64 (t266 + (a0.size : Int))) then (if t267 = 0 then (if t272 = 0 then (if t277 = 4 then ((camshaftlaw02_known.f kj2).bind fun t282 => (some t282)) else (some false)) else (some false)) else (some false)) else (some false)) else (some false)) else (some false))) else (some false))) = some r := H
          have A13 := Aside0.mk A130
          clear A130
          replace H := Option.bind_eq_some_iff.mp H
          obtain ⟨t280, A140, H⟩ := H
          replace H : (if t280 = true then ((camshaftref02_Same.f kj2 t270 l1).bind fun t281 => (if t281 = true then (if t266 = (t264.size : Int) then (if t271 = (wrap64 (t266 + (a0.size : Int))) then (if t267 = 0 then (if t272 = 0 then (if t277 = 4 then ((camshaftlaw02_known.f kj2).bind fun t282 => (some t282)) else (some false)) else (some false)) else (some false)) else (some false)) else (some false)) else (some false))) else (some false)) = some r := H
          have A14 := Aside0.mk A140
          clear A140
          by_cases c15 : t280 = true
          · subst c15
            have H1 : ((camshaftref02_Same.f kj2 t270 l1).bind fun t281 => (if t281 = true then (if t266 = (t264.size : Int) then (if t271 = (wrap64 (t266 + (a0.size : Int))) then (if t267 = 0 then (if t272 = 0 then (if t277 = 4 then ((camshaftlaw02_known.f kj2).bind fun t282 => (some t282)) else (some false)) else (some false)) else (some false)) else (some false)) else (some false)) else (some false))) = some r := by rw [if_pos rfl] at H; exact H
            clear H
            have H := H1
            clear H1
            replace H := Option.bind_eq_some_iff.mp H
            obtain ⟨t281, A160, H⟩ := H
            replace H : (if t281 = true then (if t266 = (t264.size : Int) then (if t271 = (wrap64 (t266 + (a0.size : Int))) then (if t267 = 0 then (if t272 = 0 then (if t277 = 4 then ((camshaftlaw02_known.f kj2).bind fun t282 => (some t282)) else (some false)) else (some false)) else (some false)) else (some false)) else (some false)) else (some false)) = some r := H
            have A16 := Aside0.mk A160
            clear A160
            by_cases c17 : t281 = true
            · subst c17
              have H1 : (if t266 = (t264.size : Int) then (if t271 = (wrap64 (t266 + (a0.size : Int))) then (if t267 = 0 then (if t272 = 0 then (if t277 = 4 then ((camshaftlaw02_known.f kj2).bind fun t282 => (some t282)) else (some false)) else (some false)) else (some false)) else (some false)) else (some false)) = some r := by rw [if_pos rfl] at H; exact H
              clear H
              have H := H1
              clear H1
              by_cases c18 : t266 = (t264.size : Int)
              · rw [if_pos c18] at H
                have c18b0 : (t266 == (t264.size : Int)) = true := beq_iff_eq.mpr c18
                have c18b1 : (t266 != (t264.size : Int)) = false := bne_eq_false_iff_eq.mpr c18
                clear c18
                by_cases c19 : t271 = (wrap64 (t266 + (a0.size : Int)))
                · rw [if_pos c19] at H
                  have c19b0 : (t271 == (wrap64 (t266 + (a0.size : Int)))) = true := beq_iff_eq.mpr c19
                  have c19b1 : (t271 != (wrap64 (t266 + (a0.size : Int)))) = false := bne_eq_false_iff_eq.mpr c19
                  clear c19
                  by_cases c20 : t267 = 0
                  · rw [if_pos c20] at H
                    have c20b0 : (t267 == 0) = true := beq_iff_eq.mpr c20
                    have c20b1 : (t267 != 0) = false := bne_eq_false_iff_eq.mpr c20
                    clear c20
                    by_cases c21 : t272 = 0
                    · rw [if_pos c21] at H
                      have c21b0 : (t272 == 0) = true := beq_iff_eq.mpr c21
                      have c21b1 : (t272 != 0) = false := bne_eq_false_iff_eq.mpr c21
                      clear c21
                      by_cases c22 : t277 = 4
                      · rw [if_pos c22] at H
                        have c22b0 : (t277 == 4) = true := beq_iff_eq.mpr c22
                        have c22b1 : (t277 != 4) = false := bne_eq_false_iff_eq.mpr c22
                        clear c22
                        replace H := Option.bind_eq_some_iff.mp H
                        obtain ⟨t282, A230, H⟩ := H
                        replace H : (some t282) = some r := H
                        have A23 := Aside0.mk A230
                        clear A230
                        obtain rfl := Option.some.inj H
                        go_wp2_with (first | ((with_reducible refine gate_callee (f := 14) rfl ?_); refine goesL_ (some 30) rfl rfl Try.func14 (by kernel_rfl) rfl #[.slice A1 l1.length c1] rfl (by (try simp only [List.map_toArray, List.map_cons, List.map_nil]); first | done | rfl | (simp only [List.length_drop, List.length_take]; rfl)) ?_; (with_reducible refine (code_List.calls kj2 _ _ l1 t264 _ ?side1 ?side2 A9.out).mono ?_); (case side1 => repeat (first | exact (Kd.C_below HR1.out HB.out) | (with_reducible refine Kd.C_alloc ?_ _) | (with_reducible refine Kd.C_drewN ?_ _) | (with_reducible refine Kd.C_drew ?_))); (case side2 => exact HC1.out); rintro e w24 ⟨rfl, hb⟩; refine ⟨_, rfl, ?_⟩; have n0_ := Aside0.mk (below_step (by repeat (first | (with_reducible first | exact HB.out | apply below_alloc | apply pw_below_drewN | apply below_drew1) | exact HB.out)) hb); clear HB; have HB := n0_; clear n0_; (try clear hb); (try clear hb2); (try clear hk); (try clear hi)) | ((with_reducible refine gate_callee (f := 18) rfl ?_); refine goesL_ (some 35) rfl rfl Try.func18 (by kernel_rfl) rfl #[.string t264, .int .i64 0, .int .i64 (l1.length : Int)] rfl (by (try simp only [List.map_toArray, List.map_cons, List.map_nil]); first | done | rfl | (simp only [List.length_drop, List.length_take]; rfl)) ?_; (with_reducible refine (code_GetList.calls kj2 t264 0 (l1.length : Int) t265 t266 t267 _ A10.out).mono ?_); rintro e w25 ⟨v268, rfl, ho0, hb⟩; refine ⟨_, rfl, ?_⟩; have n0_ := Aside0.mk (Kd.R_lower ho0 (below_size (by repeat (first | (with_reducible first | exact HB.out | apply below_alloc | apply pw_below_drewN | apply below_drew1) | exact HB.out)))); have n1_ := Aside0.mk (below_step (by repeat (first | (with_reducible first | exact HB.out | apply below_alloc | apply pw_below_drewN | apply below_drew1) | exact HB.out)) hb); clear HB; have HO269 := n0_; have HB := n1_; clear n0_ n1_; (try clear hb); (try clear hb2); (try clear hk); (try clear hi); (try clear ho0)) | ((with_reducible refine gate_callee (f := 18) rfl ?_); refine goesL_ (some 45) rfl rfl Try.func18 (by kernel_rfl) rfl #[.string (a0 ++ t264), .int .i64 (a0.size : Int), .int .i64 100] rfl (by (try simp only [List.map_toArray, List.map_cons, List.map_nil]); first | done | rfl | (simp only [List.length_drop, List.length_take]; rfl)) ?_; (with_reducible refine (code_GetList.calls kj2 (a0 ++ t264) (a0.size : Int) 100 t270 t271 t272 _ A12.out).mono ?_); rintro e w26 ⟨v273, rfl, ho0, hb⟩; refine ⟨_, rfl, ?_⟩; have n0_ := Aside0.mk (Kd.R_elder' (by (with_reducible repeat (first | apply Kd.R_alloc | apply Kd.R_drewN | apply Kd.R_drew)); exact HO269.out) (Kd.R_base ho0) hb); have n1_ := Aside0.mk (Kd.R_lower (Kd.R_new' ho0 (Kd.R_lt (by (with_reducible repeat (first | apply Kd.R_alloc | apply Kd.R_drewN | apply Kd.R_drew)); exact HO269.out))) (below_size (by repeat (first | (with_reducible first | exact HB.out | apply below_alloc | apply pw_below_drewN | apply below_drew1) | exact HB.out)))); have n2_ := Aside0.mk (below_step (by repeat (first | (with_reducible first | exact HB.out | apply below_alloc | apply pw_below_drewN | apply below_drew1) | exact HB.out)) hb); clear HO269; clear HB; have HO269 := n0_; have HO274 := n1_; have HB := n2_; clear n0_ n1_ n2_; (try clear hb); (try clear hb2); (try clear hk); (try clear hi); (try clear ho0)) | ((with_reducible refine gate_callee (f := 18) rfl ?_); refine goesL_ (some 54) rfl rfl Try.func18 (by kernel_rfl) rfl #[.string t264, .int .i64 0, .int .i64 (wrap64 ((l1.length : Int) - 1))] rfl (by (try simp only [List.map_toArray, List.map_cons, List.map_nil]); first | done | rfl | (simp only [List.length_drop, List.length_take]; rfl)) ?_; (with_reducible refine (code_GetList.calls kj2 t264 0 (wrap64 ((l1.length : Int) - 1)) t275 t276 t277 _ A13.out).mono ?_); rintro e w27 ⟨v278, rfl, ho0, hb⟩; refine ⟨_, rfl, ?_⟩; have n0_ := Aside0.mk (Kd.R_elder' (by (with_reducible repeat (first | apply Kd.R_alloc | apply Kd.R_drewN | apply Kd.R_drew)); exact HO269.out) (Kd.R_base ho0) hb); have n1_ := Aside0.mk (Kd.R_elder' (by (with_reducible repeat (first | apply Kd.R_alloc | apply Kd.R_drewN | apply Kd.R_drew)); exact HO274.out) (Kd.R_base ho0) hb); have n2_ := Aside0.mk (Kd.R_lower (Kd.R_new' (Kd.R_new' ho0 (Kd.R_lt (by (with_reducible repeat (first | apply Kd.R_alloc | apply Kd.R_drewN | apply Kd.R_drew)); exact HO269.out))) (Kd.R_lt (by (with_reducible repeat (first | apply Kd.R_alloc | apply Kd.R_drewN | apply Kd.R_drew)); exact HO274.out))) (below_size (by repeat (first | (with_reducible first | exact HB.out | apply below_alloc | apply pw_below_drewN | apply below_drew1) | exact HB.out)))); have n3_ := Aside0.mk (below_step (by repeat (first | (with_reducible first | exact HB.out | apply below_alloc | apply pw_below_drewN | apply below_drew1) | exact HB.out)) hb); clear HO269; clear HO274; clear HB; have HO269 := n0_; have HO274 := n1_; have HO279 := n2_; have HB := n3_; clear n0_ n1_ n2_ n3_; (try clear hb); (try clear hb2); (try clear hk); (try clear hi); (try clear ho0); obtain ⟨Ao28, co28, eo28⟩ := Kd.R_slice HO269.out; subst eo28) | ((with_reducible refine gate_callee (f := 20) rfl ?_); refine goesL_ (some 60) rfl rfl Try.func20 (by kernel_rfl) rfl #[.slice Ao28 t265.length co28, .slice A1 l1.length c1] rfl (by (try simp only [List.map_toArray, List.map_cons, List.map_nil]); first | done | rfl | (simp only [List.length_drop, List.length_take]; rfl)) ?_; (with_reducible refine (camshaftref02_Same.calls kj2 _ _ t265 _ _ l1 true _ ?side1 ?side2 ?side3 ?side4 A14.out).mono ?_); (case side1 => repeat (first | exact (Kd.R_reads' HO269.out).2.2 | (with_reducible refine Kd.C_alloc ?_ _) | (with_reducible refine Kd.C_drewN ?_ _) | (with_reducible refine Kd.C_drew ?_))); (case side2 => exact (Kd.R_reads' HO269.out).2.1); (case side3 => repeat (first | exact (Kd.C_below HR1.out HB.out) | (with_reducible refine Kd.C_alloc ?_ _) | (with_reducible refine Kd.C_drewN ?_ _) | (with_reducible refine Kd.C_drew ?_))); (case side4 => exact HC1.out); rintro e w' ⟨rfl, ⟨nd, rfl⟩⟩; refine ⟨_, rfl, ?_⟩; obtain ⟨Ao29, co29, eo29⟩ := Kd.R_slice HO274.out; subst eo29) | (go_at_call 20; (with_reducible refine (camshaftref02_Same.calls kj2 _ _ t270 _ _ l1 true _ ?side1 ?side2 ?side3 ?side4 A16.out).mono ?_); (case side1 => repeat (first | exact (Kd.R_reads' HO274.out).2.2 | (with_reducible refine Kd.C_alloc ?_ _) | (with_reducible refine Kd.C_drewN ?_ _) | (with_reducible refine Kd.C_drew ?_))); (case side2 => exact (Kd.R_reads' HO274.out).2.1); (case side3 => repeat (first | exact (Kd.C_below HR1.out (by repeat (first | (with_reducible first | exact HB.out | apply below_alloc | apply pw_below_drewN | apply below_drew1) | exact HB.out))) | (with_reducible refine Kd.C_alloc ?_ _) | (with_reducible refine Kd.C_drewN ?_ _) | (with_reducible refine Kd.C_drew ?_))); (case side4 => exact HC1.out); rintro e w' ⟨rfl, ⟨nd, rfl⟩⟩) | (go_at_call 10; (with_reducible refine (camshaftlaw02_known.calls kj2  t282 _ A23.out).mono ?_); rintro e w30 ⟨rfl, hb⟩; have n0_ := Aside0.mk (Kd.R_below (by (with_reducible repeat (first | apply Kd.R_alloc | apply Kd.R_drewN | apply Kd.R_drew)); exact HO269.out) hb); have n1_ := Aside0.mk (Kd.R_below (by (with_reducible repeat (first | apply Kd.R_alloc | apply Kd.R_drewN | apply Kd.R_drew)); exact HO274.out) hb); have n2_ := Aside0.mk (Kd.R_below (by (with_reducible repeat (first | apply Kd.R_alloc | apply Kd.R_drewN | apply Kd.R_drew)); exact HO279.out) hb); have n3_ := Aside0.mk (below_step (by repeat (first | (with_reducible first | exact HB.out | apply below_alloc | apply pw_below_drewN | apply below_drew1) | exact HB.out)) hb); clear HO269; clear HO274; clear HO279; clear HB; have HO269 := n0_; have HO274 := n1_; have HO279 := n2_; have HB := n3_; clear n0_ n1_ n2_ n3_; (try clear hb); (try clear hb2); (try clear hk); (try clear hi)))
                        go_ret
                        exact ⟨by first | rfl | (simp [errW_none, errW_some] <;> rfl) | (simp [*, errW_none, errW_some] <;> rfl), by repeat (first | (with_reducible first | exact HB.out | apply below_alloc | apply pw_below_drewN | apply below_drew1) | exact HB.out | exact Below.refl _ _)⟩
                      · rw [if_neg c22] at H
                        have c22b0 : (t277 == 4) = false := beq_eq_false_iff_ne.mpr c22
                        have c22b1 : (t277 != 4) = true := bne_iff_ne.mpr c22
                        exact absurd ((Option.some.inj H).trans HT.out) (by decide)
                    · rw [if_neg c21] at H
                      have c21b0 : (t272 == 0) = false := beq_eq_false_iff_ne.mpr c21
                      have c21b1 : (t272 != 0) = true := bne_iff_ne.mpr c21
                      exact absurd ((Option.some.inj H).trans HT.out) (by decide)
                  · rw [if_neg c20] at H
                    have c20b0 : (t267 == 0) = false := beq_eq_false_iff_ne.mpr c20
                    have c20b1 : (t267 != 0) = true := bne_iff_ne.mpr c20
                    exact absurd ((Option.some.inj H).trans HT.out) (by decide)
                · rw [if_neg c19] at H
                  have c19b0 : (t271 == (wrap64 (t266 + (a0.size : Int)))) = false := beq_eq_false_iff_ne.mpr c19
                  have c19b1 : (t271 != (wrap64 (t266 + (a0.size : Int)))) = true := bne_iff_ne.mpr c19
                  exact absurd ((Option.some.inj H).trans HT.out) (by decide)
              · rw [if_neg c18] at H
                have c18b0 : (t266 == (t264.size : Int)) = false := beq_eq_false_iff_ne.mpr c18
                have c18b1 : (t266 != (t264.size : Int)) = true := bne_iff_ne.mpr c18
                exact absurd ((Option.some.inj H).trans HT.out) (by decide)
            · replace c17 := Bool.eq_false_iff.mpr c17
              subst c17
              have H1 : (some false) = some r := by rw [if_neg (show ¬ (false = true) by decide)] at H; exact H
              clear H
              have H := H1
              clear H1
              exact absurd ((Option.some.inj H).trans HT.out) (by decide)
          · replace c15 := Bool.eq_false_iff.mpr c15
            subst c15
            have H1 : (some false) = some r := by rw [if_neg (show ¬ (false = true) by decide)] at H; exact H
            clear H
            have H := H1
            clear H1
            exact absurd ((Option.some.inj H).trans HT.out) (by decide)
        · rw [if_neg c11] at H
          exact absurd H (by simp)

/-- THE ONE PURE STATEMENT of camshaftlaw02_CodeParts: yours. -/
def camshaftlaw02_CodeParts.Pure : Prop := ∀ (a0 : ByteArray) (l1 : List Int), a0.size ≤ 140737488351232 → l1.length ≤ maxLen → l1.length * 8 ≤ 140737488351232 → (∀ x ∈ l1, (Lit.int .i64 x).wf = true) → ∃ k, camshaftlaw02_CodeParts.f k a0 l1 = some true
theorem camshaftlaw02_CodeParts.walk (P : camshaftlaw02_CodeParts.Pure) (a0 : ByteArray) (a1 : Option Addr) (len1 cap1 : Nat) (z1 : List Int) (w : World) (w0 : a0.size ≤ 140737488351232) (w1 : (a1 = none ∧ len1 = 0 ∧ cap1 = 0 ∧ z1 = []) ∨ ∃ x, a1 = some x ∧ len1 ≤ cap1 ∧ cap1 ≤ maxLen ∧ z1.length = cap1 ∧ (∀ i, i < z1.length → w.cell? (x.add i) = some (.int .i64 (z1.getD i 0))) ∧ ∀ n ∈ z1, (Lit.int .i64 n).wf = true) (y1 : len1 * 8 ≤ 140737488351232) :
    Calls Try.prog 8 #[.string a0, .slice a1 len1 cap1] w fun e w' => e = .returned (.bool true) ∧ Below w.heap.size w w' := by
  obtain ⟨l1, rfl, hr1, hm1, hw1, hc1⟩ := ReadsInt.ofRowC w1
  obtain ⟨k, h⟩ := P a0 l1 w0 hm1 y1 hw1
  refine (camshaftlaw02_CodeParts.calls k a0 _ _ l1 true w (Kd.C_of_reads (d := (0 : Int)) (h1 := fun _ => rfl) hr1) hc1 h rfl).mono ?_
  rintro e w' ⟨rfl, hd⟩
  exact ⟨rfl, hd⟩

end Go.Proofs.Yteioenlkdidpgaa.P
