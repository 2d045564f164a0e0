-- Written by a program of this session (wip/tools: patched print) for this claim. Not trusted: Lean checks it.
import Derived.Test.YteioenlkdidpgaaPx0
import Derived.Test.YteioenlkdidpgaaPx1
import Derived.Test.YteioenlkdidpgaaPx2
import Derived.Test.YteioenlkdidpgaaPx3
import Derived.Test.YteioenlkdidpgaaPx4
namespace Go.Proofs.Yteioenlkdidpgaa.P
open Go.RowKit Go.Proofs.YteioenlkdidpgaaW.PrintWords Go.Proofs.YteioenlkdidpgaaW.PrintLast Go.Proofs.YteioenlkdidpgaaW.PrintMore
attribute [local go_sem] max2_int min2_int max_two min_two max_three min_three max_four min_four   -- for this text's walks alone
set_option linter.unusedVariables false
set_option linter.unusedSimpArgs false

/-! ### camshaftlaw02_CodeBack: function 5 -/
mutual
def camshaftlaw02_CodeBack.j0 : Nat → ByteArray → List Int → ByteArray → Bool → Option (Bool)
  | 0, _, _, _, _ => none
  | k + 1, x0, x1, x2, x33 => if x33 = true then ((camshaftlaw02_known.f k).bind fun t214 => (some t214)) else ((code_List.f k x1).bind fun t215 => (if x0.size + t215.size ≤ 9223372036854775807 then (if (x0 ++ t215).size + x2.size ≤ 9223372036854775807 then ((code_GetList.f k ((x0 ++ t215) ++ x2) (x0.size : Int) (x1.length : Int)).bind fun bt216 => (if 0 ≤ (wrap64 ((t215.size : Int) - (mn (t215.size : Int) 1))) then (if (wrap64 ((t215.size : Int) - (mn (t215.size : Int) 1))) ≤ (t215.size : Int) then (if x0.size + (t215.extract 0 ((wrap64 ((t215.size : Int) - (mn (t215.size : Int) 1))) : Int).toNat).size ≤ 9223372036854775807 then ((code_GetList.f k (x0 ++ (t215.extract 0 ((wrap64 ((t215.size : Int) - (mn (t215.size : Int) 1))) : Int).toNat)) (x0.size : Int) (x1.length : Int)).bind fun bt221 => (camshaftlaw02_CodeBack.l0 k x0 x1 x2 t215 bt216.1 bt216.2.1 bt216.2.2 bt221.2.2 (x0.size : Int) x0 0)) else (none)) else (none)) else (none))) else (none)) else (none)))
def camshaftlaw02_CodeBack.l0 : Nat → ByteArray → List Int → ByteArray → ByteArray → List Int → Int → Int → Int → Int → ByteArray → Int → Option (Bool)
  | 0, _, _, _, _, _, _, _, _, _, _, _ => none
  | k + 1, x0, x1, x2, x7, x8, x9, x10, x13, x14, x15, x16 => if x16 < (x1.length : Int) then (if 0 ≤ x16 then ((code_Put.f k (rd x1 x16)).bind fun t227 => (if x15.size + t227.size ≤ 9223372036854775807 then (camshaftlaw02_CodeBack.l0 k x0 x1 x2 x7 x8 x9 x10 x13 x14 (x15 ++ t227) (wrap64 (x16 + 1))) else (none))) else (none)) else (camshaftlaw02_CodeBack.l1 k x0 x1 x2 x7 x8 x9 x10 x13 x14 x15 0)
def camshaftlaw02_CodeBack.l1 : Nat → ByteArray → List Int → ByteArray → ByteArray → List Int → Int → Int → Int → Int → ByteArray → Int → Option (Bool)
  | 0, _, _, _, _, _, _, _, _, _, _, _ => none
  | k + 1, x0, x1, x2, x7, x8, x9, x10, x13, x14, x15, x17 => if x17 < (x1.length : Int) then (if x15.size + x2.size ≤ 9223372036854775807 then ((code_Get.f k (x15 ++ x2) x14).bind fun bt230 => (if 0 ≤ x17 then (if bt230.1 = (rd x1 x17) then ((code_Size.f k (rd x1 x17)).bind fun t235 => (if bt230.2.1 = (wrap64 (x14 + t235)) then (if bt230.2.2 = 0 then (camshaftlaw02_CodeBack.l1 k x0 x1 x2 x7 x8 x9 x10 x13 bt230.2.1 x15 (wrap64 (x17 + 1))) else (some false)) else (some false))) else (some false)) else (none))) else (none)) else ((camshaftref02_Same.f k x8 x1).bind fun t228 => (if t228 = true then (if x9 = (wrap64 ((x0.size : Int) + (x7.size : Int))) then (if x10 = 0 then (if x13 = 2 then ((camshaftlaw02_known.f k).bind fun t229 => (some t229)) else (some false)) else (some false)) else (some false)) else (some false)))
end
def camshaftlaw02_CodeBack.f (k : Nat) (a0 : ByteArray) (l1 : List Int) (a2 : ByteArray) : Option (Bool) := if (a0.size : Int) > 100 then (camshaftlaw02_CodeBack.j0 k a0 l1 a2 true) else (if (a2.size : Int) > 100 then (camshaftlaw02_CodeBack.j0 k a0 l1 a2 true) else (camshaftlaw02_CodeBack.j0 k a0 l1 a2 (decide ((l1.length : Int) > 100))))
theorem camshaftlaw02_CodeBack.mono_l : ∀ k, (∀ y0 y1 y2 y3, LeO (camshaftlaw02_CodeBack.j0 k y0 y1 y2 y3) (camshaftlaw02_CodeBack.j0 (k + 1) y0 y1 y2 y3)) ∧ (∀ y0 y1 y2 y3 y4 y5 y6 y7 y8 y9 y10, LeO (camshaftlaw02_CodeBack.l0 k y0 y1 y2 y3 y4 y5 y6 y7 y8 y9 y10) (camshaftlaw02_CodeBack.l0 (k + 1) y0 y1 y2 y3 y4 y5 y6 y7 y8 y9 y10)) ∧ (∀ y0 y1 y2 y3 y4 y5 y6 y7 y8 y9 y10, LeO (camshaftlaw02_CodeBack.l1 k y0 y1 y2 y3 y4 y5 y6 y7 y8 y9 y10) (camshaftlaw02_CodeBack.l1 (k + 1) y0 y1 y2 y3 y4 y5 y6 y7 y8 y9 y10))
  | 0 => ⟨fun _ _ _ _ r h => by simp [camshaftlaw02_CodeBack.j0] at h, fun _ _ _ _ _ _ _ _ _ _ _ r h => by simp [camshaftlaw02_CodeBack.l0] at h, fun _ _ _ _ _ _ _ _ _ _ _ r h => by simp [camshaftlaw02_CodeBack.l1] at h⟩
  | k + 1 => by
    obtain ⟨ih0, ih1, ih2⟩ := camshaftlaw02_CodeBack.mono_l k
    refine ⟨?_, ?_, ?_⟩
    · intro y0 y1 y2 y3
      unfold camshaftlaw02_CodeBack.j0
      repeat' first
      | (with_reducible exact ih0 _ _ _ _)
      | (with_reducible exact ih1 _ _ _ _ _ _ _ _ _ _ _)
      | (with_reducible exact ih2 _ _ _ _ _ _ _ _ _ _ _)
      | (with_reducible exact camshaftlaw02_known.mono _)
      | (with_reducible exact camshaftref02_Same.mono _ _ _)
      | (with_reducible exact code_Get.mono _ _ _)
      | (with_reducible exact code_GetList.mono _ _ _ _)
      | (with_reducible exact code_List.mono _ _)
      | (with_reducible exact code_Put.mono _ _)
      | (with_reducible exact code_Size.mono _ _)
      | (with_reducible exact LeO.refl _)
      | (with_reducible exact LeO.none _)
      | (with_reducible refine LeO.ite ?_ ?_)
      | (with_reducible refine LeO.bind ?_ (fun _ => ?_))
      | exact ih0 _ _ _ _
      | exact ih1 _ _ _ _ _ _ _ _ _ _ _
      | exact ih2 _ _ _ _ _ _ _ _ _ _ _
      | exact camshaftlaw02_known.mono _
      | exact camshaftref02_Same.mono _ _ _
      | exact code_Get.mono _ _ _
      | exact code_GetList.mono _ _ _ _
      | exact code_List.mono _ _
      | exact code_Put.mono _ _
      | exact code_Size.mono _ _
      | exact LeO.none _
      | refine LeO.ite ?_ ?_
      | refine LeO.bind ?_ (fun _ => ?_)
    · intro y0 y1 y2 y3 y4 y5 y6 y7 y8 y9 y10
      unfold camshaftlaw02_CodeBack.l0
      repeat' first
      | (with_reducible exact ih0 _ _ _ _)
      | (with_reducible exact ih1 _ _ _ _ _ _ _ _ _ _ _)
      | (with_reducible exact ih2 _ _ _ _ _ _ _ _ _ _ _)
      | (with_reducible exact camshaftlaw02_known.mono _)
      | (with_reducible exact camshaftref02_Same.mono _ _ _)
      | (with_reducible exact code_Get.mono _ _ _)
      | (with_reducible exact code_GetList.mono _ _ _ _)
      | (with_reducible exact code_List.mono _ _)
      | (with_reducible exact code_Put.mono _ _)
      | (with_reducible exact code_Size.mono _ _)
      | (with_reducible exact LeO.refl _)
      | (with_reducible exact LeO.none _)
      | (with_reducible refine LeO.ite ?_ ?_)
      | (with_reducible refine LeO.bind ?_ (fun _ => ?_))
      | exact ih0 _ _ _ _
      | exact ih1 _ _ _ _ _ _ _ _ _ _ _
      | exact ih2 _ _ _ _ _ _ _ _ _ _ _
      | exact camshaftlaw02_known.mono _
      | exact camshaftref02_Same.mono _ _ _
      | exact code_Get.mono _ _ _
      | exact code_GetList.mono _ _ _ _
      | exact code_List.mono _ _
      | exact code_Put.mono _ _
      | exact code_Size.mono _ _
      | exact LeO.none _
      | refine LeO.ite ?_ ?_
      | refine LeO.bind ?_ (fun _ => ?_)
    · intro y0 y1 y2 y3 y4 y5 y6 y7 y8 y9 y10
      unfold camshaftlaw02_CodeBack.l1
      repeat' first
      | (with_reducible exact ih0 _ _ _ _)
      | (with_reducible exact ih1 _ _ _ _ _ _ _ _ _ _ _)
      | (with_reducible exact ih2 _ _ _ _ _ _ _ _ _ _ _)
      | (with_reducible exact camshaftlaw02_known.mono _)
      | (with_reducible exact camshaftref02_Same.mono _ _ _)
      | (with_reducible exact code_Get.mono _ _ _)
      | (with_reducible exact code_GetList.mono _ _ _ _)
      | (with_reducible exact code_List.mono _ _)
      | (with_reducible exact code_Put.mono _ _)
      | (with_reducible exact code_Size.mono _ _)
      | (with_reducible exact LeO.refl _)
      | (with_reducible exact LeO.none _)
      | (with_reducible refine LeO.ite ?_ ?_)
      | (with_reducible refine LeO.bind ?_ (fun _ => ?_))
      | exact ih0 _ _ _ _
      | exact ih1 _ _ _ _ _ _ _ _ _ _ _
      | exact ih2 _ _ _ _ _ _ _ _ _ _ _
      | exact camshaftlaw02_known.mono _
      | exact camshaftref02_Same.mono _ _ _
      | exact code_Get.mono _ _ _
      | exact code_GetList.mono _ _ _ _
      | exact code_List.mono _ _
      | exact code_Put.mono _ _
      | exact code_Size.mono _ _
      | exact LeO.none _
      | refine LeO.ite ?_ ?_
      | refine LeO.bind ?_ (fun _ => ?_)
theorem camshaftlaw02_CodeBack.mono : ∀ a0 a1 a2 k, LeO (camshaftlaw02_CodeBack.f k a0 a1 a2) (camshaftlaw02_CodeBack.f (k + 1) a0 a1 a2) := by
  intro a0 a1 a2 k
  obtain ⟨ih0, ih1, ih2⟩ := camshaftlaw02_CodeBack.mono_l k
  unfold camshaftlaw02_CodeBack.f
  repeat' first
      | (with_reducible exact ih0 _ _ _ _)
      | (with_reducible exact ih1 _ _ _ _ _ _ _ _ _ _ _)
      | (with_reducible exact ih2 _ _ _ _ _ _ _ _ _ _ _)
      | (with_reducible exact camshaftlaw02_known.mono _)
      | (with_reducible exact camshaftref02_Same.mono _ _ _)
      | (with_reducible exact code_Get.mono _ _ _)
      | (with_reducible exact code_GetList.mono _ _ _ _)
      | (with_reducible exact code_List.mono _ _)
      | (with_reducible exact code_Put.mono _ _)
      | (with_reducible exact code_Size.mono _ _)
      | (with_reducible exact LeO.refl _)
      | (with_reducible exact LeO.none _)
      | (with_reducible refine LeO.ite ?_ ?_)
      | (with_reducible refine LeO.bind ?_ (fun _ => ?_))
      | exact ih0 _ _ _ _
      | exact ih1 _ _ _ _ _ _ _ _ _ _ _
      | exact ih2 _ _ _ _ _ _ _ _ _ _ _
      | exact camshaftlaw02_known.mono _
      | exact camshaftref02_Same.mono _ _ _
      | exact code_Get.mono _ _ _
      | exact code_GetList.mono _ _ _ _
      | exact code_List.mono _ _
      | exact code_Put.mono _ _
      | exact code_Size.mono _ _
      | exact LeO.none _
      | refine LeO.ite ?_ ?_
      | refine LeO.bind ?_ (fun _ => ?_)
set_option maxHeartbeats 8000000 in
set_option maxRecDepth 100000 in
theorem camshaftlaw02_CodeBack.calls (k : Nat) (a0 : ByteArray) (A1 : Option Addr) (c1 : Nat) (l1 : List Int) (a2 : ByteArray) (r : Bool) (w : World) (hr1 : Kd.C (Kd.int .i64) w A1 l1.length l1) (hc1 : l1.length ≤ c1) (h : camshaftlaw02_CodeBack.f k a0 l1 a2 = some r) (ht : r = true) :
    Calls Try.prog 5 #[.string a0, .slice A1 l1.length c1, .string a2] w fun e w' => e = .returned (.bool r) ∧ Below w.heap.size w w' := by
  have HT := Aside0.mk ht
  clear ht
  have HR1 := Aside0.mk hr1
  have HC1 := Aside0.mk hc1
  clear hr1 hc1
  have HB := Aside0.mk (Below.refl w.heap.size w)
  have H : (if (a0.size : Int) > 100 then (camshaftlaw02_CodeBack.j0 k a0 l1 a2 true) else (if (a2.size : Int) > 100 then (camshaftlaw02_CodeBack.j0 k a0 l1 a2 true) else (camshaftlaw02_CodeBack.j0 k a0 l1 a2 (decide ((l1.length : Int) > 100))))) = some r := h
  clear h
  have HC4 := Aside0.mk H
  clear H
  go_enter Try.func5, Try.ntmps5
  go_upto_region 1 with (fail)
  go_cut [33] (fun v33 wc => ∃ (kq : Nat) (x33_3 : Bool), v33 = .bool x33_3 ∧ Aside0 (camshaftlaw02_CodeBack.j0 kq a0 l1 a2 x33_3 = some r) ∧ Aside0 (kq ≤ k) ∧ Aside0 (Below w.heap.size w wc))
  case first =>
    have H := HC4.out
    clear HC4
    by_cases c5 : (a0.size : Int) > 100
    · rw [if_pos c5] at H
      have c5b0 : decide (100 < (a0.size : Int)) = true := decide_eq_true c5
      have c5b1 : decide (100 < a0.size) = true := decide_eq_true (by omega)
      clear c5
      (first | rw [c5b0] | (simp only [i64_w, i32_w]; rw [c5b0]) | skip)
      have H' := Aside0.mk H
      clear H
      go_wp2
      go_meet
      case rel => exact ⟨_, (true), (by first | rfl | (simp; done) | (simp [*]; done)), H', ⟨by first | omega | exact Nat.le_refl _⟩, ⟨by repeat (first | (with_reducible first | exact HB.out | apply below_alloc | apply pw_below_drewN | apply below_drew1) | exact HB.out | exact Below.refl _ _)⟩⟩
    · rw [if_neg c5] at H
      have c5b0 : decide (100 < (a0.size : Int)) = false := decide_eq_false c5
      have c5b1 : decide (100 < a0.size) = false := decide_eq_false (by omega)
      clear c5
      (first | rw [c5b0] | (simp only [i64_w, i32_w]; rw [c5b0]) | skip)
      by_cases c6 : (a2.size : Int) > 100
      · rw [if_pos c6] at H
        have c6b0 : decide (100 < (a2.size : Int)) = true := decide_eq_true c6
        have c6b1 : decide (100 < a2.size) = true := decide_eq_true (by omega)
        clear c6
        have H' := Aside0.mk H
        clear H
        go_wp2
        go_meet
        case rel => exact ⟨_, (true), (by first | rfl | (simp; done) | (simp [*]; done)), H', ⟨by first | omega | exact Nat.le_refl _⟩, ⟨by repeat (first | (with_reducible first | exact HB.out | apply below_alloc | apply pw_below_drewN | apply below_drew1) | exact HB.out | exact Below.refl _ _)⟩⟩
      · rw [if_neg c6] at H
        have c6b0 : decide (100 < (a2.size : Int)) = false := decide_eq_false c6
        have c6b1 : decide (100 < a2.size) = false := decide_eq_false (by omega)
        clear c6
        have H' := Aside0.mk H
        clear H
        go_wp2
        go_meet
        case rel => exact ⟨_, (decide ((l1.length : Int) > 100)), (by first | rfl | (simp; done) | (simp [*]; done)), H', ⟨by first | omega | exact Nat.le_refl _⟩, ⟨by repeat (first | (with_reducible first | exact HB.out | apply below_alloc | apply pw_below_drewN | apply below_drew1) | exact HB.out | exact Below.refl _ _)⟩⟩
  case rest =>
    clear HC4
    try clear c1
    try clear p2
    try clear c5
    try clear c5b0
    try clear c5b1
    try clear c6
    try clear c6b0
    try clear c6b1
    obtain ⟨kq, x33_3, rfl, HA, HJ3, HB⟩ := hcut
    cases kq with
    | zero => exact absurd HA.out (by simp [camshaftlaw02_CodeBack.j0])
    | succ kj3 =>
      have H := HA.out
      clear HA
      simp only [camshaftlaw02_CodeBack.j0] at H
      by_cases c7 : x33_3 = true
      · subst c7
        have H1 : ((camshaftlaw02_known.f kj3).bind fun t214 => (some t214)) = some r := by rw [if_pos rfl] at H; exact H
        clear H
        have H := H1
        clear H1
        replace H := Option.bind_eq_some_iff.mp H
        obtain ⟨t214, A80, H⟩ := H
        replace H : (some t214) = some r := H
        have A8 := Aside0.mk A80
        clear A80
        obtain rfl := Option.some.inj H
        go_wp2_with (first | ((with_reducible refine gate_callee (f := 10) rfl ?_); refine goesL_ (some 34) rfl rfl Try.func10 (by kernel_rfl) rfl #[] rfl (by (try simp only [List.map_toArray, List.map_cons, List.map_nil]); first | done | rfl | (simp only [List.length_drop, List.length_take]; rfl)) ?_; (with_reducible refine (camshaftlaw02_known.calls kj3  t214 _ A8.out).mono ?_); rintro e w9 ⟨rfl, hb⟩; refine ⟨_, rfl, ?_⟩; have n0_ := Aside0.mk (below_step (by repeat (first | (with_reducible first | exact HB.out | apply below_alloc | apply pw_below_drewN | apply below_drew1) | exact HB.out)) hb); clear HB; have HB := n0_; clear n0_; (try clear hb); (try clear hb2); (try clear hk); (try clear hi)))
        go_ret
        exact ⟨by first | rfl | (simp [errW_none, errW_some] <;> rfl) | (simp [*, errW_none, errW_some] <;> rfl), by repeat (first | (with_reducible first | exact HB.out | apply below_alloc | apply pw_below_drewN | apply below_drew1) | exact HB.out | exact Below.refl _ _)⟩
      · replace c7 := Bool.eq_false_iff.mpr c7
        subst c7
        have H1 : ((code_List.f kj3 l1).bind fun t215 => (if a0.size + t215.size ≤ 9223372036854775807 then (if (a0 ++ t215).size + a2.size ≤ 9223372036854775807 then ((code_GetList.f kj3 ((a0 ++ t215) ++ a2) (a0.size : Int) (l1.length : Int)).bind fun bt216 => (if 0 ≤ (wrap64 ((t215.size : Int) - (mn (t215.size : Int) 1))) then (if (wrap64 ((t215.size : Int) - (mn (t215.size : Int) 1))) ≤ (t215.size : Int) then (if a0.size + (t215.extract 0 ((wrap64 ((t215.size : Int) - (mn (t215.size : Int) 1))) : Int).toNat).size ≤ 9223372036854775807 then ((code_GetList.f kj3 (a0 ++ (t215.extract 0 ((wrap64 ((t215.size : Int) - (mn (t215.size : Int) 1))) : Int).toNat)) (a0.size : Int) (l1.length : Int)).bind fun bt221 => (camshaftlaw02_CodeBack.l0 kj3 a0 l1 a2 t215 bt216.1 bt216.2.1 bt216.2.2 bt221.2.2 (a0.size : Int) a0 0)) else (none)) else (none)) else (none))) else (none)) else (none))) = some r := by rw [if_neg (show ¬ (false = true) by decide)] at H; exact H
        clear H
        have H := H1
        clear H1
        replace H := Option.bind_eq_some_iff.mp H
        obtain ⟨t215, A100, H⟩ := H
        replace H : (if a0.size + t215.size ≤ 9223372036854775807 then (if (a0 ++ t215).size + a2.size ≤ 9223372036854775807 then ((code_GetList.f kj3 ((a0 ++ t215) ++ a2) (a0.size : Int) (l1.length : Int)).bind fun bt216 => (if 0 ≤ (wrap64 ((t215.size : Int) - (mn (t215.size : Int) 1))) then (if (wrap64 ((t215.size : Int) - (mn (t215.size : Int) 1))) ≤ (t215.size : Int) then (if a0.size + (t215.extract 0 ((wrap64 ((t215.size : Int) - (mn (t215.size : Int) 1))) : Int).toNat).size ≤ 9223372036854775807 then ((code_GetList.f kj3 (a0 ++ (t215.extract 0 ((wrap64 ((t215.size : Int) - (mn (t215.size : Int) 1))) : Int).toNat)) (a0.size : Int) (l1.length : Int)).bind fun bt221 => (camshaftlaw02_CodeBack.l0 kj3 a0 l1 a2 t215 bt216.1 bt216.2.1 bt216.2.2 bt221.2.2 (a0.size : Int) a0 0)) else (none)) else (none)) else (none))) else (none)) else (none)) = some r := H
        have A10 := Aside0.mk A100
        clear A100
        by_cases c11 : a0.size + t215.size ≤ 9223372036854775807
        · rw [if_pos c11] at H
          have c11b0 := eq_true c11
          have c11b1 : decide (a0.size + t215.size ≤ 9223372036854775807) = true := decide_eq_true c11
          try have c11b2 : (9223372036854775807 < a0.size + t215.size) = False := eq_false (Nat.not_lt.2 c11)
          by_cases c12 : (a0 ++ t215).size + a2.size ≤ 9223372036854775807
          · rw [if_pos c12] at H
            have c12b0 := eq_true c12
            have c12b1 : decide ((a0 ++ t215).size + a2.size ≤ 9223372036854775807) = true := decide_eq_true c12
            try have c12b2 : (9223372036854775807 < (a0 ++ t215).size + a2.size) = False := eq_false (Nat.not_lt.2 c12)
            replace H := Option.bind_eq_some_iff.mp H
            obtain ⟨⟨t216, t217, t218⟩, A130, H⟩ := H
            replace H : (if 0 ≤ (wrap64 ((t215.size : Int) - (mn (t215.size : Int) 1))) then (if (wrap64 ((t215.size : Int) - (mn (t215.size : Int) 1))) ≤ (t215.size : Int) then (if a0.size + (t215.extract 0 ((wrap64 ((t215.size : Int) - (mn (t215.size : Int) 1))) : Int).toNat).size ≤ 9223372036854775807 then ((code_GetList.f kj3 (a0 ++ (t215.extract 0 ((wrap64 ((t215.size : Int) - (mn (t215.size : Int) 1))) : Int).toNat)) (a0.size : Int) (l1.length : Int)).bind fun bt221 => (camshaftlaw02_CodeBack.l0 kj3 a0 l1 a2 t215 t216 t217 t218 bt221.2.2 (a0.size : Int) a0 0)) else (none)) else (none)) else (none)) = some r := H
            have A13 := Aside0.mk A130
            clear A130
            obtain ⟨ji14, hji14⟩ : ∃ j_ : Int, (mn (t215.size : Int) 1) = j_ := ⟨_, rfl⟩
            replace H : (if 0 ≤ (wrap64 ((t215.size : Int) - (ji14))) then (if (wrap64 ((t215.size : Int) - (ji14))) ≤ (t215.size : Int) then (if a0.size + (t215.extract 0 ((wrap64 ((t215.size : Int) - (ji14))) : Int).toNat).size ≤ 9223372036854775807 then ((code_GetList.f kj3 (a0 ++ (t215.extract 0 ((wrap64 ((t215.size : Int) - (ji14))) : Int).toNat)) (a0.size : Int) (l1.length : Int)).bind fun bt221 => (camshaftlaw02_CodeBack.l0 kj3 a0 l1 a2 t215 t216 t217 t218 bt221.2.2 (a0.size : Int) a0 0)) else (none)) else (none)) else (none)) = some r := by first | (rw [hji14] at H; exact H) | (simp only [hji14] at H ⊢; exact H)
            (try rw [hji14] at A10)
            (try rw [hji14] at A13)
            (try (have hji14h : ji14 ≤ 1 := by (rw [← hji14]; unfold mn; (repeat' split) <;> omega)))
            (try (have hji14g : ji14 ≤ 64 := by omega))
            (try (have hji14l : 0 ≤ ji14 := by (rw [← hji14]; unfold mn; (repeat' split) <;> omega)))
            (try (have hji14m : 0 ≤ ji14 := by omega))
            have hji14_ : (if 1 < (t215.size : Int) then 1 else (t215.size : Int)) = ji14 := hji14
            obtain ⟨ji15, hji15⟩ : ∃ j_ : Int, (wrap64 ((t215.size : Int) - (ji14))) = j_ := ⟨_, rfl⟩
            replace H : (if 0 ≤ (ji15) then (if (ji15) ≤ (t215.size : Int) then (if a0.size + (t215.extract 0 ((ji15) : Int).toNat).size ≤ 9223372036854775807 then ((code_GetList.f kj3 (a0 ++ (t215.extract 0 ((ji15) : Int).toNat)) (a0.size : Int) (l1.length : Int)).bind fun bt221 => (camshaftlaw02_CodeBack.l0 kj3 a0 l1 a2 t215 t216 t217 t218 bt221.2.2 (a0.size : Int) a0 0)) else (none)) else (none)) else (none)) = some r := by first | (rw [hji15] at H; exact H) | (simp only [hji15] at H ⊢; exact H)
            (try rw [hji15] at A10)
            (try rw [hji15] at A13)
            have hji15w : (IntKind.i64.wrap ((t215.size : Int) - (ji14))) = ji15 := (i64_w _).trans hji15
            by_cases c16 : 0 ≤ (ji15)
            · rw [if_pos c16] at H
              have c16b0 := eq_true c16
              have c16b1 : decide (0 ≤ (ji15)) = true := decide_eq_true c16
              clear c16
              by_cases c17 : (ji15) ≤ (t215.size : Int)
              · rw [if_pos c17] at H
                have c17b0 := eq_true c17
                have c17b1 : decide ((ji15) ≤ (t215.size : Int)) = true := decide_eq_true c17
                clear c17
                by_cases c18 : a0.size + (t215.extract 0 ((ji15) : Int).toNat).size ≤ 9223372036854775807
                · rw [if_pos c18] at H
                  have c18b0 := eq_true c18
                  have c18b1 : decide (a0.size + (t215.extract 0 ((ji15) : Int).toNat).size ≤ 9223372036854775807) = true := decide_eq_true c18
                  try have c18b2 : (9223372036854775807 < a0.size + (t215.extract 0 ((ji15) : Int).toNat).size) = False := eq_false (Nat.not_lt.2 c18)
                  replace H := Option.bind_eq_some_iff.mp H
                  obtain ⟨⟨t221, t222, t223⟩, A190, H⟩ := H
                  replace H : (camshaftlaw02_CodeBack.l0 kj3 a0 l1 a2 t215 t216 t217 t218 t223 (a0.size : Int) a0 0) = some r := H
                  have A19 := Aside0.mk A190
                  clear A190
                  have H' := Aside0.mk H
                  clear H
                  go_wp2_with (first | ((with_reducible refine gate_callee (f := 14) rfl ?_); refine goesL_ (some 36) rfl rfl Try.func14 (by kernel_rfl) rfl #[.slice A1 l1.length c1] rfl (by (try simp only [List.map_toArray, List.map_cons, List.map_nil]); first | done | rfl | (simp only [List.length_drop, List.length_take]; rfl)) ?_; (with_reducible refine (code_List.calls kj3 _ _ l1 t215 _ ?side1 ?side2 A10.out).mono ?_); (case side1 => repeat (first | exact (Kd.C_below HR1.out HB.out) | (with_reducible refine Kd.C_alloc ?_ _) | (with_reducible refine Kd.C_drewN ?_ _) | (with_reducible refine Kd.C_drew ?_))); (case side2 => exact HC1.out); rintro e w20 ⟨rfl, hb⟩; refine ⟨_, rfl, ?_⟩; have n0_ := Aside0.mk (below_step (by repeat (first | (with_reducible first | exact HB.out | apply below_alloc | apply pw_below_drewN | apply below_drew1) | exact HB.out)) hb); clear HB; have HB := n0_; clear n0_; (try clear hb); (try clear hb2); (try clear hk); (try clear hi)) | ((with_reducible refine gate_callee (f := 18) rfl ?_); refine goesL_ (some 47) rfl rfl Try.func18 (by kernel_rfl) rfl #[.string ((a0 ++ t215) ++ a2), .int .i64 (a0.size : Int), .int .i64 (l1.length : Int)] rfl (by (try simp only [List.map_toArray, List.map_cons, List.map_nil]); first | done | rfl | (simp only [List.length_drop, List.length_take]; rfl)) ?_; (with_reducible refine (code_GetList.calls kj3 ((a0 ++ t215) ++ a2) (a0.size : Int) (l1.length : Int) t216 t217 t218 _ A13.out).mono ?_); rintro e w21 ⟨v219, rfl, ho0, hb⟩; refine ⟨_, rfl, ?_⟩; have n0_ := Aside0.mk (Kd.R_lower ho0 (below_size (by repeat (first | (with_reducible first | exact HB.out | apply below_alloc | apply pw_below_drewN | apply below_drew1) | exact HB.out)))); have n1_ := Aside0.mk (below_step (by repeat (first | (with_reducible first | exact HB.out | apply below_alloc | apply pw_below_drewN | apply below_drew1) | exact HB.out)) hb); clear HB; have HO220 := n0_; have HB := n1_; clear n0_ n1_; (try clear hb); (try clear hb2); (try clear hk); (try clear hi); (try clear ho0)) | ((with_reducible refine gate_callee (f := 18) rfl ?_); refine goesL_ (some 66) rfl rfl Try.func18 (by kernel_rfl) rfl #[.string (a0 ++ (t215.extract 0 ((ji15) : Int).toNat)), .int .i64 (a0.size : Int), .int .i64 (l1.length : Int)] rfl (by (try simp only [List.map_toArray, List.map_cons, List.map_nil]); first | done | (simp only [hji15]; rfl) | rfl | (simp only [List.length_drop, List.length_take]; rfl)) ?_; (with_reducible refine (code_GetList.calls kj3 (a0 ++ (t215.extract 0 ((ji15) : Int).toNat)) (a0.size : Int) (l1.length : Int) t221 t222 t223 _ A19.out).mono ?_); rintro e w22 ⟨v224, rfl, ho0, hb⟩; refine ⟨_, rfl, ?_⟩; have n0_ := Aside0.mk (Kd.R_elder' (by (with_reducible repeat (first | apply Kd.R_alloc | apply Kd.R_drewN | apply Kd.R_drew)); exact HO220.out) (Kd.R_base ho0) hb); have n1_ := Aside0.mk (Kd.R_lower (Kd.R_new' ho0 (Kd.R_lt (by (with_reducible repeat (first | apply Kd.R_alloc | apply Kd.R_drewN | apply Kd.R_drew)); exact HO220.out))) (below_size (by repeat (first | (with_reducible first | exact HB.out | apply below_alloc | apply pw_below_drewN | apply below_drew1) | exact HB.out)))); have n2_ := Aside0.mk (below_step (by repeat (first | (with_reducible first | exact HB.out | apply below_alloc | apply pw_below_drewN | apply below_drew1) | exact HB.out)) hb); clear HO220; clear HB; have HO220 := n0_; have HO225 := n1_; have HB := n2_; clear n0_ n1_ n2_; (try clear hb); (try clear hb2); (try clear hk); (try clear hi); (try clear ho0)))
                  go_loopg [15, 16] kj3 (fun kq v15 v16 w' => ∃ (x15_2 : ByteArray) (x16_2 : Int), v15 = .string x15_2 ∧ v16 = .int .i64 x16_2 ∧ Aside0 (camshaftlaw02_CodeBack.l0 kq a0 l1 a2 t215 t216 t217 t218 t223 (a0.size : Int) x15_2 x16_2 = some r) ∧ Aside0 (kq ≤ kj3) ∧ Aside0 (Kd.R (Kd.int .i64) 3 w' w.heap.size (fun _ => True) v219 t216) ∧ Aside0 (Below w.heap.size w w'))
                  case atStart => exact ⟨(a0), (0), (by first | rfl | (simp; done) | (simp [*]; done)), (by first | rfl | (simp; done) | (simp [*]; done)), H', ⟨Nat.le_refl _⟩, ⟨by (with_reducible repeat (first | apply Kd.R_alloc | apply Kd.R_drewN | apply Kd.R_drew)); exact Kd.R_mono HO220.out (fun _ hk => trivial)⟩, ⟨by repeat (first | (with_reducible first | exact HB.out | apply below_alloc | apply pw_below_drewN | apply below_drew1) | exact HB.out)⟩⟩
                  case round =>
                    clear H'
                    try clear c1
                    try clear p2
                    try clear c5
                    try clear c5b0
                    try clear c5b1
                    try clear c6
                    try clear c6b0
                    try clear c6b1
                    try clear p6
                    try clear c7
                    try clear c10
                    try clear c11
                    try clear c11b0
                    try clear c11b1
                    try clear c11b2
                    try clear c12
                    try clear c12b0
                    try clear c12b1
                    try clear c12b2
                    try clear c14
                    try clear c16
                    try clear c16b0
                    try clear c16b1
                    try clear c17
                    try clear c17b0
                    try clear c17b1
                    try clear c18
                    try clear c18b0
                    try clear c18b1
                    try clear c18b2
                    try clear p2
                    obtain ⟨x15_2, x16_2, rfl, rfl, HA, HK2, HO_8, HB⟩ := hrel
                    cases gk with
                    | zero => exact absurd HA.out (by simp [camshaftlaw02_CodeBack.l0])
                    | succ k2 =>
                      have H := HA.out
                      clear HA
                      simp only [camshaftlaw02_CodeBack.l0] at H
                      by_cases c23 : x16_2 < (l1.length : Int)
                      · rw [if_pos c23] at H
                        have c23b0 : decide (x16_2 < (l1.length : Int)) = true := decide_eq_true c23
                        clear c23
                        by_cases c24 : 0 ≤ x16_2
                        · rw [if_pos c24] at H
                          have c24b0 : decide (0 ≤ x16_2) = true := decide_eq_true c24
                          clear c24
                          replace H := Option.bind_eq_some_iff.mp H
                          obtain ⟨t227, A250, H⟩ := H
                          replace H : (if x15_2.size + t227.size ≤ 9223372036854775807 then (camshaftlaw02_CodeBack.l0 k2 a0 l1 a2 t215 t216 t217 t218 t223 (a0.size : Int) (x15_2 ++ t227) (wrap64 (x16_2 + 1))) else (none)) = some r := H
                          have A25 := Aside0.mk A250
                          clear A250
                          by_cases c26 : x15_2.size + t227.size ≤ 9223372036854775807
                          · rw [if_pos c26] at H
                            have c26b0 := eq_true c26
                            have c26b1 : decide (x15_2.size + t227.size ≤ 9223372036854775807) = true := decide_eq_true c26
                            try have c26b2 : (9223372036854775807 < x15_2.size + t227.size) = False := eq_false (Nat.not_lt.2 c26)
                            have H' := Aside0.mk H
                            clear H
                            have p226 : 0 ≤ (x16_2 : Int) := of_decide_eq_true (by first | (with_reducible assumption) | assumption)
                            have q226 : x16_2 < (l1.length : Int) := of_decide_eq_true (by first | (with_reducible assumption) | assumption)
                            obtain ⟨ad226, e226, hx226_0⟩ := Kd.at_int HR1.out x16_2 p226 q226
                            cases e226
                            replace hx226_0 := (HB.out.cell (World.block_lt_of_cell? w _ hx226_0)).trans hx226_0
                            replace p226 := eq_true p226
                            replace q226 := eq_true q226
                            go_wp2_with (first | ((with_reducible refine gate_callee (f := 11) rfl ?_); refine goesL_ (some 84) rfl rfl Try.func11 (by kernel_rfl) rfl #[.int .i64 (rd l1 x16_2)] rfl (by (try simp only [List.map_toArray, List.map_cons, List.map_nil]); first | done | rfl | (simp only [List.length_drop, List.length_take]; rfl)) ?_; (with_reducible refine (code_Put.calls k2 (rd l1 x16_2) t227 _ A25.out).mono ?_); rintro e w27 ⟨rfl, hb⟩; refine ⟨_, rfl, ?_⟩; have n0_ := Aside0.mk (Kd.R_below (by (with_reducible repeat (first | apply Kd.R_alloc | apply Kd.R_drewN | apply Kd.R_drew)); exact HO_8.out) hb); have n1_ := Aside0.mk (below_step (by repeat (first | (with_reducible first | exact HB.out | apply below_alloc | apply pw_below_drewN | apply below_drew1) | exact HB.out)) hb); clear HO_8; clear HB; have HO_8 := n0_; have HB := n1_; clear n0_ n1_; (try clear hb); (try clear hb2); (try clear hk); (try clear hi)))
                            go_roundg k2
                            case measure => have := HJ3.out; have := HK2.out; omega
                            case rel => exact ⟨(x15_2 ++ t227), (wrap64 (x16_2 + 1)), (by first | rfl | (simp; done) | (simp [*]; done)), (by first | rfl | (simp; done) | (simp [*]; done)), H', ⟨by have := HJ3.out; have := HK2.out; omega⟩, ⟨by (with_reducible repeat (first | apply Kd.R_alloc | apply Kd.R_drewN | apply Kd.R_drew)); exact HO_8.out⟩, ⟨by repeat (first | (with_reducible first | exact HB.out | apply below_alloc | apply pw_below_drewN | apply below_drew1) | exact HB.out | exact Below.refl _ _)⟩⟩
                          · rw [if_neg c26] at H
                            exact absurd H (by simp)
                        · rw [if_neg c24] at H
                          exact absurd H (by simp)
                      · rw [if_neg c23] at H
                        have c23b0 : decide (x16_2 < (l1.length : Int)) = false := decide_eq_false c23
                        clear c23
                        have H' := Aside0.mk H
                        clear H
                        go_wp2
                        go_loopg [14, 17] k2 (fun kq v14 v17 w' => ∃ (x14_3 : Int) (x17_3 : Int), v14 = .int .i64 x14_3 ∧ v17 = .int .i64 x17_3 ∧ Aside0 (camshaftlaw02_CodeBack.l1 kq a0 l1 a2 t215 t216 t217 t218 t223 x14_3 x15_2 x17_3 = some r) ∧ Aside0 (kq ≤ k2) ∧ Aside0 (Kd.R (Kd.int .i64) 3 w' w.heap.size (fun _ => True) v219 t216) ∧ Aside0 (Below w.heap.size w w'))
                        case atStart => exact ⟨((a0.size : Int)), (0), (by first | rfl | (simp; done) | (simp [*]; done)), (by first | rfl | (simp; done) | (simp [*]; done)), H', ⟨Nat.le_refl _⟩, ⟨by (with_reducible repeat (first | apply Kd.R_alloc | apply Kd.R_drewN | apply Kd.R_drew)); exact HO_8.out⟩, ⟨by repeat (first | (with_reducible first | exact HB.out | apply below_alloc | apply pw_below_drewN | apply below_drew1) | exact HB.out)⟩⟩
                        case round =>
                          clear H'
                          try clear c1
                          try clear c2
                          try clear p2
                          try clear q2
                          try clear hx2
                          try clear c5
                          try clear c5b0
                          try clear c5b1
                          try clear c6
                          try clear c6b0
                          try clear c6b1
                          try clear p6
                          try clear c7
                          try clear c10
                          try clear c11
                          try clear c11b0
                          try clear c11b1
                          try clear c11b2
                          try clear c12
                          try clear c12b0
                          try clear c12b1
                          try clear c12b2
                          try clear c14
                          try clear c16
                          try clear c16b0
                          try clear c16b1
                          try clear c17
                          try clear c17b0
                          try clear c17b1
                          try clear c18
                          try clear c18b0
                          try clear c18b1
                          try clear c18b2
                          try clear p22
                          try clear q22
                          try clear hx22
                          try clear c23
                          try clear c23b0
                          try clear c24
                          try clear c24b0
                          try clear c26
                          try clear c26b0
                          try clear c26b1
                          try clear c26b2
                          try clear hx226_0
                          try clear p2
                          try clear p226
                          try clear p6
                          try clear q226
                          obtain ⟨x14_3, x17_3, rfl, rfl, HA, HK3, HO_8, HB⟩ := hrel
                          cases gk with
                          | zero => exact absurd HA.out (by simp [camshaftlaw02_CodeBack.l1])
                          | succ k3 =>
                            have H := HA.out
                            clear HA
                            simp only [camshaftlaw02_CodeBack.l1] at H
                            by_cases c28 : x17_3 < (l1.length : Int)
                            · rw [if_pos c28] at H
                              have c28b0 : decide (x17_3 < (l1.length : Int)) = true := decide_eq_true c28
                              clear c28
                              by_cases c29 : x15_2.size + a2.size ≤ 9223372036854775807
                              · rw [if_pos c29] at H
                                have c29b0 := eq_true c29
                                have c29b1 : decide (x15_2.size + a2.size ≤ 9223372036854775807) = true := decide_eq_true c29
                                try have c29b2 : (9223372036854775807 < x15_2.size + a2.size) = False := eq_false (Nat.not_lt.2 c29)
                                replace H := Option.bind_eq_some_iff.mp H
                                obtain ⟨⟨t230, t231, t232⟩, A300, H⟩ := H
                                replace H : (if 0 ≤ x17_3 then (if t230 = (rd l1 x17_3) then ((code_Size.f k3 (rd l1 x17_3)).bind fun t235 => (if t231 = (wrap64 (x14_3 + t235)) then (if t232 = 0 then (camshaftlaw02_CodeBack.l1 k3 a0 l1 a2 t215 t216 t217 t218 t223 t231 x15_2 (wrap64 (x17_3 + 1))) else (some false)) else (some false))) else (some false)) else (none)) = some r := H
                                have A30 := Aside0.mk A300
                                clear A300
                                by_cases c31 : 0 ≤ x17_3
                                · rw [if_pos c31] at H
                                  have c31b0 : decide (0 ≤ x17_3) = true := decide_eq_true c31
                                  clear c31
                                  by_cases c32 : t230 = (rd l1 x17_3)
                                  · rw [if_pos c32] at H
                                    have c32b0 : (t230 == (rd l1 x17_3)) = true := beq_iff_eq.mpr c32
                                    have c32b1 : (t230 != (rd l1 x17_3)) = false := bne_eq_false_iff_eq.mpr c32
                                    clear c32
                                    replace H := Option.bind_eq_some_iff.mp H
                                    obtain ⟨t235, A330, H⟩ := H
                                    replace H : (if t231 = (wrap64 (x14_3 + t235)) then (if t232 = 0 then (camshaftlaw02_CodeBack.l1 k3 a0 l1 a2 t215 t216 t217 t218 t223 t231 x15_2 (wrap64 (x17_3 + 1))) else (some false)) else (some false)) = some r := H
                                    have A33 := Aside0.mk A330
                                    clear A330
                                    by_cases c34 : t231 = (wrap64 (x14_3 + t235))
                                    · rw [if_pos c34] at H
                                      have c34b0 : (t231 == (wrap64 (x14_3 + t235))) = true := beq_iff_eq.mpr c34
                                      have c34b1 : (t231 != (wrap64 (x14_3 + t235))) = false := bne_eq_false_iff_eq.mpr c34
                                      clear c34
                                      by_cases c35 : t232 = 0
                                      · rw [if_pos c35] at H
                                        have c35b0 : (t232 == 0) = true := beq_iff_eq.mpr c35
                                        have c35b1 : (t232 != 0) = false := bne_eq_false_iff_eq.mpr c35
                                        clear c35
                                        have H' := Aside0.mk H
                                        clear H
                                        go_wp2_with (first | ((with_reducible refine gate_callee (f := 16) rfl ?_); refine goesL_ (some 97) rfl rfl Try.func16 (by kernel_rfl) rfl #[.string (x15_2 ++ a2), .int .i64 x14_3] rfl (by (try simp only [List.map_toArray, List.map_cons, List.map_nil]); first | done | rfl | (simp only [List.length_drop, List.length_take]; rfl)) ?_; (with_reducible refine (code_Get.calls k3 (x15_2 ++ a2) x14_3 t230 t231 t232 _ A30.out).mono ?_); rintro e w' ⟨rfl, ⟨nd, rfl⟩⟩; refine ⟨_, rfl, ?_⟩; have p233 : 0 ≤ (x17_3 : Int) := of_decide_eq_true (by first | (with_reducible assumption) | assumption); have q233 : x17_3 < (l1.length : Int) := of_decide_eq_true (by first | (with_reducible assumption) | assumption); obtain ⟨ad233, e233, hx233_0⟩ := Kd.at_int HR1.out x17_3 p233 q233; cases e233; replace hx233_0 := (HB.out.cell (World.block_lt_of_cell? w _ hx233_0)).trans hx233_0; replace p233 := eq_true p233; replace q233 := eq_true q233; have p234 : 0 ≤ (x17_3 : Int) := of_decide_eq_true (by first | (with_reducible assumption) | assumption); have q234 : x17_3 < (l1.length : Int) := of_decide_eq_true (by first | (with_reducible assumption) | assumption); obtain ⟨ad234, e234, hx234_0⟩ := Kd.at_int HR1.out x17_3 p234 q234; obtain rfl : ad233 = ad234 := (by injection e234); replace hx234_0 := (HB.out.cell (World.block_lt_of_cell? w _ hx234_0)).trans hx234_0; replace p234 := eq_true p234; replace q234 := eq_true q234) | (go_at_call 13; (with_reducible refine (code_Size.calls k3 (rd l1 x17_3) t235 _ A33.out).mono ?_); rintro e w36 ⟨rfl, hb⟩; have n0_ := Aside0.mk (Kd.R_below (by (with_reducible repeat (first | apply Kd.R_alloc | apply Kd.R_drewN | apply Kd.R_drew)); exact HO_8.out) hb); have n1_ := Aside0.mk (below_step (by repeat (first | (with_reducible first | exact HB.out | apply below_alloc | apply pw_below_drewN | apply below_drew1) | exact HB.out)) hb); clear HO_8; clear HB; have HO_8 := n0_; have HB := n1_; clear n0_ n1_; (try clear hb); (try clear hb2); (try clear hk); (try clear hi)))
                                        go_roundg k3
                                        case measure => have := HJ3.out; have := HK2.out; have := HK3.out; omega
                                        case rel => exact ⟨(t231), (wrap64 (x17_3 + 1)), (by first | rfl | (simp; done) | (simp [*]; done)), (by first | rfl | (simp; done) | (simp [*]; done)), H', ⟨by have := HJ3.out; have := HK2.out; have := HK3.out; omega⟩, ⟨by (with_reducible repeat (first | apply Kd.R_alloc | apply Kd.R_drewN | apply Kd.R_drew)); exact HO_8.out⟩, ⟨by repeat (first | (with_reducible first | exact HB.out | apply below_alloc | apply pw_below_drewN | apply below_drew1) | exact HB.out | exact Below.refl _ _)⟩⟩
                                      · rw [if_neg c35] at H
                                        have c35b0 : (t232 == 0) = false := beq_eq_false_iff_ne.mpr c35
                                        have c35b1 : (t232 != 0) = true := bne_iff_ne.mpr c35
                                        exact absurd ((Option.some.inj H).trans HT.out) (by decide)
                                    · rw [if_neg c34] at H
                                      have c34b0 : (t231 == (wrap64 (x14_3 + t235))) = false := beq_eq_false_iff_ne.mpr c34
                                      have c34b1 : (t231 != (wrap64 (x14_3 + t235))) = true := bne_iff_ne.mpr c34
                                      exact absurd ((Option.some.inj H).trans HT.out) (by decide)
                                  · rw [if_neg c32] at H
                                    have c32b0 : (t230 == (rd l1 x17_3)) = false := beq_eq_false_iff_ne.mpr c32
                                    have c32b1 : (t230 != (rd l1 x17_3)) = true := bne_iff_ne.mpr c32
                                    exact absurd ((Option.some.inj H).trans HT.out) (by decide)
                                · rw [if_neg c31] at H
                                  exact absurd H (by simp)
                              · rw [if_neg c29] at H
                                exact absurd H (by simp)
                            · rw [if_neg c28] at H
                              have c28b0 : decide (x17_3 < (l1.length : Int)) = false := decide_eq_false c28
                              clear c28
                              replace H := Option.bind_eq_some_iff.mp H
                              obtain ⟨t228, A370, H⟩ := H
                              replace H : (if t228 = true then (if t217 = (wrap64 ((a0.size : Int) + (t215.size : Int))) then (if t218 = 0 then (if t223 = 2 then ((camshaftlaw02_known.f k3).bind fun t229 => (some t229)) else (some false)) else (some false)) else (some false)) else (some false)) = some r := H
                              have A37 := Aside0.mk A370
                              clear A370
                              by_cases c38 : t228 = true
                              · subst c38
                                have H1 : (if t217 = (wrap64 ((a0.size : Int) + (t215.size : Int))) then (if t218 = 0 then (if t223 = 2 then ((camshaftlaw02_known.f k3).bind fun t229 => (some t229)) else (some false)) else (some false)) else (some false)) = some r := by rw [if_pos rfl] at H; exact H
                                clear H
                                have H := H1
                                clear H1
                                by_cases c39 : t217 = (wrap64 ((a0.size : Int) + (t215.size : Int)))
                                · rw [if_pos c39] at H
                                  have c39b0 : (t217 == (wrap64 ((a0.size : Int) + (t215.size : Int)))) = true := beq_iff_eq.mpr c39
                                  have c39b1 : (t217 != (wrap64 ((a0.size : Int) + (t215.size : Int)))) = false := bne_eq_false_iff_eq.mpr c39
                                  clear c39
                                  by_cases c40 : t218 = 0
                                  · rw [if_pos c40] at H
                                    have c40b0 : (t218 == 0) = true := beq_iff_eq.mpr c40
                                    have c40b1 : (t218 != 0) = false := bne_eq_false_iff_eq.mpr c40
                                    clear c40
                                    by_cases c41 : t223 = 2
                                    · rw [if_pos c41] at H
                                      have c41b0 : (t223 == 2) = true := beq_iff_eq.mpr c41
                                      have c41b1 : (t223 != 2) = false := bne_eq_false_iff_eq.mpr c41
                                      clear c41
                                      replace H := Option.bind_eq_some_iff.mp H
                                      obtain ⟨t229, A420, H⟩ := H
                                      replace H : (some t229) = some r := H
                                      have A42 := Aside0.mk A420
                                      clear A420
                                      obtain rfl := Option.some.inj H
                                      obtain ⟨Ao43, co43, eo43⟩ := Kd.R_slice HO_8.out
                                      subst eo43
                                      go_wp2_with (first | ((with_reducible refine gate_callee (f := 20) rfl ?_); refine goesL_ (some 125) rfl rfl Try.func20 (by kernel_rfl) rfl #[.slice Ao43 t216.length co43, .slice A1 l1.length c1] rfl (by (try simp only [List.map_toArray, List.map_cons, List.map_nil]); first | done | rfl | (simp only [List.length_drop, List.length_take]; rfl)) ?_; (with_reducible refine (camshaftref02_Same.calls k3 _ _ t216 _ _ l1 true _ ?side1 ?side2 ?side3 ?side4 A37.out).mono ?_); (case side1 => repeat (first | exact (Kd.R_reads' HO_8.out).2.2 | (with_reducible refine Kd.C_alloc ?_ _) | (with_reducible refine Kd.C_drewN ?_ _) | (with_reducible refine Kd.C_drew ?_))); (case side2 => exact (Kd.R_reads' HO_8.out).2.1); (case side3 => repeat (first | exact (Kd.C_below HR1.out HB.out) | (with_reducible refine Kd.C_alloc ?_ _) | (with_reducible refine Kd.C_drewN ?_ _) | (with_reducible refine Kd.C_drew ?_))); (case side4 => exact HC1.out); rintro e w' ⟨rfl, ⟨nd, rfl⟩⟩; refine ⟨_, rfl, ?_⟩) | (go_at_call 10; (with_reducible refine (camshaftlaw02_known.calls k3  t229 _ A42.out).mono ?_); rintro e w44 ⟨rfl, hb⟩; have n0_ := Aside0.mk (Kd.R_below (by (with_reducible repeat (first | apply Kd.R_alloc | apply Kd.R_drewN | apply Kd.R_drew)); exact HO_8.out) hb); have n1_ := Aside0.mk (below_step (by repeat (first | (with_reducible first | exact HB.out | apply below_alloc | apply pw_below_drewN | apply below_drew1) | exact HB.out)) hb); clear HO_8; clear HB; have HO_8 := n0_; have HB := n1_; clear n0_ n1_; (try clear hb); (try clear hb2); (try clear hk); (try clear hi)))
                                      go_ret
                                      exact ⟨by first | rfl | (simp [errW_none, errW_some] <;> rfl) | (simp only [← hji14, ← hji15]; first | rfl | (simp [errW_none, errW_some] <;> rfl)) | (simp [*, errW_none, errW_some] <;> rfl), by repeat (first | (with_reducible first | exact HB.out | apply below_alloc | apply pw_below_drewN | apply below_drew1) | exact HB.out | exact Below.refl _ _)⟩
                                    · rw [if_neg c41] at H
                                      have c41b0 : (t223 == 2) = false := beq_eq_false_iff_ne.mpr c41
                                      have c41b1 : (t223 != 2) = true := bne_iff_ne.mpr c41
                                      exact absurd ((Option.some.inj H).trans HT.out) (by decide)
                                  · rw [if_neg c40] at H
                                    have c40b0 : (t218 == 0) = false := beq_eq_false_iff_ne.mpr c40
                                    have c40b1 : (t218 != 0) = true := bne_iff_ne.mpr c40
                                    exact absurd ((Option.some.inj H).trans HT.out) (by decide)
                                · rw [if_neg c39] at H
                                  have c39b0 : (t217 == (wrap64 ((a0.size : Int) + (t215.size : Int)))) = false := beq_eq_false_iff_ne.mpr c39
                                  have c39b1 : (t217 != (wrap64 ((a0.size : Int) + (t215.size : Int)))) = true := bne_iff_ne.mpr c39
                                  exact absurd ((Option.some.inj H).trans HT.out) (by decide)
                              · replace c38 := Bool.eq_false_iff.mpr c38
                                subst c38
                                have H1 : (some false) = some r := by rw [if_neg (show ¬ (false = true) by decide)] at H; exact H
                                clear H
                                have H := H1
                                clear H1
                                exact absurd ((Option.some.inj H).trans HT.out) (by decide)
                · rw [if_neg c18] at H
                  exact absurd H (by simp)
              · rw [if_neg c17] at H
                exact absurd H (by simp)
            · rw [if_neg c16] at H
              exact absurd H (by simp)
          · rw [if_neg c12] at H
            exact absurd H (by simp)
        · rw [if_neg c11] at H
          exact absurd H (by simp)

/-- THE ONE PURE STATEMENT of camshaftlaw02_CodeBack: yours. -/
def camshaftlaw02_CodeBack.Pure : Prop := ∀ (a0 : ByteArray) (l1 : List Int) (a2 : ByteArray), a0.size ≤ 140737488351232 → l1.length ≤ maxLen → l1.length * 8 ≤ 140737488351232 → (∀ x ∈ l1, (Lit.int .i64 x).wf = true) → a2.size ≤ 140737488351232 → ∃ k, camshaftlaw02_CodeBack.f k a0 l1 a2 = some true
theorem camshaftlaw02_CodeBack.walk (P : camshaftlaw02_CodeBack.Pure) (a0 : ByteArray) (a1 : Option Addr) (len1 cap1 : Nat) (z1 : List Int) (a2 : ByteArray) (w : World) (w0 : a0.size ≤ 140737488351232) (w1 : (a1 = none ∧ len1 = 0 ∧ cap1 = 0 ∧ z1 = []) ∨ ∃ x, a1 = some x ∧ len1 ≤ cap1 ∧ cap1 ≤ maxLen ∧ z1.length = cap1 ∧ (∀ i, i < z1.length → w.cell? (x.add i) = some (.int .i64 (z1.getD i 0))) ∧ ∀ n ∈ z1, (Lit.int .i64 n).wf = true) (y1 : len1 * 8 ≤ 140737488351232) (w2 : a2.size ≤ 140737488351232) :
    Calls Try.prog 5 #[.string a0, .slice a1 len1 cap1, .string a2] w fun e w' => e = .returned (.bool true) ∧ Below w.heap.size w w' := by
  obtain ⟨l1, rfl, hr1, hm1, hw1, hc1⟩ := ReadsInt.ofRowC w1
  obtain ⟨k, h⟩ := P a0 l1 a2 w0 hm1 y1 hw1 w2
  refine (camshaftlaw02_CodeBack.calls k a0 _ _ l1 a2 true w (Kd.C_of_reads (d := (0 : Int)) (h1 := fun _ => rfl) hr1) hc1 h rfl).mono ?_
  rintro e w' ⟨rfl, hd⟩
  exact ⟨rfl, hd⟩

end Go.Proofs.Yteioenlkdidpgaa.P
