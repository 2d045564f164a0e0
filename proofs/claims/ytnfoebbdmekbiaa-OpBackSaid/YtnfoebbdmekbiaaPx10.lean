-- Written by a program of this session (wip/tools: patched print) for this claim. Not trusted: Lean checks it.
import Derived.Test.YtnfoebbdmekbiaaPx0
import Derived.Test.YtnfoebbdmekbiaaPx4
import Derived.Test.YtnfoebbdmekbiaaPx5
import Derived.Test.YtnfoebbdmekbiaaPx6
namespace Go.Proofs.Ytnfoebbdmekbiaa.P
open Go.RowKit Go.Proofs.Ytnfoebbdmekbiaa.C Go.Proofs.YtnfoebbdmekbiaaW.PrintWords Go.Proofs.YtnfoebbdmekbiaaW.PrintLast Go.Proofs.YtnfoebbdmekbiaaW.PrintMore
attribute [local go_sem] max2_int min2_int max_two min_two max_three min_three max_four min_four   -- for this text's walks alone
set_option linter.unusedVariables false
set_option linter.unusedSimpArgs false

/-! ### camshaftlaw04_OpBack: function 5 -/
mutual
def camshaftlaw04_OpBack.j0 : Nat → List (S23) → List (S23) → ByteArray → Bool → Option (Bool)
  | 0, _, _, _, _ => none
  | k + 1, x0, x1, x2, x27 => if x27 = true then ((camshaftlaw04_known.f k).bind fun t236 => (some t236)) else ((op_Code.f k x0).bind fun t237 => ((op_Code.f k x1).bind fun t238 => ((op_Read.f k t237).bind fun bt239 => ((op_Read.f k x2).bind fun bt243 => (camshaftlaw04_OpBack.l0 k x0 x1 x2 t237 t238 bt239.1 bt239.2 bt243.1 bt243.2 (decide ((x0.length : Int) ≤ 200)) 0)))))
def camshaftlaw04_OpBack.l0 : Nat → List (S23) → List (S23) → ByteArray → ByteArray → ByteArray → List (S23) → Int → List (S23) → Int → Bool → Int → Option (Bool)
  | 0, _, _, _, _, _, _, _, _, _, _, _ => none
  | k + 1, x0, x1, x2, x7, x8, x9, x10, x11, x12, x13, x14 => if x14 < (x0.length : Int) then (if x13 = true then (if 0 ≤ x14 then ((op_Right.f ((rd_T23 x0 x14).f0) ((rd_T23 x0 x14).f1) ((rd_T23 x0 x14).f2)).bind fun t248 => (camshaftlaw04_OpBack.l0 k x0 x1 x2 x7 x8 x9 x10 x11 x12 t248 (wrap64 (x14 + 1)))) else (none)) else (camshaftlaw04_OpBack.l0 k x0 x1 x2 x7 x8 x9 x10 x11 x12 false (wrap64 (x14 + 1)))) else (if x12 = 0 then ((op_Code.f k x11).bind fun t249 => (if t249.toList = x2.toList then (if x13 = true then (if x10 = 0 then ((op_Same.f k x9 x0).bind fun t250 => (if t250 = true then (camshaftlaw04_OpBack.j2 k x0 x1 x7 x8 false) else (camshaftlaw04_OpBack.j2 k x0 x1 x7 x8 true))) else (camshaftlaw04_OpBack.j2 k x0 x1 x7 x8 true)) else (camshaftlaw04_OpBack.j2 k x0 x1 x7 x8 (x7.toList != ([] : List UInt8)))) else (camshaftlaw04_OpBack.j2 k x0 x1 x7 x8 true))) else (if x13 = true then (if x10 = 0 then ((op_Same.f k x9 x0).bind fun t251 => (if t251 = true then (camshaftlaw04_OpBack.j2 k x0 x1 x7 x8 false) else (camshaftlaw04_OpBack.j2 k x0 x1 x7 x8 true))) else (camshaftlaw04_OpBack.j2 k x0 x1 x7 x8 true)) else (camshaftlaw04_OpBack.j2 k x0 x1 x7 x8 (x7.toList != ([] : List UInt8)))))
def camshaftlaw04_OpBack.j2 : Nat → List (S23) → List (S23) → ByteArray → ByteArray → Bool → Option (Bool)
  | 0, _, _, _, _, _ => none
  | k + 1, x0, x1, x7, x8, x88 => if x88 = true then (some false) else ((op_Same.f k x0 x1).bind fun t252 => ((camshaftref04_Same.f k x0 x1).bind fun t253 => (if (t252 == t253) = true then (if x7.toList = ([] : List UInt8) then ((camshaftlaw04_known.f k).bind fun t254 => (some t254)) else (if x8.toList = ([] : List UInt8) then ((camshaftlaw04_known.f k).bind fun t255 => (some t255)) else ((op_Same.f k x0 x1).bind fun t256 => (if ((x7.toList == x8.toList) == t256) = true then ((camshaftlaw04_known.f k).bind fun t257 => (some t257)) else (some false))))) else (some false))))
end
def camshaftlaw04_OpBack.f (k : Nat) (l0 : List (S23)) (l1 : List (S23)) (a2 : ByteArray) : Option (Bool) := if (l0.length : Int) > 250 then (camshaftlaw04_OpBack.j0 k l0 l1 a2 true) else (if (l1.length : Int) > 250 then (camshaftlaw04_OpBack.j0 k l0 l1 a2 true) else (camshaftlaw04_OpBack.j0 k l0 l1 a2 (decide ((a2.size : Int) > 3000))))
theorem camshaftlaw04_OpBack.mono_l : ∀ k, (∀ y0 y1 y2 y3, LeO (camshaftlaw04_OpBack.j0 k y0 y1 y2 y3) (camshaftlaw04_OpBack.j0 (k + 1) y0 y1 y2 y3)) ∧ (∀ y0 y1 y2 y3 y4 y5 y6 y7 y8 y9 y10, LeO (camshaftlaw04_OpBack.l0 k y0 y1 y2 y3 y4 y5 y6 y7 y8 y9 y10) (camshaftlaw04_OpBack.l0 (k + 1) y0 y1 y2 y3 y4 y5 y6 y7 y8 y9 y10)) ∧ (∀ y0 y1 y2 y3 y4, LeO (camshaftlaw04_OpBack.j2 k y0 y1 y2 y3 y4) (camshaftlaw04_OpBack.j2 (k + 1) y0 y1 y2 y3 y4))
  | 0 => ⟨fun _ _ _ _ r h => by simp [camshaftlaw04_OpBack.j0] at h, fun _ _ _ _ _ _ _ _ _ _ _ r h => by simp [camshaftlaw04_OpBack.l0] at h, fun _ _ _ _ _ r h => by simp [camshaftlaw04_OpBack.j2] at h⟩
  | k + 1 => by
    obtain ⟨ih0, ih1, ih2⟩ := camshaftlaw04_OpBack.mono_l k
    refine ⟨?_, ?_, ?_⟩
    · intro y0 y1 y2 y3
      unfold camshaftlaw04_OpBack.j0
      repeat' first
      | (with_reducible exact ih0 _ _ _ _)
      | (with_reducible exact ih1 _ _ _ _ _ _ _ _ _ _ _)
      | (with_reducible exact ih2 _ _ _ _ _)
      | (with_reducible exact camshaftlaw04_known.mono _)
      | (with_reducible exact camshaftref04_Same.mono _ _ _)
      | (with_reducible exact op_Code.mono _ _)
      | (with_reducible exact op_Read.mono _ _)
      | (with_reducible exact op_Same.mono _ _ _)
      | (with_reducible exact LeO.refl _)
      | (with_reducible exact LeO.none _)
      | (with_reducible refine LeO.ite ?_ ?_)
      | (with_reducible refine LeO.bind ?_ (fun _ => ?_))
      | exact ih0 _ _ _ _
      | exact ih1 _ _ _ _ _ _ _ _ _ _ _
      | exact ih2 _ _ _ _ _
      | exact camshaftlaw04_known.mono _
      | exact camshaftref04_Same.mono _ _ _
      | exact op_Code.mono _ _
      | exact op_Read.mono _ _
      | exact op_Same.mono _ _ _
      | exact LeO.none _
      | refine LeO.ite ?_ ?_
      | refine LeO.bind ?_ (fun _ => ?_)
    · intro y0 y1 y2 y3 y4 y5 y6 y7 y8 y9 y10
      unfold camshaftlaw04_OpBack.l0
      repeat' first
      | (with_reducible exact ih0 _ _ _ _)
      | (with_reducible exact ih1 _ _ _ _ _ _ _ _ _ _ _)
      | (with_reducible exact ih2 _ _ _ _ _)
      | (with_reducible exact camshaftlaw04_known.mono _)
      | (with_reducible exact camshaftref04_Same.mono _ _ _)
      | (with_reducible exact op_Code.mono _ _)
      | (with_reducible exact op_Read.mono _ _)
      | (with_reducible exact op_Same.mono _ _ _)
      | (with_reducible exact LeO.refl _)
      | (with_reducible exact LeO.none _)
      | (with_reducible refine LeO.ite ?_ ?_)
      | (with_reducible refine LeO.bind ?_ (fun _ => ?_))
      | exact ih0 _ _ _ _
      | exact ih1 _ _ _ _ _ _ _ _ _ _ _
      | exact ih2 _ _ _ _ _
      | exact camshaftlaw04_known.mono _
      | exact camshaftref04_Same.mono _ _ _
      | exact op_Code.mono _ _
      | exact op_Read.mono _ _
      | exact op_Same.mono _ _ _
      | exact LeO.none _
      | refine LeO.ite ?_ ?_
      | refine LeO.bind ?_ (fun _ => ?_)
    · intro y0 y1 y2 y3 y4
      unfold camshaftlaw04_OpBack.j2
      repeat' first
      | (with_reducible exact ih0 _ _ _ _)
      | (with_reducible exact ih1 _ _ _ _ _ _ _ _ _ _ _)
      | (with_reducible exact ih2 _ _ _ _ _)
      | (with_reducible exact camshaftlaw04_known.mono _)
      | (with_reducible exact camshaftref04_Same.mono _ _ _)
      | (with_reducible exact op_Code.mono _ _)
      | (with_reducible exact op_Read.mono _ _)
      | (with_reducible exact op_Same.mono _ _ _)
      | (with_reducible exact LeO.refl _)
      | (with_reducible exact LeO.none _)
      | (with_reducible refine LeO.ite ?_ ?_)
      | (with_reducible refine LeO.bind ?_ (fun _ => ?_))
      | exact ih0 _ _ _ _
      | exact ih1 _ _ _ _ _ _ _ _ _ _ _
      | exact ih2 _ _ _ _ _
      | exact camshaftlaw04_known.mono _
      | exact camshaftref04_Same.mono _ _ _
      | exact op_Code.mono _ _
      | exact op_Read.mono _ _
      | exact op_Same.mono _ _ _
      | exact LeO.none _
      | refine LeO.ite ?_ ?_
      | refine LeO.bind ?_ (fun _ => ?_)
theorem camshaftlaw04_OpBack.mono : ∀ a0 a1 a2 k, LeO (camshaftlaw04_OpBack.f k a0 a1 a2) (camshaftlaw04_OpBack.f (k + 1) a0 a1 a2) := by
  intro a0 a1 a2 k
  obtain ⟨ih0, ih1, ih2⟩ := camshaftlaw04_OpBack.mono_l k
  unfold camshaftlaw04_OpBack.f
  repeat' first
      | (with_reducible exact ih0 _ _ _ _)
      | (with_reducible exact ih1 _ _ _ _ _ _ _ _ _ _ _)
      | (with_reducible exact ih2 _ _ _ _ _)
      | (with_reducible exact camshaftlaw04_known.mono _)
      | (with_reducible exact camshaftref04_Same.mono _ _ _)
      | (with_reducible exact op_Code.mono _ _)
      | (with_reducible exact op_Read.mono _ _)
      | (with_reducible exact op_Same.mono _ _ _)
      | (with_reducible exact LeO.refl _)
      | (with_reducible exact LeO.none _)
      | (with_reducible refine LeO.ite ?_ ?_)
      | (with_reducible refine LeO.bind ?_ (fun _ => ?_))
      | exact ih0 _ _ _ _
      | exact ih1 _ _ _ _ _ _ _ _ _ _ _
      | exact ih2 _ _ _ _ _
      | exact camshaftlaw04_known.mono _
      | exact camshaftref04_Same.mono _ _ _
      | exact op_Code.mono _ _
      | exact op_Read.mono _ _
      | exact op_Same.mono _ _ _
      | exact LeO.none _
      | refine LeO.ite ?_ ?_
      | refine LeO.bind ?_ (fun _ => ?_)
set_option maxHeartbeats 8000000 in
set_option maxRecDepth 100000 in
theorem camshaftlaw04_OpBack.calls (k : Nat) (A0 : Option Addr) (c0 : Nat) (l0 : List (S23)) (A1 : Option Addr) (c1 : Nat) (l1 : List (S23)) (a2 : ByteArray) (r : Bool) (w : World) (hr0 : Kd.C k23 w A0 l0.length l0) (hc0 : l0.length ≤ c0) (hr1 : Kd.C k23 w A1 l1.length l1) (hc1 : l1.length ≤ c1) (h : camshaftlaw04_OpBack.f k l0 l1 a2 = some r) (ht : r = true) :
    Calls Try.prog 5 #[.slice A0 l0.length c0, .slice A1 l1.length c1, .string a2] w fun e w' => e = .returned (.bool r) ∧ Below w.heap.size w w' := by
  have hu23 := Try.underlying23
  have HT := Aside0.mk ht
  clear ht
  have HR0 := Aside0.mk hr0
  have HC0 := Aside0.mk hc0
  clear hr0 hc0
  have HR1 := Aside0.mk hr1
  have HC1 := Aside0.mk hc1
  clear hr1 hc1
  have HB := Aside0.mk (Below.refl w.heap.size w)
  have H : (if (l0.length : Int) > 250 then (camshaftlaw04_OpBack.j0 k l0 l1 a2 true) else (if (l1.length : Int) > 250 then (camshaftlaw04_OpBack.j0 k l0 l1 a2 true) else (camshaftlaw04_OpBack.j0 k l0 l1 a2 (decide ((a2.size : Int) > 3000))))) = some r := h
  clear h
  have HC4 := Aside0.mk H
  clear H
  go_enter Try.func5, Try.ntmps5
  go_upto_region 1 with (fail)
  go_cut [27] (fun v27 wc => ∃ (kq : Nat) (x27_3 : Bool), v27 = .bool x27_3 ∧ Aside0 (camshaftlaw04_OpBack.j0 kq l0 l1 a2 x27_3 = some r) ∧ Aside0 (kq ≤ k) ∧ Aside0 (Below w.heap.size w wc))
  case first =>
    have H := HC4.out
    clear HC4
    by_cases c5 : (l0.length : Int) > 250
    · rw [if_pos c5] at H
      have c5b0 : decide (250 < (l0.length : Int)) = true := decide_eq_true c5
      have c5b1 : decide (250 < l0.length) = true := decide_eq_true (by omega)
      clear c5
      (first | rw [c5b0] | (simp only [i64_w, i32_w]; rw [c5b0]) | skip)
      have H' := Aside0.mk H
      clear H
      go_wp2
      go_meet
      case rel => exact ⟨_, (true), (by first | rfl | (simp; done) | (simp [*]; done)), H', ⟨by first | omega | exact Nat.le_refl _⟩, ⟨by repeat (first | (with_reducible first | exact HB.out | apply below_alloc | apply pw_below_drewN | apply below_drew1) | exact HB.out | exact Below.refl _ _)⟩⟩
    · rw [if_neg c5] at H
      have c5b0 : decide (250 < (l0.length : Int)) = false := decide_eq_false c5
      have c5b1 : decide (250 < l0.length) = false := decide_eq_false (by omega)
      clear c5
      (first | rw [c5b0] | (simp only [i64_w, i32_w]; rw [c5b0]) | skip)
      by_cases c6 : (l1.length : Int) > 250
      · rw [if_pos c6] at H
        have c6b0 : decide (250 < (l1.length : Int)) = true := decide_eq_true c6
        have c6b1 : decide (250 < l1.length) = true := decide_eq_true (by omega)
        clear c6
        have H' := Aside0.mk H
        clear H
        go_wp2
        go_meet
        case rel => exact ⟨_, (true), (by first | rfl | (simp; done) | (simp [*]; done)), H', ⟨by first | omega | exact Nat.le_refl _⟩, ⟨by repeat (first | (with_reducible first | exact HB.out | apply below_alloc | apply pw_below_drewN | apply below_drew1) | exact HB.out | exact Below.refl _ _)⟩⟩
      · rw [if_neg c6] at H
        have c6b0 : decide (250 < (l1.length : Int)) = false := decide_eq_false c6
        have c6b1 : decide (250 < l1.length) = false := decide_eq_false (by omega)
        clear c6
        have H' := Aside0.mk H
        clear H
        go_wp2
        go_meet
        case rel => exact ⟨_, (decide ((a2.size : Int) > 3000)), (by first | rfl | (simp; done) | (simp [*]; done)), H', ⟨by first | omega | exact Nat.le_refl _⟩, ⟨by repeat (first | (with_reducible first | exact HB.out | apply below_alloc | apply pw_below_drewN | apply below_drew1) | exact HB.out | exact Below.refl _ _)⟩⟩
  case rest =>
    clear HC4
    try clear c1
    try clear p2
    try clear c5
    try clear c5b0
    try clear c5b1
    try clear c6
    try clear c6b0
    try clear c6b1
    obtain ⟨kq, x27_3, rfl, HA, HJ3, HB⟩ := hcut
    cases kq with
    | zero => exact absurd HA.out (by simp [camshaftlaw04_OpBack.j0])
    | succ kj3 =>
      have H := HA.out
      clear HA
      simp only [camshaftlaw04_OpBack.j0] at H
      by_cases c7 : x27_3 = true
      · subst c7
        have H1 : ((camshaftlaw04_known.f kj3).bind fun t236 => (some t236)) = some r := by rw [if_pos rfl] at H; exact H
        clear H
        have H := H1
        clear H1
        replace H := Option.bind_eq_some_iff.mp H
        obtain ⟨t236, A80, H⟩ := H
        replace H : (some t236) = some r := H
        have A8 := Aside0.mk A80
        clear A80
        obtain rfl := Option.some.inj H
        go_wp2_with (first | ((with_reducible refine gate_callee (f := 18) rfl ?_); refine goesL_ (some 28) rfl rfl Try.func18 (by kernel_rfl) rfl #[] rfl (by (try simp only [List.map_toArray, List.map_cons, List.map_nil]); first | done | rfl | (simp only [List.length_drop, List.length_take]; rfl)) ?_; (with_reducible refine (camshaftlaw04_known.calls kj3  t236 _ A8.out).mono ?_); rintro e w9 ⟨rfl, hb⟩; refine ⟨_, rfl, ?_⟩; have n0_ := Aside0.mk (below_step (by repeat (first | (with_reducible first | exact HB.out | apply below_alloc | apply pw_below_drewN | apply below_drew1) | exact HB.out)) hb); clear HB; have HB := n0_; clear n0_; (try clear hb); (try clear hb2); (try clear hk); (try clear hi)))
        go_ret
        exact ⟨by first | rfl | (rw [bne_nil_eq]; rfl) | (simp [bne_nil_eq]; done) | (simp [errW_none, errW_some] <;> rfl) | (simp [*, errW_none, errW_some] <;> rfl), by repeat (first | (with_reducible first | exact HB.out | apply below_alloc | apply pw_below_drewN | apply below_drew1) | exact HB.out | exact Below.refl _ _)⟩
      · replace c7 := Bool.eq_false_iff.mpr c7
        subst c7
        have H1 : ((op_Code.f kj3 l0).bind fun t237 => ((op_Code.f kj3 l1).bind fun t238 => ((op_Read.f kj3 t237).bind fun bt239 => ((op_Read.f kj3 a2).bind fun bt243 => (camshaftlaw04_OpBack.l0 kj3 l0 l1 a2 t237 t238 bt239.1 bt239.2 bt243.1 bt243.2 (decide ((l0.length : Int) ≤ 200)) 0))))) = some r := by rw [if_neg (show ¬ (false = true) by decide)] at H; exact H
        clear H
        have H := H1
        clear H1
        replace H := Option.bind_eq_some_iff.mp H
        obtain ⟨t237, A100, H⟩ := H
        replace H : ((op_Code.f kj3 l1).bind fun t238 => ((op_Read.f kj3 t237).bind fun bt239 => ((op_Read.f kj3 a2).bind fun bt243 => (camshaftlaw04_OpBack.l0 kj3 l0 l1 a2 t237 t238 bt239.1 bt239.2 bt243.1 bt243.2 (decide ((l0.length : Int) ≤ 200)) 0)))) = some r := H
        have A10 := Aside0.mk A100
        clear A100
        replace H := Option.bind_eq_some_iff.mp H
        obtain ⟨t238, A110, H⟩ := H
        replace H : ((op_Read.f kj3 t237).bind fun bt239 => ((op_Read.f kj3 a2).bind fun bt243 => (camshaftlaw04_OpBack.l0 kj3 l0 l1 a2 t237 t238 bt239.1 bt239.2 bt243.1 bt243.2 (decide ((l0.length : Int) ≤ 200)) 0))) = some r := H
        have A11 := Aside0.mk A110
        clear A110
        replace H := Option.bind_eq_some_iff.mp H
        obtain ⟨⟨t239, t240⟩, A120, H⟩ := H
        replace H : ((op_Read.f kj3 a2).bind fun bt243 => (camshaftlaw04_OpBack.l0 kj3 l0 l1 a2 t237 t238 t239 t240 bt243.1 bt243.2 (decide ((l0.length : Int) ≤ 200)) 0)) = some r := H
        have A12 := Aside0.mk A120
        clear A120
        replace H := Option.bind_eq_some_iff.mp H
        obtain ⟨⟨t243, t244⟩, A130, H⟩ := H
        replace H : (camshaftlaw04_OpBack.l0 kj3 l0 l1 a2 t237 t238 t239 t240 t243 t244 (decide ((l0.length : Int) ≤ 200)) 0) = some r := H
        have A13 := Aside0.mk A130
        clear A130
        have H' := Aside0.mk H
        clear H
        go_wp2_with (first | ((with_reducible refine gate_callee (f := 24) rfl ?_); refine goesL_ (some 30) rfl rfl Try.func24 (by kernel_rfl) rfl #[.slice A0 l0.length c0] rfl (by (try simp only [List.map_toArray, List.map_cons, List.map_nil]); first | done | rfl | (simp only [List.length_drop, List.length_take]; rfl)) ?_; (with_reducible refine (op_Code.calls kj3 _ _ l0 t237 _ ?side1 ?side2 A10.out).mono ?_); (case side1 => repeat (first | exact (Kd.C_below HR0.out HB.out) | (with_reducible refine Kd.C_alloc ?_ _) | (with_reducible refine Kd.C_drewN ?_ _) | (with_reducible refine Kd.C_drew ?_))); (case side2 => exact HC0.out); rintro e w14 ⟨rfl, hb⟩; refine ⟨_, rfl, ?_⟩; have n0_ := Aside0.mk (below_step (by repeat (first | (with_reducible first | exact HB.out | apply below_alloc | apply pw_below_drewN | apply below_drew1) | exact HB.out)) hb); clear HB; have HB := n0_; clear n0_; (try clear hb); (try clear hb2); (try clear hk); (try clear hi)) | ((with_reducible refine gate_callee (f := 24) rfl ?_); refine goesL_ (some 32) rfl rfl Try.func24 (by kernel_rfl) rfl #[.slice A1 l1.length c1] rfl (by (try simp only [List.map_toArray, List.map_cons, List.map_nil]); first | done | rfl | (simp only [List.length_drop, List.length_take]; rfl)) ?_; (with_reducible refine (op_Code.calls kj3 _ _ l1 t238 _ ?side1 ?side2 A11.out).mono ?_); (case side1 => repeat (first | exact (Kd.C_below HR1.out HB.out) | (with_reducible refine Kd.C_alloc ?_ _) | (with_reducible refine Kd.C_drewN ?_ _) | (with_reducible refine Kd.C_drew ?_))); (case side2 => exact HC1.out); rintro e w15 ⟨rfl, hb⟩; refine ⟨_, rfl, ?_⟩; have n0_ := Aside0.mk (below_step (by repeat (first | (with_reducible first | exact HB.out | apply below_alloc | apply pw_below_drewN | apply below_drew1) | exact HB.out)) hb); clear HB; have HB := n0_; clear n0_; (try clear hb); (try clear hb2); (try clear hk); (try clear hi)) | ((with_reducible refine gate_callee (f := 21) rfl ?_); refine goesL_ (some 35) rfl rfl Try.func21 (by kernel_rfl) rfl #[.string t237] rfl (by (try simp only [List.map_toArray, List.map_cons, List.map_nil]); first | done | rfl | (simp only [List.length_drop, List.length_take]; rfl)) ?_; (with_reducible refine (op_Read.calls kj3 t237 t239 t240 _ A12.out).mono ?_); rintro e w16 ⟨v241, rfl, ho0, hb⟩; refine ⟨_, rfl, ?_⟩; have n0_ := Aside0.mk (Kd.R_lower ho0 (below_size (by repeat (first | (with_reducible first | exact HB.out | apply below_alloc | apply pw_below_drewN | apply below_drew1) | exact HB.out)))); have n1_ := Aside0.mk (below_step (by repeat (first | (with_reducible first | exact HB.out | apply below_alloc | apply pw_below_drewN | apply below_drew1) | exact HB.out)) hb); clear HB; have HO242 := n0_; have HB := n1_; clear n0_ n1_; (try clear hb); (try clear hb2); (try clear hk); (try clear hi); (try clear ho0)) | ((with_reducible refine gate_callee (f := 21) rfl ?_); refine goesL_ (some 40) rfl rfl Try.func21 (by kernel_rfl) rfl #[.string a2] rfl (by (try simp only [List.map_toArray, List.map_cons, List.map_nil]); first | done | rfl | (simp only [List.length_drop, List.length_take]; rfl)) ?_; (with_reducible refine (op_Read.calls kj3 a2 t243 t244 _ A13.out).mono ?_); rintro e w17 ⟨v245, rfl, ho0, hb⟩; refine ⟨_, rfl, ?_⟩; have n0_ := Aside0.mk (Kd.R_elder' (by (with_reducible repeat (first | apply Kd.R_alloc | apply Kd.R_drewN | apply Kd.R_drew)); exact HO242.out) (Kd.R_base ho0) hb); have n1_ := Aside0.mk (Kd.R_lower (Kd.R_new' ho0 (Kd.R_lt (by (with_reducible repeat (first | apply Kd.R_alloc | apply Kd.R_drewN | apply Kd.R_drew)); exact HO242.out))) (below_size (by repeat (first | (with_reducible first | exact HB.out | apply below_alloc | apply pw_below_drewN | apply below_drew1) | exact HB.out)))); have n2_ := Aside0.mk (below_step (by repeat (first | (with_reducible first | exact HB.out | apply below_alloc | apply pw_below_drewN | apply below_drew1) | exact HB.out)) hb); clear HO242; clear HB; have HO242 := n0_; have HO246 := n1_; have HB := n2_; clear n0_ n1_ n2_; (try clear hb); (try clear hb2); (try clear hk); (try clear hi); (try clear ho0)))
        go_loopg [13, 14] kj3 (fun kq v13 v14 w' => ∃ (x13_2 : Bool) (x14_2 : Int), v13 = .bool x13_2 ∧ v14 = .int .i64 x14_2 ∧ Aside0 (camshaftlaw04_OpBack.l0 kq l0 l1 a2 t237 t238 t239 t240 t243 t244 x13_2 x14_2 = some r) ∧ Aside0 (kq ≤ kj3) ∧ Aside0 (Kd.R k23 23 w' w.heap.size (fun k_ => some k_ ≠ (v245 : Value).ownBlock) v241 t239) ∧ Aside0 (Kd.R k23 23 w' w.heap.size (fun k_ => some k_ ≠ (v241 : Value).ownBlock) v245 t243) ∧ Aside0 (Below w.heap.size w w'))
        case atStart => exact ⟨(decide ((l0.length : Int) ≤ 200)), (0), (by first | rfl | (simp; done) | (simp [*]; done)), (by first | rfl | (simp; done) | (simp [*]; done)), H', ⟨Nat.le_refl _⟩, ⟨by (with_reducible repeat (first | apply Kd.R_alloc | apply Kd.R_drewN | apply Kd.R_drew)); exact Kd.R_mono HO242.out (fun _ hk => hk.2)⟩, ⟨by (with_reducible repeat (first | apply Kd.R_alloc | apply Kd.R_drewN | apply Kd.R_drew)); exact Kd.R_mono HO246.out (fun _ hk => hk.2)⟩, ⟨by repeat (first | (with_reducible first | exact HB.out | apply below_alloc | apply pw_below_drewN | apply below_drew1) | exact HB.out)⟩⟩
        case round =>
          clear H'
          try clear c1
          try clear c2
          try clear p2
          try clear c5
          try clear c5b0
          try clear c5b1
          try clear c6
          try clear c6b0
          try clear c6b1
          try clear c7
          try clear p2
          obtain ⟨x13_2, x14_2, rfl, rfl, HA, HK2, HO_9, HO_11, HB⟩ := hrel
          cases gk with
          | zero => exact absurd HA.out (by simp [camshaftlaw04_OpBack.l0])
          | succ k2 =>
            have H := HA.out
            clear HA
            simp only [camshaftlaw04_OpBack.l0] at H
            by_cases c18 : x14_2 < (l0.length : Int)
            · rw [if_pos c18] at H
              have c18b0 : decide (x14_2 < (l0.length : Int)) = true := decide_eq_true c18
              clear c18
              by_cases c19 : x13_2 = true
              · subst c19
                have H1 : (if 0 ≤ x14_2 then ((op_Right.f ((rd_T23 l0 x14_2).f0) ((rd_T23 l0 x14_2).f1) ((rd_T23 l0 x14_2).f2)).bind fun t248 => (camshaftlaw04_OpBack.l0 k2 l0 l1 a2 t237 t238 t239 t240 t243 t244 t248 (wrap64 (x14_2 + 1)))) else (none)) = some r := by rw [if_pos rfl] at H; exact H
                clear H
                have H := H1
                clear H1
                by_cases c20 : 0 ≤ x14_2
                · rw [if_pos c20] at H
                  have c20b0 : decide (0 ≤ x14_2) = true := decide_eq_true c20
                  clear c20
                  replace H := Option.bind_eq_some_iff.mp H
                  obtain ⟨t248, A210, H⟩ := H
                  replace H : (camshaftlaw04_OpBack.l0 k2 l0 l1 a2 t237 t238 t239 t240 t243 t244 t248 (wrap64 (x14_2 + 1))) = some r := H
                  have A21 := Aside0.mk A210
                  clear A210
                  have H' := Aside0.mk H
                  clear H
                  have p247 : 0 ≤ (x14_2 : Int) := of_decide_eq_true (by first | (with_reducible assumption) | assumption)
                  have q247 : x14_2 < (l0.length : Int) := of_decide_eq_true (by first | (with_reducible assumption) | assumption)
                  obtain ⟨ad247, e247, hx247_0, hx247_1, hx247_2⟩ := at_T23 HR0.out x14_2 p247 q247
                  cases e247
                  replace hx247_0 := (HB.out.cell (World.block_lt_of_cell? w _ hx247_0)).trans hx247_0
                  replace hx247_1 := (HB.out.cell (World.block_lt_of_cell? w _ hx247_1)).trans hx247_1
                  replace hx247_2 := (HB.out.cell (World.block_lt_of_cell? w _ hx247_2)).trans hx247_2
                  replace p247 := eq_true p247
                  replace q247 := eq_true q247
                  go_wp2_with (first | (go_at_call 10; (with_reducible refine (op_Right.calls ((rd_T23 l0 x14_2).f0) ((rd_T23 l0 x14_2).f1) ((rd_T23 l0 x14_2).f2) t248 _ A21.out).mono ?_); rintro e w22 ⟨rfl, hb⟩; have n0_ := Aside0.mk (Kd.R_below (by (with_reducible repeat (first | apply Kd.R_alloc | apply Kd.R_drewN | apply Kd.R_drew)); exact HO_9.out) hb); have n1_ := Aside0.mk (Kd.R_below (by (with_reducible repeat (first | apply Kd.R_alloc | apply Kd.R_drewN | apply Kd.R_drew)); exact HO_11.out) hb); have n2_ := Aside0.mk (below_step (by repeat (first | (with_reducible first | exact HB.out | apply below_alloc | apply pw_below_drewN | apply below_drew1) | exact HB.out)) hb); clear HO_9; clear HO_11; clear HB; have HO_9 := n0_; have HO_11 := n1_; have HB := n2_; clear n0_ n1_ n2_; (try clear hb); (try clear hb2); (try clear hk); (try clear hi)))
                  go_roundg k2
                  case measure => have := HJ3.out; have := HK2.out; omega
                  case rel => exact ⟨(t248), (wrap64 (x14_2 + 1)), (by first | rfl | (simp; done) | (simp [*]; done)), (by first | rfl | (simp; done) | (simp [*]; done)), H', ⟨by have := HJ3.out; have := HK2.out; omega⟩, ⟨by (with_reducible repeat (first | apply Kd.R_alloc | apply Kd.R_drewN | apply Kd.R_drew)); exact HO_9.out⟩, ⟨by (with_reducible repeat (first | apply Kd.R_alloc | apply Kd.R_drewN | apply Kd.R_drew)); exact HO_11.out⟩, ⟨by repeat (first | (with_reducible first | exact HB.out | apply below_alloc | apply pw_below_drewN | apply below_drew1) | exact HB.out | exact Below.refl _ _)⟩⟩
                · rw [if_neg c20] at H
                  exact absurd H (by simp)
              · replace c19 := Bool.eq_false_iff.mpr c19
                subst c19
                have H1 : (camshaftlaw04_OpBack.l0 k2 l0 l1 a2 t237 t238 t239 t240 t243 t244 false (wrap64 (x14_2 + 1))) = some r := by rw [if_neg (show ¬ (false = true) by decide)] at H; exact H
                clear H
                have H := H1
                clear H1
                have H' := Aside0.mk H
                clear H
                go_wp2
                go_roundg k2
                case measure => have := HJ3.out; have := HK2.out; omega
                case rel => exact ⟨(false), (wrap64 (x14_2 + 1)), (by first | rfl | (simp; done) | (simp [*]; done)), (by first | rfl | (simp; done) | (simp [*]; done)), H', ⟨by have := HJ3.out; have := HK2.out; omega⟩, ⟨by (with_reducible repeat (first | apply Kd.R_alloc | apply Kd.R_drewN | apply Kd.R_drew)); exact HO_9.out⟩, ⟨by (with_reducible repeat (first | apply Kd.R_alloc | apply Kd.R_drewN | apply Kd.R_drew)); exact HO_11.out⟩, ⟨by repeat (first | (with_reducible first | exact HB.out | apply below_alloc | apply pw_below_drewN | apply below_drew1) | exact HB.out | exact Below.refl _ _)⟩⟩
            · rw [if_neg c18] at H
              have c18b0 : decide (x14_2 < (l0.length : Int)) = false := decide_eq_false c18
              clear c18
              have HC23 := Aside0.mk H
              clear H
              go_upto_region 12 with (fail)
              go_cut [88] (fun v88 wc => ∃ (kq : Nat) (x88_22 : Bool), v88 = .bool x88_22 ∧ Aside0 (camshaftlaw04_OpBack.j2 kq l0 l1 t237 t238 x88_22 = some r) ∧ Aside0 (kq ≤ k2) ∧ Aside0 (Below w.heap.size w wc))
              case first =>
                have H := HC23.out
                clear HC23
                by_cases c24 : t244 = 0
                · rw [if_pos c24] at H
                  have c24b0 : (t244 == 0) = true := beq_iff_eq.mpr c24
                  have c24b1 : (t244 != 0) = false := bne_eq_false_iff_eq.mpr c24
                  clear c24
                  (first | rw [c24b0] | (simp only [i64_w, i32_w]; rw [c24b0]) | skip)
                  replace H := Option.bind_eq_some_iff.mp H
                  obtain ⟨t249, A250, H⟩ := H
                  replace H : (if t249.toList = a2.toList then (if x13_2 = true then (if t240 = 0 then ((op_Same.f k2 t239 l0).bind fun t250 => (if t250 = true then (camshaftlaw04_OpBack.j2 k2 l0 l1 t237 t238 false) else (camshaftlaw04_OpBack.j2 k2 l0 l1 t237 t238 true))) else (camshaftlaw04_OpBack.j2 k2 l0 l1 t237 t238 true)) else (camshaftlaw04_OpBack.j2 k2 l0 l1 t237 t238 (t237.toList != ([] : List UInt8)))) else (camshaftlaw04_OpBack.j2 k2 l0 l1 t237 t238 true)) = some r := H
                  have A25 := Aside0.mk A250
                  clear A250
                  by_cases c26 : t249.toList = a2.toList
                  · rw [if_pos c26] at H
                    have c26b0 : (t249.toList == a2.toList) = true := beq_iff_eq.mpr c26
                    have c26b1 : (t249.toList != a2.toList) = false := bne_eq_false_iff_eq.mpr c26
                    clear c26
                    by_cases c27 : x13_2 = true
                    · subst c27
                      have H1 : (if t240 = 0 then ((op_Same.f k2 t239 l0).bind fun t250 => (if t250 = true then (camshaftlaw04_OpBack.j2 k2 l0 l1 t237 t238 false) else (camshaftlaw04_OpBack.j2 k2 l0 l1 t237 t238 true))) else (camshaftlaw04_OpBack.j2 k2 l0 l1 t237 t238 true)) = some r := by rw [if_pos rfl] at H; exact H
                      clear H
                      have H := H1
                      clear H1
                      by_cases c28 : t240 = 0
                      · rw [if_pos c28] at H
                        have c28b0 : (t240 == 0) = true := beq_iff_eq.mpr c28
                        have c28b1 : (t240 != 0) = false := bne_eq_false_iff_eq.mpr c28
                        clear c28
                        replace H := Option.bind_eq_some_iff.mp H
                        obtain ⟨t250, A290, H⟩ := H
                        replace H : (if t250 = true then (camshaftlaw04_OpBack.j2 k2 l0 l1 t237 t238 false) else (camshaftlaw04_OpBack.j2 k2 l0 l1 t237 t238 true)) = some r := H
                        have A29 := Aside0.mk A290
                        clear A290
                        by_cases c30 : t250 = true
                        · subst c30
                          have H1 : (camshaftlaw04_OpBack.j2 k2 l0 l1 t237 t238 false) = some r := by rw [if_pos rfl] at H; exact H
                          clear H
                          have H := H1
                          clear H1
                          have H' := Aside0.mk H
                          clear H
                          obtain ⟨Ao31, co31, eo31⟩ := Kd.R_slice HO_11.out
                          subst eo31
                          go_wp2_with (first | (go_at_call 24; (with_reducible refine (op_Code.calls k2 _ _ t243 t249 _ ?side1 ?side2 A25.out).mono ?_); (case side1 => repeat (first | exact (Kd.R_reads' HO_11.out).2.2 | (with_reducible refine Kd.C_alloc ?_ _) | (with_reducible refine Kd.C_drewN ?_ _) | (with_reducible refine Kd.C_drew ?_))); (case side2 => exact (Kd.R_reads' HO_11.out).2.1); rintro e w32 ⟨rfl, hb⟩; have n0_ := Aside0.mk (Kd.R_below (by (with_reducible repeat (first | apply Kd.R_alloc | apply Kd.R_drewN | apply Kd.R_drew)); exact HO_9.out) hb); have n1_ := Aside0.mk (Kd.R_below (by (with_reducible repeat (first | apply Kd.R_alloc | apply Kd.R_drewN | apply Kd.R_drew)); exact HO_11.out) hb); have n2_ := Aside0.mk (below_step (by repeat (first | (with_reducible first | exact HB.out | apply below_alloc | apply pw_below_drewN | apply below_drew1) | exact HB.out)) hb); clear HO_9; clear HO_11; clear HB; have HO_9 := n0_; have HO_11 := n1_; have HB := n2_; clear n0_ n1_ n2_; (try clear hb); (try clear hb2); (try clear hk); (try clear hi); obtain ⟨Ao33, co33, eo33⟩ := Kd.R_slice HO_9.out; subst eo33) | (go_at_call 25; (with_reducible refine (op_Same.calls k2 _ _ t239 _ _ l0 true _ ?side1 ?side2 ?side3 ?side4 A29.out).mono ?_); (case side1 => repeat (first | exact (Kd.R_reads' HO_9.out).2.2 | (with_reducible refine Kd.C_alloc ?_ _) | (with_reducible refine Kd.C_drewN ?_ _) | (with_reducible refine Kd.C_drew ?_))); (case side2 => exact (Kd.R_reads' HO_9.out).2.1); (case side3 => repeat (first | exact (Kd.C_below HR0.out HB.out) | (with_reducible refine Kd.C_alloc ?_ _) | (with_reducible refine Kd.C_drewN ?_ _) | (with_reducible refine Kd.C_drew ?_))); (case side4 => exact HC0.out); rintro e w' ⟨rfl, ⟨nd, rfl⟩⟩))
                          go_meet
                          case rel => exact ⟨_, (false), (by first | rfl | (simp; done) | (simp [*]; done)), H', ⟨by have := HJ3.out; have := HK2.out; first | omega | exact Nat.le_refl _⟩, ⟨by repeat (first | (with_reducible first | exact HB.out | apply below_alloc | apply pw_below_drewN | apply below_drew1) | exact HB.out | exact Below.refl _ _)⟩⟩
                        · replace c30 := Bool.eq_false_iff.mpr c30
                          subst c30
                          have H1 : (camshaftlaw04_OpBack.j2 k2 l0 l1 t237 t238 true) = some r := by rw [if_neg (show ¬ (false = true) by decide)] at H; exact H
                          clear H
                          have H := H1
                          clear H1
                          have H' := Aside0.mk H
                          clear H
                          obtain ⟨Ao34, co34, eo34⟩ := Kd.R_slice HO_11.out
                          subst eo34
                          go_wp2_with (first | (go_at_call 24; (with_reducible refine (op_Code.calls k2 _ _ t243 t249 _ ?side1 ?side2 A25.out).mono ?_); (case side1 => repeat (first | exact (Kd.R_reads' HO_11.out).2.2 | (with_reducible refine Kd.C_alloc ?_ _) | (with_reducible refine Kd.C_drewN ?_ _) | (with_reducible refine Kd.C_drew ?_))); (case side2 => exact (Kd.R_reads' HO_11.out).2.1); rintro e w35 ⟨rfl, hb⟩; have n0_ := Aside0.mk (Kd.R_below (by (with_reducible repeat (first | apply Kd.R_alloc | apply Kd.R_drewN | apply Kd.R_drew)); exact HO_9.out) hb); have n1_ := Aside0.mk (Kd.R_below (by (with_reducible repeat (first | apply Kd.R_alloc | apply Kd.R_drewN | apply Kd.R_drew)); exact HO_11.out) hb); have n2_ := Aside0.mk (below_step (by repeat (first | (with_reducible first | exact HB.out | apply below_alloc | apply pw_below_drewN | apply below_drew1) | exact HB.out)) hb); clear HO_9; clear HO_11; clear HB; have HO_9 := n0_; have HO_11 := n1_; have HB := n2_; clear n0_ n1_ n2_; (try clear hb); (try clear hb2); (try clear hk); (try clear hi); obtain ⟨Ao36, co36, eo36⟩ := Kd.R_slice HO_9.out; subst eo36) | (go_at_call 25; (with_reducible refine (op_Same.calls k2 _ _ t239 _ _ l0 false _ ?side1 ?side2 ?side3 ?side4 A29.out).mono ?_); (case side1 => repeat (first | exact (Kd.R_reads' HO_9.out).2.2 | (with_reducible refine Kd.C_alloc ?_ _) | (with_reducible refine Kd.C_drewN ?_ _) | (with_reducible refine Kd.C_drew ?_))); (case side2 => exact (Kd.R_reads' HO_9.out).2.1); (case side3 => repeat (first | exact (Kd.C_below HR0.out HB.out) | (with_reducible refine Kd.C_alloc ?_ _) | (with_reducible refine Kd.C_drewN ?_ _) | (with_reducible refine Kd.C_drew ?_))); (case side4 => exact HC0.out); rintro e w' ⟨rfl, ⟨nd, rfl⟩⟩))
                          go_meet
                          case rel => exact ⟨_, (true), (by first | rfl | (simp; done) | (simp [*]; done)), H', ⟨by have := HJ3.out; have := HK2.out; first | omega | exact Nat.le_refl _⟩, ⟨by repeat (first | (with_reducible first | exact HB.out | apply below_alloc | apply pw_below_drewN | apply below_drew1) | exact HB.out | exact Below.refl _ _)⟩⟩
                      · rw [if_neg c28] at H
                        have c28b0 : (t240 == 0) = false := beq_eq_false_iff_ne.mpr c28
                        have c28b1 : (t240 != 0) = true := bne_iff_ne.mpr c28
                        have H' := Aside0.mk H
                        clear H
                        obtain ⟨Ao37, co37, eo37⟩ := Kd.R_slice HO_11.out
                        subst eo37
                        go_wp2_with (first | (go_at_call 24; (with_reducible refine (op_Code.calls k2 _ _ t243 t249 _ ?side1 ?side2 A25.out).mono ?_); (case side1 => repeat (first | exact (Kd.R_reads' HO_11.out).2.2 | (with_reducible refine Kd.C_alloc ?_ _) | (with_reducible refine Kd.C_drewN ?_ _) | (with_reducible refine Kd.C_drew ?_))); (case side2 => exact (Kd.R_reads' HO_11.out).2.1); rintro e w38 ⟨rfl, hb⟩; have n0_ := Aside0.mk (Kd.R_below (by (with_reducible repeat (first | apply Kd.R_alloc | apply Kd.R_drewN | apply Kd.R_drew)); exact HO_9.out) hb); have n1_ := Aside0.mk (Kd.R_below (by (with_reducible repeat (first | apply Kd.R_alloc | apply Kd.R_drewN | apply Kd.R_drew)); exact HO_11.out) hb); have n2_ := Aside0.mk (below_step (by repeat (first | (with_reducible first | exact HB.out | apply below_alloc | apply pw_below_drewN | apply below_drew1) | exact HB.out)) hb); clear HO_9; clear HO_11; clear HB; have HO_9 := n0_; have HO_11 := n1_; have HB := n2_; clear n0_ n1_ n2_; (try clear hb); (try clear hb2); (try clear hk); (try clear hi)))
                        go_meet
                        case rel => exact ⟨_, (true), (by first | rfl | (simp; done) | (simp [*]; done)), H', ⟨by have := HJ3.out; have := HK2.out; first | omega | exact Nat.le_refl _⟩, ⟨by repeat (first | (with_reducible first | exact HB.out | apply below_alloc | apply pw_below_drewN | apply below_drew1) | exact HB.out | exact Below.refl _ _)⟩⟩
                    · replace c27 := Bool.eq_false_iff.mpr c27
                      subst c27
                      have H1 : (camshaftlaw04_OpBack.j2 k2 l0 l1 t237 t238 (t237.toList != ([] : List UInt8))) = some r := by rw [if_neg (show ¬ (false = true) by decide)] at H; exact H
                      clear H
                      have H := H1
                      clear H1
                      have H' := Aside0.mk H
                      clear H
                      obtain ⟨Ao39, co39, eo39⟩ := Kd.R_slice HO_11.out
                      subst eo39
                      go_wp2_with (first | (go_at_call 24; (with_reducible refine (op_Code.calls k2 _ _ t243 t249 _ ?side1 ?side2 A25.out).mono ?_); (case side1 => repeat (first | exact (Kd.R_reads' HO_11.out).2.2 | (with_reducible refine Kd.C_alloc ?_ _) | (with_reducible refine Kd.C_drewN ?_ _) | (with_reducible refine Kd.C_drew ?_))); (case side2 => exact (Kd.R_reads' HO_11.out).2.1); rintro e w40 ⟨rfl, hb⟩; have n0_ := Aside0.mk (Kd.R_below (by (with_reducible repeat (first | apply Kd.R_alloc | apply Kd.R_drewN | apply Kd.R_drew)); exact HO_9.out) hb); have n1_ := Aside0.mk (Kd.R_below (by (with_reducible repeat (first | apply Kd.R_alloc | apply Kd.R_drewN | apply Kd.R_drew)); exact HO_11.out) hb); have n2_ := Aside0.mk (below_step (by repeat (first | (with_reducible first | exact HB.out | apply below_alloc | apply pw_below_drewN | apply below_drew1) | exact HB.out)) hb); clear HO_9; clear HO_11; clear HB; have HO_9 := n0_; have HO_11 := n1_; have HB := n2_; clear n0_ n1_ n2_; (try clear hb); (try clear hb2); (try clear hk); (try clear hi)))
                      go_meet
                      case rel => exact ⟨_, ((t237.toList != ([] : List UInt8))), (by first | rfl | (simp; done) | (simp; cases t237.toList <;> rfl)), H', ⟨by have := HJ3.out; have := HK2.out; first | omega | exact Nat.le_refl _⟩, ⟨by repeat (first | (with_reducible first | exact HB.out | apply below_alloc | apply pw_below_drewN | apply below_drew1) | exact HB.out | exact Below.refl _ _)⟩⟩
                  · rw [if_neg c26] at H
                    have c26b0 : (t249.toList == a2.toList) = false := beq_eq_false_iff_ne.mpr c26
                    have c26b1 : (t249.toList != a2.toList) = true := bne_iff_ne.mpr c26
                    have H' := Aside0.mk H
                    clear H
                    obtain ⟨Ao41, co41, eo41⟩ := Kd.R_slice HO_11.out
                    subst eo41
                    go_wp2_with (first | (go_at_call 24; (with_reducible refine (op_Code.calls k2 _ _ t243 t249 _ ?side1 ?side2 A25.out).mono ?_); (case side1 => repeat (first | exact (Kd.R_reads' HO_11.out).2.2 | (with_reducible refine Kd.C_alloc ?_ _) | (with_reducible refine Kd.C_drewN ?_ _) | (with_reducible refine Kd.C_drew ?_))); (case side2 => exact (Kd.R_reads' HO_11.out).2.1); rintro e w42 ⟨rfl, hb⟩; have n0_ := Aside0.mk (Kd.R_below (by (with_reducible repeat (first | apply Kd.R_alloc | apply Kd.R_drewN | apply Kd.R_drew)); exact HO_9.out) hb); have n1_ := Aside0.mk (Kd.R_below (by (with_reducible repeat (first | apply Kd.R_alloc | apply Kd.R_drewN | apply Kd.R_drew)); exact HO_11.out) hb); have n2_ := Aside0.mk (below_step (by repeat (first | (with_reducible first | exact HB.out | apply below_alloc | apply pw_below_drewN | apply below_drew1) | exact HB.out)) hb); clear HO_9; clear HO_11; clear HB; have HO_9 := n0_; have HO_11 := n1_; have HB := n2_; clear n0_ n1_ n2_; (try clear hb); (try clear hb2); (try clear hk); (try clear hi)))
                    go_meet
                    case rel => exact ⟨_, (true), (by first | rfl | (simp; done) | (simp [*]; done)), H', ⟨by have := HJ3.out; have := HK2.out; first | omega | exact Nat.le_refl _⟩, ⟨by repeat (first | (with_reducible first | exact HB.out | apply below_alloc | apply pw_below_drewN | apply below_drew1) | exact HB.out | exact Below.refl _ _)⟩⟩
                · rw [if_neg c24] at H
                  have c24b0 : (t244 == 0) = false := beq_eq_false_iff_ne.mpr c24
                  have c24b1 : (t244 != 0) = true := bne_iff_ne.mpr c24
                  (first | rw [c24b0] | (simp only [i64_w, i32_w]; rw [c24b0]) | skip)
                  by_cases c43 : x13_2 = true
                  · subst c43
                    have H1 : (if t240 = 0 then ((op_Same.f k2 t239 l0).bind fun t251 => (if t251 = true then (camshaftlaw04_OpBack.j2 k2 l0 l1 t237 t238 false) else (camshaftlaw04_OpBack.j2 k2 l0 l1 t237 t238 true))) else (camshaftlaw04_OpBack.j2 k2 l0 l1 t237 t238 true)) = some r := by rw [if_pos rfl] at H; exact H
                    clear H
                    have H := H1
                    clear H1
                    by_cases c44 : t240 = 0
                    · rw [if_pos c44] at H
                      have c44b0 : (t240 == 0) = true := beq_iff_eq.mpr c44
                      have c44b1 : (t240 != 0) = false := bne_eq_false_iff_eq.mpr c44
                      clear c44
                      replace H := Option.bind_eq_some_iff.mp H
                      obtain ⟨t251, A450, H⟩ := H
                      replace H : (if t251 = true then (camshaftlaw04_OpBack.j2 k2 l0 l1 t237 t238 false) else (camshaftlaw04_OpBack.j2 k2 l0 l1 t237 t238 true)) = some r := H
                      have A45 := Aside0.mk A450
                      clear A450
                      by_cases c46 : t251 = true
                      · subst c46
                        have H1 : (camshaftlaw04_OpBack.j2 k2 l0 l1 t237 t238 false) = some r := by rw [if_pos rfl] at H; exact H
                        clear H
                        have H := H1
                        clear H1
                        have H' := Aside0.mk H
                        clear H
                        obtain ⟨Ao47, co47, eo47⟩ := Kd.R_slice HO_9.out
                        subst eo47
                        go_wp2_with (first | (go_at_call 25; (with_reducible refine (op_Same.calls k2 _ _ t239 _ _ l0 true _ ?side1 ?side2 ?side3 ?side4 A45.out).mono ?_); (case side1 => repeat (first | exact (Kd.R_reads' HO_9.out).2.2 | (with_reducible refine Kd.C_alloc ?_ _) | (with_reducible refine Kd.C_drewN ?_ _) | (with_reducible refine Kd.C_drew ?_))); (case side2 => exact (Kd.R_reads' HO_9.out).2.1); (case side3 => repeat (first | exact (Kd.C_below HR0.out HB.out) | (with_reducible refine Kd.C_alloc ?_ _) | (with_reducible refine Kd.C_drewN ?_ _) | (with_reducible refine Kd.C_drew ?_))); (case side4 => exact HC0.out); rintro e w' ⟨rfl, ⟨nd, rfl⟩⟩))
                        go_meet
                        case rel => exact ⟨_, (false), (by first | rfl | (simp; done) | (simp [*]; done)), H', ⟨by have := HJ3.out; have := HK2.out; first | omega | exact Nat.le_refl _⟩, ⟨by repeat (first | (with_reducible first | exact HB.out | apply below_alloc | apply pw_below_drewN | apply below_drew1) | exact HB.out | exact Below.refl _ _)⟩⟩
                      · replace c46 := Bool.eq_false_iff.mpr c46
                        subst c46
                        have H1 : (camshaftlaw04_OpBack.j2 k2 l0 l1 t237 t238 true) = some r := by rw [if_neg (show ¬ (false = true) by decide)] at H; exact H
                        clear H
                        have H := H1
                        clear H1
                        have H' := Aside0.mk H
                        clear H
                        obtain ⟨Ao48, co48, eo48⟩ := Kd.R_slice HO_9.out
                        subst eo48
                        go_wp2_with (first | (go_at_call 25; (with_reducible refine (op_Same.calls k2 _ _ t239 _ _ l0 false _ ?side1 ?side2 ?side3 ?side4 A45.out).mono ?_); (case side1 => repeat (first | exact (Kd.R_reads' HO_9.out).2.2 | (with_reducible refine Kd.C_alloc ?_ _) | (with_reducible refine Kd.C_drewN ?_ _) | (with_reducible refine Kd.C_drew ?_))); (case side2 => exact (Kd.R_reads' HO_9.out).2.1); (case side3 => repeat (first | exact (Kd.C_below HR0.out HB.out) | (with_reducible refine Kd.C_alloc ?_ _) | (with_reducible refine Kd.C_drewN ?_ _) | (with_reducible refine Kd.C_drew ?_))); (case side4 => exact HC0.out); rintro e w' ⟨rfl, ⟨nd, rfl⟩⟩))
                        go_meet
                        case rel => exact ⟨_, (true), (by first | rfl | (simp; done) | (simp [*]; done)), H', ⟨by have := HJ3.out; have := HK2.out; first | omega | exact Nat.le_refl _⟩, ⟨by repeat (first | (with_reducible first | exact HB.out | apply below_alloc | apply pw_below_drewN | apply below_drew1) | exact HB.out | exact Below.refl _ _)⟩⟩
                    · rw [if_neg c44] at H
                      have c44b0 : (t240 == 0) = false := beq_eq_false_iff_ne.mpr c44
                      have c44b1 : (t240 != 0) = true := bne_iff_ne.mpr c44
                      have H' := Aside0.mk H
                      clear H
                      go_wp2
                      go_meet
                      case rel => exact ⟨_, (true), (by first | rfl | (simp; done) | (simp [*]; done)), H', ⟨by have := HJ3.out; have := HK2.out; first | omega | exact Nat.le_refl _⟩, ⟨by repeat (first | (with_reducible first | exact HB.out | apply below_alloc | apply pw_below_drewN | apply below_drew1) | exact HB.out | exact Below.refl _ _)⟩⟩
                  · replace c43 := Bool.eq_false_iff.mpr c43
                    subst c43
                    have H1 : (camshaftlaw04_OpBack.j2 k2 l0 l1 t237 t238 (t237.toList != ([] : List UInt8))) = some r := by rw [if_neg (show ¬ (false = true) by decide)] at H; exact H
                    clear H
                    have H := H1
                    clear H1
                    have H' := Aside0.mk H
                    clear H
                    go_wp2
                    go_meet
                    case rel => exact ⟨_, ((t237.toList != ([] : List UInt8))), (by first | rfl | (simp; done) | (simp; cases t237.toList <;> rfl)), H', ⟨by have := HJ3.out; have := HK2.out; first | omega | exact Nat.le_refl _⟩, ⟨by repeat (first | (with_reducible first | exact HB.out | apply below_alloc | apply pw_below_drewN | apply below_drew1) | exact HB.out | exact Below.refl _ _)⟩⟩
              case rest =>
                clear HC23
                try clear c1
                try clear c2
                try clear p2
                try clear q2
                try clear hx2
                try clear c3
                try clear c4
                try clear c5
                try clear c5b0
                try clear c5b1
                try clear c6
                try clear c6b0
                try clear c6b1
                try clear p6
                try clear c7
                try clear c18
                try clear c18b0
                try clear c19
                try clear c20
                try clear c20b0
                try clear c21
                try clear c24
                try clear c24b0
                try clear c24b1
                try clear p24
                try clear q24
                try clear hx24
                try clear c26
                try clear c26b0
                try clear c26b1
                try clear c27
                try clear c28
                try clear c28b0
                try clear c28b1
                try clear c30
                try clear c43
                try clear c44
                try clear c44b0
                try clear c44b1
                try clear c46
                try clear hx247_0
                try clear hx247_1
                try clear hx247_2
                try clear p2
                try clear p247
                try clear q247
                obtain ⟨kq, x88_22, rfl, HA, HJ22, HB⟩ := hcut
                cases kq with
                | zero => exact absurd HA.out (by simp [camshaftlaw04_OpBack.j2])
                | succ kj22 =>
                  have H := HA.out
                  clear HA
                  simp only [camshaftlaw04_OpBack.j2] at H
                  by_cases c49 : x88_22 = true
                  · subst c49
                    have H1 : (some false) = some r := by rw [if_pos rfl] at H; exact H
                    clear H
                    have H := H1
                    clear H1
                    exact absurd ((Option.some.inj H).trans HT.out) (by decide)
                  · replace c49 := Bool.eq_false_iff.mpr c49
                    subst c49
                    have H1 : ((op_Same.f kj22 l0 l1).bind fun t252 => ((camshaftref04_Same.f kj22 l0 l1).bind fun t253 => (if (t252 == t253) = true then (if t237.toList = ([] : List UInt8) then ((camshaftlaw04_known.f kj22).bind fun t254 => (some t254)) else (if t238.toList = ([] : List UInt8) then ((camshaftlaw04_known.f kj22).bind fun t255 => (some t255)) else ((op_Same.f kj22 l0 l1).bind fun t256 => (if ((t237.toList == t238.toList) == t256) = true then ((camshaftlaw04_known.f kj22).bind fun t257 => (some t257)) else (some false))))) else (some false)))) = some r := by rw [if_neg (show ¬ (false = true) by decide)] at H; exact H
                    clear H
                    have H := H1
                    clear H1
                    replace H := Option.bind_eq_some_iff.mp H
                    obtain ⟨t252, A500, H⟩ := H
                    replace H : ((camshaftref04_Same.f kj22 l0 l1).bind fun t253 => (if (t252 == t253) = true then (if t237.toList = ([] : List UInt8) then ((camshaftlaw04_known.f kj22).bind fun t254 => (some t254)) else (if t238.toList = ([] : List UInt8) then ((camshaftlaw04_known.f kj22).bind fun t255 => (some t255)) else ((op_Same.f kj22 l0 l1).bind fun t256 => (if ((t237.toList == t238.toList) == t256) = true then ((camshaftlaw04_known.f kj22).bind fun t257 => (some t257)) else (some false))))) else (some false))) = some r := H
                    have A50 := Aside0.mk A500
                    clear A500
                    replace H := Option.bind_eq_some_iff.mp H
                    obtain ⟨t253, A510, H⟩ := H
                    replace H : (if (t252 == t253) = true then (if t237.toList = ([] : List UInt8) then ((camshaftlaw04_known.f kj22).bind fun t254 => (some t254)) else (if t238.toList = ([] : List UInt8) then ((camshaftlaw04_known.f kj22).bind fun t255 => (some t255)) else ((op_Same.f kj22 l0 l1).bind fun t256 => (if ((t237.toList == t238.toList) == t256) = true then ((camshaftlaw04_known.f kj22).bind fun t257 => (some t257)) else (some false))))) else (some false)) = some r := H
                    have A51 := Aside0.mk A510
                    clear A510
                    by_cases c52 : (t252 == t253) = true
                    · rw [if_pos c52] at H
                      have c52b0 : (t252 == t253) = true := c52
                      (try (have c52b1 : decide (t252 = t253) = true := by simpa using c52))
                      (try (have c52b2 : (t252 == t253) = true := by simpa using c52))
                      clear c52
                      by_cases c53 : t237.toList = ([] : List UInt8)
                      · rw [if_pos c53] at H
                        have c53b0 : (t237.toList == ([] : List UInt8)) = true := beq_iff_eq.mpr c53
                        have c53b1 : (t237.toList != ([] : List UInt8)) = false := bne_eq_false_iff_eq.mpr c53
                        clear c53
                        replace H := Option.bind_eq_some_iff.mp H
                        obtain ⟨t254, A540, H⟩ := H
                        replace H : (some t254) = some r := H
                        have A54 := Aside0.mk A540
                        clear A540
                        obtain rfl := Option.some.inj H
                        go_wp2_with (first | ((with_reducible refine gate_callee (f := 25) rfl ?_); refine goesL_ (some 91) rfl rfl Try.func25 (by kernel_rfl) rfl #[.slice A0 l0.length c0, .slice A1 l1.length c1] rfl (by (try simp only [List.map_toArray, List.map_cons, List.map_nil]); first | done | rfl | (simp only [List.length_drop, List.length_take]; rfl)) ?_; (with_reducible refine (op_Same.calls kj22 _ _ l0 _ _ l1 t252 _ ?side1 ?side2 ?side3 ?side4 A50.out).mono ?_); (case side1 => repeat (first | exact (Kd.C_below HR0.out HB.out) | (with_reducible refine Kd.C_alloc ?_ _) | (with_reducible refine Kd.C_drewN ?_ _) | (with_reducible refine Kd.C_drew ?_))); (case side2 => exact HC0.out); (case side3 => repeat (first | exact (Kd.C_below HR1.out HB.out) | (with_reducible refine Kd.C_alloc ?_ _) | (with_reducible refine Kd.C_drewN ?_ _) | (with_reducible refine Kd.C_drew ?_))); (case side4 => exact HC1.out); rintro e w' ⟨rfl, ⟨nd, rfl⟩⟩; refine ⟨_, rfl, ?_⟩) | ((with_reducible refine gate_callee (f := 23) rfl ?_); refine goesL_ (some 94) rfl rfl Try.func23 (by kernel_rfl) rfl #[.slice A0 l0.length c0, .slice A1 l1.length c1] rfl (by (try simp only [List.map_toArray, List.map_cons, List.map_nil]); first | done | rfl | (simp only [List.length_drop, List.length_take]; rfl)) ?_; (with_reducible refine (camshaftref04_Same.calls kj22 _ _ l0 _ _ l1 t253 _ ?side1 ?side2 ?side3 ?side4 A51.out).mono ?_); (case side1 => repeat (first | exact (Kd.C_below HR0.out (by repeat (first | (with_reducible first | exact HB.out | apply below_alloc | apply pw_below_drewN | apply below_drew1) | exact HB.out))) | (with_reducible refine Kd.C_alloc ?_ _) | (with_reducible refine Kd.C_drewN ?_ _) | (with_reducible refine Kd.C_drew ?_))); (case side2 => exact HC0.out); (case side3 => repeat (first | exact (Kd.C_below HR1.out (by repeat (first | (with_reducible first | exact HB.out | apply below_alloc | apply pw_below_drewN | apply below_drew1) | exact HB.out))) | (with_reducible refine Kd.C_alloc ?_ _) | (with_reducible refine Kd.C_drewN ?_ _) | (with_reducible refine Kd.C_drew ?_))); (case side4 => exact HC1.out); rintro e w' ⟨rfl, ⟨nd, rfl⟩⟩; refine ⟨_, rfl, ?_⟩) | (go_at_call 18; (with_reducible refine (camshaftlaw04_known.calls kj22  t254 _ A54.out).mono ?_); rintro e w55 ⟨rfl, hb⟩; have n0_ := Aside0.mk (below_step (by repeat (first | (with_reducible first | exact HB.out | apply below_alloc | apply pw_below_drewN | apply below_drew1) | exact HB.out)) hb); clear HB; have HB := n0_; clear n0_; (try clear hb); (try clear hb2); (try clear hk); (try clear hi)))
                        go_ret
                        exact ⟨by first | rfl | (rw [bne_nil_eq]; rfl) | (simp [bne_nil_eq]; done) | (simp [errW_none, errW_some] <;> rfl) | (simp [*, errW_none, errW_some] <;> rfl), by repeat (first | (with_reducible first | exact HB.out | apply below_alloc | apply pw_below_drewN | apply below_drew1) | exact HB.out | exact Below.refl _ _)⟩
                      · rw [if_neg c53] at H
                        have c53b0 : (t237.toList == ([] : List UInt8)) = false := beq_eq_false_iff_ne.mpr c53
                        have c53b1 : (t237.toList != ([] : List UInt8)) = true := bne_iff_ne.mpr c53
                        by_cases c56 : t238.toList = ([] : List UInt8)
                        · rw [if_pos c56] at H
                          have c56b0 : (t238.toList == ([] : List UInt8)) = true := beq_iff_eq.mpr c56
                          have c56b1 : (t238.toList != ([] : List UInt8)) = false := bne_eq_false_iff_eq.mpr c56
                          clear c56
                          replace H := Option.bind_eq_some_iff.mp H
                          obtain ⟨t255, A570, H⟩ := H
                          replace H : (some t255) = some r := H
                          have A57 := Aside0.mk A570
                          clear A570
                          obtain rfl := Option.some.inj H
                          go_wp2_with (first | ((with_reducible refine gate_callee (f := 25) rfl ?_); refine goesL_ (some 91) rfl rfl Try.func25 (by kernel_rfl) rfl #[.slice A0 l0.length c0, .slice A1 l1.length c1] rfl (by (try simp only [List.map_toArray, List.map_cons, List.map_nil]); first | done | rfl | (simp only [List.length_drop, List.length_take]; rfl)) ?_; (with_reducible refine (op_Same.calls kj22 _ _ l0 _ _ l1 t252 _ ?side1 ?side2 ?side3 ?side4 A50.out).mono ?_); (case side1 => repeat (first | exact (Kd.C_below HR0.out HB.out) | (with_reducible refine Kd.C_alloc ?_ _) | (with_reducible refine Kd.C_drewN ?_ _) | (with_reducible refine Kd.C_drew ?_))); (case side2 => exact HC0.out); (case side3 => repeat (first | exact (Kd.C_below HR1.out HB.out) | (with_reducible refine Kd.C_alloc ?_ _) | (with_reducible refine Kd.C_drewN ?_ _) | (with_reducible refine Kd.C_drew ?_))); (case side4 => exact HC1.out); rintro e w' ⟨rfl, ⟨nd, rfl⟩⟩; refine ⟨_, rfl, ?_⟩) | ((with_reducible refine gate_callee (f := 23) rfl ?_); refine goesL_ (some 94) rfl rfl Try.func23 (by kernel_rfl) rfl #[.slice A0 l0.length c0, .slice A1 l1.length c1] rfl (by (try simp only [List.map_toArray, List.map_cons, List.map_nil]); first | done | rfl | (simp only [List.length_drop, List.length_take]; rfl)) ?_; (with_reducible refine (camshaftref04_Same.calls kj22 _ _ l0 _ _ l1 t253 _ ?side1 ?side2 ?side3 ?side4 A51.out).mono ?_); (case side1 => repeat (first | exact (Kd.C_below HR0.out (by repeat (first | (with_reducible first | exact HB.out | apply below_alloc | apply pw_below_drewN | apply below_drew1) | exact HB.out))) | (with_reducible refine Kd.C_alloc ?_ _) | (with_reducible refine Kd.C_drewN ?_ _) | (with_reducible refine Kd.C_drew ?_))); (case side2 => exact HC0.out); (case side3 => repeat (first | exact (Kd.C_below HR1.out (by repeat (first | (with_reducible first | exact HB.out | apply below_alloc | apply pw_below_drewN | apply below_drew1) | exact HB.out))) | (with_reducible refine Kd.C_alloc ?_ _) | (with_reducible refine Kd.C_drewN ?_ _) | (with_reducible refine Kd.C_drew ?_))); (case side4 => exact HC1.out); rintro e w' ⟨rfl, ⟨nd, rfl⟩⟩; refine ⟨_, rfl, ?_⟩) | (go_at_call 18; (with_reducible refine (camshaftlaw04_known.calls kj22  t255 _ A57.out).mono ?_); rintro e w58 ⟨rfl, hb⟩; have n0_ := Aside0.mk (below_step (by repeat (first | (with_reducible first | exact HB.out | apply below_alloc | apply pw_below_drewN | apply below_drew1) | exact HB.out)) hb); clear HB; have HB := n0_; clear n0_; (try clear hb); (try clear hb2); (try clear hk); (try clear hi)))
                          go_ret
                          exact ⟨by first | rfl | (rw [bne_nil_eq]; rfl) | (simp [bne_nil_eq]; done) | (simp [errW_none, errW_some] <;> rfl) | (simp [*, errW_none, errW_some] <;> rfl), by repeat (first | (with_reducible first | exact HB.out | apply below_alloc | apply pw_below_drewN | apply below_drew1) | exact HB.out | exact Below.refl _ _)⟩
                        · rw [if_neg c56] at H
                          have c56b0 : (t238.toList == ([] : List UInt8)) = false := beq_eq_false_iff_ne.mpr c56
                          have c56b1 : (t238.toList != ([] : List UInt8)) = true := bne_iff_ne.mpr c56
                          replace H := Option.bind_eq_some_iff.mp H
                          obtain ⟨t256, A590, H⟩ := H
                          replace H : (if ((t237.toList == t238.toList) == t256) = true then ((camshaftlaw04_known.f kj22).bind fun t257 => (some t257)) else (some false)) = some r := H
                          have A59 := Aside0.mk A590
                          clear A590
                          by_cases c60 : ((t237.toList == t238.toList) == t256) = true
                          · rw [if_pos c60] at H
                            have c60b0 : ((t237.toList == t238.toList) == t256) = true := c60
                            (try (have c60b1 : decide ((t237.toList == t238.toList) = t256) = true := by simpa using c60))
                            (try (have c60b2 : ((t237.toList == t238.toList) == t256) = true := by simpa using c60))
                            clear c60
                            replace H := Option.bind_eq_some_iff.mp H
                            obtain ⟨t257, A610, H⟩ := H
                            replace H : (some t257) = some r := H
                            have A61 := Aside0.mk A610
                            clear A610
                            obtain rfl := Option.some.inj H
                            go_wp2_with (first | ((with_reducible refine gate_callee (f := 25) rfl ?_); refine goesL_ (some 91) rfl rfl Try.func25 (by kernel_rfl) rfl #[.slice A0 l0.length c0, .slice A1 l1.length c1] rfl (by (try simp only [List.map_toArray, List.map_cons, List.map_nil]); first | done | rfl | (simp only [List.length_drop, List.length_take]; rfl)) ?_; (with_reducible refine (op_Same.calls kj22 _ _ l0 _ _ l1 t252 _ ?side1 ?side2 ?side3 ?side4 A50.out).mono ?_); (case side1 => repeat (first | exact (Kd.C_below HR0.out HB.out) | (with_reducible refine Kd.C_alloc ?_ _) | (with_reducible refine Kd.C_drewN ?_ _) | (with_reducible refine Kd.C_drew ?_))); (case side2 => exact HC0.out); (case side3 => repeat (first | exact (Kd.C_below HR1.out HB.out) | (with_reducible refine Kd.C_alloc ?_ _) | (with_reducible refine Kd.C_drewN ?_ _) | (with_reducible refine Kd.C_drew ?_))); (case side4 => exact HC1.out); rintro e w' ⟨rfl, ⟨nd, rfl⟩⟩; refine ⟨_, rfl, ?_⟩) | ((with_reducible refine gate_callee (f := 23) rfl ?_); refine goesL_ (some 94) rfl rfl Try.func23 (by kernel_rfl) rfl #[.slice A0 l0.length c0, .slice A1 l1.length c1] rfl (by (try simp only [List.map_toArray, List.map_cons, List.map_nil]); first | done | rfl | (simp only [List.length_drop, List.length_take]; rfl)) ?_; (with_reducible refine (camshaftref04_Same.calls kj22 _ _ l0 _ _ l1 t253 _ ?side1 ?side2 ?side3 ?side4 A51.out).mono ?_); (case side1 => repeat (first | exact (Kd.C_below HR0.out (by repeat (first | (with_reducible first | exact HB.out | apply below_alloc | apply pw_below_drewN | apply below_drew1) | exact HB.out))) | (with_reducible refine Kd.C_alloc ?_ _) | (with_reducible refine Kd.C_drewN ?_ _) | (with_reducible refine Kd.C_drew ?_))); (case side2 => exact HC0.out); (case side3 => repeat (first | exact (Kd.C_below HR1.out (by repeat (first | (with_reducible first | exact HB.out | apply below_alloc | apply pw_below_drewN | apply below_drew1) | exact HB.out))) | (with_reducible refine Kd.C_alloc ?_ _) | (with_reducible refine Kd.C_drewN ?_ _) | (with_reducible refine Kd.C_drew ?_))); (case side4 => exact HC1.out); rintro e w' ⟨rfl, ⟨nd, rfl⟩⟩; refine ⟨_, rfl, ?_⟩) | (go_at_call 25; (with_reducible refine (op_Same.calls kj22 _ _ l0 _ _ l1 t256 _ ?side1 ?side2 ?side3 ?side4 A59.out).mono ?_); (case side1 => repeat (first | exact (Kd.C_below HR0.out (by repeat (first | (with_reducible first | exact HB.out | apply below_alloc | apply pw_below_drewN | apply below_drew1) | exact HB.out))) | (with_reducible refine Kd.C_alloc ?_ _) | (with_reducible refine Kd.C_drewN ?_ _) | (with_reducible refine Kd.C_drew ?_))); (case side2 => exact HC0.out); (case side3 => repeat (first | exact (Kd.C_below HR1.out (by repeat (first | (with_reducible first | exact HB.out | apply below_alloc | apply pw_below_drewN | apply below_drew1) | exact HB.out))) | (with_reducible refine Kd.C_alloc ?_ _) | (with_reducible refine Kd.C_drewN ?_ _) | (with_reducible refine Kd.C_drew ?_))); (case side4 => exact HC1.out); rintro e w' ⟨rfl, ⟨nd, rfl⟩⟩) | (go_at_call 18; (with_reducible refine (camshaftlaw04_known.calls kj22  t257 _ A61.out).mono ?_); rintro e w62 ⟨rfl, hb⟩; have n0_ := Aside0.mk (below_step (by repeat (first | (with_reducible first | exact HB.out | apply below_alloc | apply pw_below_drewN | apply below_drew1) | exact HB.out)) hb); clear HB; have HB := n0_; clear n0_; (try clear hb); (try clear hb2); (try clear hk); (try clear hi)))
                            go_ret
                            exact ⟨by first | rfl | (rw [bne_nil_eq]; rfl) | (simp [bne_nil_eq]; done) | (simp [errW_none, errW_some] <;> rfl) | (simp [*, errW_none, errW_some] <;> rfl), by repeat (first | (with_reducible first | exact HB.out | apply below_alloc | apply pw_below_drewN | apply below_drew1) | exact HB.out | exact Below.refl _ _)⟩
                          · rw [if_neg c60] at H
                            have c60b0 : ((t237.toList == t238.toList) == t256) = false := by simpa using c60
                            (try (have c60b1 : decide ((t237.toList == t238.toList) = t256) = false := by simpa using c60))
                            (try (have c60b2 : ((t237.toList == t238.toList) == t256) = false := by simpa using c60))
                            (try (have c60b3 : ¬ ((t237.toList == t238.toList) = t256) := by simpa using c60))
                            clear c60
                            exact absurd ((Option.some.inj H).trans HT.out) (by decide)
                    · rw [if_neg c52] at H
                      have c52b0 : (t252 == t253) = false := by simpa using c52
                      (try (have c52b1 : decide (t252 = t253) = false := by simpa using c52))
                      (try (have c52b2 : (t252 == t253) = false := by simpa using c52))
                      (try (have c52b3 : ¬ (t252 = t253) := by simpa using c52))
                      clear c52
                      exact absurd ((Option.some.inj H).trans HT.out) (by decide)

/-- THE ONE PURE STATEMENT of camshaftlaw04_OpBack. -/
def camshaftlaw04_OpBack.Pure : Prop := ∀ (l0 : List S23) (l1 : List S23) (a2 : ByteArray), l0.length * 24 ≤ 140737488351232 → (∀ x ∈ l0, (Lit.int .i64 x.f0).wf = true ∧ (Lit.int .i64 x.f1).wf = true ∧ (Lit.int .i64 x.f2).wf = true) → l1.length * 24 ≤ 140737488351232 → (∀ x ∈ l1, (Lit.int .i64 x.f0).wf = true ∧ (Lit.int .i64 x.f1).wf = true ∧ (Lit.int .i64 x.f2).wf = true) → a2.size ≤ 140737488351232 → ∃ k, camshaftlaw04_OpBack.f k l0 l1 a2 = some true
theorem camshaftlaw04_OpBack.walk (P : camshaftlaw04_OpBack.Pure) (A0 : Option Addr) (c0 : Nat) (l0 : List S23) (A1 : Option Addr) (c1 : Nat) (l1 : List S23) (a2 : ByteArray) (w : World) (hr0 : Kd.C k23 w A0 l0.length l0) (hc0 : l0.length ≤ c0) (y0 : l0.length * 24 ≤ 140737488351232) (hw0 : ∀ x ∈ l0, (Lit.int .i64 x.f0).wf = true ∧ (Lit.int .i64 x.f1).wf = true ∧ (Lit.int .i64 x.f2).wf = true) (hr1 : Kd.C k23 w A1 l1.length l1) (hc1 : l1.length ≤ c1) (y1 : l1.length * 24 ≤ 140737488351232) (hw1 : ∀ x ∈ l1, (Lit.int .i64 x.f0).wf = true ∧ (Lit.int .i64 x.f1).wf = true ∧ (Lit.int .i64 x.f2).wf = true) (w2 : a2.size ≤ 140737488351232) :
    Calls Try.prog 5 #[.slice A0 l0.length c0, .slice A1 l1.length c1, .string a2] w fun e w' => e = .returned (.bool true) ∧ Below w.heap.size w w' := by
  obtain ⟨k, h⟩ := P l0 l1 a2 y0 hw0 y1 hw1 w2
  refine (camshaftlaw04_OpBack.calls k A0 c0 l0 A1 c1 l1 a2 true w hr0 hc0 hr1 hc1 h rfl).mono ?_
  rintro e w' ⟨rfl, hd⟩
  exact ⟨rfl, hd⟩

end Go.Proofs.Ytnfoebbdmekbiaa.P
