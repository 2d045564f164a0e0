-- Written by a program of this session (wip/tools: patched print) for this claim. Not trusted: Lean checks it.
import Derived.Test.YtljgllcllddcdaaPx0
import Derived.Test.YtljgllcllddcdaaPx4
import Derived.Test.YtljgllcllddcdaaPx9
namespace Go.Proofs.Ytljgllcllddcdaa.P
open Go.RowKit Go.Proofs.YtljgllcllddcdaaW.PrintWords Go.Proofs.YtljgllcllddcdaaW.PrintLast Go.Proofs.YtljgllcllddcdaaW.PrintMore
attribute [local go_sem] max2_int min2_int max_two min_two max_three min_three max_four min_four   -- for this text's walks alone
set_option linter.unusedVariables false
set_option linter.unusedSimpArgs false

/-! ### camshaftlaw06_NestHomes: function 7 -/
mutual
def camshaftlaw06_NestHomes.j0 : Nat → List (S32) → List Int → Int → List Int → Int → Bool → Option (Bool)
  | 0, _, _, _, _, _, _ => none
  | k + 1, x0, x3, x4, x5, x6, x28 => if x28 = true then (if x4 = x6 then (if (x3.length : Int) = 0 then ((camshaftlaw06_known.f k).bind fun t486 => (some t486)) else (some false)) else (some false)) else (if (x3.length : Int) = (x0.length : Int) then (camshaftlaw06_NestHomes.j1 k x0 x3 x5 ((x5.length : Int) != (x0.length : Int))) else (camshaftlaw06_NestHomes.j1 k x0 x3 x5 true))
def camshaftlaw06_NestHomes.j1 : Nat → List (S32) → List Int → List Int → Bool → Option (Bool)
  | 0, _, _, _, _ => none
  | k + 1, x0, x3, x5, x51 => if x51 = true then (some false) else (camshaftlaw06_NestHomes.l0 k x0 x3 x5 0)
def camshaftlaw06_NestHomes.l0 : Nat → List (S32) → List Int → List Int → Int → Option (Bool)
  | 0, _, _, _, _ => none
  | k + 1, x0, x3, x5, x7 => if x7 < (x0.length : Int) then (if 0 ≤ x7 then (if x7 < (x3.length : Int) then (if (rd x3 x7) < (-1) then (camshaftlaw06_NestHomes.j3 k x0 x3 x5 x7 true) else (if (rd x3 x7) ≥ x7 then (camshaftlaw06_NestHomes.j3 k x0 x3 x5 x7 true) else (if (rd x3 x7) ≥ 0 then (if 0 ≤ (rd x3 x7) then (if (rd x3 x7) < (x5.length : Int) then (camshaftlaw06_NestHomes.j3 k x0 x3 x5 x7 (decide ((rd x5 (rd x3 x7)) < x7))) else (none)) else (none)) else (camshaftlaw06_NestHomes.j3 k x0 x3 x5 x7 false)))) else (none)) else (none)) else ((camshaftlaw06_known.f k).bind fun t487 => (some t487))
def camshaftlaw06_NestHomes.j3 : Nat → List (S32) → List Int → List Int → Int → Bool → Option (Bool)
  | 0, _, _, _, _, _ => none
  | k + 1, x0, x3, x5, x7, x88 => if x88 = true then (some false) else (camshaftlaw06_NestHomes.l1 k x0 x3 x5 x7 0)
def camshaftlaw06_NestHomes.l1 : Nat → List (S32) → List Int → List Int → Int → Int → Option (Bool)
  | 0, _, _, _, _, _ => none
  | k + 1, x0, x3, x5, x7, x8 => if x8 < x7 then (if 0 ≤ x8 then (if x8 < (x5.length : Int) then (if (rd x5 x8) ≥ x7 then (if 0 ≤ x7 then (if x7 < (x3.length : Int) then (if x8 > (rd x3 x7) then (some false) else (camshaftlaw06_NestHomes.l1 k x0 x3 x5 x7 (wrap64 (x8 + 1)))) else (none)) else (none)) else (camshaftlaw06_NestHomes.l1 k x0 x3 x5 x7 (wrap64 (x8 + 1)))) else (none)) else (none)) else (camshaftlaw06_NestHomes.l0 k x0 x3 x5 (wrap64 (x7 + 1)))
end
def camshaftlaw06_NestHomes.f (k : Nat) (l0 : List (S32)) : Option (Bool) := if (l0.length : Int) > 200 then ((camshaftlaw06_known.f k).bind fun t477 => (some t477)) else ((nest_Home.f k l0).bind fun bt478 => ((nest_Match.f k l0).bind fun bt482 => (if bt478.2 = 0 then (camshaftlaw06_NestHomes.j0 k l0 bt478.1 bt478.2 bt482.1 bt482.2 (bt482.2 != 0)) else (camshaftlaw06_NestHomes.j0 k l0 bt478.1 bt478.2 bt482.1 bt482.2 true))))
theorem camshaftlaw06_NestHomes.mono_l : ∀ k, (∀ y0 y1 y2 y3 y4 y5, LeO (camshaftlaw06_NestHomes.j0 k y0 y1 y2 y3 y4 y5) (camshaftlaw06_NestHomes.j0 (k + 1) y0 y1 y2 y3 y4 y5)) ∧ (∀ y0 y1 y2 y3, LeO (camshaftlaw06_NestHomes.j1 k y0 y1 y2 y3) (camshaftlaw06_NestHomes.j1 (k + 1) y0 y1 y2 y3)) ∧ (∀ y0 y1 y2 y3, LeO (camshaftlaw06_NestHomes.l0 k y0 y1 y2 y3) (camshaftlaw06_NestHomes.l0 (k + 1) y0 y1 y2 y3)) ∧ (∀ y0 y1 y2 y3 y4, LeO (camshaftlaw06_NestHomes.j3 k y0 y1 y2 y3 y4) (camshaftlaw06_NestHomes.j3 (k + 1) y0 y1 y2 y3 y4)) ∧ (∀ y0 y1 y2 y3 y4, LeO (camshaftlaw06_NestHomes.l1 k y0 y1 y2 y3 y4) (camshaftlaw06_NestHomes.l1 (k + 1) y0 y1 y2 y3 y4))
  | 0 => ⟨fun _ _ _ _ _ _ r h => by simp [camshaftlaw06_NestHomes.j0] at h, fun _ _ _ _ r h => by simp [camshaftlaw06_NestHomes.j1] at h, fun _ _ _ _ r h => by simp [camshaftlaw06_NestHomes.l0] at h, fun _ _ _ _ _ r h => by simp [camshaftlaw06_NestHomes.j3] at h, fun _ _ _ _ _ r h => by simp [camshaftlaw06_NestHomes.l1] at h⟩
  | k + 1 => by
    obtain ⟨ih0, ih1, ih2, ih3, ih4⟩ := camshaftlaw06_NestHomes.mono_l k
    refine ⟨?_, ?_, ?_, ?_, ?_⟩
    · intro y0 y1 y2 y3 y4 y5
      unfold camshaftlaw06_NestHomes.j0
      repeat' first
      | (with_reducible exact ih0 _ _ _ _ _ _)
      | (with_reducible exact ih1 _ _ _ _)
      | (with_reducible exact ih2 _ _ _ _)
      | (with_reducible exact ih3 _ _ _ _ _)
      | (with_reducible exact ih4 _ _ _ _ _)
      | (with_reducible exact camshaftlaw06_known.mono _)
      | (with_reducible exact nest_Home.mono _ _)
      | (with_reducible exact nest_Match.mono _ _)
      | (with_reducible exact LeO.refl _)
      | (with_reducible exact LeO.none _)
      | (with_reducible refine LeO.ite ?_ ?_)
      | (with_reducible refine LeO.bind ?_ (fun _ => ?_))
      | exact ih0 _ _ _ _ _ _
      | exact ih1 _ _ _ _
      | exact ih2 _ _ _ _
      | exact ih3 _ _ _ _ _
      | exact ih4 _ _ _ _ _
      | exact camshaftlaw06_known.mono _
      | exact nest_Home.mono _ _
      | exact nest_Match.mono _ _
      | exact LeO.none _
      | refine LeO.ite ?_ ?_
      | refine LeO.bind ?_ (fun _ => ?_)
    · intro y0 y1 y2 y3
      unfold camshaftlaw06_NestHomes.j1
      repeat' first
      | (with_reducible exact ih0 _ _ _ _ _ _)
      | (with_reducible exact ih1 _ _ _ _)
      | (with_reducible exact ih2 _ _ _ _)
      | (with_reducible exact ih3 _ _ _ _ _)
      | (with_reducible exact ih4 _ _ _ _ _)
      | (with_reducible exact camshaftlaw06_known.mono _)
      | (with_reducible exact nest_Home.mono _ _)
      | (with_reducible exact nest_Match.mono _ _)
      | (with_reducible exact LeO.refl _)
      | (with_reducible exact LeO.none _)
      | (with_reducible refine LeO.ite ?_ ?_)
      | (with_reducible refine LeO.bind ?_ (fun _ => ?_))
      | exact ih0 _ _ _ _ _ _
      | exact ih1 _ _ _ _
      | exact ih2 _ _ _ _
      | exact ih3 _ _ _ _ _
      | exact ih4 _ _ _ _ _
      | exact camshaftlaw06_known.mono _
      | exact nest_Home.mono _ _
      | exact nest_Match.mono _ _
      | exact LeO.none _
      | refine LeO.ite ?_ ?_
      | refine LeO.bind ?_ (fun _ => ?_)
    · intro y0 y1 y2 y3
      unfold camshaftlaw06_NestHomes.l0
      repeat' first
      | (with_reducible exact ih0 _ _ _ _ _ _)
      | (with_reducible exact ih1 _ _ _ _)
      | (with_reducible exact ih2 _ _ _ _)
      | (with_reducible exact ih3 _ _ _ _ _)
      | (with_reducible exact ih4 _ _ _ _ _)
      | (with_reducible exact camshaftlaw06_known.mono _)
      | (with_reducible exact nest_Home.mono _ _)
      | (with_reducible exact nest_Match.mono _ _)
      | (with_reducible exact LeO.refl _)
      | (with_reducible exact LeO.none _)
      | (with_reducible refine LeO.ite ?_ ?_)
      | (with_reducible refine LeO.bind ?_ (fun _ => ?_))
      | exact ih0 _ _ _ _ _ _
      | exact ih1 _ _ _ _
      | exact ih2 _ _ _ _
      | exact ih3 _ _ _ _ _
      | exact ih4 _ _ _ _ _
      | exact camshaftlaw06_known.mono _
      | exact nest_Home.mono _ _
      | exact nest_Match.mono _ _
      | exact LeO.none _
      | refine LeO.ite ?_ ?_
      | refine LeO.bind ?_ (fun _ => ?_)
    · intro y0 y1 y2 y3 y4
      unfold camshaftlaw06_NestHomes.j3
      repeat' first
      | (with_reducible exact ih0 _ _ _ _ _ _)
      | (with_reducible exact ih1 _ _ _ _)
      | (with_reducible exact ih2 _ _ _ _)
      | (with_reducible exact ih3 _ _ _ _ _)
      | (with_reducible exact ih4 _ _ _ _ _)
      | (with_reducible exact camshaftlaw06_known.mono _)
      | (with_reducible exact nest_Home.mono _ _)
      | (with_reducible exact nest_Match.mono _ _)
      | (with_reducible exact LeO.refl _)
      | (with_reducible exact LeO.none _)
      | (with_reducible refine LeO.ite ?_ ?_)
      | (with_reducible refine LeO.bind ?_ (fun _ => ?_))
      | exact ih0 _ _ _ _ _ _
      | exact ih1 _ _ _ _
      | exact ih2 _ _ _ _
      | exact ih3 _ _ _ _ _
      | exact ih4 _ _ _ _ _
      | exact camshaftlaw06_known.mono _
      | exact nest_Home.mono _ _
      | exact nest_Match.mono _ _
      | exact LeO.none _
      | refine LeO.ite ?_ ?_
      | refine LeO.bind ?_ (fun _ => ?_)
    · intro y0 y1 y2 y3 y4
      unfold camshaftlaw06_NestHomes.l1
      repeat' first
      | (with_reducible exact ih0 _ _ _ _ _ _)
      | (with_reducible exact ih1 _ _ _ _)
      | (with_reducible exact ih2 _ _ _ _)
      | (with_reducible exact ih3 _ _ _ _ _)
      | (with_reducible exact ih4 _ _ _ _ _)
      | (with_reducible exact camshaftlaw06_known.mono _)
      | (with_reducible exact nest_Home.mono _ _)
      | (with_reducible exact nest_Match.mono _ _)
      | (with_reducible exact LeO.refl _)
      | (with_reducible exact LeO.none _)
      | (with_reducible refine LeO.ite ?_ ?_)
      | (with_reducible refine LeO.bind ?_ (fun _ => ?_))
      | exact ih0 _ _ _ _ _ _
      | exact ih1 _ _ _ _
      | exact ih2 _ _ _ _
      | exact ih3 _ _ _ _ _
      | exact ih4 _ _ _ _ _
      | exact camshaftlaw06_known.mono _
      | exact nest_Home.mono _ _
      | exact nest_Match.mono _ _
      | exact LeO.none _
      | refine LeO.ite ?_ ?_
      | refine LeO.bind ?_ (fun _ => ?_)
theorem camshaftlaw06_NestHomes.mono : ∀ a0 k, LeO (camshaftlaw06_NestHomes.f k a0) (camshaftlaw06_NestHomes.f (k + 1) a0) := by
  intro a0 k
  obtain ⟨ih0, ih1, ih2, ih3, ih4⟩ := camshaftlaw06_NestHomes.mono_l k
  unfold camshaftlaw06_NestHomes.f
  repeat' first
      | (with_reducible exact ih0 _ _ _ _ _ _)
      | (with_reducible exact ih1 _ _ _ _)
      | (with_reducible exact ih2 _ _ _ _)
      | (with_reducible exact ih3 _ _ _ _ _)
      | (with_reducible exact ih4 _ _ _ _ _)
      | (with_reducible exact camshaftlaw06_known.mono _)
      | (with_reducible exact nest_Home.mono _ _)
      | (with_reducible exact nest_Match.mono _ _)
      | (with_reducible exact LeO.refl _)
      | (with_reducible exact LeO.none _)
      | (with_reducible refine LeO.ite ?_ ?_)
      | (with_reducible refine LeO.bind ?_ (fun _ => ?_))
      | exact ih0 _ _ _ _ _ _
      | exact ih1 _ _ _ _
      | exact ih2 _ _ _ _
      | exact ih3 _ _ _ _ _
      | exact ih4 _ _ _ _ _
      | exact camshaftlaw06_known.mono _
      | exact nest_Home.mono _ _
      | exact nest_Match.mono _ _
      | exact LeO.none _
      | refine LeO.ite ?_ ?_
      | refine LeO.bind ?_ (fun _ => ?_)
set_option maxHeartbeats 8000000 in
set_option maxRecDepth 100000 in
theorem camshaftlaw06_NestHomes.calls (k : Nat) (A0 : Option Addr) (c0 : Nat) (l0 : List (S32)) (r : Bool) (w : World) (hr0 : Kd.C k32 w A0 l0.length l0) (hc0 : l0.length ≤ c0) (h : camshaftlaw06_NestHomes.f k l0 = some r) (ht : r = true) :
    Calls Try.prog 7 #[.slice A0 l0.length c0] w fun e w' => e = .returned (.bool r) ∧ Below w.heap.size w w' := by
  have HT := Aside0.mk ht
  clear ht
  have HR0 := Aside0.mk hr0
  have HC0 := Aside0.mk hc0
  clear hr0 hc0
  have HB := Aside0.mk (Below.refl w.heap.size w)
  have H : (if (l0.length : Int) > 200 then ((camshaftlaw06_known.f k).bind fun t477 => (some t477)) else ((nest_Home.f k l0).bind fun bt478 => ((nest_Match.f k l0).bind fun bt482 => (if bt478.2 = 0 then (camshaftlaw06_NestHomes.j0 k l0 bt478.1 bt478.2 bt482.1 bt482.2 (bt482.2 != 0)) else (camshaftlaw06_NestHomes.j0 k l0 bt478.1 bt478.2 bt482.1 bt482.2 true))))) = some r := h
  clear h
  by_cases c2 : (l0.length : Int) > 200
  · rw [if_pos c2] at H
    have c2b0 : decide (200 < (l0.length : Int)) = true := decide_eq_true c2
    have c2b1 : decide (200 < l0.length) = true := decide_eq_true (by omega)
    clear c2
    replace H := Option.bind_eq_some_iff.mp H
    obtain ⟨t477, A30, H⟩ := H
    replace H : (some t477) = some r := H
    have A3 := Aside0.mk A30
    clear A30
    obtain rfl := Option.some.inj H
    go_enter Try.func7, Try.ntmps7
    go_wp2_with (first | ((with_reducible refine gate_callee (f := 10) rfl ?_); refine goesL_ (some 12) rfl rfl Try.func10 (by kernel_rfl) rfl #[] rfl (by (try simp only [List.map_toArray, List.map_cons, List.map_nil]); first | done | rfl | (simp only [List.length_drop, List.length_take]; rfl)) ?_; (with_reducible refine (camshaftlaw06_known.calls k  t477 _ A3.out).mono ?_); rintro e w4 ⟨rfl, hb⟩; refine ⟨_, rfl, ?_⟩; have n0_ := Aside0.mk (below_step (by repeat (first | (with_reducible first | exact HB.out | apply below_alloc | apply pw_below_drewN | apply below_drew1) | exact HB.out)) hb); clear HB; have HB := n0_; clear n0_; (try clear hb); (try clear hb2); (try clear hk); (try clear hi)))
    go_ret
    exact ⟨by first | rfl | (simp [errW_none, errW_some] <;> rfl) | (simp [*, errW_none, errW_some] <;> rfl), by repeat (first | (with_reducible first | exact HB.out | apply below_alloc | apply pw_below_drewN | apply below_drew1) | exact HB.out | exact Below.refl _ _)⟩
  · rw [if_neg c2] at H
    have c2b0 : decide (200 < (l0.length : Int)) = false := decide_eq_false c2
    have c2b1 : decide (200 < l0.length) = false := decide_eq_false (by omega)
    clear c2
    replace H := Option.bind_eq_some_iff.mp H
    obtain ⟨⟨t478, t479⟩, A50, H⟩ := H
    replace H : ((nest_Match.f k l0).bind fun bt482 => (if t479 = 0 then (camshaftlaw06_NestHomes.j0 k l0 t478 t479 bt482.1 bt482.2 (bt482.2 != 0)) else (camshaftlaw06_NestHomes.j0 k l0 t478 t479 bt482.1 bt482.2 true))) = some r := H
    have A5 := Aside0.mk A50
    clear A50
    replace H := Option.bind_eq_some_iff.mp H
    obtain ⟨⟨t482, t483⟩, A60, H⟩ := H
    replace H : (if t479 = 0 then (camshaftlaw06_NestHomes.j0 k l0 t478 t479 t482 t483 (t483 != 0)) else (camshaftlaw06_NestHomes.j0 k l0 t478 t479 t482 t483 true)) = some r := H
    have A6 := Aside0.mk A60
    clear A60
    have HC7 := Aside0.mk H
    clear H
    go_enter Try.func7, Try.ntmps7
    go_upto_region 5 with (first | ((with_reducible refine gate_callee (f := 13) rfl ?_); refine goesL_ (some 15) rfl rfl Try.func13 (by kernel_rfl) rfl #[.slice A0 l0.length c0] rfl (by (try simp only [List.map_toArray, List.map_cons, List.map_nil]); first | done | rfl | (simp only [List.length_drop, List.length_take]; rfl)) ?_; (with_reducible refine (nest_Home.calls k _ _ l0 t478 t479 _ ?side1 ?side2 A5.out).mono ?_); (case side1 => repeat (first | exact HR0.out | (with_reducible refine Kd.C_alloc ?_ _) | (with_reducible refine Kd.C_drewN ?_ _) | (with_reducible refine Kd.C_drew ?_))); (case side2 => exact HC0.out); rintro e w8 ⟨v480, rfl, ho0, hb⟩; refine ⟨_, rfl, ?_⟩; have n0_ := Aside0.mk (Kd.R_lower ho0 (below_size (by repeat (first | (with_reducible first | exact HB.out | apply below_alloc | apply pw_below_drewN | apply below_drew1) | exact HB.out)))); have n1_ := Aside0.mk (below_step (by repeat (first | (with_reducible first | exact HB.out | apply below_alloc | apply pw_below_drewN | apply below_drew1) | exact HB.out)) hb); clear HB; have HO481 := n0_; have HB := n1_; clear n0_ n1_; (try clear hb); (try clear hb2); (try clear hk); (try clear hi); (try clear ho0)) | ((with_reducible refine gate_callee (f := 11) rfl ?_); refine goesL_ (some 20) rfl rfl Try.func11 (by kernel_rfl) rfl #[.slice A0 l0.length c0] rfl (by (try simp only [List.map_toArray, List.map_cons, List.map_nil]); first | done | rfl | (simp only [List.length_drop, List.length_take]; rfl)) ?_; (with_reducible refine (nest_Match.calls k _ _ l0 t482 t483 _ ?side1 ?side2 A6.out).mono ?_); (case side1 => repeat (first | exact (Kd.C_below HR0.out HB.out) | (with_reducible refine Kd.C_alloc ?_ _) | (with_reducible refine Kd.C_drewN ?_ _) | (with_reducible refine Kd.C_drew ?_))); (case side2 => exact HC0.out); rintro e w9 ⟨v484, rfl, ho0, hb⟩; refine ⟨_, rfl, ?_⟩; have n0_ := Aside0.mk (Kd.R_elder' (by (with_reducible repeat (first | apply Kd.R_alloc | apply Kd.R_drewN | apply Kd.R_drew)); exact HO481.out) (Kd.R_base ho0) hb); have n1_ := Aside0.mk (Kd.R_lower (Kd.R_new' ho0 (Kd.R_lt (by (with_reducible repeat (first | apply Kd.R_alloc | apply Kd.R_drewN | apply Kd.R_drew)); exact HO481.out))) (below_size (by repeat (first | (with_reducible first | exact HB.out | apply below_alloc | apply pw_below_drewN | apply below_drew1) | exact HB.out)))); have n2_ := Aside0.mk (below_step (by repeat (first | (with_reducible first | exact HB.out | apply below_alloc | apply pw_below_drewN | apply below_drew1) | exact HB.out)) hb); clear HO481; clear HB; have HO481 := n0_; have HO485 := n1_; have HB := n2_; clear n0_ n1_ n2_; (try clear hb); (try clear hb2); (try clear hk); (try clear hi); (try clear ho0)))
    (try simp only [Act.put, List.setIfInBounds_toArray, List.set_cons_zero, List.set_cons_succ])
    go_cut [28] (fun v28 wc => ∃ (kq : Nat) (x28_6 : Bool), v28 = .bool x28_6 ∧ Aside0 (camshaftlaw06_NestHomes.j0 kq l0 t478 t479 t482 t483 x28_6 = some r) ∧ Aside0 (kq ≤ k) ∧ Aside0 (Kd.R (Kd.int .i64) 3 wc w.heap.size (fun k_ => some k_ ≠ (v484 : Value).ownBlock) v480 t478) ∧ Aside0 (Kd.R (Kd.int .i64) 3 wc w.heap.size (fun k_ => some k_ ≠ (v480 : Value).ownBlock) v484 t482) ∧ Aside0 (Below w.heap.size w wc))
    case first =>
      have H := HC7.out
      clear HC7
      by_cases c10 : t479 = 0
      · rw [if_pos c10] at H
        have c10b0 : (t479 == 0) = true := beq_iff_eq.mpr c10
        have c10b1 : (t479 != 0) = false := bne_eq_false_iff_eq.mpr c10
        clear c10
        (first | rw [c10b0] | (simp only [i64_w, i32_w]; rw [c10b0]) | rw [c10b1] | skip)
        have H' := Aside0.mk H
        clear H
        go_wp2
        go_meet
        case rel => exact ⟨_, ((t483 != 0)), (by first | rfl | (simp; done) | (simp [*]; done)), H', ⟨by first | omega | exact Nat.le_refl _⟩, ⟨by (with_reducible repeat (first | apply Kd.R_alloc | apply Kd.R_drewN | apply Kd.R_drew)); exact Kd.R_mono HO481.out (fun _ hk => hk.2)⟩, ⟨by (with_reducible repeat (first | apply Kd.R_alloc | apply Kd.R_drewN | apply Kd.R_drew)); exact Kd.R_mono HO485.out (fun _ hk => hk.2)⟩, ⟨by repeat (first | (with_reducible first | exact HB.out | apply below_alloc | apply pw_below_drewN | apply below_drew1) | exact HB.out | exact Below.refl _ _)⟩⟩
      · rw [if_neg c10] at H
        have c10b0 : (t479 == 0) = false := beq_eq_false_iff_ne.mpr c10
        have c10b1 : (t479 != 0) = true := bne_iff_ne.mpr c10
        (first | rw [c10b0] | (simp only [i64_w, i32_w]; rw [c10b0]) | rw [c10b1] | skip)
        have H' := Aside0.mk H
        clear H
        go_wp2
        go_meet
        case rel => exact ⟨_, (true), (by first | rfl | (simp; done) | (simp [*]; done)), H', ⟨by first | omega | exact Nat.le_refl _⟩, ⟨by (with_reducible repeat (first | apply Kd.R_alloc | apply Kd.R_drewN | apply Kd.R_drew)); exact Kd.R_mono HO481.out (fun _ hk => hk.2)⟩, ⟨by (with_reducible repeat (first | apply Kd.R_alloc | apply Kd.R_drewN | apply Kd.R_drew)); exact Kd.R_mono HO485.out (fun _ hk => hk.2)⟩, ⟨by repeat (first | (with_reducible first | exact HB.out | apply below_alloc | apply pw_below_drewN | apply below_drew1) | exact HB.out | exact Below.refl _ _)⟩⟩
    case rest =>
      clear HC7
      try clear c1
      try clear c2
      try clear c2b0
      try clear c2b1
      try clear p2
      try clear c7
      try clear c10
      try clear c10b0
      try clear c10b1
      obtain ⟨kq, x28_6, rfl, HA, HJ6, HO_3, HO_5, HB⟩ := hcut
      cases kq with
      | zero => exact absurd HA.out (by simp [camshaftlaw06_NestHomes.j0])
      | succ kj6 =>
        have H := HA.out
        clear HA
        simp only [camshaftlaw06_NestHomes.j0] at H
        by_cases c11 : x28_6 = true
        · subst c11
          have H1 : (if t479 = t483 then (if (t478.length : Int) = 0 then ((camshaftlaw06_known.f kj6).bind fun t486 => (some t486)) else (some false)) else (some false)) = some r := by rw [if_pos rfl] at H; exact H
          clear H
          have H := H1
          clear H1
          by_cases c12 : t479 = t483
          · rw [if_pos c12] at H
            have c12b0 : (t479 == t483) = true := beq_iff_eq.mpr c12
            have c12b1 : (t479 != t483) = false := bne_eq_false_iff_eq.mpr c12
            clear c12
            by_cases c13 : (t478.length : Int) = 0
            · rw [if_pos c13] at H
              have c13b0 : ((t478.length : Int) == 0) = true := beq_iff_eq.mpr c13
              have c13b1 : ((t478.length : Int) != 0) = false := bne_eq_false_iff_eq.mpr c13
              clear c13
              replace H := Option.bind_eq_some_iff.mp H
              obtain ⟨t486, A140, H⟩ := H
              replace H : (some t486) = some r := H
              have A14 := Aside0.mk A140
              clear A140
              obtain rfl := Option.some.inj H
              obtain ⟨Ao15, co15, eo15⟩ := Kd.R_slice HO_3.out
              subst eo15
              go_wp2_with (first | (go_at_call 10; (with_reducible refine (camshaftlaw06_known.calls kj6  t486 _ A14.out).mono ?_); rintro e w16 ⟨rfl, hb⟩; have n0_ := Aside0.mk (Kd.R_below (by (with_reducible repeat (first | apply Kd.R_alloc | apply Kd.R_drewN | apply Kd.R_drew)); exact HO_3.out) hb); have n1_ := Aside0.mk (Kd.R_below (by (with_reducible repeat (first | apply Kd.R_alloc | apply Kd.R_drewN | apply Kd.R_drew)); exact HO_5.out) hb); have n2_ := Aside0.mk (below_step (by repeat (first | (with_reducible first | exact HB.out | apply below_alloc | apply pw_below_drewN | apply below_drew1) | exact HB.out)) hb); clear HO_3; clear HO_5; clear HB; have HO_3 := n0_; have HO_5 := n1_; have HB := n2_; clear n0_ n1_ n2_; (try clear hb); (try clear hb2); (try clear hk); (try clear hi)))
              go_ret
              exact ⟨by first | rfl | (simp [errW_none, errW_some] <;> rfl) | (simp [*, errW_none, errW_some] <;> rfl), by repeat (first | (with_reducible first | exact HB.out | apply below_alloc | apply pw_below_drewN | apply below_drew1) | exact HB.out | exact Below.refl _ _)⟩
            · rw [if_neg c13] at H
              have c13b0 : ((t478.length : Int) == 0) = false := beq_eq_false_iff_ne.mpr c13
              have c13b1 : ((t478.length : Int) != 0) = true := bne_iff_ne.mpr c13
              have c13b2 : ¬ (t478 = []) := fun h_ => c13 (by rw [h_]; rfl)
              exact absurd ((Option.some.inj H).trans HT.out) (by decide)
          · rw [if_neg c12] at H
            have c12b0 : (t479 == t483) = false := beq_eq_false_iff_ne.mpr c12
            have c12b1 : (t479 != t483) = true := bne_iff_ne.mpr c12
            exact absurd ((Option.some.inj H).trans HT.out) (by decide)
        · replace c11 := Bool.eq_false_iff.mpr c11
          subst c11
          have H1 : (if (t478.length : Int) = (l0.length : Int) then (camshaftlaw06_NestHomes.j1 kj6 l0 t478 t482 ((t482.length : Int) != (l0.length : Int))) else (camshaftlaw06_NestHomes.j1 kj6 l0 t478 t482 true)) = some r := by rw [if_neg (show ¬ (false = true) by decide)] at H; exact H
          clear H
          have H := H1
          clear H1
          have HC17 := Aside0.mk H
          clear H
          go_upto_region 7 with (fail)
          go_cut [51] (fun v51 wc => ∃ (kq : Nat) (x51_16 : Bool), v51 = .bool x51_16 ∧ Aside0 (camshaftlaw06_NestHomes.j1 kq l0 t478 t482 x51_16 = some r) ∧ Aside0 (kq ≤ kj6) ∧ Aside0 (Kd.R (Kd.int .i64) 3 wc w.heap.size (fun k_ => some k_ ≠ (v484 : Value).ownBlock) v480 t478) ∧ Aside0 (Kd.R (Kd.int .i64) 3 wc w.heap.size (fun k_ => some k_ ≠ (v480 : Value).ownBlock) v484 t482) ∧ Aside0 (Below w.heap.size w wc))
          case first =>
            have H := HC17.out
            clear HC17
            by_cases c18 : (t478.length : Int) = (l0.length : Int)
            · rw [if_pos c18] at H
              have c18b0 : ((t478.length : Int) == (l0.length : Int)) = true := beq_iff_eq.mpr c18
              have c18b1 : ((t478.length : Int) != (l0.length : Int)) = false := bne_eq_false_iff_eq.mpr c18
              have c18b2 : (t478.length == l0.length) = true := by first | simpa using c18 | (simp at c18 ⊢; omega)
              clear c18
              (first | rw [c18b0] | (simp only [i64_w, i32_w]; rw [c18b0]) | rw [c18b1] | skip)
              have H' := Aside0.mk H
              clear H
              obtain ⟨Ao19, co19, eo19⟩ := Kd.R_slice HO_3.out
              subst eo19
              obtain ⟨Ao20, co20, eo20⟩ := Kd.R_slice HO_5.out
              subst eo20
              go_wp2
              go_meet
              case rel => exact ⟨_, (((t482.length : Int) != (l0.length : Int))), (by first | rfl | (simp; done) | (simp [*]; done)), H', ⟨by have := HJ6.out; first | omega | exact Nat.le_refl _⟩, ⟨by (with_reducible repeat (first | apply Kd.R_alloc | apply Kd.R_drewN | apply Kd.R_drew)); exact HO_3.out⟩, ⟨by (with_reducible repeat (first | apply Kd.R_alloc | apply Kd.R_drewN | apply Kd.R_drew)); exact HO_5.out⟩, ⟨by repeat (first | (with_reducible first | exact HB.out | apply below_alloc | apply pw_below_drewN | apply below_drew1) | exact HB.out | exact Below.refl _ _)⟩⟩
            · rw [if_neg c18] at H
              have c18b0 : ((t478.length : Int) == (l0.length : Int)) = false := beq_eq_false_iff_ne.mpr c18
              have c18b1 : ((t478.length : Int) != (l0.length : Int)) = true := bne_iff_ne.mpr c18
              have c18b2 : (t478.length == l0.length) = false := by first | simpa using c18 | (simp at c18 ⊢; omega)
              (first | rw [c18b0] | (simp only [i64_w, i32_w]; rw [c18b0]) | rw [c18b1] | skip)
              have H' := Aside0.mk H
              clear H
              obtain ⟨Ao21, co21, eo21⟩ := Kd.R_slice HO_3.out
              subst eo21
              go_wp2
              go_meet
              case rel => exact ⟨_, (true), (by first | rfl | (simp; done) | (simp [*]; done)), H', ⟨by have := HJ6.out; first | omega | exact Nat.le_refl _⟩, ⟨by (with_reducible repeat (first | apply Kd.R_alloc | apply Kd.R_drewN | apply Kd.R_drew)); exact HO_3.out⟩, ⟨by (with_reducible repeat (first | apply Kd.R_alloc | apply Kd.R_drewN | apply Kd.R_drew)); exact HO_5.out⟩, ⟨by repeat (first | (with_reducible first | exact HB.out | apply below_alloc | apply pw_below_drewN | apply below_drew1) | exact HB.out | exact Below.refl _ _)⟩⟩
          case rest =>
            clear HC17
            try clear c1
            try clear c2
            try clear c2b0
            try clear c2b1
            try clear p2
            try clear c7
            try clear c10
            try clear c10b0
            try clear c10b1
            try clear c11
            try clear c12
            try clear c12b0
            try clear c12b1
            try clear c13
            try clear c13b0
            try clear c13b1
            try clear c13b2
            try clear c18
            try clear c18b0
            try clear c18b1
            try clear c18b2
            try clear p2
            obtain ⟨kq, x51_16, rfl, HA, HJ16, HO_3, HO_5, HB⟩ := hcut
            cases kq with
            | zero => exact absurd HA.out (by simp [camshaftlaw06_NestHomes.j1])
            | succ kj16 =>
              have H := HA.out
              clear HA
              simp only [camshaftlaw06_NestHomes.j1] at H
              by_cases c22 : x51_16 = true
              · subst c22
                have H1 : (some false) = some r := by rw [if_pos rfl] at H; exact H
                clear H
                have H := H1
                clear H1
                exact absurd ((Option.some.inj H).trans HT.out) (by decide)
              · replace c22 := Bool.eq_false_iff.mpr c22
                subst c22
                have H1 : (camshaftlaw06_NestHomes.l0 kj16 l0 t478 t482 0) = some r := by rw [if_neg (show ¬ (false = true) by decide)] at H; exact H
                clear H
                have H := H1
                clear H1
                have H' := Aside0.mk H
                clear H
                go_wp2
                go_loopg [7] kj16 (fun kq v7 w' => ∃ (x7_3 : Int), v7 = .int .i64 x7_3 ∧ Aside0 (camshaftlaw06_NestHomes.l0 kq l0 t478 t482 x7_3 = some r) ∧ Aside0 (kq ≤ kj16) ∧ Aside0 (Kd.R (Kd.int .i64) 3 w' w.heap.size (fun k_ => some k_ ≠ (v484 : Value).ownBlock) v480 t478) ∧ Aside0 (Kd.R (Kd.int .i64) 3 w' w.heap.size (fun k_ => some k_ ≠ (v480 : Value).ownBlock) v484 t482) ∧ Aside0 (Below w.heap.size w w'))
                case atStart => exact ⟨(0), (by first | rfl | (simp; done) | (simp [*]; done)), H', ⟨Nat.le_refl _⟩, ⟨by (with_reducible repeat (first | apply Kd.R_alloc | apply Kd.R_drewN | apply Kd.R_drew)); exact HO_3.out⟩, ⟨by (with_reducible repeat (first | apply Kd.R_alloc | apply Kd.R_drewN | apply Kd.R_drew)); exact HO_5.out⟩, ⟨by repeat (first | (with_reducible first | exact HB.out | apply below_alloc | apply pw_below_drewN | apply below_drew1) | exact HB.out)⟩⟩
                case round =>
                  clear H'
                  try clear c1
                  try clear c2
                  try clear c2b0
                  try clear c2b1
                  try clear p2
                  try clear c7
                  try clear c10
                  try clear c10b0
                  try clear c10b1
                  try clear c11
                  try clear c12
                  try clear c12b0
                  try clear c12b1
                  try clear c13
                  try clear c13b0
                  try clear c13b1
                  try clear c13b2
                  try clear c18
                  try clear c18b0
                  try clear c18b1
                  try clear c18b2
                  try clear c22
                  try clear p2
                  obtain ⟨x7_3, rfl, HA, HK3, HO_3, HO_5, HB⟩ := hrel
                  cases gk with
                  | zero => exact absurd HA.out (by simp [camshaftlaw06_NestHomes.l0])
                  | succ k3 =>
                    have H := HA.out
                    clear HA
                    simp only [camshaftlaw06_NestHomes.l0] at H
                    by_cases c23 : x7_3 < (l0.length : Int)
                    · rw [if_pos c23] at H
                      have c23b0 : decide (x7_3 < (l0.length : Int)) = true := decide_eq_true c23
                      clear c23
                      have HC24 := Aside0.mk H
                      clear H
                      go_upto_region 12 with (fail)
                      go_cut [88] (fun v88 wc => ∃ (kq : Nat) (x88_23 : Bool), v88 = .bool x88_23 ∧ Aside0 (camshaftlaw06_NestHomes.j3 kq l0 t478 t482 x7_3 x88_23 = some r) ∧ Aside0 (kq ≤ k3) ∧ Aside0 (Kd.R (Kd.int .i64) 3 wc w.heap.size (fun k_ => some k_ ≠ (v484 : Value).ownBlock) v480 t478) ∧ Aside0 (Kd.R (Kd.int .i64) 3 wc w.heap.size (fun k_ => some k_ ≠ (v480 : Value).ownBlock) v484 t482) ∧ Aside0 (Below w.heap.size w wc))
                      case first =>
                        have H := HC24.out
                        clear HC24
                        by_cases c25 : 0 ≤ x7_3
                        · rw [if_pos c25] at H
                          have c25b0 : decide (0 ≤ x7_3) = true := decide_eq_true c25
                          clear c25
                          (first | rw [c25b0] | (simp only [i64_w, i32_w]; rw [c25b0]) | rw [c25b1] | skip)
                          by_cases c26 : x7_3 < (t478.length : Int)
                          · rw [if_pos c26] at H
                            have c26b0 : decide (x7_3 < (t478.length : Int)) = true := decide_eq_true c26
                            clear c26
                            by_cases c27 : (rd t478 x7_3) < (-1)
                            · rw [if_pos c27] at H
                              have c27b0 : decide ((rd t478 x7_3) < (-1)) = true := decide_eq_true c27
                              clear c27
                              have H' := Aside0.mk H
                              clear H
                              obtain ⟨Ao28, co28, eo28⟩ := Kd.R_slice HO_3.out
                              subst eo28
                              have p488 : 0 ≤ (x7_3 : Int) := of_decide_eq_true (by first | (with_reducible assumption) | assumption)
                              have q488 : x7_3 < (t478.length : Int) := of_decide_eq_true (by first | (with_reducible assumption) | assumption)
                              obtain ⟨ad488, e488, hx488_0⟩ := Kd.at_int (Kd.R_reads' HO_3.out).2.2 x7_3 p488 q488
                              cases e488
                              replace p488 := eq_true p488
                              replace q488 := eq_true q488
                              go_wp2
                              go_meet
                              case rel => exact ⟨_, (true), (by first | rfl | (simp; done) | (simp [*]; done)), H', ⟨by have := HJ6.out; have := HJ16.out; have := HK3.out; first | omega | exact Nat.le_refl _⟩, ⟨by (with_reducible repeat (first | apply Kd.R_alloc | apply Kd.R_drewN | apply Kd.R_drew)); exact HO_3.out⟩, ⟨by (with_reducible repeat (first | apply Kd.R_alloc | apply Kd.R_drewN | apply Kd.R_drew)); exact HO_5.out⟩, ⟨by repeat (first | (with_reducible first | exact HB.out | apply below_alloc | apply pw_below_drewN | apply below_drew1) | exact HB.out | exact Below.refl _ _)⟩⟩
                            · rw [if_neg c27] at H
                              have c27b0 : decide ((rd t478 x7_3) < (-1)) = false := decide_eq_false c27
                              clear c27
                              by_cases c29 : (rd t478 x7_3) ≥ x7_3
                              · rw [if_pos c29] at H
                                have c29b0 : decide (x7_3 ≤ (rd t478 x7_3)) = true := decide_eq_true c29
                                clear c29
                                have H' := Aside0.mk H
                                clear H
                                obtain ⟨Ao30, co30, eo30⟩ := Kd.R_slice HO_3.out
                                subst eo30
                                have p488 : 0 ≤ (x7_3 : Int) := of_decide_eq_true (by first | (with_reducible assumption) | assumption)
                                have q488 : x7_3 < (t478.length : Int) := of_decide_eq_true (by first | (with_reducible assumption) | assumption)
                                obtain ⟨ad488, e488, hx488_0⟩ := Kd.at_int (Kd.R_reads' HO_3.out).2.2 x7_3 p488 q488
                                cases e488
                                replace p488 := eq_true p488
                                replace q488 := eq_true q488
                                have p489 : 0 ≤ (x7_3 : Int) := of_decide_eq_true (by first | (with_reducible assumption) | assumption)
                                have q489 : x7_3 < (t478.length : Int) := of_decide_eq_true (by first | (with_reducible assumption) | assumption)
                                obtain ⟨ad489, e489, hx489_0⟩ := Kd.at_int (Kd.R_reads' HO_3.out).2.2 x7_3 p489 q489
                                obtain rfl : ad488 = ad489 := (by injection e489)
                                replace p489 := eq_true p489
                                replace q489 := eq_true q489
                                go_wp2
                                go_meet
                                case rel => exact ⟨_, (true), (by first | rfl | (simp; done) | (simp [*]; done)), H', ⟨by have := HJ6.out; have := HJ16.out; have := HK3.out; first | omega | exact Nat.le_refl _⟩, ⟨by (with_reducible repeat (first | apply Kd.R_alloc | apply Kd.R_drewN | apply Kd.R_drew)); exact HO_3.out⟩, ⟨by (with_reducible repeat (first | apply Kd.R_alloc | apply Kd.R_drewN | apply Kd.R_drew)); exact HO_5.out⟩, ⟨by repeat (first | (with_reducible first | exact HB.out | apply below_alloc | apply pw_below_drewN | apply below_drew1) | exact HB.out | exact Below.refl _ _)⟩⟩
                              · rw [if_neg c29] at H
                                have c29b0 : decide (x7_3 ≤ (rd t478 x7_3)) = false := decide_eq_false c29
                                clear c29
                                by_cases c31 : (rd t478 x7_3) ≥ 0
                                · rw [if_pos c31] at H
                                  have c31b0 : decide (0 ≤ (rd t478 x7_3)) = true := decide_eq_true c31
                                  clear c31
                                  by_cases c32 : 0 ≤ (rd t478 x7_3)
                                  · rw [if_pos c32] at H
                                    have c32b0 : decide (0 ≤ (rd t478 x7_3)) = true := decide_eq_true c32
                                    clear c32
                                    by_cases c33 : (rd t478 x7_3) < (t482.length : Int)
                                    · rw [if_pos c33] at H
                                      have c33b0 : decide ((rd t478 x7_3) < (t482.length : Int)) = true := decide_eq_true c33
                                      clear c33
                                      have H' := Aside0.mk H
                                      clear H
                                      obtain ⟨Ao34, co34, eo34⟩ := Kd.R_slice HO_3.out
                                      subst eo34
                                      have p488 : 0 ≤ (x7_3 : Int) := of_decide_eq_true (by first | (with_reducible assumption) | assumption)
                                      have q488 : x7_3 < (t478.length : Int) := of_decide_eq_true (by first | (with_reducible assumption) | assumption)
                                      obtain ⟨ad488, e488, hx488_0⟩ := Kd.at_int (Kd.R_reads' HO_3.out).2.2 x7_3 p488 q488
                                      cases e488
                                      replace p488 := eq_true p488
                                      replace q488 := eq_true q488
                                      have p489 : 0 ≤ (x7_3 : Int) := of_decide_eq_true (by first | (with_reducible assumption) | assumption)
                                      have q489 : x7_3 < (t478.length : Int) := of_decide_eq_true (by first | (with_reducible assumption) | assumption)
                                      obtain ⟨ad489, e489, hx489_0⟩ := Kd.at_int (Kd.R_reads' HO_3.out).2.2 x7_3 p489 q489
                                      obtain rfl : ad488 = ad489 := (by injection e489)
                                      replace p489 := eq_true p489
                                      replace q489 := eq_true q489
                                      have p490 : 0 ≤ (x7_3 : Int) := of_decide_eq_true (by first | (with_reducible assumption) | assumption)
                                      have q490 : x7_3 < (t478.length : Int) := of_decide_eq_true (by first | (with_reducible assumption) | assumption)
                                      obtain ⟨ad490, e490, hx490_0⟩ := Kd.at_int (Kd.R_reads' HO_3.out).2.2 x7_3 p490 q490
                                      obtain rfl : ad488 = ad490 := (by injection e490)
                                      replace p490 := eq_true p490
                                      replace q490 := eq_true q490
                                      have p491 : 0 ≤ (x7_3 : Int) := of_decide_eq_true (by first | (with_reducible assumption) | assumption)
                                      have q491 : x7_3 < (t478.length : Int) := of_decide_eq_true (by first | (with_reducible assumption) | assumption)
                                      obtain ⟨ad491, e491, hx491_0⟩ := Kd.at_int (Kd.R_reads' HO_3.out).2.2 x7_3 p491 q491
                                      obtain rfl : ad488 = ad491 := (by injection e491)
                                      replace p491 := eq_true p491
                                      replace q491 := eq_true q491
                                      obtain ⟨Ao35, co35, eo35⟩ := Kd.R_slice HO_5.out
                                      subst eo35
                                      have p492 : 0 ≤ ((rd t478 x7_3) : Int) := of_decide_eq_true (by first | (with_reducible assumption) | assumption)
                                      have q492 : (rd t478 x7_3) < (t482.length : Int) := of_decide_eq_true (by first | (with_reducible assumption) | assumption)
                                      obtain ⟨ad492, e492, hx492_0⟩ := Kd.at_int (Kd.R_reads' HO_5.out).2.2 (rd t478 x7_3) p492 q492
                                      cases e492
                                      replace p492 := eq_true p492
                                      replace q492 := eq_true q492
                                      go_wp2
                                      go_meet
                                      case rel => exact ⟨_, (decide ((rd t482 (rd t478 x7_3)) < x7_3)), (by first | rfl | (simp; done) | (simp [*]; done)), H', ⟨by have := HJ6.out; have := HJ16.out; have := HK3.out; first | omega | exact Nat.le_refl _⟩, ⟨by (with_reducible repeat (first | apply Kd.R_alloc | apply Kd.R_drewN | apply Kd.R_drew)); exact HO_3.out⟩, ⟨by (with_reducible repeat (first | apply Kd.R_alloc | apply Kd.R_drewN | apply Kd.R_drew)); exact HO_5.out⟩, ⟨by repeat (first | (with_reducible first | exact HB.out | apply below_alloc | apply pw_below_drewN | apply below_drew1) | exact HB.out | exact Below.refl _ _)⟩⟩
                                    · rw [if_neg c33] at H
                                      exact absurd H (by simp)
                                  · rw [if_neg c32] at H
                                    exact absurd H (by simp)
                                · rw [if_neg c31] at H
                                  have c31b0 : decide (0 ≤ (rd t478 x7_3)) = false := decide_eq_false c31
                                  clear c31
                                  have H' := Aside0.mk H
                                  clear H
                                  obtain ⟨Ao36, co36, eo36⟩ := Kd.R_slice HO_3.out
                                  subst eo36
                                  have p488 : 0 ≤ (x7_3 : Int) := of_decide_eq_true (by first | (with_reducible assumption) | assumption)
                                  have q488 : x7_3 < (t478.length : Int) := of_decide_eq_true (by first | (with_reducible assumption) | assumption)
                                  obtain ⟨ad488, e488, hx488_0⟩ := Kd.at_int (Kd.R_reads' HO_3.out).2.2 x7_3 p488 q488
                                  cases e488
                                  replace p488 := eq_true p488
                                  replace q488 := eq_true q488
                                  have p489 : 0 ≤ (x7_3 : Int) := of_decide_eq_true (by first | (with_reducible assumption) | assumption)
                                  have q489 : x7_3 < (t478.length : Int) := of_decide_eq_true (by first | (with_reducible assumption) | assumption)
                                  obtain ⟨ad489, e489, hx489_0⟩ := Kd.at_int (Kd.R_reads' HO_3.out).2.2 x7_3 p489 q489
                                  obtain rfl : ad488 = ad489 := (by injection e489)
                                  replace p489 := eq_true p489
                                  replace q489 := eq_true q489
                                  have p490 : 0 ≤ (x7_3 : Int) := of_decide_eq_true (by first | (with_reducible assumption) | assumption)
                                  have q490 : x7_3 < (t478.length : Int) := of_decide_eq_true (by first | (with_reducible assumption) | assumption)
                                  obtain ⟨ad490, e490, hx490_0⟩ := Kd.at_int (Kd.R_reads' HO_3.out).2.2 x7_3 p490 q490
                                  obtain rfl : ad488 = ad490 := (by injection e490)
                                  replace p490 := eq_true p490
                                  replace q490 := eq_true q490
                                  go_wp2
                                  go_meet
                                  case rel => exact ⟨_, (false), (by first | rfl | (simp; done) | (simp [*]; done)), H', ⟨by have := HJ6.out; have := HJ16.out; have := HK3.out; first | omega | exact Nat.le_refl _⟩, ⟨by (with_reducible repeat (first | apply Kd.R_alloc | apply Kd.R_drewN | apply Kd.R_drew)); exact HO_3.out⟩, ⟨by (with_reducible repeat (first | apply Kd.R_alloc | apply Kd.R_drewN | apply Kd.R_drew)); exact HO_5.out⟩, ⟨by repeat (first | (with_reducible first | exact HB.out | apply below_alloc | apply pw_below_drewN | apply below_drew1) | exact HB.out | exact Below.refl _ _)⟩⟩
                          · rw [if_neg c26] at H
                            exact absurd H (by simp)
                        · rw [if_neg c25] at H
                          exact absurd H (by simp)
                      case rest =>
                        clear HC24
                        try clear c1
                        try clear c2
                        try clear c2b0
                        try clear c2b1
                        try clear p2
                        try clear c3
                        try clear p4
                        try clear q4
                        try clear hx4
                        try clear c7
                        try clear c10
                        try clear c10b0
                        try clear c10b1
                        try clear c11
                        try clear c12
                        try clear c12b0
                        try clear c12b1
                        try clear c13
                        try clear c13b0
                        try clear c13b1
                        try clear c13b2
                        try clear c18
                        try clear c18b0
                        try clear c18b1
                        try clear c18b2
                        try clear c22
                        try clear c23
                        try clear c23b0
                        try clear c25
                        try clear c25b0
                        try clear c25b1
                        try clear c26
                        try clear c26b0
                        try clear c27
                        try clear c27b0
                        try clear c29
                        try clear c29b0
                        try clear c31
                        try clear c31b0
                        try clear c32
                        try clear c32b0
                        try clear c33
                        try clear c33b0
                        try clear hx488_0
                        try clear hx489_0
                        try clear hx490_0
                        try clear hx491_0
                        try clear hx492_0
                        try clear p2
                        try clear p488
                        try clear p489
                        try clear p490
                        try clear p491
                        try clear p492
                        try clear q488
                        try clear q489
                        try clear q490
                        try clear q491
                        try clear q492
                        obtain ⟨kq, x88_23, rfl, HA, HJ23, HO_3, HO_5, HB⟩ := hcut
                        cases kq with
                        | zero => exact absurd HA.out (by simp [camshaftlaw06_NestHomes.j3])
                        | succ kj23 =>
                          have H := HA.out
                          clear HA
                          simp only [camshaftlaw06_NestHomes.j3] at H
                          by_cases c37 : x88_23 = true
                          · subst c37
                            have H1 : (some false) = some r := by rw [if_pos rfl] at H; exact H
                            clear H
                            have H := H1
                            clear H1
                            exact absurd ((Option.some.inj H).trans HT.out) (by decide)
                          · replace c37 := Bool.eq_false_iff.mpr c37
                            subst c37
                            have H1 : (camshaftlaw06_NestHomes.l1 kj23 l0 t478 t482 x7_3 0) = some r := by rw [if_neg (show ¬ (false = true) by decide)] at H; exact H
                            clear H
                            have H := H1
                            clear H1
                            have H' := Aside0.mk H
                            clear H
                            go_wp2
                            go_loopg [8] kj23 (fun kq v8 w' => ∃ (x8_5 : Int), v8 = .int .i64 x8_5 ∧ Aside0 (camshaftlaw06_NestHomes.l1 kq l0 t478 t482 x7_3 x8_5 = some r) ∧ Aside0 (kq ≤ kj23) ∧ Aside0 (Kd.R (Kd.int .i64) 3 w' w.heap.size (fun k_ => some k_ ≠ (v484 : Value).ownBlock) v480 t478) ∧ Aside0 (Kd.R (Kd.int .i64) 3 w' w.heap.size (fun k_ => some k_ ≠ (v480 : Value).ownBlock) v484 t482) ∧ Aside0 (Below w.heap.size w w'))
                            case atStart => exact ⟨(0), (by first | rfl | (simp; done) | (simp [*]; done)), H', ⟨Nat.le_refl _⟩, ⟨by (with_reducible repeat (first | apply Kd.R_alloc | apply Kd.R_drewN | apply Kd.R_drew)); exact HO_3.out⟩, ⟨by (with_reducible repeat (first | apply Kd.R_alloc | apply Kd.R_drewN | apply Kd.R_drew)); exact HO_5.out⟩, ⟨by repeat (first | (with_reducible first | exact HB.out | apply below_alloc | apply pw_below_drewN | apply below_drew1) | exact HB.out)⟩⟩
                            case round =>
                              clear H'
                              try clear c1
                              try clear c2
                              try clear c2b0
                              try clear c2b1
                              try clear p2
                              try clear c3
                              try clear p4
                              try clear q4
                              try clear hx4
                              try clear c7
                              try clear c10
                              try clear c10b0
                              try clear c10b1
                              try clear c11
                              try clear c12
                              try clear c12b0
                              try clear c12b1
                              try clear c13
                              try clear c13b0
                              try clear c13b1
                              try clear c13b2
                              try clear c18
                              try clear c18b0
                              try clear c18b1
                              try clear c18b2
                              try clear c22
                              try clear c23
                              try clear c23b0
                              try clear c25
                              try clear c25b0
                              try clear c25b1
                              try clear c26
                              try clear c26b0
                              try clear c27
                              try clear c27b0
                              try clear c29
                              try clear c29b0
                              try clear c31
                              try clear c31b0
                              try clear c32
                              try clear c32b0
                              try clear c33
                              try clear c33b0
                              try clear c37
                              try clear hx488_0
                              try clear hx489_0
                              try clear hx490_0
                              try clear hx491_0
                              try clear hx492_0
                              try clear p2
                              try clear p4
                              try clear p488
                              try clear p489
                              try clear p490
                              try clear p491
                              try clear p492
                              try clear q4
                              try clear q488
                              try clear q489
                              try clear q490
                              try clear q491
                              try clear q492
                              obtain ⟨x8_5, rfl, HA, HK5, HO_3, HO_5, HB⟩ := hrel
                              cases gk with
                              | zero => exact absurd HA.out (by simp [camshaftlaw06_NestHomes.l1])
                              | succ k5 =>
                                have H := HA.out
                                clear HA
                                simp only [camshaftlaw06_NestHomes.l1] at H
                                by_cases c38 : x8_5 < x7_3
                                · rw [if_pos c38] at H
                                  have c38b0 : decide (x8_5 < x7_3) = true := decide_eq_true c38
                                  clear c38
                                  by_cases c39 : 0 ≤ x8_5
                                  · rw [if_pos c39] at H
                                    have c39b0 : decide (0 ≤ x8_5) = true := decide_eq_true c39
                                    clear c39
                                    by_cases c40 : x8_5 < (t482.length : Int)
                                    · rw [if_pos c40] at H
                                      have c40b0 : decide (x8_5 < (t482.length : Int)) = true := decide_eq_true c40
                                      clear c40
                                      by_cases c41 : (rd t482 x8_5) ≥ x7_3
                                      · rw [if_pos c41] at H
                                        have c41b0 : decide (x7_3 ≤ (rd t482 x8_5)) = true := decide_eq_true c41
                                        clear c41
                                        by_cases c42 : 0 ≤ x7_3
                                        · rw [if_pos c42] at H
                                          have c42b0 : decide (0 ≤ x7_3) = true := decide_eq_true c42
                                          clear c42
                                          by_cases c43 : x7_3 < (t478.length : Int)
                                          · rw [if_pos c43] at H
                                            have c43b0 : decide (x7_3 < (t478.length : Int)) = true := decide_eq_true c43
                                            clear c43
                                            by_cases c44 : x8_5 > (rd t478 x7_3)
                                            · rw [if_pos c44] at H
                                              have c44b0 : decide ((rd t478 x7_3) < x8_5) = true := decide_eq_true c44
                                              clear c44
                                              exact absurd ((Option.some.inj H).trans HT.out) (by decide)
                                            · rw [if_neg c44] at H
                                              have c44b0 : decide ((rd t478 x7_3) < x8_5) = false := decide_eq_false c44
                                              clear c44
                                              have H' := Aside0.mk H
                                              clear H
                                              obtain ⟨Ao45, co45, eo45⟩ := Kd.R_slice HO_5.out
                                              subst eo45
                                              have p493 : 0 ≤ (x8_5 : Int) := of_decide_eq_true (by first | (with_reducible assumption) | assumption)
                                              have q493 : x8_5 < (t482.length : Int) := of_decide_eq_true (by first | (with_reducible assumption) | assumption)
                                              obtain ⟨ad493, e493, hx493_0⟩ := Kd.at_int (Kd.R_reads' HO_5.out).2.2 x8_5 p493 q493
                                              cases e493
                                              replace p493 := eq_true p493
                                              replace q493 := eq_true q493
                                              obtain ⟨Ao46, co46, eo46⟩ := Kd.R_slice HO_3.out
                                              subst eo46
                                              have p494 : 0 ≤ (x7_3 : Int) := of_decide_eq_true (by first | (with_reducible assumption) | assumption)
                                              have q494 : x7_3 < (t478.length : Int) := of_decide_eq_true (by first | (with_reducible assumption) | assumption)
                                              obtain ⟨ad494, e494, hx494_0⟩ := Kd.at_int (Kd.R_reads' HO_3.out).2.2 x7_3 p494 q494
                                              cases e494
                                              replace p494 := eq_true p494
                                              replace q494 := eq_true q494
                                              go_wp2
                                              go_roundg k5
                                              case measure => have := HJ6.out; have := HJ16.out; have := HK3.out; have := HJ23.out; have := HK5.out; omega
                                              case rel => exact ⟨(wrap64 (x8_5 + 1)), (by first | rfl | (simp; done) | (simp [*]; done)), H', ⟨by have := HJ6.out; have := HJ16.out; have := HK3.out; have := HJ23.out; have := HK5.out; omega⟩, ⟨by (with_reducible repeat (first | apply Kd.R_alloc | apply Kd.R_drewN | apply Kd.R_drew)); exact HO_3.out⟩, ⟨by (with_reducible repeat (first | apply Kd.R_alloc | apply Kd.R_drewN | apply Kd.R_drew)); exact HO_5.out⟩, ⟨by repeat (first | (with_reducible first | exact HB.out | apply below_alloc | apply pw_below_drewN | apply below_drew1) | exact HB.out | exact Below.refl _ _)⟩⟩
                                          · rw [if_neg c43] at H
                                            exact absurd H (by simp)
                                        · rw [if_neg c42] at H
                                          exact absurd H (by simp)
                                      · rw [if_neg c41] at H
                                        have c41b0 : decide (x7_3 ≤ (rd t482 x8_5)) = false := decide_eq_false c41
                                        clear c41
                                        have H' := Aside0.mk H
                                        clear H
                                        obtain ⟨Ao47, co47, eo47⟩ := Kd.R_slice HO_5.out
                                        subst eo47
                                        have p493 : 0 ≤ (x8_5 : Int) := of_decide_eq_true (by first | (with_reducible assumption) | assumption)
                                        have q493 : x8_5 < (t482.length : Int) := of_decide_eq_true (by first | (with_reducible assumption) | assumption)
                                        obtain ⟨ad493, e493, hx493_0⟩ := Kd.at_int (Kd.R_reads' HO_5.out).2.2 x8_5 p493 q493
                                        cases e493
                                        replace p493 := eq_true p493
                                        replace q493 := eq_true q493
                                        go_wp2
                                        go_roundg k5
                                        case measure => have := HJ6.out; have := HJ16.out; have := HK3.out; have := HJ23.out; have := HK5.out; omega
                                        case rel => exact ⟨(wrap64 (x8_5 + 1)), (by first | rfl | (simp; done) | (simp [*]; done)), H', ⟨by have := HJ6.out; have := HJ16.out; have := HK3.out; have := HJ23.out; have := HK5.out; omega⟩, ⟨by (with_reducible repeat (first | apply Kd.R_alloc | apply Kd.R_drewN | apply Kd.R_drew)); exact HO_3.out⟩, ⟨by (with_reducible repeat (first | apply Kd.R_alloc | apply Kd.R_drewN | apply Kd.R_drew)); exact HO_5.out⟩, ⟨by repeat (first | (with_reducible first | exact HB.out | apply below_alloc | apply pw_below_drewN | apply below_drew1) | exact HB.out | exact Below.refl _ _)⟩⟩
                                    · rw [if_neg c40] at H
                                      exact absurd H (by simp)
                                  · rw [if_neg c39] at H
                                    exact absurd H (by simp)
                                · rw [if_neg c38] at H
                                  have c38b0 : decide (x8_5 < x7_3) = false := decide_eq_false c38
                                  clear c38
                                  have H' := Aside0.mk H
                                  clear H
                                  go_wp2
                                  go_roundg k5
                                  case measure => have := HJ6.out; have := HJ16.out; have := HK3.out; have := HJ23.out; have := HK5.out; omega
                                  case rel => exact ⟨(wrap64 (x7_3 + 1)), (by first | rfl | (simp; done) | (simp [*]; done)), H', ⟨by have := HJ6.out; have := HJ16.out; have := HK3.out; have := HJ23.out; have := HK5.out; omega⟩, ⟨by (with_reducible repeat (first | apply Kd.R_alloc | apply Kd.R_drewN | apply Kd.R_drew)); exact HO_3.out⟩, ⟨by (with_reducible repeat (first | apply Kd.R_alloc | apply Kd.R_drewN | apply Kd.R_drew)); exact HO_5.out⟩, ⟨by repeat (first | (with_reducible first | exact HB.out | apply below_alloc | apply pw_below_drewN | apply below_drew1) | exact HB.out | exact Below.refl _ _)⟩⟩
                    · rw [if_neg c23] at H
                      have c23b0 : decide (x7_3 < (l0.length : Int)) = false := decide_eq_false c23
                      clear c23
                      replace H := Option.bind_eq_some_iff.mp H
                      obtain ⟨t487, A480, H⟩ := H
                      replace H : (some t487) = some r := H
                      have A48 := Aside0.mk A480
                      clear A480
                      obtain rfl := Option.some.inj H
                      go_wp2_with (first | ((with_reducible refine gate_callee (f := 10) rfl ?_); refine goesL_ (some 108) rfl rfl Try.func10 (by kernel_rfl) rfl #[] rfl (by (try simp only [List.map_toArray, List.map_cons, List.map_nil]); first | done | rfl | (simp only [List.length_drop, List.length_take]; rfl)) ?_; (with_reducible refine (camshaftlaw06_known.calls k3  t487 _ A48.out).mono ?_); rintro e w49 ⟨rfl, hb⟩; refine ⟨_, rfl, ?_⟩; have n0_ := Aside0.mk (Kd.R_below (by (with_reducible repeat (first | apply Kd.R_alloc | apply Kd.R_drewN | apply Kd.R_drew)); exact HO_3.out) hb); have n1_ := Aside0.mk (Kd.R_below (by (with_reducible repeat (first | apply Kd.R_alloc | apply Kd.R_drewN | apply Kd.R_drew)); exact HO_5.out) hb); have n2_ := Aside0.mk (below_step (by repeat (first | (with_reducible first | exact HB.out | apply below_alloc | apply pw_below_drewN | apply below_drew1) | exact HB.out)) hb); clear HO_3; clear HO_5; clear HB; have HO_3 := n0_; have HO_5 := n1_; have HB := n2_; clear n0_ n1_ n2_; (try clear hb); (try clear hb2); (try clear hk); (try clear hi)))
                      go_ret
                      exact ⟨by first | rfl | (simp [errW_none, errW_some] <;> rfl) | (simp [*, errW_none, errW_some] <;> rfl), by repeat (first | (with_reducible first | exact HB.out | apply below_alloc | apply pw_below_drewN | apply below_drew1) | exact HB.out | exact Below.refl _ _)⟩

/-- THE ONE PURE STATEMENT of camshaftlaw06_NestHomes. -/
def camshaftlaw06_NestHomes.Pure : Prop := ∀ (l0 : List S32), l0.length * 24 ≤ 140737488351232 → (∀ x ∈ l0, (Lit.int .i64 x.f0).wf = true ∧ (Lit.int .i64 x.f1).wf = true ∧ (Lit.int .i64 x.f2).wf = true) → ∃ k, camshaftlaw06_NestHomes.f k l0 = some true
theorem camshaftlaw06_NestHomes.walk (P : camshaftlaw06_NestHomes.Pure) (A0 : Option Addr) (c0 : Nat) (l0 : List S32) (w : World) (hr0 : Kd.C k32 w A0 l0.length l0) (hc0 : l0.length ≤ c0) (y0 : l0.length * 24 ≤ 140737488351232) (hw0 : ∀ x ∈ l0, (Lit.int .i64 x.f0).wf = true ∧ (Lit.int .i64 x.f1).wf = true ∧ (Lit.int .i64 x.f2).wf = true) :
    Calls Try.prog 7 #[.slice A0 l0.length c0] w fun e w' => e = .returned (.bool true) ∧ Below w.heap.size w w' := by
  obtain ⟨k, h⟩ := P l0 y0 hw0
  refine (camshaftlaw06_NestHomes.calls k A0 c0 l0 true w hr0 hc0 h rfl).mono ?_
  rintro e w' ⟨rfl, hd⟩
  exact ⟨rfl, hd⟩

end Go.Proofs.Ytljgllcllddcdaa.P
