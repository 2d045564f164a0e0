-- Written by a program of this session (wip/tools: patched print) for this claim. Not trusted: Lean checks it.
import Derived.Test.YteioenlkdidpgaaPx0
import Derived.Test.YteioenlkdidpgaaPx2
import Derived.Test.YteioenlkdidpgaaPx3
import Derived.Test.YteioenlkdidpgaaPx4
import Derived.Test.YteioenlkdidpgaaPx6
namespace Go.Proofs.Yteioenlkdidpgaa.P
open Go.RowKit Go.Proofs.YteioenlkdidpgaaW.PrintWords Go.Proofs.YteioenlkdidpgaaW.PrintLast Go.Proofs.YteioenlkdidpgaaW.PrintMore
attribute [local go_sem] max2_int min2_int max_two min_two max_three min_three max_four min_four   -- for this text's walks alone
set_option linter.unusedVariables false
set_option linter.unusedSimpArgs false

/-! ### camshaftref02_GetList: function 19 -/
mutual
def camshaftref02_GetList.j0 : Nat → ByteArray → Int → Int → Int → Int → Bool → Option (List Int × Int × Int)
  | 0, _, _, _, _, _, _ => none
  | k + 1, x0, x2, x9, x10, x11, x35 => if x35 = true then (some (([] : List Int), 0, 1)) else (if x11 = 0 then (if x9 < 0 then (some (([] : List Int), 0, 3)) else (if x9 > x2 then (some (([] : List Int), 0, 4)) else (camshaftref02_GetList.l0 k x0 x9 x10 ([] : List Int) 0))) else (some (([] : List Int), 0, x11)))
def camshaftref02_GetList.l0 : Nat → ByteArray → Int → Int → List Int → Int → Option (List Int × Int × Int)
  | 0, _, _, _, _, _ => none
  | k + 1, x0, x9, x10, x12, x13 => if x13 < x9 then ((camshaftref02_Get.f k x0 x10).bind fun bt189 => (if bt189.2.2 = 0 then (if x12.length < 17592186044416 then (camshaftref02_GetList.l0 k x0 x9 bt189.2.1 (x12 ++ [bt189.1]) (wrap64 (x13 + 1))) else (none)) else (some (([] : List Int), 0, bt189.2.2)))) else (some (x12, x10, 0))
end
def camshaftref02_GetList.f (k : Nat) (a0 : ByteArray) (a1 : Int) (a2 : Int) : Option (List Int × Int × Int) := (camshaftref02_Get.f k a0 a1).bind fun bt186 => (if a1 < 0 then (camshaftref02_GetList.j0 k a0 a2 bt186.1 bt186.2.1 bt186.2.2 true) else (if a1 > (a0.size : Int) then (camshaftref02_GetList.j0 k a0 a2 bt186.1 bt186.2.1 bt186.2.2 true) else (camshaftref02_GetList.j0 k a0 a2 bt186.1 bt186.2.1 bt186.2.2 (decide (a2 < 0)))))
theorem camshaftref02_GetList.mono_l : ∀ k, (∀ y0 y1 y2 y3 y4 y5, LeO (camshaftref02_GetList.j0 k y0 y1 y2 y3 y4 y5) (camshaftref02_GetList.j0 (k + 1) y0 y1 y2 y3 y4 y5)) ∧ (∀ y0 y1 y2 y3 y4, LeO (camshaftref02_GetList.l0 k y0 y1 y2 y3 y4) (camshaftref02_GetList.l0 (k + 1) y0 y1 y2 y3 y4))
  | 0 => ⟨fun _ _ _ _ _ _ r h => by simp [camshaftref02_GetList.j0] at h, fun _ _ _ _ _ r h => by simp [camshaftref02_GetList.l0] at h⟩
  | k + 1 => by
    obtain ⟨ih0, ih1⟩ := camshaftref02_GetList.mono_l k
    refine ⟨?_, ?_⟩
    · intro y0 y1 y2 y3 y4 y5
      unfold camshaftref02_GetList.j0
      repeat' first
      | (with_reducible exact ih0 _ _ _ _ _ _)
      | (with_reducible exact ih1 _ _ _ _ _)
      | (with_reducible exact camshaftref02_Get.mono _ _ _)
      | (with_reducible exact LeO.refl _)
      | (with_reducible exact LeO.none _)
      | (with_reducible refine LeO.ite ?_ ?_)
      | (with_reducible refine LeO.bind ?_ (fun _ => ?_))
      | exact ih0 _ _ _ _ _ _
      | exact ih1 _ _ _ _ _
      | exact camshaftref02_Get.mono _ _ _
      | exact LeO.none _
      | refine LeO.ite ?_ ?_
      | refine LeO.bind ?_ (fun _ => ?_)
    · intro y0 y1 y2 y3 y4
      unfold camshaftref02_GetList.l0
      repeat' first
      | (with_reducible exact ih0 _ _ _ _ _ _)
      | (with_reducible exact ih1 _ _ _ _ _)
      | (with_reducible exact camshaftref02_Get.mono _ _ _)
      | (with_reducible exact LeO.refl _)
      | (with_reducible exact LeO.none _)
      | (with_reducible refine LeO.ite ?_ ?_)
      | (with_reducible refine LeO.bind ?_ (fun _ => ?_))
      | exact ih0 _ _ _ _ _ _
      | exact ih1 _ _ _ _ _
      | exact camshaftref02_Get.mono _ _ _
      | exact LeO.none _
      | refine LeO.ite ?_ ?_
      | refine LeO.bind ?_ (fun _ => ?_)
theorem camshaftref02_GetList.mono : ∀ a0 a1 a2 k, LeO (camshaftref02_GetList.f k a0 a1 a2) (camshaftref02_GetList.f (k + 1) a0 a1 a2) := by
  intro a0 a1 a2 k
  obtain ⟨ih0, ih1⟩ := camshaftref02_GetList.mono_l k
  unfold camshaftref02_GetList.f
  repeat' first
      | (with_reducible exact ih0 _ _ _ _ _ _)
      | (with_reducible exact ih1 _ _ _ _ _)
      | (with_reducible exact camshaftref02_Get.mono _ _ _)
      | (with_reducible exact LeO.refl _)
      | (with_reducible exact LeO.none _)
      | (with_reducible refine LeO.ite ?_ ?_)
      | (with_reducible refine LeO.bind ?_ (fun _ => ?_))
      | exact ih0 _ _ _ _ _ _
      | exact ih1 _ _ _ _ _
      | exact camshaftref02_Get.mono _ _ _
      | exact LeO.none _
      | refine LeO.ite ?_ ?_
      | refine LeO.bind ?_ (fun _ => ?_)
set_option maxHeartbeats 8000000 in
set_option maxRecDepth 100000 in
theorem camshaftref02_GetList.calls (k : Nat) (a0 : ByteArray) (a1 : Int) (a2 : Int) (r1 : List Int) (r2 : Int) (r3 : Int) (w : World) (h : camshaftref02_GetList.f k a0 a1 a2 = some (r1, r2, r3)) :
    Calls Try.prog 19 #[.string a0, .int .i64 a1, .int .i64 a2] w fun e w' => ∃ v0_ : Value, e = .returned (.tuple #[v0_, .int .i64 r2, .int .i64 r3]) ∧ Kd.R (Kd.int .i64) 3 w' w.heap.size (fun _ => True) v0_ r1 ∧ Below w.heap.size w w' := by
  have HB := Aside0.mk (Below.refl w.heap.size w)
  have H : ((camshaftref02_Get.f k a0 a1).bind fun bt186 => (if a1 < 0 then (camshaftref02_GetList.j0 k a0 a2 bt186.1 bt186.2.1 bt186.2.2 true) else (if a1 > (a0.size : Int) then (camshaftref02_GetList.j0 k a0 a2 bt186.1 bt186.2.1 bt186.2.2 true) else (camshaftref02_GetList.j0 k a0 a2 bt186.1 bt186.2.1 bt186.2.2 (decide (a2 < 0)))))) = some (r1, r2, r3) := h
  clear h
  replace H := Option.bind_eq_some_iff.mp H
  obtain ⟨⟨t186, t187, t188⟩, A40, H⟩ := H
  replace H : (if a1 < 0 then (camshaftref02_GetList.j0 k a0 a2 t186 t187 t188 true) else (if a1 > (a0.size : Int) then (camshaftref02_GetList.j0 k a0 a2 t186 t187 t188 true) else (camshaftref02_GetList.j0 k a0 a2 t186 t187 t188 (decide (a2 < 0))))) = some (r1, r2, r3) := H
  have A4 := Aside0.mk A40
  clear A40
  have HC5 := Aside0.mk H
  clear H
  go_enter Try.func19, Try.ntmps19
  go_upto_region 2 with (first | ((with_reducible refine gate_callee (f := 17) rfl ?_); refine goesL_ (some 20) rfl rfl Try.func17 (by kernel_rfl) rfl #[.string a0, .int .i64 a1] rfl (by (try simp only [List.map_toArray, List.map_cons, List.map_nil]); first | done | rfl | (simp only [List.length_drop, List.length_take]; rfl)) ?_; (with_reducible refine (camshaftref02_Get.calls k a0 a1 t186 t187 t188 _ A4.out).mono ?_); rintro e w6 ⟨rfl, hb⟩; refine ⟨_, rfl, ?_⟩; have n0_ := Aside0.mk (below_step (by repeat (first | (with_reducible first | exact HB.out | apply below_alloc | apply pw_below_drewN | apply below_drew1) | exact HB.out)) hb); clear HB; have HB := n0_; clear n0_; (try clear hb); (try clear hb2); (try clear hk); (try clear hi)))
  (try simp only [Act.put, List.setIfInBounds_toArray, List.set_cons_zero, List.set_cons_succ])
  go_cut [35] (fun v35 wc => ∃ (kq : Nat) (x35_4 : Bool), v35 = .bool x35_4 ∧ Aside0 (camshaftref02_GetList.j0 kq a0 a2 t186 t187 t188 x35_4 = some (r1, r2, r3)) ∧ Aside0 (kq ≤ k) ∧ Aside0 (Below w.heap.size w wc))
  case first =>
    have H := HC5.out
    clear HC5
    by_cases c7 : a1 < 0
    · rw [if_pos c7] at H
      have c7b0 : decide (a1 < 0) = true := decide_eq_true c7
      clear c7
      (first | rw [c7b0] | (simp only [i64_w, i32_w]; rw [c7b0]) | skip)
      have H' := Aside0.mk H
      clear H
      go_wp2
      go_meet
      case rel => exact ⟨_, (true), (by first | rfl | (simp; done) | (simp [*]; done)), H', ⟨by first | omega | exact Nat.le_refl _⟩, ⟨by repeat (first | (with_reducible first | exact HB.out | apply below_alloc | apply pw_below_drewN | apply below_drew1) | exact HB.out | exact Below.refl _ _)⟩⟩
    · rw [if_neg c7] at H
      have c7b0 : decide (a1 < 0) = false := decide_eq_false c7
      clear c7
      (first | rw [c7b0] | (simp only [i64_w, i32_w]; rw [c7b0]) | skip)
      by_cases c8 : a1 > (a0.size : Int)
      · rw [if_pos c8] at H
        have c8b0 : decide ((a0.size : Int) < a1) = true := decide_eq_true c8
        clear c8
        have H' := Aside0.mk H
        clear H
        go_wp2
        go_meet
        case rel => exact ⟨_, (true), (by first | rfl | (simp; done) | (simp [*]; done)), H', ⟨by first | omega | exact Nat.le_refl _⟩, ⟨by repeat (first | (with_reducible first | exact HB.out | apply below_alloc | apply pw_below_drewN | apply below_drew1) | exact HB.out | exact Below.refl _ _)⟩⟩
      · rw [if_neg c8] at H
        have c8b0 : decide ((a0.size : Int) < a1) = false := decide_eq_false c8
        clear c8
        have H' := Aside0.mk H
        clear H
        go_wp2
        go_meet
        case rel => exact ⟨_, (decide (a2 < 0)), (by first | rfl | (simp; done) | (simp [*]; done)), H', ⟨by first | omega | exact Nat.le_refl _⟩, ⟨by repeat (first | (with_reducible first | exact HB.out | apply below_alloc | apply pw_below_drewN | apply below_drew1) | exact HB.out | exact Below.refl _ _)⟩⟩
  case rest =>
    clear HC5
    try clear c1
    try clear p2
    try clear c7
    try clear c7b0
    try clear c8
    try clear c8b0
    obtain ⟨kq, x35_4, rfl, HA, HJ4, HB⟩ := hcut
    cases kq with
    | zero => exact absurd HA.out (by simp [camshaftref02_GetList.j0])
    | succ kj4 =>
      have H := HA.out
      clear HA
      simp only [camshaftref02_GetList.j0] at H
      by_cases c9 : x35_4 = true
      · subst c9
        have H1 : (some (([] : List Int), 0, 1)) = some (r1, r2, r3) := by rw [if_pos rfl] at H; exact H
        clear H
        have H := H1
        clear H1
        simp only [Option.some.injEq, Prod.mk.injEq] at H
        obtain ⟨rfl, rfl, rfl⟩ := H
        go_wp2
        go_ret3
        exact ⟨_, by first | rfl | (simp [errW_none, errW_some] <;> rfl) | (simp [*, errW_none, errW_some] <;> rfl), by first | exact Kd.R_nil _ _ _ _ _ | exact Kd.N_nil _ _ _ _ _ | exact Kd.V_nil _ _ _ _ _ | exact Kd.Q_nil _ _ _ _ _ | exact Kd.S_nil _ _ _ _ _, by repeat (first | (with_reducible first | exact HB.out | apply below_alloc | apply pw_below_drewN | apply below_drew1) | exact HB.out | exact Below.refl _ _)⟩
      · replace c9 := Bool.eq_false_iff.mpr c9
        subst c9
        have H1 : (if t188 = 0 then (if t186 < 0 then (some (([] : List Int), 0, 3)) else (if t186 > a2 then (some (([] : List Int), 0, 4)) else (camshaftref02_GetList.l0 kj4 a0 t186 t187 ([] : List Int) 0))) else (some (([] : List Int), 0, t188))) = some (r1, r2, r3) := by rw [if_neg (show ¬ (false = true) by decide)] at H; exact H
        clear H
        have H := H1
        clear H1
        by_cases c10 : t188 = 0
        · rw [if_pos c10] at H
          have c10b0 : (t188 == 0) = true := beq_iff_eq.mpr c10
          have c10b1 : (t188 != 0) = false := bne_eq_false_iff_eq.mpr c10
          clear c10
          by_cases c11 : t186 < 0
          · rw [if_pos c11] at H
            have c11b0 : decide (t186 < 0) = true := decide_eq_true c11
            clear c11
            simp only [Option.some.injEq, Prod.mk.injEq] at H
            obtain ⟨rfl, rfl, rfl⟩ := H
            go_wp2
            go_ret3
            exact ⟨_, by first | rfl | (simp [errW_none, errW_some] <;> rfl) | (simp [*, errW_none, errW_some] <;> rfl), by first | exact Kd.R_nil _ _ _ _ _ | exact Kd.N_nil _ _ _ _ _ | exact Kd.V_nil _ _ _ _ _ | exact Kd.Q_nil _ _ _ _ _ | exact Kd.S_nil _ _ _ _ _, by repeat (first | (with_reducible first | exact HB.out | apply below_alloc | apply pw_below_drewN | apply below_drew1) | exact HB.out | exact Below.refl _ _)⟩
          · rw [if_neg c11] at H
            have c11b0 : decide (t186 < 0) = false := decide_eq_false c11
            clear c11
            by_cases c12 : t186 > a2
            · rw [if_pos c12] at H
              have c12b0 : decide (a2 < t186) = true := decide_eq_true c12
              clear c12
              simp only [Option.some.injEq, Prod.mk.injEq] at H
              obtain ⟨rfl, rfl, rfl⟩ := H
              go_wp2
              go_ret3
              exact ⟨_, by first | rfl | (simp [errW_none, errW_some] <;> rfl) | (simp [*, errW_none, errW_some] <;> rfl), by first | exact Kd.R_nil _ _ _ _ _ | exact Kd.N_nil _ _ _ _ _ | exact Kd.V_nil _ _ _ _ _ | exact Kd.Q_nil _ _ _ _ _ | exact Kd.S_nil _ _ _ _ _, by repeat (first | (with_reducible first | exact HB.out | apply below_alloc | apply pw_below_drewN | apply below_drew1) | exact HB.out | exact Below.refl _ _)⟩
            · rw [if_neg c12] at H
              have c12b0 : decide (a2 < t186) = false := decide_eq_false c12
              clear c12
              have H' := Aside0.mk H
              clear H
              go_wp2
              go_loopg [10, 12, 13] kj4 (fun kq v10 v12 v13 w' => ∃ (x10_2 : Int) (x12_2 : List Int) (x13_2 : Int), v10 = .int .i64 x10_2 ∧ v13 = .int .i64 x13_2 ∧ Aside0 (camshaftref02_GetList.l0 kq a0 t186 x10_2 x12_2 x13_2 = some (r1, r2, r3)) ∧ Aside0 (kq ≤ kj4) ∧ Aside0 (Kd.R (Kd.int .i64) 3 w' w.heap.size (fun _ => True) v12 x12_2) ∧ Aside0 (Below w.heap.size w w'))
              case atStart => exact ⟨(t187), (([] : List Int)), (0), (by first | rfl | (simp; done) | (simp [*]; done)), (by first | rfl | (simp; done) | (simp [*]; done)), H', ⟨Nat.le_refl _⟩, ⟨by first | exact Kd.R_nil _ _ _ _ _ | exact Kd.N_nil _ _ _ _ _ | exact Kd.V_nil _ _ _ _ _ | exact Kd.Q_nil _ _ _ _ _ | exact Kd.S_nil _ _ _ _ _⟩, ⟨by repeat (first | (with_reducible first | exact HB.out | apply below_alloc | apply pw_below_drewN | apply below_drew1) | exact HB.out)⟩⟩
              case round =>
                clear H'
                try clear c1
                try clear p2
                try clear c7
                try clear c7b0
                try clear c8
                try clear c8b0
                try clear c9
                try clear c10
                try clear c10b0
                try clear c10b1
                try clear c11
                try clear c11b0
                try clear c12
                try clear c12b0
                try clear p2
                obtain ⟨x10_2, x12_2, x13_2, rfl, rfl, HA, HK2, HO_12, HB⟩ := hrel
                cases gk with
                | zero => exact absurd HA.out (by simp [camshaftref02_GetList.l0])
                | succ k2 =>
                  have H := HA.out
                  clear HA
                  simp only [camshaftref02_GetList.l0] at H
                  by_cases c13 : x13_2 < t186
                  · rw [if_pos c13] at H
                    have c13b0 : decide (x13_2 < t186) = true := decide_eq_true c13
                    clear c13
                    replace H := Option.bind_eq_some_iff.mp H
                    obtain ⟨⟨t189, t190, t191⟩, A140, H⟩ := H
                    replace H : (if t191 = 0 then (if x12_2.length < 17592186044416 then (camshaftref02_GetList.l0 k2 a0 t186 t190 (x12_2 ++ [t189]) (wrap64 (x13_2 + 1))) else (none)) else (some (([] : List Int), 0, t191))) = some (r1, r2, r3) := H
                    have A14 := Aside0.mk A140
                    clear A140
                    by_cases c15 : t191 = 0
                    · rw [if_pos c15] at H
                      have c15b0 : (t191 == 0) = true := beq_iff_eq.mpr c15
                      have c15b1 : (t191 != 0) = false := bne_eq_false_iff_eq.mpr c15
                      clear c15
                      by_cases c16 : x12_2.length < 17592186044416
                      · rw [if_pos c16] at H
                        have LMc16 := Aside0.mk c16
                        clear c16
                        obtain ⟨y192, hy192⟩ : ∃ y_ : List Int, y_ = (x12_2 ++ [t189]) := ⟨_, rfl⟩
                        replace H : (camshaftref02_GetList.l0 k2 a0 t186 t190 y192 (wrap64 (x13_2 + 1))) = some (r1, r2, r3) := by first | (rw [hy192]; with_reducible exact H) | (have H2_ := (Option.bind_some _ _).symm.trans H; rw [hy192]; with_reducible exact H2_) | (have H2_ := (Option.bind_some _ _).symm.trans H; with_reducible exact H2_) | with_reducible exact H | (rw [hy192]; exact H) | exact H
                        have Ny192 := Aside0.mk hy192
                        clear hy192
                        have H' := Aside0.mk H
                        clear H
                        go_wp2_with (first | ((with_reducible refine gate_callee (f := 17) rfl ?_); refine goesL_ (some 52) rfl rfl Try.func17 (by kernel_rfl) rfl #[.string a0, .int .i64 x10_2] rfl (by (try simp only [List.map_toArray, List.map_cons, List.map_nil]); first | done | rfl | (simp only [List.length_drop, List.length_take]; rfl)) ?_; (with_reducible refine (camshaftref02_Get.calls k2 a0 x10_2 t189 t190 t191 _ A14.out).mono ?_); rintro e w17 ⟨rfl, hb⟩; refine ⟨_, rfl, ?_⟩; have n0_ := Aside0.mk (Kd.R_below (by (with_reducible repeat (first | apply Kd.R_alloc | apply Kd.R_drewN | apply Kd.R_drew)); exact HO_12.out) hb); have n1_ := Aside0.mk (below_step (by repeat (first | (with_reducible first | exact HB.out | apply below_alloc | apply pw_below_drewN | apply below_drew1) | exact HB.out)) hb); clear HO_12; clear HB; have HO_12 := n0_; have HB := n1_; clear n0_ n1_; (try clear hb); (try clear hb2); (try clear hk); (try clear hi)) | ((with_reducible refine gate_builtin (b := .append) (xs := #[.tmp 59, .tmp 61]) rfl ?_); (try (refine gate_guard (by rfl) ?_; dsimp only)); at_builtin; refine Kd.R_append (Kd.int .i64) (w0 := w) w.heap.size rfl (.tmp 59) (.tmp 61) 22 3 (.int .i64 0) 8 rfl Try.underlying22 info3 rfl (by decide) (by omega) u12 x12_2 t189 [.int .i64 t189] (fun _ => True) (fun _ => False) rfl rfl ?aP (fun _ hk => hk.elim) ?aF ?aO ?aB ?aS ?aL ?_; (case aP => exact rfl); (case aB => exact (by repeat (first | (with_reducible first | exact HB.out | apply below_alloc | apply pw_below_drewN | apply below_drew1) | exact HB.out))); (case aF => exact (fun _ _ => trivial)); (case aO => exact (by (with_reducible repeat (first | apply Kd.R_alloc | apply Kd.R_drewN | apply Kd.R_drew)); exact HO_12.out)); (case aS => exact (below_size (by repeat (first | (with_reducible first | exact HB.out | apply below_alloc | apply pw_below_drewN | apply below_drew1) | exact HB.out)))); (case aL => have := LMc16.out; omega); intro v193 w18 ho hb hg hat; rw [← Ny192.out] at ho; have n0_ := Aside0.mk (hb); have n1_ := Aside0.mk (ho); clear HB; clear HO_12; have HB := n0_; have HO194 := n1_; clear n0_ n1_; clear ho hb hg hat))
                        go_roundg k2
                        case measure => have := HJ4.out; have := HK2.out; omega
                        case rel => exact ⟨(t190), (y192), (wrap64 (x13_2 + 1)), (by first | rfl | (simp; done) | (simp [*]; done)), (by first | rfl | (simp; done) | (simp [*]; done)), H', ⟨by have := HJ4.out; have := HK2.out; omega⟩, ⟨by (with_reducible repeat (first | apply Kd.R_alloc | apply Kd.R_drewN | apply Kd.R_drew)); exact HO194.out⟩, ⟨by repeat (first | (with_reducible first | exact HB.out | apply below_alloc | apply pw_below_drewN | apply below_drew1) | exact HB.out | exact Below.refl _ _)⟩⟩
                      · rw [if_neg c16] at H
                        exact absurd H (by simp)
                    · rw [if_neg c15] at H
                      have c15b0 : (t191 == 0) = false := beq_eq_false_iff_ne.mpr c15
                      have c15b1 : (t191 != 0) = true := bne_iff_ne.mpr c15
                      simp only [Option.some.injEq, Prod.mk.injEq] at H
                      obtain ⟨rfl, rfl, rfl⟩ := H
                      go_wp2_with (first | ((with_reducible refine gate_callee (f := 17) rfl ?_); refine goesL_ (some 52) rfl rfl Try.func17 (by kernel_rfl) rfl #[.string a0, .int .i64 x10_2] rfl (by (try simp only [List.map_toArray, List.map_cons, List.map_nil]); first | done | rfl | (simp only [List.length_drop, List.length_take]; rfl)) ?_; (with_reducible refine (camshaftref02_Get.calls k2 a0 x10_2 t189 t190 t191 _ A14.out).mono ?_); rintro e w19 ⟨rfl, hb⟩; refine ⟨_, rfl, ?_⟩; have n0_ := Aside0.mk (Kd.R_below (by (with_reducible repeat (first | apply Kd.R_alloc | apply Kd.R_drewN | apply Kd.R_drew)); exact HO_12.out) hb); have n1_ := Aside0.mk (below_step (by repeat (first | (with_reducible first | exact HB.out | apply below_alloc | apply pw_below_drewN | apply below_drew1) | exact HB.out)) hb); clear HO_12; clear HB; have HO_12 := n0_; have HB := n1_; clear n0_ n1_; (try clear hb); (try clear hb2); (try clear hk); (try clear hi)))
                      go_ret3
                      exact ⟨_, by first | rfl | (simp [errW_none, errW_some] <;> rfl) | (simp [*, errW_none, errW_some] <;> rfl), by first | exact Kd.R_nil _ _ _ _ _ | exact Kd.N_nil _ _ _ _ _ | exact Kd.V_nil _ _ _ _ _ | exact Kd.Q_nil _ _ _ _ _ | exact Kd.S_nil _ _ _ _ _, by repeat (first | (with_reducible first | exact HB.out | apply below_alloc | apply pw_below_drewN | apply below_drew1) | exact HB.out | exact Below.refl _ _)⟩
                  · rw [if_neg c13] at H
                    have c13b0 : decide (x13_2 < t186) = false := decide_eq_false c13
                    clear c13
                    simp only [Option.some.injEq, Prod.mk.injEq] at H
                    obtain ⟨rfl, rfl, rfl⟩ := H
                    go_wp2
                    go_ret3
                    exact ⟨_, by first | rfl | (simp [errW_none, errW_some] <;> rfl) | (simp [*, errW_none, errW_some] <;> rfl), by (with_reducible repeat (first | apply Kd.R_alloc | apply Kd.R_drewN | apply Kd.R_drew)); exact HO_12.out, by repeat (first | (with_reducible first | exact HB.out | apply below_alloc | apply pw_below_drewN | apply below_drew1) | exact HB.out | exact Below.refl _ _)⟩
        · rw [if_neg c10] at H
          have c10b0 : (t188 == 0) = false := beq_eq_false_iff_ne.mpr c10
          have c10b1 : (t188 != 0) = true := bne_iff_ne.mpr c10
          simp only [Option.some.injEq, Prod.mk.injEq] at H
          obtain ⟨rfl, rfl, rfl⟩ := H
          go_wp2
          go_ret3
          exact ⟨_, by first | rfl | (simp [errW_none, errW_some] <;> rfl) | (simp [*, errW_none, errW_some] <;> rfl), by first | exact Kd.R_nil _ _ _ _ _ | exact Kd.N_nil _ _ _ _ _ | exact Kd.V_nil _ _ _ _ _ | exact Kd.Q_nil _ _ _ _ _ | exact Kd.S_nil _ _ _ _ _, by repeat (first | (with_reducible first | exact HB.out | apply below_alloc | apply pw_below_drewN | apply below_drew1) | exact HB.out | exact Below.refl _ _)⟩

/-! ### camshaftlaw02_CodeGets: function 4 -/
def camshaftlaw02_CodeGets.f (k : Nat) (a0 : ByteArray) (a1 : Int) (a2 : Int) : Option (Bool) := if (a0.size : Int) > 300 then ((camshaftlaw02_known.f k).bind fun t195 => (some t195)) else ((code_Get.f k a0 a1).bind fun bt196 => ((camshaftref02_Get.f k a0 a1).bind fun bt199 => ((code_GetList.f k a0 a1 a2).bind fun bt202 => ((camshaftref02_GetList.f k a0 a1 a2).bind fun bt207 => (if bt196.1 = bt199.1 then (if bt196.2.1 = bt199.2.1 then (if bt196.2.2 = bt199.2.2 then ((camshaftref02_Same.f k bt202.1 bt207.1).bind fun t212 => (if t212 = true then (if bt202.2.1 = bt207.2.1 then (if bt202.2.2 = bt207.2.2 then ((camshaftlaw02_known.f k).bind fun t213 => (some t213)) else (some false)) else (some false)) else (some false))) else (some false)) else (some false)) else (some false))))))
theorem camshaftlaw02_CodeGets.mono : ∀ a0 a1 a2 k, LeO (camshaftlaw02_CodeGets.f k a0 a1 a2) (camshaftlaw02_CodeGets.f (k + 1) a0 a1 a2) := by
  intro a0 a1 a2 k
  unfold camshaftlaw02_CodeGets.f
  repeat' first
      | (with_reducible exact camshaftlaw02_known.mono _)
      | (with_reducible exact camshaftref02_Get.mono _ _ _)
      | (with_reducible exact camshaftref02_GetList.mono _ _ _ _)
      | (with_reducible exact camshaftref02_Same.mono _ _ _)
      | (with_reducible exact code_Get.mono _ _ _)
      | (with_reducible exact code_GetList.mono _ _ _ _)
      | (with_reducible exact LeO.refl _)
      | (with_reducible exact LeO.none _)
      | (with_reducible refine LeO.ite ?_ ?_)
      | (with_reducible refine LeO.bind ?_ (fun _ => ?_))
      | exact camshaftlaw02_known.mono _
      | exact camshaftref02_Get.mono _ _ _
      | exact camshaftref02_GetList.mono _ _ _ _
      | exact camshaftref02_Same.mono _ _ _
      | exact code_Get.mono _ _ _
      | exact code_GetList.mono _ _ _ _
      | exact LeO.none _
      | refine LeO.ite ?_ ?_
      | refine LeO.bind ?_ (fun _ => ?_)
set_option maxHeartbeats 8000000 in
set_option maxRecDepth 100000 in
theorem camshaftlaw02_CodeGets.calls (k : Nat) (a0 : ByteArray) (a1 : Int) (a2 : Int) (r : Bool) (w : World) (h : camshaftlaw02_CodeGets.f k a0 a1 a2 = some r) (ht : r = true) :
    Calls Try.prog 4 #[.string a0, .int .i64 a1, .int .i64 a2] w fun e w' => e = .returned (.bool r) ∧ Below w.heap.size w w' := by
  have HT := Aside0.mk ht
  clear ht
  have HB := Aside0.mk (Below.refl w.heap.size w)
  have H : (if (a0.size : Int) > 300 then ((camshaftlaw02_known.f k).bind fun t195 => (some t195)) else ((code_Get.f k a0 a1).bind fun bt196 => ((camshaftref02_Get.f k a0 a1).bind fun bt199 => ((code_GetList.f k a0 a1 a2).bind fun bt202 => ((camshaftref02_GetList.f k a0 a1 a2).bind fun bt207 => (if bt196.1 = bt199.1 then (if bt196.2.1 = bt199.2.1 then (if bt196.2.2 = bt199.2.2 then ((camshaftref02_Same.f k bt202.1 bt207.1).bind fun t212 => (if t212 = true then (if bt202.2.1 = bt207.2.1 then (if bt202.2.2 = bt207.2.2 then ((camshaftlaw02_known.f k).bind fun t213 => (some t213)) else (some false)) else (some false)) else (some false))) else (some false)) else (some false)) else (some false))))))) = some r := h
  clear h
  by_cases c4 : (a0.size : Int) > 300
  · rw [if_pos c4] at H
    have c4b0 : decide (300 < (a0.size : Int)) = true := decide_eq_true c4
    have c4b1 : decide (300 < a0.size) = true := decide_eq_true (by omega)
    clear c4
    replace H := Option.bind_eq_some_iff.mp H
    obtain ⟨t195, A50, H⟩ := H
    replace H : (some t195) = some r := H
    have A5 := Aside0.mk A50
    clear A50
    obtain rfl := Option.some.inj H
    go_enter Try.func4, Try.ntmps4
    go_wp2_with (first | ((with_reducible refine gate_callee (f := 10) rfl ?_); refine goesL_ (some 22) rfl rfl Try.func10 (by kernel_rfl) rfl #[] rfl (by (try simp only [List.map_toArray, List.map_cons, List.map_nil]); first | done | rfl | (simp only [List.length_drop, List.length_take]; rfl)) ?_; (with_reducible refine (camshaftlaw02_known.calls k  t195 _ A5.out).mono ?_); rintro e w6 ⟨rfl, hb⟩; refine ⟨_, rfl, ?_⟩; have n0_ := Aside0.mk (below_step (by repeat (first | (with_reducible first | exact HB.out | apply below_alloc | apply pw_below_drewN | apply below_drew1) | exact HB.out)) hb); clear HB; have HB := n0_; clear n0_; (try clear hb); (try clear hb2); (try clear hk); (try clear hi)))
    go_ret
    exact ⟨by first | rfl | (simp [errW_none, errW_some] <;> rfl) | (simp [*, errW_none, errW_some] <;> rfl), by repeat (first | (with_reducible first | exact HB.out | apply below_alloc | apply pw_below_drewN | apply below_drew1) | exact HB.out | exact Below.refl _ _)⟩
  · rw [if_neg c4] at H
    have c4b0 : decide (300 < (a0.size : Int)) = false := decide_eq_false c4
    have c4b1 : decide (300 < a0.size) = false := decide_eq_false (by omega)
    clear c4
    replace H := Option.bind_eq_some_iff.mp H
    obtain ⟨⟨t196, t197, t198⟩, A70, H⟩ := H
    replace H : ((camshaftref02_Get.f k a0 a1).bind fun bt199 => ((code_GetList.f k a0 a1 a2).bind fun bt202 => ((camshaftref02_GetList.f k a0 a1 a2).bind fun bt207 => (if t196 = bt199.1 then (if t197 = bt199.2.1 then (if t198 = bt199.2.2 then ((camshaftref02_Same.f k bt202.1 bt207.1).bind fun t212 => (if t212 = true then (if bt202.2.1 = bt207.2.1 then (if bt202.2.2 = bt207.2.2 then ((camshaftlaw02_known.f k).bind fun t213 => (some t213)) else (some false)) else (some false)) else (some false))) else (some false)) else (some false)) else (some false))))) = some r := H
    have A7 := Aside0.mk A70
    clear A70
    replace H := Option.bind_eq_some_iff.mp H
    obtain ⟨⟨t199, t200, t201⟩, A80, H⟩ := H
    replace H : ((code_GetList.f k a0 a1 a2).bind fun bt202 => ((camshaftref02_GetList.f k a0 a1 a2).bind fun bt207 => (if t196 = t199 then (if t197 = t200 then (if t198 = t201 then ((camshaftref02_Same.f k bt202.1 bt207.1).bind fun t212 => (if t212 = true then (if bt202.2.1 = bt207.2.1 then (if bt202.2.2 = bt207.2.2 then ((camshaftlaw02_known.f k).bind fun t213 => (some t213)) else (some false)) else (some false)) else (some false))) else (some false)) else (some false)) else (some false)))) = some r := H
    have A8 := Aside0.mk A80
    clear A80
    replace H := Option.bind_eq_some_iff.mp H
    obtain ⟨⟨t202, t203, t204⟩, A90, H⟩ := H
    replace H : ((camshaftref02_GetList.f k a0 a1 a2).bind fun bt207 => (if t196 = t199 then (if t197 = t200 then (if t198 = t201 then ((camshaftref02_Same.f k t202 bt207.1).bind fun t212 => (if t212 = true then (if t203 = bt207.2.1 then (if t204 = bt207.2.2 then ((camshaftlaw02_known.f k).bind fun t213 => (some t213)) else (some false)) else (some false)) else (some false))) else (some false)) else (some false)) else (some false))) = some r := H
    have A9 := Aside0.mk A90
    clear A90
    replace H := Option.bind_eq_some_iff.mp H
    obtain ⟨⟨t207, t208, t209⟩, A100, H⟩ := H
    replace H : (if t196 = t199 then (if t197 = t200 then (if t198 = t201 then ((camshaftref02_Same.f k t202 t207).bind fun t212 => (if t212 = true then (if t203 = t208 then (if t204 = t209 then ((camshaftlaw02_known.f k).bind fun t213 => (some t213)) else (some false)) else (some false)) else (some false))) else (some false)) else (some false)) else (some false)) = some r := H
    have A10 := Aside0.mk A100
    clear A100
    by_cases c11 : t196 = t199
    · rw [if_pos c11] at H
      have c11b0 : (t196 == t199) = true := beq_iff_eq.mpr c11
      have c11b1 : (t196 != t199) = false := bne_eq_false_iff_eq.mpr c11
      clear c11
      by_cases c12 : t197 = t200
      · rw [if_pos c12] at H
        have c12b0 : (t197 == t200) = true := beq_iff_eq.mpr c12
        have c12b1 : (t197 != t200) = false := bne_eq_false_iff_eq.mpr c12
        clear c12
        by_cases c13 : t198 = t201
        · rw [if_pos c13] at H
          have c13b0 : (t198 == t201) = true := beq_iff_eq.mpr c13
          have c13b1 : (t198 != t201) = false := bne_eq_false_iff_eq.mpr c13
          clear c13
          replace H := Option.bind_eq_some_iff.mp H
          obtain ⟨t212, A140, H⟩ := H
          replace H : (if t212 = true then (if t203 = t208 then (if t204 = t209 then ((camshaftlaw02_known.f k).bind fun t213 => (some t213)) else (some false)) else (some false)) else (some false)) = some r := H
          have A14 := Aside0.mk A140
          clear A140
          by_cases c15 : t212 = true
          · subst c15
            have H1 : (if t203 = t208 then (if t204 = t209 then ((camshaftlaw02_known.f k).bind fun t213 => (some t213)) else (some false)) else (some false)) = some r := by rw [if_pos rfl] at H; exact H
            clear H
            have H := H1
            clear H1
            by_cases c16 : t203 = t208
            · rw [if_pos c16] at H
              have c16b0 : (t203 == t208) = true := beq_iff_eq.mpr c16
              have c16b1 : (t203 != t208) = false := bne_eq_false_iff_eq.mpr c16
              clear c16
              by_cases c17 : t204 = t209
              · rw [if_pos c17] at H
                have c17b0 : (t204 == t209) = true := beq_iff_eq.mpr c17
                have c17b1 : (t204 != t209) = false := bne_eq_false_iff_eq.mpr c17
                clear c17
                replace H := Option.bind_eq_some_iff.mp H
                obtain ⟨t213, A180, H⟩ := H
                replace H : (some t213) = some r := H
                have A18 := Aside0.mk A180
                clear A180
                obtain rfl := Option.some.inj H
                go_enter Try.func4, Try.ntmps4
                go_wp2_with (first | ((with_reducible refine gate_callee (f := 16) rfl ?_); refine goesL_ (some 26) rfl rfl Try.func16 (by kernel_rfl) rfl #[.string a0, .int .i64 a1] rfl (by (try simp only [List.map_toArray, List.map_cons, List.map_nil]); first | done | rfl | (simp only [List.length_drop, List.length_take]; rfl)) ?_; (with_reducible refine (code_Get.calls k a0 a1 t196 t197 t198 _ A7.out).mono ?_); rintro e w' ⟨rfl, ⟨nd, rfl⟩⟩; refine ⟨_, rfl, ?_⟩) | ((with_reducible refine gate_callee (f := 17) rfl ?_); refine goesL_ (some 33) rfl rfl Try.func17 (by kernel_rfl) rfl #[.string a0, .int .i64 a1] rfl (by (try simp only [List.map_toArray, List.map_cons, List.map_nil]); first | done | rfl | (simp only [List.length_drop, List.length_take]; rfl)) ?_; (with_reducible refine (camshaftref02_Get.calls k a0 a1 t199 t200 t201 _ A8.out).mono ?_); rintro e w19 ⟨rfl, hb⟩; refine ⟨_, rfl, ?_⟩; have n0_ := Aside0.mk (below_step (by repeat (first | (with_reducible first | exact HB.out | apply below_alloc | apply pw_below_drewN | apply below_drew1) | exact HB.out)) hb); clear HB; have HB := n0_; clear n0_; (try clear hb); (try clear hb2); (try clear hk); (try clear hi)) | ((with_reducible refine gate_callee (f := 18) rfl ?_); refine goesL_ (some 41) rfl rfl Try.func18 (by kernel_rfl) rfl #[.string a0, .int .i64 a1, .int .i64 a2] rfl (by (try simp only [List.map_toArray, List.map_cons, List.map_nil]); first | done | rfl | (simp only [List.length_drop, List.length_take]; rfl)) ?_; (with_reducible refine (code_GetList.calls k a0 a1 a2 t202 t203 t204 _ A9.out).mono ?_); rintro e w20 ⟨v205, rfl, ho0, hb⟩; refine ⟨_, rfl, ?_⟩; have n0_ := Aside0.mk (Kd.R_lower ho0 (below_size (by repeat (first | (with_reducible first | exact HB.out | apply below_alloc | apply pw_below_drewN | apply below_drew1) | exact HB.out)))); have n1_ := Aside0.mk (below_step (by repeat (first | (with_reducible first | exact HB.out | apply below_alloc | apply pw_below_drewN | apply below_drew1) | exact HB.out)) hb); clear HB; have HO206 := n0_; have HB := n1_; clear n0_ n1_; (try clear hb); (try clear hb2); (try clear hk); (try clear hi); (try clear ho0)) | ((with_reducible refine gate_callee (f := 19) rfl ?_); refine goesL_ (some 49) rfl rfl Try.func19 (by kernel_rfl) rfl #[.string a0, .int .i64 a1, .int .i64 a2] rfl (by (try simp only [List.map_toArray, List.map_cons, List.map_nil]); first | done | rfl | (simp only [List.length_drop, List.length_take]; rfl)) ?_; (with_reducible refine (camshaftref02_GetList.calls k a0 a1 a2 t207 t208 t209 _ A10.out).mono ?_); rintro e w21 ⟨v210, rfl, ho0, hb⟩; refine ⟨_, rfl, ?_⟩; have n0_ := Aside0.mk (Kd.R_elder' (by (with_reducible repeat (first | apply Kd.R_alloc | apply Kd.R_drewN | apply Kd.R_drew)); exact HO206.out) (Kd.R_base ho0) hb); have n1_ := Aside0.mk (Kd.R_lower (Kd.R_new' ho0 (Kd.R_lt (by (with_reducible repeat (first | apply Kd.R_alloc | apply Kd.R_drewN | apply Kd.R_drew)); exact HO206.out))) (below_size (by repeat (first | (with_reducible first | exact HB.out | apply below_alloc | apply pw_below_drewN | apply below_drew1) | exact HB.out)))); have n2_ := Aside0.mk (below_step (by repeat (first | (with_reducible first | exact HB.out | apply below_alloc | apply pw_below_drewN | apply below_drew1) | exact HB.out)) hb); clear HO206; clear HB; have HO206 := n0_; have HO211 := n1_; have HB := n2_; clear n0_ n1_ n2_; (try clear hb); (try clear hb2); (try clear hk); (try clear hi); (try clear ho0); obtain ⟨Ao22, co22, eo22⟩ := Kd.R_slice HO206.out; subst eo22; obtain ⟨Ao23, co23, eo23⟩ := Kd.R_slice HO211.out; subst eo23) | ((with_reducible refine gate_callee (f := 20) rfl ?_); (with_reducible refine gate_dst (N := 69) rfl ?_); (refine gate_guard (by rfl) ?_; dsimp only); refine goesL_ (some 69) rfl rfl Try.func20 (by kernel_rfl) rfl #[.slice Ao22 t202.length co22, .slice Ao23 t207.length co23] rfl (by (try simp only [List.map_toArray, List.map_cons, List.map_nil]); first | done | rfl | (simp only [List.length_drop, List.length_take]; rfl)) ?_; (with_reducible refine (camshaftref02_Same.calls k _ _ t202 _ _ t207 true _ ?side1 ?side2 ?side3 ?side4 A14.out).mono ?_); (case side1 => repeat (first | exact (Kd.R_reads' HO206.out).2.2 | (with_reducible refine Kd.C_alloc ?_ _) | (with_reducible refine Kd.C_drewN ?_ _) | (with_reducible refine Kd.C_drew ?_))); (case side2 => exact (Kd.R_reads' HO206.out).2.1); (case side3 => repeat (first | exact (Kd.R_reads' HO211.out).2.2 | (with_reducible refine Kd.C_alloc ?_ _) | (with_reducible refine Kd.C_drewN ?_ _) | (with_reducible refine Kd.C_drew ?_))); (case side4 => exact (Kd.R_reads' HO211.out).2.1); rintro e w' ⟨rfl, ⟨nd, rfl⟩⟩; refine ⟨_, rfl, ?_⟩) | ((with_reducible refine gate_callee (f := 10) rfl ?_); (with_reducible refine gate_dst (N := 82) rfl ?_); (refine gate_guard (by rfl) ?_; dsimp only); refine goesL_ (some 82) rfl rfl Try.func10 (by kernel_rfl) rfl #[] rfl (by (try simp only [List.map_toArray, List.map_cons, List.map_nil]); first | done | rfl | (simp only [List.length_drop, List.length_take]; rfl)) ?_; (with_reducible refine (camshaftlaw02_known.calls k  t213 _ A18.out).mono ?_); rintro e w24 ⟨rfl, hb⟩; refine ⟨_, rfl, ?_⟩; have n0_ := Aside0.mk (Kd.R_below (by (with_reducible repeat (first | apply Kd.R_alloc | apply Kd.R_drewN | apply Kd.R_drew)); exact HO206.out) hb); have n1_ := Aside0.mk (Kd.R_below (by (with_reducible repeat (first | apply Kd.R_alloc | apply Kd.R_drewN | apply Kd.R_drew)); exact HO211.out) hb); have n2_ := Aside0.mk (below_step (by repeat (first | (with_reducible first | exact HB.out | apply below_alloc | apply pw_below_drewN | apply below_drew1) | exact HB.out)) hb); clear HO206; clear HO211; clear HB; have HO206 := n0_; have HO211 := n1_; have HB := n2_; clear n0_ n1_ n2_; (try clear hb); (try clear hb2); (try clear hk); (try clear hi)))
                go_ret
                exact ⟨by first | rfl | (simp [errW_none, errW_some] <;> rfl) | (simp [*, errW_none, errW_some] <;> rfl), by repeat (first | (with_reducible first | exact HB.out | apply below_alloc | apply pw_below_drewN | apply below_drew1) | exact HB.out | exact Below.refl _ _)⟩
              · rw [if_neg c17] at H
                have c17b0 : (t204 == t209) = false := beq_eq_false_iff_ne.mpr c17
                have c17b1 : (t204 != t209) = true := bne_iff_ne.mpr c17
                exact absurd ((Option.some.inj H).trans HT.out) (by decide)
            · rw [if_neg c16] at H
              have c16b0 : (t203 == t208) = false := beq_eq_false_iff_ne.mpr c16
              have c16b1 : (t203 != t208) = true := bne_iff_ne.mpr c16
              exact absurd ((Option.some.inj H).trans HT.out) (by decide)
          · replace c15 := Bool.eq_false_iff.mpr c15
            subst c15
            have H1 : (some false) = some r := by rw [if_neg (show ¬ (false = true) by decide)] at H; exact H
            clear H
            have H := H1
            clear H1
            exact absurd ((Option.some.inj H).trans HT.out) (by decide)
        · rw [if_neg c13] at H
          have c13b0 : (t198 == t201) = false := beq_eq_false_iff_ne.mpr c13
          have c13b1 : (t198 != t201) = true := bne_iff_ne.mpr c13
          exact absurd ((Option.some.inj H).trans HT.out) (by decide)
      · rw [if_neg c12] at H
        have c12b0 : (t197 == t200) = false := beq_eq_false_iff_ne.mpr c12
        have c12b1 : (t197 != t200) = true := bne_iff_ne.mpr c12
        exact absurd ((Option.some.inj H).trans HT.out) (by decide)
    · rw [if_neg c11] at H
      have c11b0 : (t196 == t199) = false := beq_eq_false_iff_ne.mpr c11
      have c11b1 : (t196 != t199) = true := bne_iff_ne.mpr c11
      exact absurd ((Option.some.inj H).trans HT.out) (by decide)

/-- THE ONE PURE STATEMENT of camshaftlaw02_CodeGets: yours. -/
def camshaftlaw02_CodeGets.Pure : Prop := ∀ (a0 : ByteArray) (a1 : Int) (a2 : Int), a0.size ≤ 140737488351232 → (Lit.int .i64 a1).wf = true → (Lit.int .i64 a2).wf = true → ∃ k, camshaftlaw02_CodeGets.f k a0 a1 a2 = some true
theorem camshaftlaw02_CodeGets.walk (P : camshaftlaw02_CodeGets.Pure) (a0 : ByteArray) (a1 : Int) (a2 : Int) (w : World) (w0 : a0.size ≤ 140737488351232) (w1 : (Lit.int .i64 a1).wf = true) (w2 : (Lit.int .i64 a2).wf = true) :
    Calls Try.prog 4 #[.string a0, .int .i64 a1, .int .i64 a2] w fun e w' => e = .returned (.bool true) ∧ Below w.heap.size w w' := by
  obtain ⟨k, h⟩ := P a0 a1 a2 w0 w1 w2
  refine (camshaftlaw02_CodeGets.calls k a0 a1 a2 true w h rfl).mono ?_
  rintro e w' ⟨rfl, hd⟩
  exact ⟨rfl, hd⟩

end Go.Proofs.Yteioenlkdidpgaa.P
