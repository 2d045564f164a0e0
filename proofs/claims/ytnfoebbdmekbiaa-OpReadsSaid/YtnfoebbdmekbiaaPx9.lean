-- Written by a program of this session (wip/tools: patched print) for this claim. Not trusted: Lean checks it.
import Derived.Test.YtnfoebbdmekbiaaPx0
import Derived.Test.YtnfoebbdmekbiaaPx1
import Derived.Test.YtnfoebbdmekbiaaPx4
import Derived.Test.YtnfoebbdmekbiaaPx6
import Derived.Test.YtnfoebbdmekbiaaPx8
namespace Go.Proofs.Ytnfoebbdmekbiaa.P
open Go.RowKit Go.Proofs.Ytnfoebbdmekbiaa.C Go.Proofs.YtnfoebbdmekbiaaW.PrintWords Go.Proofs.YtnfoebbdmekbiaaW.PrintLast Go.Proofs.YtnfoebbdmekbiaaW.PrintMore
attribute [local go_sem] max2_int min2_int max_two min_two max_three min_three max_four min_four   -- for this text's walks alone
set_option linter.unusedVariables false
set_option linter.unusedSimpArgs false

attribute [local go_sem high] eqA23
/-! ### camshaftref04_Read: function 22 -/
def camshaftref04_Read.l0 : Nat → ByteArray → List (S23) → Int → Option ((List (S23)) × Int)
  | 0, _, _, _ => none
  | k + 1, x0, x4, x5 => if x5 < (x0.size : Int) then (if (x4.length : Int) = 200 then (some (([] : List (S23)), 4)) else ((camshaftref04_Decode.f k x0 x5).bind fun bt204 => (if bt204.2.2.2.2 = 0 then (if x4.length < 5864062014805 then (camshaftref04_Read.l0 k x0 (x4 ++ [(⟨bt204.1, bt204.2.1, bt204.2.2.1⟩ : S23)]) bt204.2.2.2.1) else (none)) else (some (([] : List (S23)), bt204.2.2.2.2))))) else (some (x4, 0))
def camshaftref04_Read.f (k : Nat) (a0 : ByteArray) : Option ((List (S23)) × Int) := camshaftref04_Read.l0 k a0 ([] : List (S23)) 0
theorem camshaftref04_Read.mono_l : ∀ k, (∀ y0 y1 y2, LeO (camshaftref04_Read.l0 k y0 y1 y2) (camshaftref04_Read.l0 (k + 1) y0 y1 y2))
  | 0 => fun _ _ _ r h => by simp [camshaftref04_Read.l0] at h
  | k + 1 => by
    have ih0 := camshaftref04_Read.mono_l k
    · intro y0 y1 y2
      unfold camshaftref04_Read.l0
      repeat' first
      | (with_reducible exact ih0 _ _ _)
      | (with_reducible exact camshaftref04_Decode.mono _ _ _)
      | (with_reducible exact LeO.refl _)
      | (with_reducible exact LeO.none _)
      | (with_reducible refine LeO.ite ?_ ?_)
      | (with_reducible refine LeO.bind ?_ (fun _ => ?_))
      | exact ih0 _ _ _
      | exact camshaftref04_Decode.mono _ _ _
      | exact LeO.none _
      | refine LeO.ite ?_ ?_
      | refine LeO.bind ?_ (fun _ => ?_)
theorem camshaftref04_Read.mono : ∀ a0 k, LeO (camshaftref04_Read.f k a0) (camshaftref04_Read.f (k + 1) a0) := by
  intro a0 k
  have ih0 := camshaftref04_Read.mono_l k
  unfold camshaftref04_Read.f
  repeat' first
      | (with_reducible exact ih0 _ _ _)
      | (with_reducible exact camshaftref04_Decode.mono _ _ _)
      | (with_reducible exact LeO.refl _)
      | (with_reducible exact LeO.none _)
      | (with_reducible refine LeO.ite ?_ ?_)
      | (with_reducible refine LeO.bind ?_ (fun _ => ?_))
      | exact ih0 _ _ _
      | exact camshaftref04_Decode.mono _ _ _
      | exact LeO.none _
      | refine LeO.ite ?_ ?_
      | refine LeO.bind ?_ (fun _ => ?_)
set_option maxHeartbeats 8000000 in
set_option maxRecDepth 100000 in
theorem camshaftref04_Read.calls (k : Nat) (a0 : ByteArray) (r1 : List (S23)) (r2 : Int) (w : World) (h : camshaftref04_Read.f k a0 = some (r1, r2)) :
    Calls Try.prog 22 #[.string a0] w fun e w' => ∃ v0_ : Value, e = .returned (.tuple #[v0_, .int .i64 r2]) ∧ Kd.R k23 23 w' w.heap.size (fun _ => True) v0_ r1 ∧ Below w.heap.size w w' := by
  have hu23 := Try.underlying23
  have HB := Aside0.mk (Below.refl w.heap.size w)
  have H : (camshaftref04_Read.l0 k a0 ([] : List (S23)) 0) = some (r1, r2) := h
  clear h
  have H' := Aside0.mk H
  clear H
  go_enter Try.func22, Try.ntmps22
  go_wp2
  go_loopg [4, 5] k (fun kq v4 v5 w' => ∃ (x4_1 : List (S23)) (x5_1 : Int), v5 = .int .i64 x5_1 ∧ Aside0 (camshaftref04_Read.l0 kq a0 x4_1 x5_1 = some (r1, r2)) ∧ Aside0 (kq ≤ k) ∧ Aside0 (Kd.R k23 23 w' w.heap.size (fun _ => True) v4 x4_1) ∧ Aside0 (Below w.heap.size w w'))
  case atStart => exact ⟨(([] : List (S23))), (0), (by first | rfl | (simp; done) | (simp [*]; done)), H', ⟨Nat.le_refl _⟩, ⟨by first | exact Kd.R_nil _ _ _ _ _ | exact Kd.N_nil _ _ _ _ _ | exact Kd.V_nil _ _ _ _ _ | exact Kd.Q_nil _ _ _ _ _ | exact Kd.S_nil _ _ _ _ _⟩, ⟨by repeat (first | (with_reducible first | exact HB.out | apply below_alloc | apply pw_below_drewN | apply below_drew1) | exact HB.out)⟩⟩
  case round =>
    clear H'
    obtain ⟨x4_1, x5_1, rfl, HA, HK1, HO_4, HB⟩ := hrel
    cases gk with
    | zero => exact absurd HA.out (by simp [camshaftref04_Read.l0])
    | succ k1 =>
      have H := HA.out
      clear HA
      simp only [camshaftref04_Read.l0] at H
      by_cases c2 : x5_1 < (a0.size : Int)
      · rw [if_pos c2] at H
        have c2b0 : decide (x5_1 < (a0.size : Int)) = true := decide_eq_true c2
        clear c2
        by_cases c3 : (x4_1.length : Int) = 200
        · rw [if_pos c3] at H
          have c3b0 : ((x4_1.length : Int) == 200) = true := beq_iff_eq.mpr c3
          have c3b1 : ((x4_1.length : Int) != 200) = false := bne_eq_false_iff_eq.mpr c3
          clear c3
          simp only [Option.some.injEq, Prod.mk.injEq] at H
          obtain ⟨rfl, rfl⟩ := H
          obtain ⟨Ao4, co4, eo4⟩ := Kd.R_slice HO_4.out
          subst eo4
          go_wp2
          go_ret2
          exact ⟨_, by first | rfl | (simp [errW_none, errW_some] <;> rfl) | (simp [*, errW_none, errW_some] <;> rfl), by first | exact Kd.R_nil _ _ _ _ _ | exact Kd.N_nil _ _ _ _ _ | exact Kd.V_nil _ _ _ _ _ | exact Kd.Q_nil _ _ _ _ _ | exact Kd.S_nil _ _ _ _ _, by repeat (first | (with_reducible first | exact HB.out | apply below_alloc | apply pw_below_drewN | apply below_drew1) | exact HB.out | exact Below.refl _ _)⟩
        · rw [if_neg c3] at H
          have c3b0 : ((x4_1.length : Int) == 200) = false := beq_eq_false_iff_ne.mpr c3
          have c3b1 : ((x4_1.length : Int) != 200) = true := bne_iff_ne.mpr c3
          replace H := Option.bind_eq_some_iff.mp H
          obtain ⟨⟨t204, t205, t206, t207, t208⟩, A50, H⟩ := H
          replace H : (if t208 = 0 then (if x4_1.length < 5864062014805 then (camshaftref04_Read.l0 k1 a0 (x4_1 ++ [(⟨t204, t205, t206⟩ : S23)]) t207) else (none)) else (some (([] : List (S23)), t208))) = some (r1, r2) := H
          have A5 := Aside0.mk A50
          clear A50
          by_cases c6 : t208 = 0
          · rw [if_pos c6] at H
            have c6b0 : (t208 == 0) = true := beq_iff_eq.mpr c6
            have c6b1 : (t208 != 0) = false := bne_eq_false_iff_eq.mpr c6
            clear c6
            by_cases c7 : x4_1.length < 5864062014805
            · rw [if_pos c7] at H
              have LMc7 := Aside0.mk c7
              clear c7
              obtain ⟨y210, hy210⟩ : ∃ y_ : List (S23), y_ = (x4_1 ++ [(⟨t204, t205, t206⟩ : S23)]) := ⟨_, rfl⟩
              replace H : (camshaftref04_Read.l0 k1 a0 y210 t207) = some (r1, r2) := by first | (rw [hy210]; with_reducible exact H) | (have H2_ := (Option.bind_some _ _).symm.trans H; rw [hy210]; with_reducible exact H2_) | (have H2_ := (Option.bind_some _ _).symm.trans H; with_reducible exact H2_) | with_reducible exact H | (rw [hy210]; exact H) | exact H
              have Ny210 := Aside0.mk hy210
              clear hy210
              have H' := Aside0.mk H
              clear H
              obtain ⟨Ao8, co8, eo8⟩ := Kd.R_slice HO_4.out
              subst eo8
              go_wp2_with (first | ((with_reducible refine gate_callee (f := 20) rfl ?_); refine goesL_ (some 19) rfl rfl Try.func20 (by kernel_rfl) rfl #[.string a0, .int .i64 x5_1] rfl (by (try simp only [List.map_toArray, List.map_cons, List.map_nil]); first | done | rfl | (simp only [List.length_drop, List.length_take]; rfl)) ?_; (with_reducible refine (camshaftref04_Decode.calls k1 a0 x5_1 t204 t205 t206 t207 t208 _ A5.out).mono ?_); rintro e w9 ⟨rfl, hb⟩; refine ⟨_, rfl, ?_⟩; have n0_ := Aside0.mk (Kd.R_below (by (with_reducible repeat (first | apply Kd.R_alloc | apply Kd.R_drewN | apply Kd.R_drew)); exact HO_4.out) hb); have n1_ := Aside0.mk (below_step (by repeat (first | (with_reducible first | exact HB.out | apply below_alloc | apply pw_below_drewN | apply below_drew1) | exact HB.out)) hb); clear HO_4; clear HB; have HO_4 := n0_; have HB := n1_; clear n0_ n1_; (try clear hb); (try clear hb2); (try clear hk); (try clear hi)) | ((with_reducible refine gate_dst (N := 6) rfl ?_); refine box_event ?hg (N := 6) ?hd (cs := #[.int .i64 0, .int .i64 0, .int .i64 0]) (t := 23) ?hr ?_; (case hd => rfl); (case hg => rfl); (case hr => first | (go_simp; done) | (go_simp; rfl)); intro gb209 hg w10 hbox hb; have n0_ := Aside0.mk (Kd.R_below (Kd.R_elderB (by (with_reducible repeat (first | apply Kd.R_alloc | apply Kd.R_drewN | apply Kd.R_drew)); exact HO_4.out) gb209 (Nat.le_of_eq hg.symm)) hb); have n1_ := Aside0.mk (below_step (by repeat (first | (with_reducible first | exact HB.out | apply below_alloc | apply pw_below_drewN | apply below_drew1) | exact HB.out)) hb); have n2_ := Aside0.mk (hbox); have n3_ := Aside0.mk ((by rw [hg]; exact (below_size (by repeat (first | (with_reducible first | exact HB.out | apply below_alloc | apply pw_below_drewN | apply below_drew1) | exact HB.out))) : w.heap.size ≤ gb209)); have n4_ := Aside0.mk ((by rw [hg]; exact (below_size (by repeat (first | (with_reducible first | exact HB.out | apply below_alloc | apply pw_below_drewN | apply below_drew1) | exact HB.out))) : w.heap.size ≤ gb209)); clear HO_4; clear HB; have HO_4 := n0_; have HB := n1_; have BK209 := n2_; have GW209 := n3_; have GE209 := n4_; clear n0_ n1_ n2_ n3_ n4_; clear hb hbox hg; have hcz11_0 : w10.cell? ⟨gb209, 0, none⟩ = some (.int .i64 0) := (blk_cell BK209.out 0).trans rfl; have hcz11_1 : w10.cell? ⟨gb209, 1, none⟩ = some (.int .i64 0) := (blk_cell BK209.out 1).trans rfl; have hcz11_2 : w10.cell? ⟨gb209, 2, none⟩ = some (.int .i64 0) := (blk_cell BK209.out 2).trans rfl; have hfz11_0 := blk_frozen BK209.out 0; have hfz11_1 := blk_frozen BK209.out 1; have hfz11_2 := blk_frozen BK209.out 2) | ((with_reducible refine gate_builtin (b := .append) (xs := #[.tmp 26, .tmp 28]) rfl ?_); at_builtin; refine Kd.R_append k23 (w0 := w) w.heap.size rfl (.tmp 26) (.tmp 28) 32 23 (.agg #[(.int .i64 0), (.int .i64 0), (.int .i64 0)]) 24 rfl Try.underlying32 info23 rfl (by decide) (by omega) (.slice Ao8 x4_1.length co8) x4_1 (⟨t204, t205, t206⟩ : S23) [.int .i64 t204, .int .i64 t205, .int .i64 t206] (fun k_ => k_ ≠ gb209) (fun _ => False) rfl (by first | (go_simp; done) | (go_simp; rfl)) ?aP (fun _ hk => hk.elim) ?aF ?aO ?aB ?aS ?aL ?_; (case aP => exact k23_mkM _ _ _ (⟨t204, t205, t206⟩ : S23)); (case aB => exact (by repeat (first | (with_reducible first | exact HB.out | apply below_alloc | apply pw_below_drewN | apply below_drew1 | refine below_set ?_ GE209.out) | exact HB.out))); (case aF => exact (fun k_ hk => Kd.freshB (g := gb209) (o := .cells #[.int .i64 t204, .int .i64 t205, .int .i64 t206] 23 (0, 0)) (by (with_reducible repeat (first | refine blk_drewN ?_ _ | refine blk_drew ?_ | refine blk_alloc ?_ _)); refine blk_put (cs := #[.int .i64 t204, .int .i64 t205, .int .i64 0]) ?_ 2 _ rfl; (with_reducible repeat (first | refine blk_drewN ?_ _ | refine blk_drew ?_ | refine blk_alloc ?_ _)); refine blk_put (cs := #[.int .i64 t204, .int .i64 0, .int .i64 0]) ?_ 1 _ rfl; (with_reducible repeat (first | refine blk_drewN ?_ _ | refine blk_drew ?_ | refine blk_alloc ?_ _)); refine blk_put (cs := #[.int .i64 0, .int .i64 0, .int .i64 0]) ?_ 0 _ rfl; (with_reducible repeat (first | refine blk_drewN ?_ _ | refine blk_drew ?_ | refine blk_alloc ?_ _)); exact BK209.out) k_ hk)); (case aO => exact (by (with_reducible repeat (first | apply Kd.R_alloc | apply Kd.R_drewN | apply Kd.R_drew)); exact Kd.R_mono (Kd.R_far (p := ⟨gb209, 2, none⟩) (Kd.R_far (p := ⟨gb209, 1, none⟩) (Kd.R_far (p := ⟨gb209, 0, none⟩) (Kd.R_mono HO_4.out (fun k_ hk => (⟨hk, hk.2⟩ : _ ∧ k_ ≠ gb209))) (fun _ hk => hk.2) (.int .i64 t204)) (fun _ hk => hk.2) (.int .i64 t205)) (fun _ hk => hk.2) (.int .i64 t206)) (fun _ hk => hk.1.2))); (case aS => exact (below_size (by repeat (first | (with_reducible first | exact HB.out | apply below_alloc | apply pw_below_drewN | apply below_drew1 | refine below_set ?_ GE209.out) | exact HB.out)))); (case aL => have := LMc7.out; omega); intro v211 w12 ho hb hg hat; rw [← Ny210.out] at ho; have n0_ := Aside0.mk (blk_grown (g := gb209) (o := .cells #[.int .i64 t204, .int .i64 t205, .int .i64 t206] 23 (0, 0)) (by (with_reducible repeat (first | refine blk_drewN ?_ _ | refine blk_drew ?_ | refine blk_alloc ?_ _)); refine blk_put (cs := #[.int .i64 t204, .int .i64 t205, .int .i64 0]) ?_ 2 _ rfl; (with_reducible repeat (first | refine blk_drewN ?_ _ | refine blk_drew ?_ | refine blk_alloc ?_ _)); refine blk_put (cs := #[.int .i64 t204, .int .i64 0, .int .i64 0]) ?_ 1 _ rfl; (with_reducible repeat (first | refine blk_drewN ?_ _ | refine blk_drew ?_ | refine blk_alloc ?_ _)); refine blk_put (cs := #[.int .i64 0, .int .i64 0, .int .i64 0]) ?_ 0 _ rfl; (with_reducible repeat (first | refine blk_drewN ?_ _ | refine blk_drew ?_ | refine blk_alloc ?_ _)); exact BK209.out) hg (Kd.R_away HO_4.out (fun _ hk => hk.2))); have n1_ := Aside0.mk (hb); have n2_ := Aside0.mk (ho); clear BK209; clear HB; clear HO_4; have BK209 := n0_; have HB := n1_; have HO212 := n2_; clear n0_ n1_ n2_; clear ho hb hg hat))
              go_roundg k1
              case measure => have := HK1.out; omega
              case rel => exact ⟨(y210), (t207), (by first | rfl | (simp; done) | (simp [*]; done)), H', ⟨by have := HK1.out; omega⟩, ⟨by (with_reducible repeat (first | apply Kd.R_alloc | apply Kd.R_drewN | apply Kd.R_drew)); exact Kd.R_mono HO212.out (fun _ hk => trivial)⟩, ⟨by repeat (first | (with_reducible first | exact HB.out | apply below_alloc | apply pw_below_drewN | apply below_drew1 | refine below_set ?_ GE209.out) | exact HB.out | exact Below.refl _ _)⟩⟩
            · rw [if_neg c7] at H
              exact absurd H (by simp)
          · rw [if_neg c6] at H
            have c6b0 : (t208 == 0) = false := beq_eq_false_iff_ne.mpr c6
            have c6b1 : (t208 != 0) = true := bne_iff_ne.mpr c6
            simp only [Option.some.injEq, Prod.mk.injEq] at H
            obtain ⟨rfl, rfl⟩ := H
            obtain ⟨Ao13, co13, eo13⟩ := Kd.R_slice HO_4.out
            subst eo13
            go_wp2_with (first | ((with_reducible refine gate_callee (f := 20) rfl ?_); refine goesL_ (some 19) rfl rfl Try.func20 (by kernel_rfl) rfl #[.string a0, .int .i64 x5_1] rfl (by (try simp only [List.map_toArray, List.map_cons, List.map_nil]); first | done | rfl | (simp only [List.length_drop, List.length_take]; rfl)) ?_; (with_reducible refine (camshaftref04_Decode.calls k1 a0 x5_1 t204 t205 t206 t207 t208 _ A5.out).mono ?_); rintro e w14 ⟨rfl, hb⟩; refine ⟨_, rfl, ?_⟩; have n0_ := Aside0.mk (Kd.R_below (by (with_reducible repeat (first | apply Kd.R_alloc | apply Kd.R_drewN | apply Kd.R_drew)); exact HO_4.out) hb); have n1_ := Aside0.mk (below_step (by repeat (first | (with_reducible first | exact HB.out | apply below_alloc | apply pw_below_drewN | apply below_drew1) | exact HB.out)) hb); clear HO_4; clear HB; have HO_4 := n0_; have HB := n1_; clear n0_ n1_; (try clear hb); (try clear hb2); (try clear hk); (try clear hi)) | ((with_reducible refine gate_dst (N := 6) rfl ?_); refine box_event ?hg (N := 6) ?hd (cs := #[.int .i64 0, .int .i64 0, .int .i64 0]) (t := 23) ?hr ?_; (case hd => rfl); (case hg => rfl); (case hr => first | (go_simp; done) | (go_simp; rfl)); intro gb209 hg w15 hbox hb; have n0_ := Aside0.mk (Kd.R_below (Kd.R_elderB (by (with_reducible repeat (first | apply Kd.R_alloc | apply Kd.R_drewN | apply Kd.R_drew)); exact HO_4.out) gb209 (Nat.le_of_eq hg.symm)) hb); have n1_ := Aside0.mk (below_step (by repeat (first | (with_reducible first | exact HB.out | apply below_alloc | apply pw_below_drewN | apply below_drew1) | exact HB.out)) hb); have n2_ := Aside0.mk (hbox); have n3_ := Aside0.mk ((by rw [hg]; exact (below_size (by repeat (first | (with_reducible first | exact HB.out | apply below_alloc | apply pw_below_drewN | apply below_drew1) | exact HB.out))) : w.heap.size ≤ gb209)); have n4_ := Aside0.mk ((by rw [hg]; exact (below_size (by repeat (first | (with_reducible first | exact HB.out | apply below_alloc | apply pw_below_drewN | apply below_drew1) | exact HB.out))) : w.heap.size ≤ gb209)); clear HO_4; clear HB; have HO_4 := n0_; have HB := n1_; have BK209 := n2_; have GW209 := n3_; have GE209 := n4_; clear n0_ n1_ n2_ n3_ n4_; clear hb hbox hg; have hcz16_0 : w15.cell? ⟨gb209, 0, none⟩ = some (.int .i64 0) := (blk_cell BK209.out 0).trans rfl; have hcz16_1 : w15.cell? ⟨gb209, 1, none⟩ = some (.int .i64 0) := (blk_cell BK209.out 1).trans rfl; have hcz16_2 : w15.cell? ⟨gb209, 2, none⟩ = some (.int .i64 0) := (blk_cell BK209.out 2).trans rfl; have hfz16_0 := blk_frozen BK209.out 0; have hfz16_1 := blk_frozen BK209.out 1; have hfz16_2 := blk_frozen BK209.out 2))
            go_ret2
            exact ⟨_, by first | rfl | (simp [errW_none, errW_some] <;> rfl) | (simp [*, errW_none, errW_some] <;> rfl), by first | exact Kd.R_nil _ _ _ _ _ | exact Kd.N_nil _ _ _ _ _ | exact Kd.V_nil _ _ _ _ _ | exact Kd.Q_nil _ _ _ _ _ | exact Kd.S_nil _ _ _ _ _, by repeat (first | (with_reducible first | exact HB.out | apply below_alloc | apply pw_below_drewN | apply below_drew1 | refine below_set ?_ GE209.out) | exact HB.out | exact Below.refl _ _)⟩
      · rw [if_neg c2] at H
        have c2b0 : decide (x5_1 < (a0.size : Int)) = false := decide_eq_false c2
        clear c2
        simp only [Option.some.injEq, Prod.mk.injEq] at H
        obtain ⟨rfl, rfl⟩ := H
        go_wp2
        go_ret2
        exact ⟨_, by first | rfl | (simp [errW_none, errW_some] <;> rfl) | (simp [*, errW_none, errW_some] <;> rfl), by (with_reducible repeat (first | apply Kd.R_alloc | apply Kd.R_drewN | apply Kd.R_drew)); exact HO_4.out, by repeat (first | (with_reducible first | exact HB.out | apply below_alloc | apply pw_below_drewN | apply below_drew1) | exact HB.out | exact Below.refl _ _)⟩

/-! ### camshaftlaw04_OpReads: function 4 -/
def camshaftlaw04_OpReads.f (k : Nat) (a0 : ByteArray) (a1 : Int) : Option (Bool) := if (a0.size : Int) > 3000 then ((camshaftlaw04_known.f k).bind fun t213 => (some t213)) else ((op_Decode.f k a0 a1).bind fun bt214 => ((camshaftref04_Decode.f k a0 a1).bind fun bt220 => ((op_Read.f k a0).bind fun bt226 => ((camshaftref04_Read.f k a0).bind fun bt230 => (if (bt214.1 == bt220.1 && (bt214.2.1 == bt220.2.1 && (bt214.2.2.1 == bt220.2.2.1))) = true then (if bt214.2.2.2.1 = bt220.2.2.2.1 then (if bt214.2.2.2.2 = bt220.2.2.2.2 then ((camshaftref04_Same.f k bt226.1 bt230.1).bind fun t234 => (if t234 = true then (if bt226.2 = bt230.2 then ((camshaftlaw04_known.f k).bind fun t235 => (some t235)) else (some false)) else (some false))) else (some false)) else (some false)) else (some false))))))
theorem camshaftlaw04_OpReads.mono : ∀ a0 a1 k, LeO (camshaftlaw04_OpReads.f k a0 a1) (camshaftlaw04_OpReads.f (k + 1) a0 a1) := by
  intro a0 a1 k
  unfold camshaftlaw04_OpReads.f
  repeat' first
      | (with_reducible exact camshaftlaw04_known.mono _)
      | (with_reducible exact camshaftref04_Decode.mono _ _ _)
      | (with_reducible exact camshaftref04_Read.mono _ _)
      | (with_reducible exact camshaftref04_Same.mono _ _ _)
      | (with_reducible exact op_Decode.mono _ _ _)
      | (with_reducible exact op_Read.mono _ _)
      | (with_reducible exact LeO.refl _)
      | (with_reducible exact LeO.none _)
      | (with_reducible refine LeO.ite ?_ ?_)
      | (with_reducible refine LeO.bind ?_ (fun _ => ?_))
      | exact camshaftlaw04_known.mono _
      | exact camshaftref04_Decode.mono _ _ _
      | exact camshaftref04_Read.mono _ _
      | exact camshaftref04_Same.mono _ _ _
      | exact op_Decode.mono _ _ _
      | exact op_Read.mono _ _
      | exact LeO.none _
      | refine LeO.ite ?_ ?_
      | refine LeO.bind ?_ (fun _ => ?_)
set_option maxHeartbeats 8000000 in
set_option maxRecDepth 100000 in
theorem camshaftlaw04_OpReads.calls (k : Nat) (a0 : ByteArray) (a1 : Int) (r : Bool) (w : World) (h : camshaftlaw04_OpReads.f k a0 a1 = some r) (ht : r = true) :
    Calls Try.prog 4 #[.string a0, .int .i64 a1] w fun e w' => e = .returned (.bool r) ∧ Below w.heap.size w w' := by
  have hu23 := Try.underlying23
  have HT := Aside0.mk ht
  clear ht
  have HB := Aside0.mk (Below.refl w.heap.size w)
  have H : (if (a0.size : Int) > 3000 then ((camshaftlaw04_known.f k).bind fun t213 => (some t213)) else ((op_Decode.f k a0 a1).bind fun bt214 => ((camshaftref04_Decode.f k a0 a1).bind fun bt220 => ((op_Read.f k a0).bind fun bt226 => ((camshaftref04_Read.f k a0).bind fun bt230 => (if (bt214.1 == bt220.1 && (bt214.2.1 == bt220.2.1 && (bt214.2.2.1 == bt220.2.2.1))) = true then (if bt214.2.2.2.1 = bt220.2.2.2.1 then (if bt214.2.2.2.2 = bt220.2.2.2.2 then ((camshaftref04_Same.f k bt226.1 bt230.1).bind fun t234 => (if t234 = true then (if bt226.2 = bt230.2 then ((camshaftlaw04_known.f k).bind fun t235 => (some t235)) else (some false)) else (some false))) else (some false)) else (some false)) else (some false))))))) = some r := h
  clear h
  by_cases c3 : (a0.size : Int) > 3000
  · rw [if_pos c3] at H
    have c3b0 : decide (3000 < (a0.size : Int)) = true := decide_eq_true c3
    have c3b1 : decide (3000 < a0.size) = true := decide_eq_true (by omega)
    clear c3
    replace H := Option.bind_eq_some_iff.mp H
    obtain ⟨t213, A40, H⟩ := H
    replace H : (some t213) = some r := H
    have A4 := Aside0.mk A40
    clear A40
    obtain rfl := Option.some.inj H
    go_enter Try.func4, Try.ntmps4
    go_wp2_with (first | ((with_reducible refine gate_callee (f := 18) rfl ?_); refine goesL_ (some 18) rfl rfl Try.func18 (by kernel_rfl) rfl #[] rfl (by (try simp only [List.map_toArray, List.map_cons, List.map_nil]); first | done | rfl | (simp only [List.length_drop, List.length_take]; rfl)) ?_; (with_reducible refine (camshaftlaw04_known.calls k  t213 _ A4.out).mono ?_); rintro e w5 ⟨rfl, hb⟩; refine ⟨_, rfl, ?_⟩; have n0_ := Aside0.mk (below_step (by repeat (first | (with_reducible first | exact HB.out | apply below_alloc | apply pw_below_drewN | apply below_drew1) | exact HB.out)) hb); clear HB; have HB := n0_; clear n0_; (try clear hb); (try clear hb2); (try clear hk); (try clear hi)))
    go_ret
    exact ⟨by first | rfl | (simp [errW_none, errW_some] <;> rfl) | (simp [*, errW_none, errW_some] <;> rfl), by repeat (first | (with_reducible first | exact HB.out | apply below_alloc | apply pw_below_drewN | apply below_drew1) | exact HB.out | exact Below.refl _ _)⟩
  · rw [if_neg c3] at H
    have c3b0 : decide (3000 < (a0.size : Int)) = false := decide_eq_false c3
    have c3b1 : decide (3000 < a0.size) = false := decide_eq_false (by omega)
    clear c3
    replace H := Option.bind_eq_some_iff.mp H
    obtain ⟨⟨t214, t215, t216, t217, t218⟩, A60, H⟩ := H
    replace H : ((camshaftref04_Decode.f k a0 a1).bind fun bt220 => ((op_Read.f k a0).bind fun bt226 => ((camshaftref04_Read.f k a0).bind fun bt230 => (if (t214 == bt220.1 && (t215 == bt220.2.1 && (t216 == bt220.2.2.1))) = true then (if t217 = bt220.2.2.2.1 then (if t218 = bt220.2.2.2.2 then ((camshaftref04_Same.f k bt226.1 bt230.1).bind fun t234 => (if t234 = true then (if bt226.2 = bt230.2 then ((camshaftlaw04_known.f k).bind fun t235 => (some t235)) else (some false)) else (some false))) else (some false)) else (some false)) else (some false))))) = some r := H
    have A6 := Aside0.mk A60
    clear A60
    replace H := Option.bind_eq_some_iff.mp H
    obtain ⟨⟨t220, t221, t222, t223, t224⟩, A70, H⟩ := H
    replace H : ((op_Read.f k a0).bind fun bt226 => ((camshaftref04_Read.f k a0).bind fun bt230 => (if (t214 == t220 && (t215 == t221 && (t216 == t222))) = true then (if t217 = t223 then (if t218 = t224 then ((camshaftref04_Same.f k bt226.1 bt230.1).bind fun t234 => (if t234 = true then (if bt226.2 = bt230.2 then ((camshaftlaw04_known.f k).bind fun t235 => (some t235)) else (some false)) else (some false))) else (some false)) else (some false)) else (some false)))) = some r := H
    have A7 := Aside0.mk A70
    clear A70
    replace H := Option.bind_eq_some_iff.mp H
    obtain ⟨⟨t226, t227⟩, A80, H⟩ := H
    replace H : ((camshaftref04_Read.f k a0).bind fun bt230 => (if (t214 == t220 && (t215 == t221 && (t216 == t222))) = true then (if t217 = t223 then (if t218 = t224 then ((camshaftref04_Same.f k t226 bt230.1).bind fun t234 => (if t234 = true then (if t227 = bt230.2 then ((camshaftlaw04_known.f k).bind fun t235 => (some t235)) else (some false)) else (some false))) else (some false)) else (some false)) else (some false))) = some r := H
    have A8 := Aside0.mk A80
    clear A80
    replace H := Option.bind_eq_some_iff.mp H
    obtain ⟨⟨t230, t231⟩, A90, H⟩ := H
    replace H : (if (t214 == t220 && (t215 == t221 && (t216 == t222))) = true then (if t217 = t223 then (if t218 = t224 then ((camshaftref04_Same.f k t226 t230).bind fun t234 => (if t234 = true then (if t227 = t231 then ((camshaftlaw04_known.f k).bind fun t235 => (some t235)) else (some false)) else (some false))) else (some false)) else (some false)) else (some false)) = some r := H
    have A9 := Aside0.mk A90
    clear A90
    by_cases c10 : (t214 == t220 && (t215 == t221 && (t216 == t222))) = true
    · rw [if_pos c10] at H
      have c10b0 : (t214 == t220 && (t215 == t221 && (t216 == t222))) = true := c10
      (try (have c10b1 : decide (t214 = t220 && (t215 == t221 && (t216 == t222))) = true := by simpa using c10))
      (try (have c10b2 : (t214 == t220 && (t215 == t221 && (t216 == t222))) = true := by simpa using c10))
      clear c10
      by_cases c11 : t217 = t223
      · rw [if_pos c11] at H
        have c11b0 : (t217 == t223) = true := beq_iff_eq.mpr c11
        have c11b1 : (t217 != t223) = false := bne_eq_false_iff_eq.mpr c11
        clear c11
        by_cases c12 : t218 = t224
        · rw [if_pos c12] at H
          have c12b0 : (t218 == t224) = true := beq_iff_eq.mpr c12
          have c12b1 : (t218 != t224) = false := bne_eq_false_iff_eq.mpr c12
          clear c12
          replace H := Option.bind_eq_some_iff.mp H
          obtain ⟨t234, A130, H⟩ := H
          replace H : (if t234 = true then (if t227 = t231 then ((camshaftlaw04_known.f k).bind fun t235 => (some t235)) else (some false)) else (some false)) = some r := H
          have A13 := Aside0.mk A130
          clear A130
          by_cases c14 : t234 = true
          · subst c14
            have H1 : (if t227 = t231 then ((camshaftlaw04_known.f k).bind fun t235 => (some t235)) else (some false)) = some r := by rw [if_pos rfl] at H; exact H
            clear H
            have H := H1
            clear H1
            by_cases c15 : t227 = t231
            · rw [if_pos c15] at H
              have c15b0 : (t227 == t231) = true := beq_iff_eq.mpr c15
              have c15b1 : (t227 != t231) = false := bne_eq_false_iff_eq.mpr c15
              clear c15
              replace H := Option.bind_eq_some_iff.mp H
              obtain ⟨t235, A160, H⟩ := H
              replace H : (some t235) = some r := H
              have A16 := Aside0.mk A160
              clear A160
              obtain rfl := Option.some.inj H
              go_enter Try.func4, Try.ntmps4
              go_wp2_with (first | ((with_reducible refine gate_callee (f := 19) rfl ?_); refine goesL_ (some 22) rfl rfl Try.func19 (by kernel_rfl) rfl #[.string a0, .int .i64 a1] rfl (by (try simp only [List.map_toArray, List.map_cons, List.map_nil]); first | done | rfl | (simp only [List.length_drop, List.length_take]; rfl)) ?_; (with_reducible refine (op_Decode.calls k a0 a1 t214 t215 t216 t217 t218 _ A6.out).mono ?_); rintro e w17 ⟨rfl, hb⟩; refine ⟨_, rfl, ?_⟩; have n0_ := Aside0.mk (below_step (by repeat (first | (with_reducible first | exact HB.out | apply below_alloc | apply pw_below_drewN | apply below_drew1) | exact HB.out)) hb); clear HB; have HB := n0_; clear n0_; (try clear hb); (try clear hb2); (try clear hk); (try clear hi)) | ((with_reducible refine gate_dst (N := 5) rfl ?_); refine box_event ?hg (N := 5) ?hd (cs := #[.int .i64 0, .int .i64 0, .int .i64 0]) (t := 23) ?hr ?_; (case hd => rfl); (case hg => rfl); (case hr => first | (go_simp; done) | (go_simp; rfl)); intro gb219 hg w18 hbox hb; have n0_ := Aside0.mk (below_step (by repeat (first | (with_reducible first | exact HB.out | apply below_alloc | apply pw_below_drewN | apply below_drew1) | exact HB.out)) hb); have n1_ := Aside0.mk (hbox); have n2_ := Aside0.mk ((by rw [hg]; exact (below_size (by repeat (first | (with_reducible first | exact HB.out | apply below_alloc | apply pw_below_drewN | apply below_drew1) | exact HB.out))) : w.heap.size ≤ gb219)); have n3_ := Aside0.mk ((by rw [hg]; exact (below_size (by repeat (first | (with_reducible first | exact HB.out | apply below_alloc | apply pw_below_drewN | apply below_drew1) | exact HB.out))) : w.heap.size ≤ gb219)); clear HB; have HB := n0_; have BK219 := n1_; have GW219 := n2_; have GE219 := n3_; clear n0_ n1_ n2_ n3_; clear hb hbox hg; have hcz19_0 : w18.cell? ⟨gb219, 0, none⟩ = some (.int .i64 0) := (blk_cell BK219.out 0).trans rfl; have hcz19_1 : w18.cell? ⟨gb219, 1, none⟩ = some (.int .i64 0) := (blk_cell BK219.out 1).trans rfl; have hcz19_2 : w18.cell? ⟨gb219, 2, none⟩ = some (.int .i64 0) := (blk_cell BK219.out 2).trans rfl; have hfz19_0 := blk_frozen BK219.out 0; have hfz19_1 := blk_frozen BK219.out 1; have hfz19_2 := blk_frozen BK219.out 2) | ((with_reducible refine gate_callee (f := 20) rfl ?_); refine goesL_ (some 29) rfl rfl Try.func20 (by kernel_rfl) rfl #[.string a0, .int .i64 a1] rfl (by (try simp only [List.map_toArray, List.map_cons, List.map_nil]); first | done | rfl | (simp only [List.length_drop, List.length_take]; rfl)) ?_; (with_reducible refine (camshaftref04_Decode.calls k a0 a1 t220 t221 t222 t223 t224 _ A7.out).mono ?_); rintro e w20 ⟨rfl, hb⟩; refine ⟨_, rfl, ?_⟩; have n0_ := Aside0.mk (blk_below (g := gb219) (o := .cells #[.int .i64 t214, .int .i64 t215, .int .i64 t216] 23 (0, 0)) (by (with_reducible repeat (first | refine blk_drewN ?_ _ | refine blk_drew ?_ | refine blk_alloc ?_ _)); refine blk_put (cs := #[.int .i64 t214, .int .i64 t215, .int .i64 0]) ?_ 2 _ rfl; (with_reducible repeat (first | refine blk_drewN ?_ _ | refine blk_drew ?_ | refine blk_alloc ?_ _)); refine blk_put (cs := #[.int .i64 t214, .int .i64 0, .int .i64 0]) ?_ 1 _ rfl; (with_reducible repeat (first | refine blk_drewN ?_ _ | refine blk_drew ?_ | refine blk_alloc ?_ _)); refine blk_put (cs := #[.int .i64 0, .int .i64 0, .int .i64 0]) ?_ 0 _ rfl; (with_reducible repeat (first | refine blk_drewN ?_ _ | refine blk_drew ?_ | refine blk_alloc ?_ _)); exact BK219.out) hb); have n1_ := Aside0.mk (below_step (by repeat (first | (with_reducible first | exact HB.out | apply below_alloc | apply pw_below_drewN | apply below_drew1 | refine below_set ?_ GE219.out) | exact HB.out)) hb); clear BK219; clear HB; have BK219 := n0_; have HB := n1_; clear n0_ n1_; (try clear hb); (try clear hb2); (try clear hk); (try clear hi)) | ((with_reducible refine gate_dst (N := 8) rfl ?_); refine box_event ?hg (N := 8) ?hd (cs := #[.int .i64 0, .int .i64 0, .int .i64 0]) (t := 23) ?hr ?_; (case hd => rfl); (case hg => rfl); (case hr => first | (go_simp; done) | (go_simp; rfl)); intro gb225 hg w21 hbox hb; have n0_ := Aside0.mk (blk_below (g := gb219) (o := .cells #[.int .i64 t214, .int .i64 t215, .int .i64 t216] 23 (0, 0)) (by (with_reducible repeat (first | refine blk_drewN ?_ _ | refine blk_drew ?_ | refine blk_alloc ?_ _)); exact BK219.out) hb); have n1_ := Aside0.mk (below_step (by repeat (first | (with_reducible first | exact HB.out | apply below_alloc | apply pw_below_drewN | apply below_drew1 | refine below_set ?_ GE219.out) | exact HB.out)) hb); have n2_ := Aside0.mk (hbox); have n3_ := Aside0.mk ((by rw [hg]; exact (below_size (by repeat (first | (with_reducible first | exact HB.out | apply below_alloc | apply pw_below_drewN | apply below_drew1 | refine below_set ?_ GE219.out) | exact HB.out))) : w.heap.size ≤ gb225)); have n4_ := Aside0.mk ((by rw [hg]; exact (below_size (by repeat (first | (with_reducible first | exact HB.out | apply below_alloc | apply pw_below_drewN | apply below_drew1 | refine below_set ?_ GE219.out) | exact HB.out))) : w.heap.size ≤ gb225)); have n5_ := Aside0.mk ((by rw [hg]; exact Nat.ne_of_lt (blk_lt (g := gb219) (o := .cells #[.int .i64 t214, .int .i64 t215, .int .i64 t216] 23 (0, 0)) (by (with_reducible repeat (first | refine blk_drewN ?_ _ | refine blk_drew ?_ | refine blk_alloc ?_ _)); exact BK219.out)) : gb219 ≠ gb225)); have n6_ := Aside0.mk ((by rw [hg]; exact Nat.ne_of_gt (blk_lt (g := gb219) (o := .cells #[.int .i64 t214, .int .i64 t215, .int .i64 t216] 23 (0, 0)) (by (with_reducible repeat (first | refine blk_drewN ?_ _ | refine blk_drew ?_ | refine blk_alloc ?_ _)); exact BK219.out)) : gb225 ≠ gb219)); clear BK219; clear HB; have BK219 := n0_; have HB := n1_; have BK225 := n2_; have GW225 := n3_; have GE225 := n4_; have NB219_225 := n5_; have NB225_219 := n6_; clear n0_ n1_ n2_ n3_ n4_ n5_ n6_; clear hb hbox hg; have hnb22 := NB225_219.out; have hnc22 := NB219_225.out; have hcz23_0 : w21.cell? ⟨gb225, 0, none⟩ = some (.int .i64 0) := (blk_cell BK225.out 0).trans rfl; have hcz23_1 : w21.cell? ⟨gb225, 1, none⟩ = some (.int .i64 0) := (blk_cell BK225.out 1).trans rfl; have hcz23_2 : w21.cell? ⟨gb225, 2, none⟩ = some (.int .i64 0) := (blk_cell BK225.out 2).trans rfl; have hfz23_0 := blk_frozen BK225.out 0; have hfz23_1 := blk_frozen BK225.out 1; have hfz23_2 := blk_frozen BK225.out 2) | ((with_reducible refine gate_callee (f := 21) rfl ?_); refine goesL_ (some 35) rfl rfl Try.func21 (by kernel_rfl) rfl #[.string a0] rfl (by (try simp only [List.map_toArray, List.map_cons, List.map_nil]); first | done | rfl | (simp only [List.length_drop, List.length_take]; rfl)) ?_; (with_reducible refine (op_Read.calls k a0 t226 t227 _ A8.out).mono ?_); rintro e w24 ⟨v228, rfl, ho0, hb⟩; refine ⟨_, rfl, ?_⟩; have n0_ := Aside0.mk (Kd.R_lower (Kd.R_newB (Kd.R_newB ho0 (g := gb219) (o := .cells #[.int .i64 t214, .int .i64 t215, .int .i64 t216] 23 (0, 0)) (by (with_reducible repeat (first | refine blk_drewN ?_ _ | refine blk_drew ?_ | refine blk_alloc ?_ _)); refine blk_far ?_ NB219_225.out _; (with_reducible repeat (first | refine blk_drewN ?_ _ | refine blk_drew ?_ | refine blk_alloc ?_ _)); refine blk_far ?_ NB219_225.out _; (with_reducible repeat (first | refine blk_drewN ?_ _ | refine blk_drew ?_ | refine blk_alloc ?_ _)); refine blk_far ?_ NB219_225.out _; (with_reducible repeat (first | refine blk_drewN ?_ _ | refine blk_drew ?_ | refine blk_alloc ?_ _)); exact BK219.out)) (g := gb225) (o := .cells #[.int .i64 t220, .int .i64 t221, .int .i64 t222] 23 (0, 0)) (by (with_reducible repeat (first | refine blk_drewN ?_ _ | refine blk_drew ?_ | refine blk_alloc ?_ _)); refine blk_put (cs := #[.int .i64 t220, .int .i64 t221, .int .i64 0]) ?_ 2 _ rfl; (with_reducible repeat (first | refine blk_drewN ?_ _ | refine blk_drew ?_ | refine blk_alloc ?_ _)); refine blk_put (cs := #[.int .i64 t220, .int .i64 0, .int .i64 0]) ?_ 1 _ rfl; (with_reducible repeat (first | refine blk_drewN ?_ _ | refine blk_drew ?_ | refine blk_alloc ?_ _)); refine blk_put (cs := #[.int .i64 0, .int .i64 0, .int .i64 0]) ?_ 0 _ rfl; (with_reducible repeat (first | refine blk_drewN ?_ _ | refine blk_drew ?_ | refine blk_alloc ?_ _)); exact BK225.out)) (below_size (by repeat (first | (with_reducible first | exact HB.out | apply below_alloc | apply pw_below_drewN | apply below_drew1 | refine below_set ?_ GE219.out | refine below_set ?_ GE225.out) | exact HB.out)))); have n1_ := Aside0.mk (blk_below (g := gb219) (o := .cells #[.int .i64 t214, .int .i64 t215, .int .i64 t216] 23 (0, 0)) (by (with_reducible repeat (first | refine blk_drewN ?_ _ | refine blk_drew ?_ | refine blk_alloc ?_ _)); refine blk_far ?_ NB219_225.out _; (with_reducible repeat (first | refine blk_drewN ?_ _ | refine blk_drew ?_ | refine blk_alloc ?_ _)); refine blk_far ?_ NB219_225.out _; (with_reducible repeat (first | refine blk_drewN ?_ _ | refine blk_drew ?_ | refine blk_alloc ?_ _)); refine blk_far ?_ NB219_225.out _; (with_reducible repeat (first | refine blk_drewN ?_ _ | refine blk_drew ?_ | refine blk_alloc ?_ _)); exact BK219.out) hb); have n2_ := Aside0.mk (blk_below (g := gb225) (o := .cells #[.int .i64 t220, .int .i64 t221, .int .i64 t222] 23 (0, 0)) (by (with_reducible repeat (first | refine blk_drewN ?_ _ | refine blk_drew ?_ | refine blk_alloc ?_ _)); refine blk_put (cs := #[.int .i64 t220, .int .i64 t221, .int .i64 0]) ?_ 2 _ rfl; (with_reducible repeat (first | refine blk_drewN ?_ _ | refine blk_drew ?_ | refine blk_alloc ?_ _)); refine blk_put (cs := #[.int .i64 t220, .int .i64 0, .int .i64 0]) ?_ 1 _ rfl; (with_reducible repeat (first | refine blk_drewN ?_ _ | refine blk_drew ?_ | refine blk_alloc ?_ _)); refine blk_put (cs := #[.int .i64 0, .int .i64 0, .int .i64 0]) ?_ 0 _ rfl; (with_reducible repeat (first | refine blk_drewN ?_ _ | refine blk_drew ?_ | refine blk_alloc ?_ _)); exact BK225.out) hb); have n3_ := Aside0.mk (below_step (by repeat (first | (with_reducible first | exact HB.out | apply below_alloc | apply pw_below_drewN | apply below_drew1 | refine below_set ?_ GE219.out | refine below_set ?_ GE225.out) | exact HB.out)) hb); clear BK219; clear BK225; clear HB; have HO229 := n0_; have BK219 := n1_; have BK225 := n2_; have HB := n3_; clear n0_ n1_ n2_ n3_; (try clear hb); (try clear hb2); (try clear hk); (try clear hi); (try clear ho0)) | ((with_reducible refine gate_callee (f := 22) rfl ?_); refine goesL_ (some 40) rfl rfl Try.func22 (by kernel_rfl) rfl #[.string a0] rfl (by (try simp only [List.map_toArray, List.map_cons, List.map_nil]); first | done | rfl | (simp only [List.length_drop, List.length_take]; rfl)) ?_; (with_reducible refine (camshaftref04_Read.calls k a0 t230 t231 _ A9.out).mono ?_); rintro e w25 ⟨v232, rfl, ho0, hb⟩; refine ⟨_, rfl, ?_⟩; have n0_ := Aside0.mk (Kd.R_elder' (by (with_reducible repeat (first | apply Kd.R_alloc | apply Kd.R_drewN | apply Kd.R_drew)); exact HO229.out) (Kd.R_base ho0) hb); have n1_ := Aside0.mk (Kd.R_lower (Kd.R_newB (Kd.R_newB (Kd.R_new' ho0 (Kd.R_lt (by (with_reducible repeat (first | apply Kd.R_alloc | apply Kd.R_drewN | apply Kd.R_drew)); exact HO229.out))) (g := gb219) (o := .cells #[.int .i64 t214, .int .i64 t215, .int .i64 t216] 23 (0, 0)) (by (with_reducible repeat (first | refine blk_drewN ?_ _ | refine blk_drew ?_ | refine blk_alloc ?_ _)); exact BK219.out)) (g := gb225) (o := .cells #[.int .i64 t220, .int .i64 t221, .int .i64 t222] 23 (0, 0)) (by (with_reducible repeat (first | refine blk_drewN ?_ _ | refine blk_drew ?_ | refine blk_alloc ?_ _)); exact BK225.out)) (below_size (by repeat (first | (with_reducible first | exact HB.out | apply below_alloc | apply pw_below_drewN | apply below_drew1 | refine below_set ?_ GE219.out | refine below_set ?_ GE225.out) | exact HB.out)))); have n2_ := Aside0.mk (blk_below (g := gb219) (o := .cells #[.int .i64 t214, .int .i64 t215, .int .i64 t216] 23 (0, 0)) (by (with_reducible repeat (first | refine blk_drewN ?_ _ | refine blk_drew ?_ | refine blk_alloc ?_ _)); exact BK219.out) hb); have n3_ := Aside0.mk (blk_below (g := gb225) (o := .cells #[.int .i64 t220, .int .i64 t221, .int .i64 t222] 23 (0, 0)) (by (with_reducible repeat (first | refine blk_drewN ?_ _ | refine blk_drew ?_ | refine blk_alloc ?_ _)); exact BK225.out) hb); have n4_ := Aside0.mk (below_step (by repeat (first | (with_reducible first | exact HB.out | apply below_alloc | apply pw_below_drewN | apply below_drew1 | refine below_set ?_ GE219.out | refine below_set ?_ GE225.out) | exact HB.out)) hb); clear HO229; clear BK219; clear BK225; clear HB; have HO229 := n0_; have HO233 := n1_; have BK219 := n2_; have BK225 := n3_; have HB := n4_; clear n0_ n1_ n2_ n3_ n4_; (try clear hb); (try clear hb2); (try clear hk); (try clear hi); (try clear ho0); have hcz26_0 : w25.cell? ⟨gb219, 0, none⟩ = some (.int .i64 t214) := (blk_cell BK219.out 0).trans rfl; have hcz26_1 : w25.cell? ⟨gb219, 1, none⟩ = some (.int .i64 t215) := (blk_cell BK219.out 1).trans rfl; have hcz26_2 : w25.cell? ⟨gb219, 2, none⟩ = some (.int .i64 t216) := (blk_cell BK219.out 2).trans rfl; have hfz26_0 := blk_frozen BK219.out 0; have hfz26_1 := blk_frozen BK219.out 1; have hfz26_2 := blk_frozen BK219.out 2; have hcz27_0 : w25.cell? ⟨gb225, 0, none⟩ = some (.int .i64 t220) := (blk_cell BK225.out 0).trans rfl; have hcz27_1 : w25.cell? ⟨gb225, 1, none⟩ = some (.int .i64 t221) := (blk_cell BK225.out 1).trans rfl; have hcz27_2 : w25.cell? ⟨gb225, 2, none⟩ = some (.int .i64 t222) := (blk_cell BK225.out 2).trans rfl; have hfz27_0 := blk_frozen BK225.out 0; have hfz27_1 := blk_frozen BK225.out 1; have hfz27_2 := blk_frozen BK225.out 2; obtain ⟨Ao28, co28, eo28⟩ := Kd.R_slice HO229.out; subst eo28; obtain ⟨Ao29, co29, eo29⟩ := Kd.R_slice HO233.out; subst eo29) | ((with_reducible refine gate_callee (f := 23) rfl ?_); (with_reducible refine gate_dst (N := 59) rfl ?_); (refine gate_guard (by rfl) ?_; dsimp only); refine goesL_ (some 59) rfl rfl Try.func23 (by kernel_rfl) rfl #[.slice Ao28 t226.length co28, .slice Ao29 t230.length co29] rfl (by (try simp only [List.map_toArray, List.map_cons, List.map_nil]); first | done | rfl | (simp only [List.length_drop, List.length_take]; rfl)) ?_; (with_reducible refine (camshaftref04_Same.calls k _ _ t226 _ _ t230 true _ ?side1 ?side2 ?side3 ?side4 A13.out).mono ?_); (case side1 => repeat (first | exact (Kd.R_reads' HO229.out).2.2 | (with_reducible refine Kd.C_alloc ?_ _) | (with_reducible refine Kd.C_drewN ?_ _) | (with_reducible refine Kd.C_drew ?_))); (case side2 => exact (Kd.R_reads' HO229.out).2.1); (case side3 => repeat (first | exact (Kd.R_reads' HO233.out).2.2 | (with_reducible refine Kd.C_alloc ?_ _) | (with_reducible refine Kd.C_drewN ?_ _) | (with_reducible refine Kd.C_drew ?_))); (case side4 => exact (Kd.R_reads' HO233.out).2.1); rintro e w' ⟨rfl, ⟨nd, rfl⟩⟩; refine ⟨_, rfl, ?_⟩) | ((with_reducible refine gate_callee (f := 18) rfl ?_); (with_reducible refine gate_dst (N := 67) rfl ?_); (refine gate_guard (by rfl) ?_; dsimp only); refine goesL_ (some 67) rfl rfl Try.func18 (by kernel_rfl) rfl #[] rfl (by (try simp only [List.map_toArray, List.map_cons, List.map_nil]); first | done | rfl | (simp only [List.length_drop, List.length_take]; rfl)) ?_; (with_reducible refine (camshaftlaw04_known.calls k  t235 _ A16.out).mono ?_); rintro e w30 ⟨rfl, hb⟩; refine ⟨_, rfl, ?_⟩; have n0_ := Aside0.mk (Kd.R_below (by (with_reducible repeat (first | apply Kd.R_alloc | apply Kd.R_drewN | apply Kd.R_drew)); exact HO229.out) hb); have n1_ := Aside0.mk (Kd.R_below (by (with_reducible repeat (first | apply Kd.R_alloc | apply Kd.R_drewN | apply Kd.R_drew)); exact HO233.out) hb); have n2_ := Aside0.mk (blk_below (g := gb219) (o := .cells #[.int .i64 t214, .int .i64 t215, .int .i64 t216] 23 (0, 0)) (by (with_reducible repeat (first | refine blk_drewN ?_ _ | refine blk_drew ?_ | refine blk_alloc ?_ _)); exact BK219.out) hb); have n3_ := Aside0.mk (blk_below (g := gb225) (o := .cells #[.int .i64 t220, .int .i64 t221, .int .i64 t222] 23 (0, 0)) (by (with_reducible repeat (first | refine blk_drewN ?_ _ | refine blk_drew ?_ | refine blk_alloc ?_ _)); exact BK225.out) hb); have n4_ := Aside0.mk (below_step (by repeat (first | (with_reducible first | exact HB.out | apply below_alloc | apply pw_below_drewN | apply below_drew1 | refine below_set ?_ GE219.out | refine below_set ?_ GE225.out) | exact HB.out)) hb); clear HO229; clear HO233; clear BK219; clear BK225; clear HB; have HO229 := n0_; have HO233 := n1_; have BK219 := n2_; have BK225 := n3_; have HB := n4_; clear n0_ n1_ n2_ n3_ n4_; (try clear hb); (try clear hb2); (try clear hk); (try clear hi)))
              go_ret
              exact ⟨by first | rfl | (simp [errW_none, errW_some] <;> rfl) | (simp [*, errW_none, errW_some] <;> rfl), by repeat (first | (with_reducible first | exact HB.out | apply below_alloc | apply pw_below_drewN | apply below_drew1 | refine below_set ?_ GE219.out | refine below_set ?_ GE225.out) | exact HB.out | exact Below.refl _ _)⟩
            · rw [if_neg c15] at H
              have c15b0 : (t227 == t231) = false := beq_eq_false_iff_ne.mpr c15
              have c15b1 : (t227 != t231) = true := bne_iff_ne.mpr c15
              exact absurd ((Option.some.inj H).trans HT.out) (by decide)
          · replace c14 := Bool.eq_false_iff.mpr c14
            subst c14
            have H1 : (some false) = some r := by rw [if_neg (show ¬ (false = true) by decide)] at H; exact H
            clear H
            have H := H1
            clear H1
            exact absurd ((Option.some.inj H).trans HT.out) (by decide)
        · rw [if_neg c12] at H
          have c12b0 : (t218 == t224) = false := beq_eq_false_iff_ne.mpr c12
          have c12b1 : (t218 != t224) = true := bne_iff_ne.mpr c12
          exact absurd ((Option.some.inj H).trans HT.out) (by decide)
      · rw [if_neg c11] at H
        have c11b0 : (t217 == t223) = false := beq_eq_false_iff_ne.mpr c11
        have c11b1 : (t217 != t223) = true := bne_iff_ne.mpr c11
        exact absurd ((Option.some.inj H).trans HT.out) (by decide)
    · rw [if_neg c10] at H
      have c10b0 : (t214 == t220 && (t215 == t221 && (t216 == t222))) = false := by simpa using c10
      (try (have c10b1 : decide (t214 = t220 && (t215 == t221 && (t216 == t222))) = false := by simpa using c10))
      (try (have c10b2 : (t214 == t220 && (t215 == t221 && (t216 == t222))) = false := by simpa using c10))
      (try (have c10b3 : ¬ (t214 = t220 && (t215 == t221 && (t216 == t222))) := by simpa using c10))
      clear c10
      exact absurd ((Option.some.inj H).trans HT.out) (by decide)

/-- THE ONE PURE STATEMENT of camshaftlaw04_OpReads: yours. -/
def camshaftlaw04_OpReads.Pure : Prop := ∀ (a0 : ByteArray) (a1 : Int), a0.size ≤ 140737488351232 → (Lit.int .i64 a1).wf = true → ∃ k, camshaftlaw04_OpReads.f k a0 a1 = some true
theorem camshaftlaw04_OpReads.walk (P : camshaftlaw04_OpReads.Pure) (a0 : ByteArray) (a1 : Int) (w : World) (w0 : a0.size ≤ 140737488351232) (w1 : (Lit.int .i64 a1).wf = true) :
    Calls Try.prog 4 #[.string a0, .int .i64 a1] w fun e w' => e = .returned (.bool true) ∧ Below w.heap.size w w' := by
  obtain ⟨k, h⟩ := P a0 a1 w0 w1
  refine (camshaftlaw04_OpReads.calls k a0 a1 true w h rfl).mono ?_
  rintro e w' ⟨rfl, hd⟩
  exact ⟨rfl, hd⟩

end Go.Proofs.Ytnfoebbdmekbiaa.P
