-- Written by a program of this session (wip/tools: patched print) for this claim. Not trusted: Lean checks it.
import Derived.Test.YtljgllcllddcdaaPx0
import Derived.Test.YtljgllcllddcdaaPx4
import Derived.Test.YtljgllcllddcdaaPx5
import Derived.Test.YtljgllcllddcdaaPx6
import Derived.Test.YtljgllcllddcdaaPx7
namespace Go.Proofs.Ytljgllcllddcdaa.P
open Go.RowKit Go.Proofs.YtljgllcllddcdaaW.PrintWords Go.Proofs.YtljgllcllddcdaaW.PrintLast Go.Proofs.YtljgllcllddcdaaW.PrintMore
open List (setIfInBounds_toArray set_cons_zero set_cons_succ)
attribute [local go_sem] max2_int min2_int max_two min_two max_three min_three max_four min_four   -- for this text's walks alone
set_option linter.unusedVariables false
set_option linter.unusedSimpArgs false

/-! ### nest_Locks: function 15 -/
mutual
def nest_Locks.l0 : Nat → List (S32) → List Int → List Int → List Int → Bool → List (S32) → Int → Int → Option (List Int × Int)
 | 0, _, _, _, _, _, _, _, _ => none
 | k + 1, x0, x5, x7, x9, x10, x29, x30, x31 => if x31 < x30 then (if 0 ≤ x31 then (if x31 < (x29.length : Int) then (if ((rd_T32 x29 x31).f0) = 23 then (if x10 = true then (if x9.length < 17592186044416 then (some (([] : List Int), 11)) else (none)) else (if x31 < (x5.length : Int) then (if 0 ≤ ((rd_T32 x29 x31).f1) then (if (shr .i64 (rd x5 x31) ((rd_T32 x29 x31).f1)) = 0 then ((nest_looped.f k x0 x7 x31).bind fun t197 => (if x9.length < 17592186044416 then (if t197 = true then (some (([] : List Int), 11)) else (nest_Locks.l0 k x0 x5 x7 (x9 ++ [(rd_T32 x29 x31).f1]) x10 x29 x30 (wrap64 (x31 + 1)))) else (none))) else (if x9.length < 17592186044416 then (some (([] : List Int), 11)) else (none))) else (none)) else (none))) else (if ((rd_T32 x29 x31).f0) = 24 then (nest_Locks.l0 k x0 x5 x7 x9 true x29 x30 (wrap64 (x31 + 1))) else (if ((rd_T32 x29 x31).f0) = 17 then (nest_Locks.j1 k x0 x5 x7 x9 x10 x31 true x29 x30 x31 (((rd_T32 x29 x31).f0) == 17) ((rd_T32 x29 x31).f0) ((rd_T32 x29 x31).f1) ((rd_T32 x29 x31).f2)) else (nest_Locks.j1 k x0 x5 x7 x9 x10 x31 true x29 x30 x31 (((rd_T32 x29 x31).f0) == 18) ((rd_T32 x29 x31).f0) ((rd_T32 x29 x31).f1) ((rd_T32 x29 x31).f2))))) else (none)) else (none)) else (some (x9, 0))
def nest_Locks.j1 : Nat → List (S32) → List Int → List Int → List Int → Bool → Int → Bool → List (S32) → Int → Int → Bool → Int → Int → Int → Option (List Int × Int)
 | 0, _, _, _, _, _, _, _, _, _, _, _, _, _, _ => none
 | k + 1, x0, x5, x7, x9, x10, x11, x13, x29, x30, x31, x66, x193000, x193001, x193002 => if x66 = true then (if 0 ≤ x11 then (if x11 < (x5.length : Int) then (if 0 ≤ x193001 then (if ((Go.bits .and .i64 (shr .i64 (rd x5 x11) x193001) 1) = 1) then (nest_Locks.l0 k x0 x5 x7 x9 x10 x29 x30 (wrap64 (x31 + 1))) else (some (([] : List Int), 11))) else (none)) else (none)) else (none)) else (if x13 = true then (nest_Locks.l0 k x0 x5 x7 x9 x10 x29 x30 (wrap64 (x31 + 1))) else (some (([] : List Int), 11)))
end
def nest_Locks.f (k : Nat) (l0 : List (S32)) : Option (List Int × Int) := (nest_Whole.f k l0).bind fun t182 => (if t182 = 0 then ((nest_Held.f k l0).bind fun bt183 => ((nest_Home.f k l0).bind fun bt187 => (nest_Locks.l0 k l0 bt183.1 bt187.1 ([] : List Int) false l0 (l0.length : Int) 0))) else (some (([] : List Int), t182)))
theorem nest_Locks.mono_l : ∀ k, (∀ y0 y1 y2 y3 y4 y5 y6 y7, LeO (nest_Locks.l0 k y0 y1 y2 y3 y4 y5 y6 y7) (nest_Locks.l0 (k + 1) y0 y1 y2 y3 y4 y5 y6 y7)) ∧ (∀ y0 y1 y2 y3 y4 y5 y6 y7 y8 y9 y10 y11 y12 y13, LeO (nest_Locks.j1 k y0 y1 y2 y3 y4 y5 y6 y7 y8 y9 y10 y11 y12 y13) (nest_Locks.j1 (k + 1) y0 y1 y2 y3 y4 y5 y6 y7 y8 y9 y10 y11 y12 y13))
 | 0 => ⟨fun _ _ _ _ _ _ _ _ r h => by simp [nest_Locks.l0] at h, fun _ _ _ _ _ _ _ _ _ _ _ _ _ _ r h => by simp [nest_Locks.j1] at h⟩
 | k + 1 => by
  obtain ⟨ih0, ih1⟩ := nest_Locks.mono_l k
  refine ⟨?_, ?_⟩
  ·intro y0 y1 y2 y3 y4 y5 y6 y7
   unfold nest_Locks.l0
   repeat' first
   | (with_reducible exact ih0 _ _ _ _ _ _ _ _)
   | (with_reducible exact ih1 _ _ _ _ _ _ _ _ _ _ _ _ _ _)
   | (with_reducible exact nest_Held.mono _ _)
   | (with_reducible exact nest_Home.mono _ _)
   | (with_reducible exact nest_Whole.mono _ _)
   | (with_reducible exact nest_looped.mono _ _ _ _)
   | (with_reducible exact LeO.refl _)
   | (with_reducible exact LeO.none _)
   | (with_reducible refine LeO.ite ?_ ?_)
   | (with_reducible refine LeO.bind ?_ (fun _ => ?_))
   | exact ih0 _ _ _ _ _ _ _ _
   | exact ih1 _ _ _ _ _ _ _ _ _ _ _ _ _ _
   | exact nest_Held.mono _ _
   | exact nest_Home.mono _ _
   | exact nest_Whole.mono _ _
   | exact nest_looped.mono _ _ _ _
   | exact LeO.none _
   | refine LeO.ite ?_ ?_
   | refine LeO.bind ?_ (fun _ => ?_)
  ·intro y0 y1 y2 y3 y4 y5 y6 y7 y8 y9 y10 y11 y12 y13
   unfold nest_Locks.j1
   repeat' first
   | (with_reducible exact ih0 _ _ _ _ _ _ _ _)
   | (with_reducible exact ih1 _ _ _ _ _ _ _ _ _ _ _ _ _ _)
   | (with_reducible exact nest_Held.mono _ _)
   | (with_reducible exact nest_Home.mono _ _)
   | (with_reducible exact nest_Whole.mono _ _)
   | (with_reducible exact nest_looped.mono _ _ _ _)
   | (with_reducible exact LeO.refl _)
   | (with_reducible exact LeO.none _)
   | (with_reducible refine LeO.ite ?_ ?_)
   | (with_reducible refine LeO.bind ?_ (fun _ => ?_))
   | exact ih0 _ _ _ _ _ _ _ _
   | exact ih1 _ _ _ _ _ _ _ _ _ _ _ _ _ _
   | exact nest_Held.mono _ _
   | exact nest_Home.mono _ _
   | exact nest_Whole.mono _ _
   | exact nest_looped.mono _ _ _ _
   | exact LeO.none _
   | refine LeO.ite ?_ ?_
   | refine LeO.bind ?_ (fun _ => ?_)
theorem nest_Locks.mono : ∀ a0 k, LeO (nest_Locks.f k a0) (nest_Locks.f (k + 1) a0) := by
 intro a0 k
 obtain ⟨ih0, ih1⟩ := nest_Locks.mono_l k
 unfold nest_Locks.f
 repeat' first
   | (with_reducible exact ih0 _ _ _ _ _ _ _ _)
   | (with_reducible exact ih1 _ _ _ _ _ _ _ _ _ _ _ _ _ _)
   | (with_reducible exact nest_Held.mono _ _)
   | (with_reducible exact nest_Home.mono _ _)
   | (with_reducible exact nest_Whole.mono _ _)
   | (with_reducible exact nest_looped.mono _ _ _ _)
   | (with_reducible exact LeO.refl _)
   | (with_reducible exact LeO.none _)
   | (with_reducible refine LeO.ite ?_ ?_)
   | (with_reducible refine LeO.bind ?_ (fun _ => ?_))
   | exact ih0 _ _ _ _ _ _ _ _
   | exact ih1 _ _ _ _ _ _ _ _ _ _ _ _ _ _
   | exact nest_Held.mono _ _
   | exact nest_Home.mono _ _
   | exact nest_Whole.mono _ _
   | exact nest_looped.mono _ _ _ _
   | exact LeO.none _
   | refine LeO.ite ?_ ?_
   | refine LeO.bind ?_ (fun _ => ?_)
set_option maxHeartbeats 8000000 in
set_option maxRecDepth 100000 in
theorem nest_Locks.calls (k : Nat) (A0 : Option Addr) (c0 : Nat) (l0 : List (S32)) (r1 : List Int) (r2 : Int) (w : World) (hr0 : Kd.C k32 w A0 l0.length l0) (hc0 : l0.length ≤ c0) (h : nest_Locks.f k l0 = some (r1, r2)) :
  Calls Try.prog 15 #[.slice A0 l0.length c0] w fun e w' => ∃ v0_ : Value, e = .returned (.tuple #[v0_, .int .i64 r2]) ∧ Kd.R (Kd.int .i64) 3 w' w.heap.size (fun _ => True) v0_ r1 ∧ Below w.heap.size w w' := by
 have hu32 := Try.underlying32
 have HR0 := Aside0.mk hr0
 have HC0 := Aside0.mk hc0
 clear hr0 hc0
 have HB := Aside0.mk (Below.refl w.heap.size w)
 have H : ((nest_Whole.f k l0).bind fun t182 => (if t182 = 0 then ((nest_Held.f k l0).bind fun bt183 => ((nest_Home.f k l0).bind fun bt187 => (nest_Locks.l0 k l0 bt183.1 bt187.1 ([] : List Int) false l0 (l0.length : Int) 0))) else (some (([] : List Int), t182)))) = some (r1, r2) := h
 clear h
 replace H := Option.bind_eq_some_iff.mp H
 obtain ⟨t182, A20, H⟩ := H
 replace H : (if t182 = 0 then ((nest_Held.f k l0).bind fun bt183 => ((nest_Home.f k l0).bind fun bt187 => (nest_Locks.l0 k l0 bt183.1 bt187.1 ([] : List Int) false l0 (l0.length : Int) 0))) else (some (([] : List Int), t182))) = some (r1, r2) := H
 have A2 := Aside0.mk A20
 clear A20
 by_cases c3 : t182 = 0
 rotate_left
 ·rw [if_neg c3] at H
  have c3b0 : (t182 == 0) = false := beq_eq_false_iff_ne.mpr c3
  have c3b1 : (t182 != 0) = true := bne_iff_ne.mpr c3
  simp only [Option.some.injEq, Prod.mk.injEq] at H
  obtain ⟨rfl, rfl⟩ := H
  go_enter Try.func15, Try.ntmps15
  go_wp2_with (first | (go_at_call 20; (with_reducible refine (nest_Whole.calls k _ _ l0 t182 _ ?side1 ?side2 A2.out).mono ?_); (case side1 => repeat (first | exact HR0.out | (with_reducible refine Kd.C_alloc ?_ _) | (with_reducible refine Kd.C_drewN ?_ _) | (with_reducible refine Kd.C_drew ?_))); (case side2 => exact HC0.out); rintro e w58 ⟨rfl, hb⟩; have n0_ := Aside0.mk (below_step (by repeat (first | (with_reducible first | exact HB.out | apply below_alloc | apply pw_below_drewN | apply below_drew1) | exact HB.out)) hb); clear HB; have HB := n0_; clear n0_; (try clear hb); (try clear hb2); (try clear hk); (try clear hi)))
  repeat (go_quiet (fail); try go_wp2)
  go_ret2
  exact ⟨_, by first | rfl | (simp [errW_none, errW_some] <;> rfl) | (simp [*, errW_none, errW_some] <;> rfl), by first | exact Kd.R_nil _ _ _ _ _ | exact Kd.N_nil _ _ _ _ _ | exact Kd.V_nil _ _ _ _ _ | exact Kd.Q_nil _ _ _ _ _ | exact Kd.S_nil _ _ _ _ _, by repeat (first | (with_reducible first | exact HB.out | apply below_alloc | apply pw_below_drewN | apply below_drew1) | exact HB.out | exact Below.refl _ _)⟩
 rw [if_pos c3] at H
 have c3b0 : (t182 == 0) = true := beq_iff_eq.mpr c3
 have c3b1 : (t182 != 0) = false := bne_eq_false_iff_eq.mpr c3
 clear c3
 replace H := Option.bind_eq_some_iff.mp H
 obtain ⟨⟨t183, t184⟩, A40, H⟩ := H
 replace H : ((nest_Home.f k l0).bind fun bt187 => (nest_Locks.l0 k l0 t183 bt187.1 ([] : List Int) false l0 (l0.length : Int) 0)) = some (r1, r2) := H
 have A4 := Aside0.mk A40
 clear A40
 replace H := Option.bind_eq_some_iff.mp H
 obtain ⟨⟨t187, t188⟩, A50, H⟩ := H
 replace H : (nest_Locks.l0 k l0 t183 t187 ([] : List Int) false l0 (l0.length : Int) 0) = some (r1, r2) := H
 have A5 := Aside0.mk A50
 clear A50
 have H' := Aside0.mk H
 clear H
 go_enter Try.func15, Try.ntmps15
 go_wp2_with (first | (go_at_call 20; (with_reducible refine (nest_Whole.calls k _ _ l0 t182 _ ?side1 ?side2 A2.out).mono ?_); (case side1 => repeat (first | exact HR0.out | (with_reducible refine Kd.C_alloc ?_ _) | (with_reducible refine Kd.C_drewN ?_ _) | (with_reducible refine Kd.C_drew ?_))); (case side2 => exact HC0.out); rintro e w6 ⟨rfl, hb⟩; have n0_ := Aside0.mk (below_step (by repeat (first | (with_reducible first | exact HB.out | apply below_alloc | apply pw_below_drewN | apply below_drew1) | exact HB.out)) hb); clear HB; have HB := n0_; clear n0_; (try clear hb); (try clear hb2); (try clear hk); (try clear hi)) | (go_at_call 17; (with_reducible refine (nest_Held.calls k _ _ l0 t183 t184 _ ?side1 ?side2 A4.out).mono ?_); (case side1 => repeat (first | exact (Kd.C_below HR0.out HB.out) | (with_reducible refine Kd.C_alloc ?_ _) | (with_reducible refine Kd.C_drewN ?_ _) | (with_reducible refine Kd.C_drew ?_))); (case side2 => exact HC0.out); rintro e w7 ⟨v185, rfl, ho0, hb⟩; have n0_ := Aside0.mk (Kd.R_lower ho0 (below_size (by repeat (first | (with_reducible first | exact HB.out | apply below_alloc | apply pw_below_drewN | apply below_drew1) | exact HB.out)))); have n1_ := Aside0.mk (below_step (by repeat (first | (with_reducible first | exact HB.out | apply below_alloc | apply pw_below_drewN | apply below_drew1) | exact HB.out)) hb); clear HB; have HO186 := n0_; have HB := n1_; clear n0_ n1_; (try clear hb); (try clear hb2); (try clear hk); (try clear hi); (try clear ho0)) | (go_at_call 13; (with_reducible refine (nest_Home.calls k _ _ l0 t187 t188 _ ?side1 ?side2 A5.out).mono ?_); (case side1 => repeat (first | exact (Kd.C_below HR0.out HB.out) | (with_reducible refine Kd.C_alloc ?_ _) | (with_reducible refine Kd.C_drewN ?_ _) | (with_reducible refine Kd.C_drew ?_))); (case side2 => exact HC0.out); rintro e w8 ⟨v189, rfl, ho0, hb⟩; have n0_ := Aside0.mk (Kd.R_elder' (by (with_reducible repeat (first | apply Kd.R_alloc | apply Kd.R_drewN | apply Kd.R_drew)); exact HO186.out) (Kd.R_base ho0) hb); have n1_ := Aside0.mk (Kd.R_lower (Kd.R_new' ho0 (Kd.R_lt (by (with_reducible repeat (first | apply Kd.R_alloc | apply Kd.R_drewN | apply Kd.R_drew)); exact HO186.out))) (below_size (by repeat (first | (with_reducible first | exact HB.out | apply below_alloc | apply pw_below_drewN | apply below_drew1) | exact HB.out)))); have n2_ := Aside0.mk (below_step (by repeat (first | (with_reducible first | exact HB.out | apply below_alloc | apply pw_below_drewN | apply below_drew1) | exact HB.out)) hb); clear HO186; clear HB; have HO186 := n0_; have HO190 := n1_; have HB := n2_; clear n0_ n1_ n2_; (try clear hb); (try clear hb2); (try clear hk); (try clear hi); (try clear ho0)))
 repeat (go_quiet (fail); try go_wp2)
 go_loopg [9, 10, 31] k (fun kq v9 v10 v31 w' => ∃ (x9_1 : List Int) (x10_1 : Bool) (x31_1 : Int), v10 = .bool x10_1 ∧ v31 = .int .i64 x31_1 ∧ Aside0 (nest_Locks.l0 kq l0 t183 t187 x9_1 x10_1 l0 (l0.length : Int) x31_1 = some (r1, r2)) ∧ Aside0 (kq ≤ k) ∧ Aside0 (Kd.R (Kd.int .i64) 3 w' w.heap.size (fun k_ => some k_ ≠ (v189 : Value).ownBlock ∧ some k_ ≠ (v9 : Value).ownBlock) v185 t183) ∧ Aside0 (Kd.R (Kd.int .i64) 3 w' w.heap.size (fun k_ => some k_ ≠ (v185 : Value).ownBlock ∧ some k_ ≠ (v9 : Value).ownBlock) v189 t187) ∧ Aside0 (Kd.R (Kd.int .i64) 3 w' w.heap.size (fun k_ => some k_ ≠ (v185 : Value).ownBlock ∧ some k_ ≠ (v189 : Value).ownBlock) v9 x9_1) ∧ Aside0 (Below w.heap.size w w'))
 case atStart => exact ⟨(([] : List Int)), (false), (0), (by first | rfl | (simp; done) | (simp [*]; done)), (by first | rfl | (simp; done) | (simp [*]; done)), H', ⟨Nat.le_refl _⟩, ⟨by (with_reducible repeat (first | apply Kd.R_alloc | apply Kd.R_drewN | apply Kd.R_drew)); exact Kd.R_mono HO186.out (fun _ hk => ⟨hk.2, (by simp [Value.ownBlock])⟩)⟩, ⟨by (with_reducible repeat (first | apply Kd.R_alloc | apply Kd.R_drewN | apply Kd.R_drew)); exact Kd.R_mono HO190.out (fun _ hk => ⟨hk.2, (by simp [Value.ownBlock])⟩)⟩, ⟨by first | exact Kd.R_nil _ _ _ _ _ | exact Kd.N_nil _ _ _ _ _ | exact Kd.V_nil _ _ _ _ _ | exact Kd.Q_nil _ _ _ _ _ | exact Kd.S_nil _ _ _ _ _⟩, ⟨by repeat (first | (with_reducible first | exact HB.out | apply below_alloc | apply pw_below_drewN | apply below_drew1) | exact HB.out)⟩⟩
 case round =>
  clear H'
  try clear c1
  try clear p2
  try clear c3
  try clear c3b0
  try clear c3b1
  obtain ⟨x9_1, x10_1, x31_1, rfl, rfl, HA, HK1, HO_5, HO_7, HO_9, HB⟩ := hrel
  cases gk with
  | zero => exact absurd HA.out (by simp [nest_Locks.l0])
  | succ k1 =>
   have H := HA.out
   clear HA
   simp only [nest_Locks.l0] at H
   by_cases c9 : x31_1 < (l0.length : Int)
   rotate_left
   ·rw [if_neg c9] at H
    have c9b0 : decide (x31_1 < (l0.length : Int)) = false := decide_eq_false c9
    clear c9
    simp only [Option.some.injEq, Prod.mk.injEq] at H
    obtain ⟨rfl, rfl⟩ := H
    go_wp2
    repeat (go_quiet (fail); try go_wp2)
    go_ret2
    exact ⟨_, by first | rfl | (simp [errW_none, errW_some] <;> rfl) | (simp [*, errW_none, errW_some] <;> rfl), by (with_reducible repeat (first | apply Kd.R_alloc | apply Kd.R_drewN | apply Kd.R_drew)); exact Kd.R_mono HO_9.out (fun _ hk => trivial), by repeat (first | (with_reducible first | exact HB.out | apply below_alloc | apply pw_below_drewN | apply below_drew1) | exact HB.out | exact Below.refl _ _)⟩
   rw [if_pos c9] at H
   have c9b0 : decide (x31_1 < (l0.length : Int)) = true := decide_eq_true c9
   clear c9
   by_cases c10 : 0 ≤ x31_1
   rotate_left
   ·rw [if_neg c10] at H
    exact absurd H (by simp)
   rw [if_pos c10] at H
   have c10b0 : decide (0 ≤ x31_1) = true := decide_eq_true c10
   clear c10
   by_cases c11 : x31_1 < (l0.length : Int)
   rotate_left
   ·rw [if_neg c11] at H
    exact absurd H (by simp)
   rw [if_pos c11] at H
   have c11b0 : decide (x31_1 < (l0.length : Int)) = true := decide_eq_true c11
   clear c11
   by_cases c12 : ((rd_T32 l0 x31_1).f0) = 23
   rotate_left
   ·rw [if_neg c12] at H
    have c12b0 : (((rd_T32 l0 x31_1).f0) == 23) = false := beq_eq_false_iff_ne.mpr c12
    have c12b1 : (((rd_T32 l0 x31_1).f0) != 23) = true := bne_iff_ne.mpr c12
    by_cases c40 : ((rd_T32 l0 x31_1).f0) = 24
    ·rw [if_pos c40] at H
     have c40b0 : (((rd_T32 l0 x31_1).f0) == 24) = true := beq_iff_eq.mpr c40
     have c40b1 : (((rd_T32 l0 x31_1).f0) != 24) = false := bne_eq_false_iff_eq.mpr c40
     clear c40
     have H' := Aside0.mk H
     clear H
     have p191 : 0 ≤ (x31_1 : Int) := of_decide_eq_true (by first | (with_reducible assumption) | assumption)
     have q191 : x31_1 < (l0.length : Int) := of_decide_eq_true (by first | (with_reducible assumption) | assumption)
     obtain ⟨ad191, e191, hx191_0, hx191_1, hx191_2⟩ := at_T32 HR0.out x31_1 p191 q191
     cases e191
     replace hx191_0 := (HB.out.cell (World.block_lt_of_cell? w _ hx191_0)).trans hx191_0
     replace hx191_1 := (HB.out.cell (World.block_lt_of_cell? w _ hx191_1)).trans hx191_1
     replace hx191_2 := (HB.out.cell (World.block_lt_of_cell? w _ hx191_2)).trans hx191_2
     replace p191 := eq_true p191
     replace q191 := eq_true q191
     go_wp2_with (first | ((with_reducible refine gate_dst (N := 12) rfl ?_); refine box_event ?hg (N := 12) ?hd (cs := #[.int .i64 0, .int .i64 0, .int .i64 0]) (t := 32) ?hr ?_; (case hd => rfl); (case hg => rfl); (case hr => first | (go_simp; done) | (go_simp; rfl)); intro gb192 hg w41 hbox hb; have n0_ := Aside0.mk (Kd.R_below (by (with_reducible repeat (first | apply Kd.R_alloc | apply Kd.R_drewN | apply Kd.R_drew)); exact HO_5.out) hb); have n1_ := Aside0.mk (Kd.R_below (by (with_reducible repeat (first | apply Kd.R_alloc | apply Kd.R_drewN | apply Kd.R_drew)); exact HO_7.out) hb); have n2_ := Aside0.mk (Kd.R_below (by (with_reducible repeat (first | apply Kd.R_alloc | apply Kd.R_drewN | apply Kd.R_drew)); exact HO_9.out) hb); have n3_ := Aside0.mk (below_step (by repeat (first | (with_reducible first | exact HB.out | apply below_alloc | apply pw_below_drewN | apply below_drew1) | exact HB.out)) hb); have n4_ := Aside0.mk (hbox); have n5_ := Aside0.mk ((by rw [hg]; exact (below_size (by repeat (first | (with_reducible first | exact HB.out | apply below_alloc | apply pw_below_drewN | apply below_drew1) | exact HB.out))) : w.heap.size ≤ gb192)); have n6_ := Aside0.mk ((by rw [hg]; exact (below_size (by repeat (first | (with_reducible first | exact HB.out | apply below_alloc | apply pw_below_drewN | apply below_drew1) | exact HB.out))) : w.heap.size ≤ gb192)); clear HO_5; clear HO_7; clear HO_9; clear HB; have HO_5 := n0_; have HO_7 := n1_; have HO_9 := n2_; have HB := n3_; have BK192 := n4_; have GW192 := n5_; have GE192 := n6_; clear n0_ n1_ n2_ n3_ n4_ n5_ n6_; clear hb hbox hg; have hcz42_0 : w41.cell? ⟨gb192, 0, none⟩ = some (.int .i64 0) := (blk_cell BK192.out 0).trans rfl; have hcz42_1 : w41.cell? ⟨gb192, 1, none⟩ = some (.int .i64 0) := (blk_cell BK192.out 1).trans rfl; have hcz42_2 : w41.cell? ⟨gb192, 2, none⟩ = some (.int .i64 0) := (blk_cell BK192.out 2).trans rfl; have hfz42_0 := blk_frozen BK192.out 0; have hfz42_1 := blk_frozen BK192.out 1; have hfz42_2 := blk_frozen BK192.out 2))
     repeat (go_quiet (fail); try go_wp2)
     go_roundg k1
     case measure => have := HK1.out; omega
     case rel => exact ⟨(x9_1), (true), (wrap64 (x31_1 + 1)), (by first | rfl | (simp; done) | (simp [*]; done)), (by first | rfl | (simp; done) | (simp [*]; done)), H', ⟨by have := HK1.out; omega⟩, ⟨by (with_reducible repeat (first | apply Kd.R_alloc | apply Kd.R_drewN | apply Kd.R_drew)); exact Kd.R_mono (Kd.R_far (p := ⟨gb192, 2, none⟩) (Kd.R_far (p := ⟨gb192, 1, none⟩) (Kd.R_far (p := ⟨gb192, 0, none⟩) (Kd.R_types HO_5.out BK192.out (by decide)) (fun _ hk => hk.2) (.int .i64 ((rd_T32 l0 x31_1).f0))) (fun _ hk => hk.2) (.int .i64 ((rd_T32 l0 x31_1).f1))) (fun _ hk => hk.2) (.int .i64 ((rd_T32 l0 x31_1).f2))) (fun _ hk => ⟨hk.1.1, hk.1.2⟩)⟩, ⟨by (with_reducible repeat (first | apply Kd.R_alloc | apply Kd.R_drewN | apply Kd.R_drew)); exact Kd.R_mono (Kd.R_far (p := ⟨gb192, 2, none⟩) (Kd.R_far (p := ⟨gb192, 1, none⟩) (Kd.R_far (p := ⟨gb192, 0, none⟩) (Kd.R_types HO_7.out BK192.out (by decide)) (fun _ hk => hk.2) (.int .i64 ((rd_T32 l0 x31_1).f0))) (fun _ hk => hk.2) (.int .i64 ((rd_T32 l0 x31_1).f1))) (fun _ hk => hk.2) (.int .i64 ((rd_T32 l0 x31_1).f2))) (fun _ hk => ⟨hk.1.1, hk.1.2⟩)⟩, ⟨by (with_reducible repeat (first | apply Kd.R_alloc | apply Kd.R_drewN | apply Kd.R_drew)); exact Kd.R_mono (Kd.R_far (p := ⟨gb192, 2, none⟩) (Kd.R_far (p := ⟨gb192, 1, none⟩) (Kd.R_far (p := ⟨gb192, 0, none⟩) (Kd.R_types HO_9.out BK192.out (by decide)) (fun _ hk => hk.2) (.int .i64 ((rd_T32 l0 x31_1).f0))) (fun _ hk => hk.2) (.int .i64 ((rd_T32 l0 x31_1).f1))) (fun _ hk => hk.2) (.int .i64 ((rd_T32 l0 x31_1).f2))) (fun _ hk => ⟨hk.1.1, hk.1.2⟩)⟩, ⟨by repeat (first | (with_reducible first | exact HB.out | apply below_alloc | apply pw_below_drewN | apply below_drew1 | refine below_set ?_ GE192.out) | exact HB.out | exact Below.refl _ _)⟩⟩
    rw [if_neg c40] at H
    have c40b0 : (((rd_T32 l0 x31_1).f0) == 24) = false := beq_eq_false_iff_ne.mpr c40
    have c40b1 : (((rd_T32 l0 x31_1).f0) != 24) = true := bne_iff_ne.mpr c40
    have HC43 := Aside0.mk H
    clear H
    have p191 : 0 ≤ (x31_1 : Int) := of_decide_eq_true (by first | (with_reducible assumption) | assumption)
    have q191 : x31_1 < (l0.length : Int) := of_decide_eq_true (by first | (with_reducible assumption) | assumption)
    obtain ⟨ad191, e191, hx191_0, hx191_1, hx191_2⟩ := at_T32 HR0.out x31_1 p191 q191
    cases e191
    replace hx191_0 := (HB.out.cell (World.block_lt_of_cell? w _ hx191_0)).trans hx191_0
    replace hx191_1 := (HB.out.cell (World.block_lt_of_cell? w _ hx191_1)).trans hx191_1
    replace hx191_2 := (HB.out.cell (World.block_lt_of_cell? w _ hx191_2)).trans hx191_2
    replace p191 := eq_true p191
    replace q191 := eq_true q191
    go_upto_if 66 with (first | ((with_reducible refine gate_dst (N := 12) rfl ?_); refine box_event ?hg (N := 12) ?hd (cs := #[.int .i64 0, .int .i64 0, .int .i64 0]) (t := 32) ?hr ?_; (case hd => rfl); (case hg => rfl); (case hr => first | (go_simp; done) | (go_simp; rfl)); intro gb192 hg w44 hbox hb; have n0_ := Aside0.mk (Kd.R_below (by (with_reducible repeat (first | apply Kd.R_alloc | apply Kd.R_drewN | apply Kd.R_drew)); exact HO_5.out) hb); have n1_ := Aside0.mk (Kd.R_below (by (with_reducible repeat (first | apply Kd.R_alloc | apply Kd.R_drewN | apply Kd.R_drew)); exact HO_7.out) hb); have n2_ := Aside0.mk (Kd.R_below (by (with_reducible repeat (first | apply Kd.R_alloc | apply Kd.R_drewN | apply Kd.R_drew)); exact HO_9.out) hb); have n3_ := Aside0.mk (below_step (by repeat (first | (with_reducible first | exact HB.out | apply below_alloc | apply pw_below_drewN | apply below_drew1) | exact HB.out)) hb); have n4_ := Aside0.mk (hbox); have n5_ := Aside0.mk ((by rw [hg]; exact (below_size (by repeat (first | (with_reducible first | exact HB.out | apply below_alloc | apply pw_below_drewN | apply below_drew1) | exact HB.out))) : w.heap.size ≤ gb192)); have n6_ := Aside0.mk ((by rw [hg]; exact (below_size (by repeat (first | (with_reducible first | exact HB.out | apply below_alloc | apply pw_below_drewN | apply below_drew1) | exact HB.out))) : w.heap.size ≤ gb192)); clear HO_5; clear HO_7; clear HO_9; clear HB; have HO_5 := n0_; have HO_7 := n1_; have HO_9 := n2_; have HB := n3_; have BK192 := n4_; have GW192 := n5_; have GE192 := n6_; clear n0_ n1_ n2_ n3_ n4_ n5_ n6_; clear hb hbox hg; have hcz45_0 : w44.cell? ⟨gb192, 0, none⟩ = some (.int .i64 0) := (blk_cell BK192.out 0).trans rfl; have hcz45_1 : w44.cell? ⟨gb192, 1, none⟩ = some (.int .i64 0) := (blk_cell BK192.out 1).trans rfl; have hcz45_2 : w44.cell? ⟨gb192, 2, none⟩ = some (.int .i64 0) := (blk_cell BK192.out 2).trans rfl; have hfz45_0 := blk_frozen BK192.out 0; have hfz45_1 := blk_frozen BK192.out 1; have hfz45_2 := blk_frozen BK192.out 2))
    repeat (go_quiet (fail); go_upto_if 66 with (first | ((with_reducible refine gate_dst (N := 12) rfl ?_); refine box_event ?hg (N := 12) ?hd (cs := #[.int .i64 0, .int .i64 0, .int .i64 0]) (t := 32) ?hr ?_; (case hd => rfl); (case hg => rfl); (case hr => first | (go_simp; done) | (go_simp; rfl)); intro gb192 hg w44 hbox hb; have n0_ := Aside0.mk (Kd.R_below (by (with_reducible repeat (first | apply Kd.R_alloc | apply Kd.R_drewN | apply Kd.R_drew)); exact HO_5.out) hb); have n1_ := Aside0.mk (Kd.R_below (by (with_reducible repeat (first | apply Kd.R_alloc | apply Kd.R_drewN | apply Kd.R_drew)); exact HO_7.out) hb); have n2_ := Aside0.mk (Kd.R_below (by (with_reducible repeat (first | apply Kd.R_alloc | apply Kd.R_drewN | apply Kd.R_drew)); exact HO_9.out) hb); have n3_ := Aside0.mk (below_step (by repeat (first | (with_reducible first | exact HB.out | apply below_alloc | apply pw_below_drewN | apply below_drew1) | exact HB.out)) hb); have n4_ := Aside0.mk (hbox); have n5_ := Aside0.mk ((by rw [hg]; exact (below_size (by repeat (first | (with_reducible first | exact HB.out | apply below_alloc | apply pw_below_drewN | apply below_drew1) | exact HB.out))) : w.heap.size ≤ gb192)); have n6_ := Aside0.mk ((by rw [hg]; exact (below_size (by repeat (first | (with_reducible first | exact HB.out | apply below_alloc | apply pw_below_drewN | apply below_drew1) | exact HB.out))) : w.heap.size ≤ gb192)); clear HO_5; clear HO_7; clear HO_9; clear HB; have HO_5 := n0_; have HO_7 := n1_; have HO_9 := n2_; have HB := n3_; have BK192 := n4_; have GW192 := n5_; have GE192 := n6_; clear n0_ n1_ n2_ n3_ n4_ n5_ n6_; clear hb hbox hg; have hcz45_0 : w44.cell? ⟨gb192, 0, none⟩ = some (.int .i64 0) := (blk_cell BK192.out 0).trans rfl; have hcz45_1 : w44.cell? ⟨gb192, 1, none⟩ = some (.int .i64 0) := (blk_cell BK192.out 1).trans rfl; have hcz45_2 : w44.cell? ⟨gb192, 2, none⟩ = some (.int .i64 0) := (blk_cell BK192.out 2).trans rfl; have hfz45_0 := blk_frozen BK192.out 0; have hfz45_1 := blk_frozen BK192.out 1; have hfz45_2 := blk_frozen BK192.out 2)))
    (try simp only [Act.put, setIfInBounds_toArray,set_cons_zero,set_cons_succ])
    go_cut [66] (fun v66 wc => ∃ (kq : Nat) (x66_42 : Bool), v66 = .bool x66_42 ∧ Aside0 (nest_Locks.j1 kq l0 t183 t187 x9_1 x10_1 x31_1 true l0 (l0.length : Int) x31_1 x66_42 ((rd_T32 l0 x31_1).f0) ((rd_T32 l0 x31_1).f1) ((rd_T32 l0 x31_1).f2) = some (r1, r2)) ∧ Aside0 (kq ≤ k1) ∧ Aside0 (Kd.R (Kd.int .i64) 3 wc w.heap.size (fun k_ => some k_ ≠ (v189 : Value).ownBlock ∧ some k_ ≠ (u9 : Value).ownBlock) v185 t183) ∧ Aside0 (Kd.R (Kd.int .i64) 3 wc w.heap.size (fun k_ => some k_ ≠ (v185 : Value).ownBlock ∧ some k_ ≠ (u9 : Value).ownBlock) v189 t187) ∧ Aside0 (Kd.R (Kd.int .i64) 3 wc w.heap.size (fun k_ => some k_ ≠ (v185 : Value).ownBlock ∧ some k_ ≠ (v189 : Value).ownBlock) u9 x9_1) ∧ Aside0 (wc.heap[gb192]? = some (.cells #[.int .i64 ((rd_T32 l0 x31_1).f0), .int .i64 ((rd_T32 l0 x31_1).f1), .int .i64 ((rd_T32 l0 x31_1).f2)] 32 (0, 0))) ∧ Aside0 (Below w.heap.size w wc))
    case first =>
     have H := HC43.out
     clear HC43
     by_cases c46 : ((rd_T32 l0 x31_1).f0) = 17
     rotate_left
     ·rw [if_neg c46] at H
      have c46b0 : (((rd_T32 l0 x31_1).f0) == 17) = false := beq_eq_false_iff_ne.mpr c46
      have c46b1 : (((rd_T32 l0 x31_1).f0) != 17) = true := bne_iff_ne.mpr c46
      (first | rw [c46b0] | (simp only [i64_w, i32_w]; rw [c46b0]) | rw [c46b1] | skip)
      have H' := Aside0.mk H
      clear H
      go_wp2
      repeat (go_quiet (fail); try go_wp2)
      go_meet
      case rel => exact ⟨_, ((((rd_T32 l0 x31_1).f0) == 18)), (by first | rfl | (simp; done) | (simp [*]; done)), H', ⟨by have := HK1.out; first | omega | exact Nat.le_refl _⟩, ⟨by (with_reducible repeat (first | apply Kd.R_alloc | apply Kd.R_drewN | apply Kd.R_drew)); exact Kd.R_mono (Kd.R_far (p := ⟨gb192, 2, none⟩) (Kd.R_far (p := ⟨gb192, 1, none⟩) (Kd.R_far (p := ⟨gb192, 0, none⟩) (Kd.R_types HO_5.out BK192.out (by decide)) (fun _ hk => hk.2) (.int .i64 ((rd_T32 l0 x31_1).f0))) (fun _ hk => hk.2) (.int .i64 ((rd_T32 l0 x31_1).f1))) (fun _ hk => hk.2) (.int .i64 ((rd_T32 l0 x31_1).f2))) (fun _ hk => ⟨hk.1.1, hk.1.2⟩)⟩, ⟨by (with_reducible repeat (first | apply Kd.R_alloc | apply Kd.R_drewN | apply Kd.R_drew)); exact Kd.R_mono (Kd.R_far (p := ⟨gb192, 2, none⟩) (Kd.R_far (p := ⟨gb192, 1, none⟩) (Kd.R_far (p := ⟨gb192, 0, none⟩) (Kd.R_types HO_7.out BK192.out (by decide)) (fun _ hk => hk.2) (.int .i64 ((rd_T32 l0 x31_1).f0))) (fun _ hk => hk.2) (.int .i64 ((rd_T32 l0 x31_1).f1))) (fun _ hk => hk.2) (.int .i64 ((rd_T32 l0 x31_1).f2))) (fun _ hk => ⟨hk.1.1, hk.1.2⟩)⟩, ⟨by (with_reducible repeat (first | apply Kd.R_alloc | apply Kd.R_drewN | apply Kd.R_drew)); exact Kd.R_mono (Kd.R_far (p := ⟨gb192, 2, none⟩) (Kd.R_far (p := ⟨gb192, 1, none⟩) (Kd.R_far (p := ⟨gb192, 0, none⟩) (Kd.R_types HO_9.out BK192.out (by decide)) (fun _ hk => hk.2) (.int .i64 ((rd_T32 l0 x31_1).f0))) (fun _ hk => hk.2) (.int .i64 ((rd_T32 l0 x31_1).f1))) (fun _ hk => hk.2) (.int .i64 ((rd_T32 l0 x31_1).f2))) (fun _ hk => ⟨hk.1.1, hk.1.2⟩)⟩, ⟨by (with_reducible repeat (first | refine blk_drewN ?_ _ | refine blk_drew ?_ | refine blk_alloc ?_ _)); refine blk_put (cs := #[.int .i64 ((rd_T32 l0 x31_1).f0), .int .i64 ((rd_T32 l0 x31_1).f1), .int .i64 0]) ?_ 2 _ rfl; (with_reducible repeat (first | refine blk_drewN ?_ _ | refine blk_drew ?_ | refine blk_alloc ?_ _)); refine blk_put (cs := #[.int .i64 ((rd_T32 l0 x31_1).f0), .int .i64 0, .int .i64 0]) ?_ 1 _ rfl; (with_reducible repeat (first | refine blk_drewN ?_ _ | refine blk_drew ?_ | refine blk_alloc ?_ _)); refine blk_put (cs := #[.int .i64 0, .int .i64 0, .int .i64 0]) ?_ 0 _ rfl; (with_reducible repeat (first | refine blk_drewN ?_ _ | refine blk_drew ?_ | refine blk_alloc ?_ _)); exact BK192.out⟩, ⟨by repeat (first | (with_reducible first | exact HB.out | apply below_alloc | apply pw_below_drewN | apply below_drew1 | refine below_set ?_ GE192.out) | exact HB.out | exact Below.refl _ _)⟩⟩
     rw [if_pos c46] at H
     have c46b0 : (((rd_T32 l0 x31_1).f0) == 17) = true := beq_iff_eq.mpr c46
     have c46b1 : (((rd_T32 l0 x31_1).f0) != 17) = false := bne_eq_false_iff_eq.mpr c46
     clear c46
     (first | rw [c46b0] | (simp only [i64_w, i32_w]; rw [c46b0]) | rw [c46b1] | skip)
     have H' := Aside0.mk H
     clear H
     go_wp2
     repeat (go_quiet (fail); try go_wp2)
     go_meet
     case rel => exact ⟨_, ((((rd_T32 l0 x31_1).f0) == 17)), (by first | rfl | (simp; done) | (simp [*]; done)), H', ⟨by have := HK1.out; first | omega | exact Nat.le_refl _⟩, ⟨by (with_reducible repeat (first | apply Kd.R_alloc | apply Kd.R_drewN | apply Kd.R_drew)); exact Kd.R_mono (Kd.R_far (p := ⟨gb192, 2, none⟩) (Kd.R_far (p := ⟨gb192, 1, none⟩) (Kd.R_far (p := ⟨gb192, 0, none⟩) (Kd.R_types HO_5.out BK192.out (by decide)) (fun _ hk => hk.2) (.int .i64 ((rd_T32 l0 x31_1).f0))) (fun _ hk => hk.2) (.int .i64 ((rd_T32 l0 x31_1).f1))) (fun _ hk => hk.2) (.int .i64 ((rd_T32 l0 x31_1).f2))) (fun _ hk => ⟨hk.1.1, hk.1.2⟩)⟩, ⟨by (with_reducible repeat (first | apply Kd.R_alloc | apply Kd.R_drewN | apply Kd.R_drew)); exact Kd.R_mono (Kd.R_far (p := ⟨gb192, 2, none⟩) (Kd.R_far (p := ⟨gb192, 1, none⟩) (Kd.R_far (p := ⟨gb192, 0, none⟩) (Kd.R_types HO_7.out BK192.out (by decide)) (fun _ hk => hk.2) (.int .i64 ((rd_T32 l0 x31_1).f0))) (fun _ hk => hk.2) (.int .i64 ((rd_T32 l0 x31_1).f1))) (fun _ hk => hk.2) (.int .i64 ((rd_T32 l0 x31_1).f2))) (fun _ hk => ⟨hk.1.1, hk.1.2⟩)⟩, ⟨by (with_reducible repeat (first | apply Kd.R_alloc | apply Kd.R_drewN | apply Kd.R_drew)); exact Kd.R_mono (Kd.R_far (p := ⟨gb192, 2, none⟩) (Kd.R_far (p := ⟨gb192, 1, none⟩) (Kd.R_far (p := ⟨gb192, 0, none⟩) (Kd.R_types HO_9.out BK192.out (by decide)) (fun _ hk => hk.2) (.int .i64 ((rd_T32 l0 x31_1).f0))) (fun _ hk => hk.2) (.int .i64 ((rd_T32 l0 x31_1).f1))) (fun _ hk => hk.2) (.int .i64 ((rd_T32 l0 x31_1).f2))) (fun _ hk => ⟨hk.1.1, hk.1.2⟩)⟩, ⟨by (with_reducible repeat (first | refine blk_drewN ?_ _ | refine blk_drew ?_ | refine blk_alloc ?_ _)); refine blk_put (cs := #[.int .i64 ((rd_T32 l0 x31_1).f0), .int .i64 ((rd_T32 l0 x31_1).f1), .int .i64 0]) ?_ 2 _ rfl; (with_reducible repeat (first | refine blk_drewN ?_ _ | refine blk_drew ?_ | refine blk_alloc ?_ _)); refine blk_put (cs := #[.int .i64 ((rd_T32 l0 x31_1).f0), .int .i64 0, .int .i64 0]) ?_ 1 _ rfl; (with_reducible repeat (first | refine blk_drewN ?_ _ | refine blk_drew ?_ | refine blk_alloc ?_ _)); refine blk_put (cs := #[.int .i64 0, .int .i64 0, .int .i64 0]) ?_ 0 _ rfl; (with_reducible repeat (first | refine blk_drewN ?_ _ | refine blk_drew ?_ | refine blk_alloc ?_ _)); exact BK192.out⟩, ⟨by repeat (first | (with_reducible first | exact HB.out | apply below_alloc | apply pw_below_drewN | apply below_drew1 | refine below_set ?_ GE192.out) | exact HB.out | exact Below.refl _ _)⟩⟩
    case rest =>
     clear HC43
     try clear c1
     try clear p1
     try clear q1
     try clear hx1
     try clear c2
     try clear p2
     try clear c3
     try clear c3b0
     try clear c3b1
     try clear c4
     try clear p6
     try clear c9
     try clear c9b0
     try clear c10
     try clear c10b0
     try clear c11
     try clear c11b0
     try clear c12
     try clear c12b0
     try clear c12b1
     try clear c13
     try clear c14
     try clear c15
     try clear c18
     try clear c18b0
     try clear c19
     try clear c19b0
     try clear c19b1
     try clear p19
     try clear q19
     try clear hx19
     try clear c21
     try clear c21b0
     try clear c21b1
     try clear c23
     try clear c24
     try clear c35
     try clear c40
     try clear c40b0
     try clear c40b1
     try clear c46
     try clear c46b0
     try clear c46b1
     try clear hcz16_0
     try clear hcz16_1
     try clear hcz16_2
     try clear hcz26_0
     try clear hcz26_1
     try clear hcz26_2
     try clear hcz31_0
     try clear hcz31_1
     try clear hcz31_2
     try clear hcz37_0
     try clear hcz37_1
     try clear hcz37_2
     try clear hcz42_0
     try clear hcz42_1
     try clear hcz42_2
     try clear hcz45_0
     try clear hcz45_1
     try clear hcz45_2
     try clear hfz16_0
     try clear hfz16_1
     try clear hfz16_2
     try clear hfz26_0
     try clear hfz26_1
     try clear hfz26_2
     try clear hfz31_0
     try clear hfz31_1
     try clear hfz31_2
     try clear hfz37_0
     try clear hfz37_1
     try clear hfz37_2
     try clear hfz42_0
     try clear hfz42_1
     try clear hfz42_2
     try clear hfz45_0
     try clear hfz45_1
     try clear hfz45_2
     try clear hx191_0
     try clear hx191_1
     try clear hx191_2
     try clear hx196_0
     try clear p191
     try clear p196
     try clear p2
     try clear q191
     try clear q196
     obtain ⟨kq, x66_42, rfl, HA, HJ42, HO_5, HO_7, HO_9, BK192, HB⟩ := hcut
     cases kq with
     | zero => exact absurd HA.out (by simp [nest_Locks.j1])
     | succ kj42 =>
      have H := HA.out
      clear HA
      simp only [nest_Locks.j1] at H
      by_cases c47 : x66_42 = true
      rotate_left
      ·replace c47 := Bool.eq_false_iff.mpr c47
       subst c47
       have H1 : (if true = true then (nest_Locks.l0 kj42 l0 t183 t187 x9_1 x10_1 l0 (l0.length : Int) (wrap64 (x31_1 + 1))) else (some (([] : List Int), 11))) = some (r1, r2) := by rw [if_neg (show ¬ (false = true) by decide)] at H; exact H
       clear H
       have H := H1
       clear H1
       by_cases c57 : true = true
       rotate_left
       ·exact absurd rfl c57
       clear c57
       have H1 : (nest_Locks.l0 kj42 l0 t183 t187 x9_1 x10_1 l0 (l0.length : Int) (wrap64 (x31_1 + 1))) = some (r1, r2) := by rw [if_pos rfl] at H; exact H
       clear H
       have H := H1
       clear H1
       have H' := Aside0.mk H
       clear H
       go_wp2
       repeat (go_quiet (fail); try go_wp2)
       go_roundg kj42
       case measure => have := HK1.out; have := HJ42.out; omega
       case rel => exact ⟨(x9_1), (x10_1), (wrap64 (x31_1 + 1)), (by first | rfl | (simp; done) | (simp [*]; done)), (by first | rfl | (simp; done) | (simp [*]; done)), H', ⟨by have := HK1.out; have := HJ42.out; omega⟩, ⟨by (with_reducible repeat (first | apply Kd.R_alloc | apply Kd.R_drewN | apply Kd.R_drew)); exact HO_5.out⟩, ⟨by (with_reducible repeat (first | apply Kd.R_alloc | apply Kd.R_drewN | apply Kd.R_drew)); exact HO_7.out⟩, ⟨by (with_reducible repeat (first | apply Kd.R_alloc | apply Kd.R_drewN | apply Kd.R_drew)); exact HO_9.out⟩, ⟨by repeat (first | (with_reducible first | exact HB.out | apply below_alloc | apply pw_below_drewN | apply below_drew1 | refine below_set ?_ GE192.out) | exact HB.out | exact Below.refl _ _)⟩⟩
      subst c47
      have H1 : (if 0 ≤ x31_1 then (if x31_1 < (t183.length : Int) then (if 0 ≤ ((rd_T32 l0 x31_1).f1) then (if ((Go.bits .and .i64 (shr .i64 (rd t183 x31_1) ((rd_T32 l0 x31_1).f1)) 1) = 1) then (nest_Locks.l0 kj42 l0 t183 t187 x9_1 x10_1 l0 (l0.length : Int) (wrap64 (x31_1 + 1))) else (some (([] : List Int), 11))) else (none)) else (none)) else (none)) = some (r1, r2) := by rw [if_pos rfl] at H; exact H
      clear H
      have H := H1
      clear H1
      by_cases c48 : 0 ≤ x31_1
      rotate_left
      ·rw [if_neg c48] at H
       exact absurd H (by simp)
      rw [if_pos c48] at H
      have c48b0 : decide (0 ≤ x31_1) = true := decide_eq_true c48
      clear c48
      by_cases c49 : x31_1 < (t183.length : Int)
      rotate_left
      ·rw [if_neg c49] at H
       exact absurd H (by simp)
      rw [if_pos c49] at H
      have c49b0 : decide (x31_1 < (t183.length : Int)) = true := decide_eq_true c49
      clear c49
      by_cases c50 : 0 ≤ ((rd_T32 l0 x31_1).f1)
      rotate_left
      ·rw [if_neg c50] at H
       exact absurd H (by simp)
      rw [if_pos c50] at H
      have c50b0 := eq_true c50
      have c50b1 : decide (0 ≤ ((rd_T32 l0 x31_1).f1)) = true := decide_eq_true c50
      clear c50
      obtain ⟨ji51, hji51⟩ : ∃ j_ : Int, (shr .i64 (rd t183 x31_1) ((rd_T32 l0 x31_1).f1)) = j_ := ⟨_, rfl⟩
      replace H : (if ((Go.bits .and .i64 (ji51) 1) = 1) then (nest_Locks.l0 kj42 l0 t183 t187 x9_1 x10_1 l0 (l0.length : Int) (wrap64 (x31_1 + 1))) else (some (([] : List Int), 11))) = some (r1, r2) := by first | (rw [hji51] at H; exact H) | (simp only [hji51] at H ⊢; exact H)
      have hji51_ : ((rd t183 x31_1) / 2 ^ min ((rd_T32 l0 x31_1).f1).toNat 64) = ji51 := hji51
      have hji51z : ((rd_T32 l0 x31_1).f1) ≤ 64 → ((rd t183 x31_1) / 2 ^ ((rd_T32 l0 x31_1).f1).toNat) = ji51 := shr_small hji51
      by_cases c52 : ((Go.bits .and .i64 (ji51) 1) = 1)
      rotate_left
      ·rw [if_neg c52] at H
       have c52b0 : ((Go.bits .and .i64 (ji51) 1) == 1) = false := beq_eq_false_iff_ne.mpr c52
       have c52b1 : ((Go.bits .and .i64 (ji51) 1) != 1) = true := bne_iff_ne.mpr c52
       simp only [Option.some.injEq, Prod.mk.injEq] at H
       obtain ⟨rfl, rfl⟩ := H
       obtain ⟨Ao55, co55, eo55⟩ := Kd.R_slice HO_5.out
       subst eo55
       have p204 : 0 ≤ (x31_1 : Int) := of_decide_eq_true (by first | (with_reducible assumption) | assumption)
       have q204 : x31_1 < (t183.length : Int) := of_decide_eq_true (by first | (with_reducible assumption) | assumption)
       obtain ⟨ad204, e204, hx204_0⟩ := Kd.at_int (Kd.R_reads' HO_5.out).2.2 x31_1 p204 q204
       cases e204
       replace p204 := eq_true p204
       replace q204 := eq_true q204
       have hcz56_0 : wc.cell? ⟨gb192, 0, none⟩ = some (.int .i64 ((rd_T32 l0 x31_1).f0)) := (blk_cell BK192.out 0).trans rfl
       have hcz56_1 : wc.cell? ⟨gb192, 1, none⟩ = some (.int .i64 ((rd_T32 l0 x31_1).f1)) := (blk_cell BK192.out 1).trans rfl
       have hcz56_2 : wc.cell? ⟨gb192, 2, none⟩ = some (.int .i64 ((rd_T32 l0 x31_1).f2)) := (blk_cell BK192.out 2).trans rfl
       have hfz56_0 := blk_frozen BK192.out 0
       have hfz56_1 := blk_frozen BK192.out 1
       have hfz56_2 := blk_frozen BK192.out 2
       go_wp2
       repeat (go_quiet (fail); try go_wp2)
       go_ret2
       exact ⟨_, by first | rfl | (simp [errW_none, errW_some] <;> rfl) | (simp only [← hji51]; first | rfl | (simp [errW_none, errW_some] <;> rfl)) | (simp [*, errW_none, errW_some] <;> rfl), by first | exact Kd.R_nil _ _ _ _ _ | exact Kd.N_nil _ _ _ _ _ | exact Kd.V_nil _ _ _ _ _ | exact Kd.Q_nil _ _ _ _ _ | exact Kd.S_nil _ _ _ _ _, by repeat (first | (with_reducible first | exact HB.out | apply below_alloc | apply pw_below_drewN | apply below_drew1 | refine below_set ?_ GE192.out) | exact HB.out | exact Below.refl _ _)⟩
      rw [if_pos c52] at H
      have c52b0 : ((Go.bits .and .i64 (ji51) 1) == 1) = true := beq_iff_eq.mpr c52
      have c52b1 : ((Go.bits .and .i64 (ji51) 1) != 1) = false := bne_eq_false_iff_eq.mpr c52
      clear c52
      have H' := Aside0.mk H
      clear H
      obtain ⟨Ao53, co53, eo53⟩ := Kd.R_slice HO_5.out
      subst eo53
      have p204 : 0 ≤ (x31_1 : Int) := of_decide_eq_true (by first | (with_reducible assumption) | assumption)
      have q204 : x31_1 < (t183.length : Int) := of_decide_eq_true (by first | (with_reducible assumption) | assumption)
      obtain ⟨ad204, e204, hx204_0⟩ := Kd.at_int (Kd.R_reads' HO_5.out).2.2 x31_1 p204 q204
      cases e204
      replace p204 := eq_true p204
      replace q204 := eq_true q204
      have hcz54_0 : wc.cell? ⟨gb192, 0, none⟩ = some (.int .i64 ((rd_T32 l0 x31_1).f0)) := (blk_cell BK192.out 0).trans rfl
      have hcz54_1 : wc.cell? ⟨gb192, 1, none⟩ = some (.int .i64 ((rd_T32 l0 x31_1).f1)) := (blk_cell BK192.out 1).trans rfl
      have hcz54_2 : wc.cell? ⟨gb192, 2, none⟩ = some (.int .i64 ((rd_T32 l0 x31_1).f2)) := (blk_cell BK192.out 2).trans rfl
      have hfz54_0 := blk_frozen BK192.out 0
      have hfz54_1 := blk_frozen BK192.out 1
      have hfz54_2 := blk_frozen BK192.out 2
      go_wp2
      repeat (go_quiet (fail); try go_wp2)
      go_roundg kj42
      case measure => have := HK1.out; have := HJ42.out; omega
      case rel => exact ⟨(x9_1), (x10_1), (wrap64 (x31_1 + 1)), (by first | rfl | (simp; done) | (simp [*]; done)), (by first | rfl | (simp; done) | (simp [*]; done)), H', ⟨by have := HK1.out; have := HJ42.out; omega⟩, ⟨by (with_reducible repeat (first | apply Kd.R_alloc | apply Kd.R_drewN | apply Kd.R_drew)); exact HO_5.out⟩, ⟨by (with_reducible repeat (first | apply Kd.R_alloc | apply Kd.R_drewN | apply Kd.R_drew)); exact HO_7.out⟩, ⟨by (with_reducible repeat (first | apply Kd.R_alloc | apply Kd.R_drewN | apply Kd.R_drew)); exact HO_9.out⟩, ⟨by repeat (first | (with_reducible first | exact HB.out | apply below_alloc | apply pw_below_drewN | apply below_drew1 | refine below_set ?_ GE192.out) | exact HB.out | exact Below.refl _ _)⟩⟩
   rw [if_pos c12] at H
   have c12b0 : (((rd_T32 l0 x31_1).f0) == 23) = true := beq_iff_eq.mpr c12
   have c12b1 : (((rd_T32 l0 x31_1).f0) != 23) = false := bne_eq_false_iff_eq.mpr c12
   clear c12
   by_cases c13 : x10_1 = true
   ·subst c13
    have H1 : (if x9_1.length < 17592186044416 then (some (([] : List Int), 11)) else (none)) = some (r1, r2) := by rw [if_pos rfl] at H; exact H
    clear H
    have H := H1
    clear H1
    by_cases c14 : x9_1.length < 17592186044416
    rotate_left
    ·rw [if_neg c14] at H
     exact absurd H (by simp)
    rw [if_pos c14] at H
    have LMc14 := Aside0.mk c14
    clear c14
    obtain ⟨y193, hy193⟩ : ∃ y_ : List Int, y_ = (x9_1 ++ [(rd_T32 l0 x31_1).f1]) := ⟨_, rfl⟩
    replace H : (some (([] : List Int), 11)) = some (r1, r2) := by first | (rw [hy193]; with_reducible exact H) | (have H2_ := (Option.bind_some _ _).symm.trans H; rw [hy193]; with_reducible exact H2_) | (have H2_ := (Option.bind_some _ _).symm.trans H; with_reducible exact H2_) | with_reducible exact H | (rw [hy193]; exact H) | exact H
    have Ny193 := Aside0.mk hy193
    clear hy193
    simp only [Option.some.injEq, Prod.mk.injEq] at H
    obtain ⟨rfl, rfl⟩ := H
    have p191 : 0 ≤ (x31_1 : Int) := of_decide_eq_true (by first | (with_reducible assumption) | assumption)
    have q191 : x31_1 < (l0.length : Int) := of_decide_eq_true (by first | (with_reducible assumption) | assumption)
    obtain ⟨ad191, e191, hx191_0, hx191_1, hx191_2⟩ := at_T32 HR0.out x31_1 p191 q191
    cases e191
    replace hx191_0 := (HB.out.cell (World.block_lt_of_cell? w _ hx191_0)).trans hx191_0
    replace hx191_1 := (HB.out.cell (World.block_lt_of_cell? w _ hx191_1)).trans hx191_1
    replace hx191_2 := (HB.out.cell (World.block_lt_of_cell? w _ hx191_2)).trans hx191_2
    replace p191 := eq_true p191
    replace q191 := eq_true q191
    go_wp2_with (first | ((with_reducible refine gate_dst (N := 12) rfl ?_); refine box_event ?hg (N := 12) ?hd (cs := #[.int .i64 0, .int .i64 0, .int .i64 0]) (t := 32) ?hr ?_; (case hd => rfl); (case hg => rfl); (case hr => first | (go_simp; done) | (go_simp; rfl)); intro gb192 hg w15 hbox hb; have n0_ := Aside0.mk (Kd.R_below (by (with_reducible repeat (first | apply Kd.R_alloc | apply Kd.R_drewN | apply Kd.R_drew)); exact HO_5.out) hb); have n1_ := Aside0.mk (Kd.R_below (by (with_reducible repeat (first | apply Kd.R_alloc | apply Kd.R_drewN | apply Kd.R_drew)); exact HO_7.out) hb); have n2_ := Aside0.mk (Kd.R_below (by (with_reducible repeat (first | apply Kd.R_alloc | apply Kd.R_drewN | apply Kd.R_drew)); exact HO_9.out) hb); have n3_ := Aside0.mk (below_step (by repeat (first | (with_reducible first | exact HB.out | apply below_alloc | apply pw_below_drewN | apply below_drew1) | exact HB.out)) hb); have n4_ := Aside0.mk (hbox); have n5_ := Aside0.mk ((by rw [hg]; exact (below_size (by repeat (first | (with_reducible first | exact HB.out | apply below_alloc | apply pw_below_drewN | apply below_drew1) | exact HB.out))) : w.heap.size ≤ gb192)); have n6_ := Aside0.mk ((by rw [hg]; exact (below_size (by repeat (first | (with_reducible first | exact HB.out | apply below_alloc | apply pw_below_drewN | apply below_drew1) | exact HB.out))) : w.heap.size ≤ gb192)); clear HO_5; clear HO_7; clear HO_9; clear HB; have HO_5 := n0_; have HO_7 := n1_; have HO_9 := n2_; have HB := n3_; have BK192 := n4_; have GW192 := n5_; have GE192 := n6_; clear n0_ n1_ n2_ n3_ n4_ n5_ n6_; clear hb hbox hg; have hcz16_0 : w15.cell? ⟨gb192, 0, none⟩ = some (.int .i64 0) := (blk_cell BK192.out 0).trans rfl; have hcz16_1 : w15.cell? ⟨gb192, 1, none⟩ = some (.int .i64 0) := (blk_cell BK192.out 1).trans rfl; have hcz16_2 : w15.cell? ⟨gb192, 2, none⟩ = some (.int .i64 0) := (blk_cell BK192.out 2).trans rfl; have hfz16_0 := blk_frozen BK192.out 0; have hfz16_1 := blk_frozen BK192.out 1; have hfz16_2 := blk_frozen BK192.out 2) | ((with_reducible refine gate_builtin (b := .append) (xs := #[.tmp 59, .tmp 62]) rfl ?_); at_builtin; refine Kd.R_append (Kd.int .i64) (w0 := w) w.heap.size rfl (.tmp 59) (.tmp 62) 24 3 (.int .i64 0) 8 rfl Try.underlying24 info3 rfl (by decide) (by omega) u9 x9_1 ((rd_T32 l0 x31_1).f1) [.int .i64 ((rd_T32 l0 x31_1).f1)] (fun k_ => some k_ ≠ (v185 : Value).ownBlock ∧ some k_ ≠ (v189 : Value).ownBlock) (fun _ => False) rfl (by first | (go_simp; done) | (go_simp; rfl)) ?aP (fun _ hk => hk.elim) ?aF ?aO ?aB ?aS ?aL ?_; (case aP => exact rfl); (case aB => exact (by repeat (first | (with_reducible first | exact HB.out | apply below_alloc | apply pw_below_drewN | apply below_drew1 | refine below_set ?_ GE192.out) | exact HB.out))); (case aF => exact (fun k_ hk => ⟨Kd.fresh' (Kd.R_lt (by (with_reducible repeat (first | apply Kd.R_alloc | apply Kd.R_drewN | apply Kd.R_drew)); exact (Kd.R_mono (Kd.R_far (p := ⟨gb192, 2, none⟩) (Kd.R_far (p := ⟨gb192, 1, none⟩) (Kd.R_far (p := ⟨gb192, 0, none⟩) (Kd.R_types HO_5.out BK192.out (by decide)) (fun _ hk => hk.2) (.int .i64 ((rd_T32 l0 x31_1).f0))) (fun _ hk => hk.2) (.int .i64 ((rd_T32 l0 x31_1).f1))) (fun _ hk => hk.2) (.int .i64 ((rd_T32 l0 x31_1).f2))) (fun _ h_ => h_.1)))) k_ hk, Kd.fresh' (Kd.R_lt (by (with_reducible repeat (first | apply Kd.R_alloc | apply Kd.R_drewN | apply Kd.R_drew)); exact (Kd.R_mono (Kd.R_far (p := ⟨gb192, 2, none⟩) (Kd.R_far (p := ⟨gb192, 1, none⟩) (Kd.R_far (p := ⟨gb192, 0, none⟩) (Kd.R_types HO_7.out BK192.out (by decide)) (fun _ hk => hk.2) (.int .i64 ((rd_T32 l0 x31_1).f0))) (fun _ hk => hk.2) (.int .i64 ((rd_T32 l0 x31_1).f1))) (fun _ hk => hk.2) (.int .i64 ((rd_T32 l0 x31_1).f2))) (fun _ h_ => h_.1)))) k_ hk⟩)); (case aO => exact (by (with_reducible repeat (first | apply Kd.R_alloc | apply Kd.R_drewN | apply Kd.R_drew)); exact Kd.R_mono (Kd.R_far (p := ⟨gb192, 2, none⟩) (Kd.R_far (p := ⟨gb192, 1, none⟩) (Kd.R_far (p := ⟨gb192, 0, none⟩) (Kd.R_types HO_9.out BK192.out (by decide)) (fun _ hk => hk.2) (.int .i64 ((rd_T32 l0 x31_1).f0))) (fun _ hk => hk.2) (.int .i64 ((rd_T32 l0 x31_1).f1))) (fun _ hk => hk.2) (.int .i64 ((rd_T32 l0 x31_1).f2))) (fun _ hk => ⟨hk.1.1, hk.1.2⟩))); (case aS => exact (below_size (by repeat (first | (with_reducible first | exact HB.out | apply below_alloc | apply pw_below_drewN | apply below_drew1 | refine below_set ?_ GE192.out) | exact HB.out)))); (case aL => have := LMc14.out; omega); intro v194 w17 ho hb hg hat; rw [← Ny193.out] at ho; have n0_ := Aside0.mk (Kd.R_after (ok := (fun k_ => some k_ ≠ (v189 : Value).ownBlock)) (by (with_reducible repeat (first | apply Kd.R_alloc | apply Kd.R_drewN | apply Kd.R_drew)); exact Kd.R_mono (Kd.R_far (p := ⟨gb192, 2, none⟩) (Kd.R_far (p := ⟨gb192, 1, none⟩) (Kd.R_far (p := ⟨gb192, 0, none⟩) (Kd.R_types HO_5.out BK192.out (by decide)) (fun _ hk => hk.2) (.int .i64 ((rd_T32 l0 x31_1).f0))) (fun _ hk => hk.2) (.int .i64 ((rd_T32 l0 x31_1).f1))) (fun _ hk => hk.2) (.int .i64 ((rd_T32 l0 x31_1).f2))) (fun _ hk => ⟨hk.1.1, hk.1.2⟩)) hg hat); have n1_ := Aside0.mk (Kd.R_after (ok := (fun k_ => some k_ ≠ (v185 : Value).ownBlock)) (by (with_reducible repeat (first | apply Kd.R_alloc | apply Kd.R_drewN | apply Kd.R_drew)); exact Kd.R_mono (Kd.R_far (p := ⟨gb192, 2, none⟩) (Kd.R_far (p := ⟨gb192, 1, none⟩) (Kd.R_far (p := ⟨gb192, 0, none⟩) (Kd.R_types HO_7.out BK192.out (by decide)) (fun _ hk => hk.2) (.int .i64 ((rd_T32 l0 x31_1).f0))) (fun _ hk => hk.2) (.int .i64 ((rd_T32 l0 x31_1).f1))) (fun _ hk => hk.2) (.int .i64 ((rd_T32 l0 x31_1).f2))) (fun _ hk => ⟨hk.1.1, hk.1.2⟩)) hg hat); have n2_ := Aside0.mk (blk_grown (g := gb192) (o := .cells #[.int .i64 ((rd_T32 l0 x31_1).f0), .int .i64 ((rd_T32 l0 x31_1).f1), .int .i64 ((rd_T32 l0 x31_1).f2)] 32 (0, 0)) (by (with_reducible repeat (first | refine blk_drewN ?_ _ | refine blk_drew ?_ | refine blk_alloc ?_ _)); refine blk_put (cs := #[.int .i64 ((rd_T32 l0 x31_1).f0), .int .i64 ((rd_T32 l0 x31_1).f1), .int .i64 0]) ?_ 2 _ rfl; (with_reducible repeat (first | refine blk_drewN ?_ _ | refine blk_drew ?_ | refine blk_alloc ?_ _)); refine blk_put (cs := #[.int .i64 ((rd_T32 l0 x31_1).f0), .int .i64 0, .int .i64 0]) ?_ 1 _ rfl; (with_reducible repeat (first | refine blk_drewN ?_ _ | refine blk_drew ?_ | refine blk_alloc ?_ _)); refine blk_put (cs := #[.int .i64 0, .int .i64 0, .int .i64 0]) ?_ 0 _ rfl; (with_reducible repeat (first | refine blk_drewN ?_ _ | refine blk_drew ?_ | refine blk_alloc ?_ _)); exact BK192.out) hg (Kd.R_ne HO_9.out BK192.out (by decide))); have n3_ := Aside0.mk (hb); have n4_ := Aside0.mk (ho); clear HO_5; clear HO_7; clear BK192; clear HB; clear HO_9; have HO_5 := n0_; have HO_7 := n1_; have BK192 := n2_; have HB := n3_; have HO195 := n4_; clear n0_ n1_ n2_ n3_ n4_; clear ho hb hg hat))
    repeat (go_quiet (fail); try go_wp2_with (first | ((with_reducible refine gate_dst (N := 12) rfl ?_); refine box_event ?hg (N := 12) ?hd (cs := #[.int .i64 0, .int .i64 0, .int .i64 0]) (t := 32) ?hr ?_; (case hd => rfl); (case hg => rfl); (case hr => first | (go_simp; done) | (go_simp; rfl)); intro gb192 hg w15 hbox hb; have n0_ := Aside0.mk (Kd.R_below (by (with_reducible repeat (first | apply Kd.R_alloc | apply Kd.R_drewN | apply Kd.R_drew)); exact HO_5.out) hb); have n1_ := Aside0.mk (Kd.R_below (by (with_reducible repeat (first | apply Kd.R_alloc | apply Kd.R_drewN | apply Kd.R_drew)); exact HO_7.out) hb); have n2_ := Aside0.mk (Kd.R_below (by (with_reducible repeat (first | apply Kd.R_alloc | apply Kd.R_drewN | apply Kd.R_drew)); exact HO_9.out) hb); have n3_ := Aside0.mk (below_step (by repeat (first | (with_reducible first | exact HB.out | apply below_alloc | apply pw_below_drewN | apply below_drew1) | exact HB.out)) hb); have n4_ := Aside0.mk (hbox); have n5_ := Aside0.mk ((by rw [hg]; exact (below_size (by repeat (first | (with_reducible first | exact HB.out | apply below_alloc | apply pw_below_drewN | apply below_drew1) | exact HB.out))) : w.heap.size ≤ gb192)); have n6_ := Aside0.mk ((by rw [hg]; exact (below_size (by repeat (first | (with_reducible first | exact HB.out | apply below_alloc | apply pw_below_drewN | apply below_drew1) | exact HB.out))) : w.heap.size ≤ gb192)); clear HO_5; clear HO_7; clear HO_9; clear HB; have HO_5 := n0_; have HO_7 := n1_; have HO_9 := n2_; have HB := n3_; have BK192 := n4_; have GW192 := n5_; have GE192 := n6_; clear n0_ n1_ n2_ n3_ n4_ n5_ n6_; clear hb hbox hg; have hcz16_0 : w15.cell? ⟨gb192, 0, none⟩ = some (.int .i64 0) := (blk_cell BK192.out 0).trans rfl; have hcz16_1 : w15.cell? ⟨gb192, 1, none⟩ = some (.int .i64 0) := (blk_cell BK192.out 1).trans rfl; have hcz16_2 : w15.cell? ⟨gb192, 2, none⟩ = some (.int .i64 0) := (blk_cell BK192.out 2).trans rfl; have hfz16_0 := blk_frozen BK192.out 0; have hfz16_1 := blk_frozen BK192.out 1; have hfz16_2 := blk_frozen BK192.out 2) | ((with_reducible refine gate_builtin (b := .append) (xs := #[.tmp 59, .tmp 62]) rfl ?_); at_builtin; refine Kd.R_append (Kd.int .i64) (w0 := w) w.heap.size rfl (.tmp 59) (.tmp 62) 24 3 (.int .i64 0) 8 rfl Try.underlying24 info3 rfl (by decide) (by omega) u9 x9_1 ((rd_T32 l0 x31_1).f1) [.int .i64 ((rd_T32 l0 x31_1).f1)] (fun k_ => some k_ ≠ (v185 : Value).ownBlock ∧ some k_ ≠ (v189 : Value).ownBlock) (fun _ => False) rfl (by first | (go_simp; done) | (go_simp; rfl)) ?aP (fun _ hk => hk.elim) ?aF ?aO ?aB ?aS ?aL ?_; (case aP => exact rfl); (case aB => exact (by repeat (first | (with_reducible first | exact HB.out | apply below_alloc | apply pw_below_drewN | apply below_drew1 | refine below_set ?_ GE192.out) | exact HB.out))); (case aF => exact (fun k_ hk => ⟨Kd.fresh' (Kd.R_lt (by (with_reducible repeat (first | apply Kd.R_alloc | apply Kd.R_drewN | apply Kd.R_drew)); exact (Kd.R_mono (Kd.R_far (p := ⟨gb192, 2, none⟩) (Kd.R_far (p := ⟨gb192, 1, none⟩) (Kd.R_far (p := ⟨gb192, 0, none⟩) (Kd.R_types HO_5.out BK192.out (by decide)) (fun _ hk => hk.2) (.int .i64 ((rd_T32 l0 x31_1).f0))) (fun _ hk => hk.2) (.int .i64 ((rd_T32 l0 x31_1).f1))) (fun _ hk => hk.2) (.int .i64 ((rd_T32 l0 x31_1).f2))) (fun _ h_ => h_.1)))) k_ hk, Kd.fresh' (Kd.R_lt (by (with_reducible repeat (first | apply Kd.R_alloc | apply Kd.R_drewN | apply Kd.R_drew)); exact (Kd.R_mono (Kd.R_far (p := ⟨gb192, 2, none⟩) (Kd.R_far (p := ⟨gb192, 1, none⟩) (Kd.R_far (p := ⟨gb192, 0, none⟩) (Kd.R_types HO_7.out BK192.out (by decide)) (fun _ hk => hk.2) (.int .i64 ((rd_T32 l0 x31_1).f0))) (fun _ hk => hk.2) (.int .i64 ((rd_T32 l0 x31_1).f1))) (fun _ hk => hk.2) (.int .i64 ((rd_T32 l0 x31_1).f2))) (fun _ h_ => h_.1)))) k_ hk⟩)); (case aO => exact (by (with_reducible repeat (first | apply Kd.R_alloc | apply Kd.R_drewN | apply Kd.R_drew)); exact Kd.R_mono (Kd.R_far (p := ⟨gb192, 2, none⟩) (Kd.R_far (p := ⟨gb192, 1, none⟩) (Kd.R_far (p := ⟨gb192, 0, none⟩) (Kd.R_types HO_9.out BK192.out (by decide)) (fun _ hk => hk.2) (.int .i64 ((rd_T32 l0 x31_1).f0))) (fun _ hk => hk.2) (.int .i64 ((rd_T32 l0 x31_1).f1))) (fun _ hk => hk.2) (.int .i64 ((rd_T32 l0 x31_1).f2))) (fun _ hk => ⟨hk.1.1, hk.1.2⟩))); (case aS => exact (below_size (by repeat (first | (with_reducible first | exact HB.out | apply below_alloc | apply pw_below_drewN | apply below_drew1 | refine below_set ?_ GE192.out) | exact HB.out)))); (case aL => have := LMc14.out; omega); intro v194 w17 ho hb hg hat; rw [← Ny193.out] at ho; have n0_ := Aside0.mk (Kd.R_after (ok := (fun k_ => some k_ ≠ (v189 : Value).ownBlock)) (by (with_reducible repeat (first | apply Kd.R_alloc | apply Kd.R_drewN | apply Kd.R_drew)); exact Kd.R_mono (Kd.R_far (p := ⟨gb192, 2, none⟩) (Kd.R_far (p := ⟨gb192, 1, none⟩) (Kd.R_far (p := ⟨gb192, 0, none⟩) (Kd.R_types HO_5.out BK192.out (by decide)) (fun _ hk => hk.2) (.int .i64 ((rd_T32 l0 x31_1).f0))) (fun _ hk => hk.2) (.int .i64 ((rd_T32 l0 x31_1).f1))) (fun _ hk => hk.2) (.int .i64 ((rd_T32 l0 x31_1).f2))) (fun _ hk => ⟨hk.1.1, hk.1.2⟩)) hg hat); have n1_ := Aside0.mk (Kd.R_after (ok := (fun k_ => some k_ ≠ (v185 : Value).ownBlock)) (by (with_reducible repeat (first | apply Kd.R_alloc | apply Kd.R_drewN | apply Kd.R_drew)); exact Kd.R_mono (Kd.R_far (p := ⟨gb192, 2, none⟩) (Kd.R_far (p := ⟨gb192, 1, none⟩) (Kd.R_far (p := ⟨gb192, 0, none⟩) (Kd.R_types HO_7.out BK192.out (by decide)) (fun _ hk => hk.2) (.int .i64 ((rd_T32 l0 x31_1).f0))) (fun _ hk => hk.2) (.int .i64 ((rd_T32 l0 x31_1).f1))) (fun _ hk => hk.2) (.int .i64 ((rd_T32 l0 x31_1).f2))) (fun _ hk => ⟨hk.1.1, hk.1.2⟩)) hg hat); have n2_ := Aside0.mk (blk_grown (g := gb192) (o := .cells #[.int .i64 ((rd_T32 l0 x31_1).f0), .int .i64 ((rd_T32 l0 x31_1).f1), .int .i64 ((rd_T32 l0 x31_1).f2)] 32 (0, 0)) (by (with_reducible repeat (first | refine blk_drewN ?_ _ | refine blk_drew ?_ | refine blk_alloc ?_ _)); refine blk_put (cs := #[.int .i64 ((rd_T32 l0 x31_1).f0), .int .i64 ((rd_T32 l0 x31_1).f1), .int .i64 0]) ?_ 2 _ rfl; (with_reducible repeat (first | refine blk_drewN ?_ _ | refine blk_drew ?_ | refine blk_alloc ?_ _)); refine blk_put (cs := #[.int .i64 ((rd_T32 l0 x31_1).f0), .int .i64 0, .int .i64 0]) ?_ 1 _ rfl; (with_reducible repeat (first | refine blk_drewN ?_ _ | refine blk_drew ?_ | refine blk_alloc ?_ _)); refine blk_put (cs := #[.int .i64 0, .int .i64 0, .int .i64 0]) ?_ 0 _ rfl; (with_reducible repeat (first | refine blk_drewN ?_ _ | refine blk_drew ?_ | refine blk_alloc ?_ _)); exact BK192.out) hg (Kd.R_ne HO_9.out BK192.out (by decide))); have n3_ := Aside0.mk (hb); have n4_ := Aside0.mk (ho); clear HO_5; clear HO_7; clear BK192; clear HB; clear HO_9; have HO_5 := n0_; have HO_7 := n1_; have BK192 := n2_; have HB := n3_; have HO195 := n4_; clear n0_ n1_ n2_ n3_ n4_; clear ho hb hg hat)))
    go_ret2
    exact ⟨_, by first | rfl | (simp [errW_none, errW_some] <;> rfl) | (simp [*, errW_none, errW_some] <;> rfl), by first | exact Kd.R_nil _ _ _ _ _ | exact Kd.N_nil _ _ _ _ _ | exact Kd.V_nil _ _ _ _ _ | exact Kd.Q_nil _ _ _ _ _ | exact Kd.S_nil _ _ _ _ _, by repeat (first | (with_reducible first | exact HB.out | apply below_alloc | apply pw_below_drewN | apply below_drew1 | refine below_set ?_ GE192.out) | exact HB.out | exact Below.refl _ _)⟩
   replace c13 := Bool.eq_false_iff.mpr c13
   subst c13
   have H1 : (if x31_1 < (t183.length : Int) then (if 0 ≤ ((rd_T32 l0 x31_1).f1) then (if (shr .i64 (rd t183 x31_1) ((rd_T32 l0 x31_1).f1)) = 0 then ((nest_looped.f k1 l0 t187 x31_1).bind fun t197 => (if x9_1.length < 17592186044416 then (if t197 = true then (some (([] : List Int), 11)) else (nest_Locks.l0 k1 l0 t183 t187 (x9_1 ++ [(rd_T32 l0 x31_1).f1]) false l0 (l0.length : Int) (wrap64 (x31_1 + 1)))) else (none))) else (if x9_1.length < 17592186044416 then (some (([] : List Int), 11)) else (none))) else (none)) else (none)) = some (r1, r2) := by rw [if_neg (show ¬ (false = true) by decide)] at H; exact H
   clear H
   have H := H1
   clear H1
   by_cases c18 : x31_1 < (t183.length : Int)
   rotate_left
   ·rw [if_neg c18] at H
    exact absurd H (by simp)
   rw [if_pos c18] at H
   have c18b0 : decide (x31_1 < (t183.length : Int)) = true := decide_eq_true c18
   clear c18
   by_cases c19 : 0 ≤ ((rd_T32 l0 x31_1).f1)
   rotate_left
   ·rw [if_neg c19] at H
    exact absurd H (by simp)
   rw [if_pos c19] at H
   have c19b0 := eq_true c19
   have c19b1 : decide (0 ≤ ((rd_T32 l0 x31_1).f1)) = true := decide_eq_true c19
   clear c19
   obtain ⟨ji20, hji20⟩ : ∃ j_ : Int, (shr .i64 (rd t183 x31_1) ((rd_T32 l0 x31_1).f1)) = j_ := ⟨_, rfl⟩
   replace H : (if (ji20) = 0 then ((nest_looped.f k1 l0 t187 x31_1).bind fun t197 => (if x9_1.length < 17592186044416 then (if t197 = true then (some (([] : List Int), 11)) else (nest_Locks.l0 k1 l0 t183 t187 (x9_1 ++ [(rd_T32 l0 x31_1).f1]) false l0 (l0.length : Int) (wrap64 (x31_1 + 1)))) else (none))) else (if x9_1.length < 17592186044416 then (some (([] : List Int), 11)) else (none))) = some (r1, r2) := by first | (rw [hji20] at H; exact H) | (simp only [hji20] at H ⊢; exact H)
   have hji20_ : ((rd t183 x31_1) / 2 ^ min ((rd_T32 l0 x31_1).f1).toNat 64) = ji20 := hji20
   have hji20z : ((rd_T32 l0 x31_1).f1) ≤ 64 → ((rd t183 x31_1) / 2 ^ ((rd_T32 l0 x31_1).f1).toNat) = ji20 := shr_small hji20
   by_cases c21 : (ji20) = 0
   rotate_left
   ·rw [if_neg c21] at H
    have c21b0 : ((ji20) == 0) = false := beq_eq_false_iff_ne.mpr c21
    have c21b1 : ((ji20) != 0) = true := bne_iff_ne.mpr c21
    by_cases c35 : x9_1.length < 17592186044416
    rotate_left
    ·rw [if_neg c35] at H
     exact absurd H (by simp)
    rw [if_pos c35] at H
    have LMc35 := Aside0.mk c35
    clear c35
    obtain ⟨y201, hy201⟩ : ∃ y_ : List Int, y_ = (x9_1 ++ [(rd_T32 l0 x31_1).f1]) := ⟨_, rfl⟩
    replace H : (some (([] : List Int), 11)) = some (r1, r2) := by first | (rw [hy201]; with_reducible exact H) | (have H2_ := (Option.bind_some _ _).symm.trans H; rw [hy201]; with_reducible exact H2_) | (have H2_ := (Option.bind_some _ _).symm.trans H; with_reducible exact H2_) | with_reducible exact H | (rw [hy201]; exact H) | exact H
    have Ny201 := Aside0.mk hy201
    clear hy201
    simp only [Option.some.injEq, Prod.mk.injEq] at H
    obtain ⟨rfl, rfl⟩ := H
    have p191 : 0 ≤ (x31_1 : Int) := of_decide_eq_true (by first | (with_reducible assumption) | assumption)
    have q191 : x31_1 < (l0.length : Int) := of_decide_eq_true (by first | (with_reducible assumption) | assumption)
    obtain ⟨ad191, e191, hx191_0, hx191_1, hx191_2⟩ := at_T32 HR0.out x31_1 p191 q191
    cases e191
    replace hx191_0 := (HB.out.cell (World.block_lt_of_cell? w _ hx191_0)).trans hx191_0
    replace hx191_1 := (HB.out.cell (World.block_lt_of_cell? w _ hx191_1)).trans hx191_1
    replace hx191_2 := (HB.out.cell (World.block_lt_of_cell? w _ hx191_2)).trans hx191_2
    replace p191 := eq_true p191
    replace q191 := eq_true q191
    go_wp2_with (first | ((with_reducible refine gate_dst (N := 12) rfl ?_); refine box_event ?hg (N := 12) ?hd (cs := #[.int .i64 0, .int .i64 0, .int .i64 0]) (t := 32) ?hr ?_; (case hd => rfl); (case hg => rfl); (case hr => first | (go_simp; done) | (go_simp; rfl)); intro gb192 hg w36 hbox hb; have n0_ := Aside0.mk (Kd.R_below (by (with_reducible repeat (first | apply Kd.R_alloc | apply Kd.R_drewN | apply Kd.R_drew)); exact HO_5.out) hb); have n1_ := Aside0.mk (Kd.R_below (by (with_reducible repeat (first | apply Kd.R_alloc | apply Kd.R_drewN | apply Kd.R_drew)); exact HO_7.out) hb); have n2_ := Aside0.mk (Kd.R_below (by (with_reducible repeat (first | apply Kd.R_alloc | apply Kd.R_drewN | apply Kd.R_drew)); exact HO_9.out) hb); have n3_ := Aside0.mk (below_step (by repeat (first | (with_reducible first | exact HB.out | apply below_alloc | apply pw_below_drewN | apply below_drew1) | exact HB.out)) hb); have n4_ := Aside0.mk (hbox); have n5_ := Aside0.mk ((by rw [hg]; exact (below_size (by repeat (first | (with_reducible first | exact HB.out | apply below_alloc | apply pw_below_drewN | apply below_drew1) | exact HB.out))) : w.heap.size ≤ gb192)); have n6_ := Aside0.mk ((by rw [hg]; exact (below_size (by repeat (first | (with_reducible first | exact HB.out | apply below_alloc | apply pw_below_drewN | apply below_drew1) | exact HB.out))) : w.heap.size ≤ gb192)); clear HO_5; clear HO_7; clear HO_9; clear HB; have HO_5 := n0_; have HO_7 := n1_; have HO_9 := n2_; have HB := n3_; have BK192 := n4_; have GW192 := n5_; have GE192 := n6_; clear n0_ n1_ n2_ n3_ n4_ n5_ n6_; clear hb hbox hg; have hcz37_0 : w36.cell? ⟨gb192, 0, none⟩ = some (.int .i64 0) := (blk_cell BK192.out 0).trans rfl; have hcz37_1 : w36.cell? ⟨gb192, 1, none⟩ = some (.int .i64 0) := (blk_cell BK192.out 1).trans rfl; have hcz37_2 : w36.cell? ⟨gb192, 2, none⟩ = some (.int .i64 0) := (blk_cell BK192.out 2).trans rfl; have hfz37_0 := blk_frozen BK192.out 0; have hfz37_1 := blk_frozen BK192.out 1; have hfz37_2 := blk_frozen BK192.out 2; obtain ⟨Ao38, co38, eo38⟩ := Kd.R_slice HO_5.out; subst eo38; have p196 : 0 ≤ (x31_1 : Int) := of_decide_eq_true (by first | (with_reducible assumption) | assumption); have q196 : x31_1 < (t183.length : Int) := of_decide_eq_true (by first | (with_reducible assumption) | assumption); obtain ⟨ad196, e196, hx196_0⟩ := Kd.at_int (Kd.R_reads' HO_5.out).2.2 x31_1 p196 q196; cases e196; have hn196_0 : ad196.block ≠ gb192 := Kd.own_blk (Kd.R_ne HO_5.out BK192.out (by decide)); have hn196_1 : ad196.block ≠ gb192 := Kd.own_blk (Kd.R_ne HO_5.out BK192.out (by decide)); have hn196_2 : ad196.block ≠ gb192 := Kd.own_blk (Kd.R_ne HO_5.out BK192.out (by decide)); replace hx196_0 := (cell_far (p := ⟨gb192, 0, none⟩) (by first | (rw [add_block]; exact hn196_0) | (show (Addr.add _ _).block ≠ _; rw [add_block]; exact hn196_0) | exact hn196_0) (.int .i64 ((rd_T32 l0 x31_1).f0))).trans hx196_0; replace hx196_0 := (cell_far (p := ⟨gb192, 1, none⟩) (by first | (rw [add_block]; exact hn196_1) | (show (Addr.add _ _).block ≠ _; rw [add_block]; exact hn196_1) | exact hn196_1) (.int .i64 ((rd_T32 l0 x31_1).f1))).trans hx196_0; replace hx196_0 := (cell_far (p := ⟨gb192, 2, none⟩) (by first | (rw [add_block]; exact hn196_2) | (show (Addr.add _ _).block ≠ _; rw [add_block]; exact hn196_2) | exact hn196_2) (.int .i64 ((rd_T32 l0 x31_1).f2))).trans hx196_0; (try have hy196_0 := fun (n_ : Nat) => (show (((((w36.drewN n_).setCell ⟨gb192, 0, none⟩ (.int .i64 ((rd_T32 l0 x31_1).f0))).setCell ⟨gb192, 1, none⟩ (.int .i64 ((rd_T32 l0 x31_1).f1))).setCell ⟨gb192, 2, none⟩ (.int .i64 ((rd_T32 l0 x31_1).f2)))).cell? _ = some _ from hx196_0)); clear hn196_0; clear hn196_1; clear hn196_2; replace p196 := eq_true p196; replace q196 := eq_true q196) | ((with_reducible refine gate_builtin (b := .append) (xs := #[.tmp 59, .tmp 62]) rfl ?_); at_builtin; refine Kd.R_append (Kd.int .i64) (w0 := w) w.heap.size rfl (.tmp 59) (.tmp 62) 24 3 (.int .i64 0) 8 rfl Try.underlying24 info3 rfl (by decide) (by omega) u9 x9_1 ((rd_T32 l0 x31_1).f1) [.int .i64 ((rd_T32 l0 x31_1).f1)] (fun k_ => some k_ ≠ (.slice (some ad196) t183.length co38 : Value).ownBlock ∧ some k_ ≠ (v189 : Value).ownBlock) (fun _ => False) rfl (by first | (go_simp; done) | (go_simp; rfl)) ?aP (fun _ hk => hk.elim) ?aF ?aO ?aB ?aS ?aL ?_; (case aP => exact rfl); (case aB => exact (by repeat (first | (with_reducible first | exact HB.out | apply below_alloc | apply pw_below_drewN | apply below_drew1 | refine below_set ?_ GE192.out) | exact HB.out))); (case aF => exact (fun k_ hk => ⟨Kd.fresh' (Kd.R_lt (by (with_reducible repeat (first | apply Kd.R_alloc | apply Kd.R_drewN | apply Kd.R_drew)); exact (Kd.R_mono (Kd.R_far (p := ⟨gb192, 2, none⟩) (Kd.R_far (p := ⟨gb192, 1, none⟩) (Kd.R_far (p := ⟨gb192, 0, none⟩) (Kd.R_types HO_5.out BK192.out (by decide)) (fun _ hk => hk.2) (.int .i64 ((rd_T32 l0 x31_1).f0))) (fun _ hk => hk.2) (.int .i64 ((rd_T32 l0 x31_1).f1))) (fun _ hk => hk.2) (.int .i64 ((rd_T32 l0 x31_1).f2))) (fun _ h_ => h_.1)))) k_ hk, Kd.fresh' (Kd.R_lt (by (with_reducible repeat (first | apply Kd.R_alloc | apply Kd.R_drewN | apply Kd.R_drew)); exact (Kd.R_mono (Kd.R_far (p := ⟨gb192, 2, none⟩) (Kd.R_far (p := ⟨gb192, 1, none⟩) (Kd.R_far (p := ⟨gb192, 0, none⟩) (Kd.R_types HO_7.out BK192.out (by decide)) (fun _ hk => hk.2) (.int .i64 ((rd_T32 l0 x31_1).f0))) (fun _ hk => hk.2) (.int .i64 ((rd_T32 l0 x31_1).f1))) (fun _ hk => hk.2) (.int .i64 ((rd_T32 l0 x31_1).f2))) (fun _ h_ => h_.1)))) k_ hk⟩)); (case aO => exact (by (with_reducible repeat (first | apply Kd.R_alloc | apply Kd.R_drewN | apply Kd.R_drew)); exact Kd.R_mono (Kd.R_far (p := ⟨gb192, 2, none⟩) (Kd.R_far (p := ⟨gb192, 1, none⟩) (Kd.R_far (p := ⟨gb192, 0, none⟩) (Kd.R_types HO_9.out BK192.out (by decide)) (fun _ hk => hk.2) (.int .i64 ((rd_T32 l0 x31_1).f0))) (fun _ hk => hk.2) (.int .i64 ((rd_T32 l0 x31_1).f1))) (fun _ hk => hk.2) (.int .i64 ((rd_T32 l0 x31_1).f2))) (fun _ hk => ⟨hk.1.1, hk.1.2⟩))); (case aS => exact (below_size (by repeat (first | (with_reducible first | exact HB.out | apply below_alloc | apply pw_below_drewN | apply below_drew1 | refine below_set ?_ GE192.out) | exact HB.out)))); (case aL => have := LMc35.out; omega); intro v202 w39 ho hb hg hat; rw [← Ny201.out] at ho; have n0_ := Aside0.mk (Kd.R_after (ok := (fun k_ => some k_ ≠ (v189 : Value).ownBlock)) (by (with_reducible repeat (first | apply Kd.R_alloc | apply Kd.R_drewN | apply Kd.R_drew)); exact Kd.R_mono (Kd.R_far (p := ⟨gb192, 2, none⟩) (Kd.R_far (p := ⟨gb192, 1, none⟩) (Kd.R_far (p := ⟨gb192, 0, none⟩) (Kd.R_types HO_5.out BK192.out (by decide)) (fun _ hk => hk.2) (.int .i64 ((rd_T32 l0 x31_1).f0))) (fun _ hk => hk.2) (.int .i64 ((rd_T32 l0 x31_1).f1))) (fun _ hk => hk.2) (.int .i64 ((rd_T32 l0 x31_1).f2))) (fun _ hk => ⟨hk.1.1, hk.1.2⟩)) hg hat); have n1_ := Aside0.mk (Kd.R_after (ok := (fun k_ => some k_ ≠ (.slice (some ad196) t183.length co38 : Value).ownBlock)) (by (with_reducible repeat (first | apply Kd.R_alloc | apply Kd.R_drewN | apply Kd.R_drew)); exact Kd.R_mono (Kd.R_far (p := ⟨gb192, 2, none⟩) (Kd.R_far (p := ⟨gb192, 1, none⟩) (Kd.R_far (p := ⟨gb192, 0, none⟩) (Kd.R_types HO_7.out BK192.out (by decide)) (fun _ hk => hk.2) (.int .i64 ((rd_T32 l0 x31_1).f0))) (fun _ hk => hk.2) (.int .i64 ((rd_T32 l0 x31_1).f1))) (fun _ hk => hk.2) (.int .i64 ((rd_T32 l0 x31_1).f2))) (fun _ hk => ⟨hk.1.1, hk.1.2⟩)) hg hat); have n2_ := Aside0.mk (blk_grown (g := gb192) (o := .cells #[.int .i64 ((rd_T32 l0 x31_1).f0), .int .i64 ((rd_T32 l0 x31_1).f1), .int .i64 ((rd_T32 l0 x31_1).f2)] 32 (0, 0)) (by (with_reducible repeat (first | refine blk_drewN ?_ _ | refine blk_drew ?_ | refine blk_alloc ?_ _)); refine blk_put (cs := #[.int .i64 ((rd_T32 l0 x31_1).f0), .int .i64 ((rd_T32 l0 x31_1).f1), .int .i64 0]) ?_ 2 _ rfl; (with_reducible repeat (first | refine blk_drewN ?_ _ | refine blk_drew ?_ | refine blk_alloc ?_ _)); refine blk_put (cs := #[.int .i64 ((rd_T32 l0 x31_1).f0), .int .i64 0, .int .i64 0]) ?_ 1 _ rfl; (with_reducible repeat (first | refine blk_drewN ?_ _ | refine blk_drew ?_ | refine blk_alloc ?_ _)); refine blk_put (cs := #[.int .i64 0, .int .i64 0, .int .i64 0]) ?_ 0 _ rfl; (with_reducible repeat (first | refine blk_drewN ?_ _ | refine blk_drew ?_ | refine blk_alloc ?_ _)); exact BK192.out) hg (Kd.R_ne HO_9.out BK192.out (by decide))); have n3_ := Aside0.mk (hb); have n4_ := Aside0.mk (ho); clear HO_5; clear HO_7; clear BK192; clear HB; clear HO_9; have HO_5 := n0_; have HO_7 := n1_; have BK192 := n2_; have HB := n3_; have HO203 := n4_; clear n0_ n1_ n2_ n3_ n4_; clear ho hb hg hat))
    repeat (go_quiet (fail); try go_wp2_with (first | ((with_reducible refine gate_dst (N := 12) rfl ?_); refine box_event ?hg (N := 12) ?hd (cs := #[.int .i64 0, .int .i64 0, .int .i64 0]) (t := 32) ?hr ?_; (case hd => rfl); (case hg => rfl); (case hr => first | (go_simp; done) | (go_simp; rfl)); intro gb192 hg w36 hbox hb; have n0_ := Aside0.mk (Kd.R_below (by (with_reducible repeat (first | apply Kd.R_alloc | apply Kd.R_drewN | apply Kd.R_drew)); exact HO_5.out) hb); have n1_ := Aside0.mk (Kd.R_below (by (with_reducible repeat (first | apply Kd.R_alloc | apply Kd.R_drewN | apply Kd.R_drew)); exact HO_7.out) hb); have n2_ := Aside0.mk (Kd.R_below (by (with_reducible repeat (first | apply Kd.R_alloc | apply Kd.R_drewN | apply Kd.R_drew)); exact HO_9.out) hb); have n3_ := Aside0.mk (below_step (by repeat (first | (with_reducible first | exact HB.out | apply below_alloc | apply pw_below_drewN | apply below_drew1) | exact HB.out)) hb); have n4_ := Aside0.mk (hbox); have n5_ := Aside0.mk ((by rw [hg]; exact (below_size (by repeat (first | (with_reducible first | exact HB.out | apply below_alloc | apply pw_below_drewN | apply below_drew1) | exact HB.out))) : w.heap.size ≤ gb192)); have n6_ := Aside0.mk ((by rw [hg]; exact (below_size (by repeat (first | (with_reducible first | exact HB.out | apply below_alloc | apply pw_below_drewN | apply below_drew1) | exact HB.out))) : w.heap.size ≤ gb192)); clear HO_5; clear HO_7; clear HO_9; clear HB; have HO_5 := n0_; have HO_7 := n1_; have HO_9 := n2_; have HB := n3_; have BK192 := n4_; have GW192 := n5_; have GE192 := n6_; clear n0_ n1_ n2_ n3_ n4_ n5_ n6_; clear hb hbox hg; have hcz37_0 : w36.cell? ⟨gb192, 0, none⟩ = some (.int .i64 0) := (blk_cell BK192.out 0).trans rfl; have hcz37_1 : w36.cell? ⟨gb192, 1, none⟩ = some (.int .i64 0) := (blk_cell BK192.out 1).trans rfl; have hcz37_2 : w36.cell? ⟨gb192, 2, none⟩ = some (.int .i64 0) := (blk_cell BK192.out 2).trans rfl; have hfz37_0 := blk_frozen BK192.out 0; have hfz37_1 := blk_frozen BK192.out 1; have hfz37_2 := blk_frozen BK192.out 2; obtain ⟨Ao38, co38, eo38⟩ := Kd.R_slice HO_5.out; subst eo38; have p196 : 0 ≤ (x31_1 : Int) := of_decide_eq_true (by first | (with_reducible assumption) | assumption); have q196 : x31_1 < (t183.length : Int) := of_decide_eq_true (by first | (with_reducible assumption) | assumption); obtain ⟨ad196, e196, hx196_0⟩ := Kd.at_int (Kd.R_reads' HO_5.out).2.2 x31_1 p196 q196; cases e196; have hn196_0 : ad196.block ≠ gb192 := Kd.own_blk (Kd.R_ne HO_5.out BK192.out (by decide)); have hn196_1 : ad196.block ≠ gb192 := Kd.own_blk (Kd.R_ne HO_5.out BK192.out (by decide)); have hn196_2 : ad196.block ≠ gb192 := Kd.own_blk (Kd.R_ne HO_5.out BK192.out (by decide)); replace hx196_0 := (cell_far (p := ⟨gb192, 0, none⟩) (by first | (rw [add_block]; exact hn196_0) | (show (Addr.add _ _).block ≠ _; rw [add_block]; exact hn196_0) | exact hn196_0) (.int .i64 ((rd_T32 l0 x31_1).f0))).trans hx196_0; replace hx196_0 := (cell_far (p := ⟨gb192, 1, none⟩) (by first | (rw [add_block]; exact hn196_1) | (show (Addr.add _ _).block ≠ _; rw [add_block]; exact hn196_1) | exact hn196_1) (.int .i64 ((rd_T32 l0 x31_1).f1))).trans hx196_0; replace hx196_0 := (cell_far (p := ⟨gb192, 2, none⟩) (by first | (rw [add_block]; exact hn196_2) | (show (Addr.add _ _).block ≠ _; rw [add_block]; exact hn196_2) | exact hn196_2) (.int .i64 ((rd_T32 l0 x31_1).f2))).trans hx196_0; (try have hy196_0 := fun (n_ : Nat) => (show (((((w36.drewN n_).setCell ⟨gb192, 0, none⟩ (.int .i64 ((rd_T32 l0 x31_1).f0))).setCell ⟨gb192, 1, none⟩ (.int .i64 ((rd_T32 l0 x31_1).f1))).setCell ⟨gb192, 2, none⟩ (.int .i64 ((rd_T32 l0 x31_1).f2)))).cell? _ = some _ from hx196_0)); clear hn196_0; clear hn196_1; clear hn196_2; replace p196 := eq_true p196; replace q196 := eq_true q196) | ((with_reducible refine gate_builtin (b := .append) (xs := #[.tmp 59, .tmp 62]) rfl ?_); at_builtin; refine Kd.R_append (Kd.int .i64) (w0 := w) w.heap.size rfl (.tmp 59) (.tmp 62) 24 3 (.int .i64 0) 8 rfl Try.underlying24 info3 rfl (by decide) (by omega) u9 x9_1 ((rd_T32 l0 x31_1).f1) [.int .i64 ((rd_T32 l0 x31_1).f1)] (fun k_ => some k_ ≠ (.slice (some ad196) t183.length co38 : Value).ownBlock ∧ some k_ ≠ (v189 : Value).ownBlock) (fun _ => False) rfl (by first | (go_simp; done) | (go_simp; rfl)) ?aP (fun _ hk => hk.elim) ?aF ?aO ?aB ?aS ?aL ?_; (case aP => exact rfl); (case aB => exact (by repeat (first | (with_reducible first | exact HB.out | apply below_alloc | apply pw_below_drewN | apply below_drew1 | refine below_set ?_ GE192.out) | exact HB.out))); (case aF => exact (fun k_ hk => ⟨Kd.fresh' (Kd.R_lt (by (with_reducible repeat (first | apply Kd.R_alloc | apply Kd.R_drewN | apply Kd.R_drew)); exact (Kd.R_mono (Kd.R_far (p := ⟨gb192, 2, none⟩) (Kd.R_far (p := ⟨gb192, 1, none⟩) (Kd.R_far (p := ⟨gb192, 0, none⟩) (Kd.R_types HO_5.out BK192.out (by decide)) (fun _ hk => hk.2) (.int .i64 ((rd_T32 l0 x31_1).f0))) (fun _ hk => hk.2) (.int .i64 ((rd_T32 l0 x31_1).f1))) (fun _ hk => hk.2) (.int .i64 ((rd_T32 l0 x31_1).f2))) (fun _ h_ => h_.1)))) k_ hk, Kd.fresh' (Kd.R_lt (by (with_reducible repeat (first | apply Kd.R_alloc | apply Kd.R_drewN | apply Kd.R_drew)); exact (Kd.R_mono (Kd.R_far (p := ⟨gb192, 2, none⟩) (Kd.R_far (p := ⟨gb192, 1, none⟩) (Kd.R_far (p := ⟨gb192, 0, none⟩) (Kd.R_types HO_7.out BK192.out (by decide)) (fun _ hk => hk.2) (.int .i64 ((rd_T32 l0 x31_1).f0))) (fun _ hk => hk.2) (.int .i64 ((rd_T32 l0 x31_1).f1))) (fun _ hk => hk.2) (.int .i64 ((rd_T32 l0 x31_1).f2))) (fun _ h_ => h_.1)))) k_ hk⟩)); (case aO => exact (by (with_reducible repeat (first | apply Kd.R_alloc | apply Kd.R_drewN | apply Kd.R_drew)); exact Kd.R_mono (Kd.R_far (p := ⟨gb192, 2, none⟩) (Kd.R_far (p := ⟨gb192, 1, none⟩) (Kd.R_far (p := ⟨gb192, 0, none⟩) (Kd.R_types HO_9.out BK192.out (by decide)) (fun _ hk => hk.2) (.int .i64 ((rd_T32 l0 x31_1).f0))) (fun _ hk => hk.2) (.int .i64 ((rd_T32 l0 x31_1).f1))) (fun _ hk => hk.2) (.int .i64 ((rd_T32 l0 x31_1).f2))) (fun _ hk => ⟨hk.1.1, hk.1.2⟩))); (case aS => exact (below_size (by repeat (first | (with_reducible first | exact HB.out | apply below_alloc | apply pw_below_drewN | apply below_drew1 | refine below_set ?_ GE192.out) | exact HB.out)))); (case aL => have := LMc35.out; omega); intro v202 w39 ho hb hg hat; rw [← Ny201.out] at ho; have n0_ := Aside0.mk (Kd.R_after (ok := (fun k_ => some k_ ≠ (v189 : Value).ownBlock)) (by (with_reducible repeat (first | apply Kd.R_alloc | apply Kd.R_drewN | apply Kd.R_drew)); exact Kd.R_mono (Kd.R_far (p := ⟨gb192, 2, none⟩) (Kd.R_far (p := ⟨gb192, 1, none⟩) (Kd.R_far (p := ⟨gb192, 0, none⟩) (Kd.R_types HO_5.out BK192.out (by decide)) (fun _ hk => hk.2) (.int .i64 ((rd_T32 l0 x31_1).f0))) (fun _ hk => hk.2) (.int .i64 ((rd_T32 l0 x31_1).f1))) (fun _ hk => hk.2) (.int .i64 ((rd_T32 l0 x31_1).f2))) (fun _ hk => ⟨hk.1.1, hk.1.2⟩)) hg hat); have n1_ := Aside0.mk (Kd.R_after (ok := (fun k_ => some k_ ≠ (.slice (some ad196) t183.length co38 : Value).ownBlock)) (by (with_reducible repeat (first | apply Kd.R_alloc | apply Kd.R_drewN | apply Kd.R_drew)); exact Kd.R_mono (Kd.R_far (p := ⟨gb192, 2, none⟩) (Kd.R_far (p := ⟨gb192, 1, none⟩) (Kd.R_far (p := ⟨gb192, 0, none⟩) (Kd.R_types HO_7.out BK192.out (by decide)) (fun _ hk => hk.2) (.int .i64 ((rd_T32 l0 x31_1).f0))) (fun _ hk => hk.2) (.int .i64 ((rd_T32 l0 x31_1).f1))) (fun _ hk => hk.2) (.int .i64 ((rd_T32 l0 x31_1).f2))) (fun _ hk => ⟨hk.1.1, hk.1.2⟩)) hg hat); have n2_ := Aside0.mk (blk_grown (g := gb192) (o := .cells #[.int .i64 ((rd_T32 l0 x31_1).f0), .int .i64 ((rd_T32 l0 x31_1).f1), .int .i64 ((rd_T32 l0 x31_1).f2)] 32 (0, 0)) (by (with_reducible repeat (first | refine blk_drewN ?_ _ | refine blk_drew ?_ | refine blk_alloc ?_ _)); refine blk_put (cs := #[.int .i64 ((rd_T32 l0 x31_1).f0), .int .i64 ((rd_T32 l0 x31_1).f1), .int .i64 0]) ?_ 2 _ rfl; (with_reducible repeat (first | refine blk_drewN ?_ _ | refine blk_drew ?_ | refine blk_alloc ?_ _)); refine blk_put (cs := #[.int .i64 ((rd_T32 l0 x31_1).f0), .int .i64 0, .int .i64 0]) ?_ 1 _ rfl; (with_reducible repeat (first | refine blk_drewN ?_ _ | refine blk_drew ?_ | refine blk_alloc ?_ _)); refine blk_put (cs := #[.int .i64 0, .int .i64 0, .int .i64 0]) ?_ 0 _ rfl; (with_reducible repeat (first | refine blk_drewN ?_ _ | refine blk_drew ?_ | refine blk_alloc ?_ _)); exact BK192.out) hg (Kd.R_ne HO_9.out BK192.out (by decide))); have n3_ := Aside0.mk (hb); have n4_ := Aside0.mk (ho); clear HO_5; clear HO_7; clear BK192; clear HB; clear HO_9; have HO_5 := n0_; have HO_7 := n1_; have BK192 := n2_; have HB := n3_; have HO203 := n4_; clear n0_ n1_ n2_ n3_ n4_; clear ho hb hg hat)))
    go_ret2
    exact ⟨_, by first | rfl | (simp [errW_none, errW_some] <;> rfl) | (simp only [← hji20]; first | rfl | (simp [errW_none, errW_some] <;> rfl)) | (simp [*, errW_none, errW_some] <;> rfl), by first | exact Kd.R_nil _ _ _ _ _ | exact Kd.N_nil _ _ _ _ _ | exact Kd.V_nil _ _ _ _ _ | exact Kd.Q_nil _ _ _ _ _ | exact Kd.S_nil _ _ _ _ _, by repeat (first | (with_reducible first | exact HB.out | apply below_alloc | apply pw_below_drewN | apply below_drew1 | refine below_set ?_ GE192.out) | exact HB.out | exact Below.refl _ _)⟩
   rw [if_pos c21] at H
   have c21b0 : ((ji20) == 0) = true := beq_iff_eq.mpr c21
   have c21b1 : ((ji20) != 0) = false := bne_eq_false_iff_eq.mpr c21
   clear c21
   replace H := Option.bind_eq_some_iff.mp H
   obtain ⟨t197, A220, H⟩ := H
   replace H : (if x9_1.length < 17592186044416 then (if t197 = true then (some (([] : List Int), 11)) else (nest_Locks.l0 k1 l0 t183 t187 (x9_1 ++ [(rd_T32 l0 x31_1).f1]) false l0 (l0.length : Int) (wrap64 (x31_1 + 1)))) else (none)) = some (r1, r2) := H
   have A22 := Aside0.mk A220
   clear A220
   by_cases c23 : x9_1.length < 17592186044416
   rotate_left
   ·rw [if_neg c23] at H
    exact absurd H (by simp)
   rw [if_pos c23] at H
   have LMc23 := Aside0.mk c23
   clear c23
   obtain ⟨y198, hy198⟩ : ∃ y_ : List Int, y_ = (x9_1 ++ [(rd_T32 l0 x31_1).f1]) := ⟨_, rfl⟩
   replace H : (if t197 = true then (some (([] : List Int), 11)) else (nest_Locks.l0 k1 l0 t183 t187 y198 false l0 (l0.length : Int) (wrap64 (x31_1 + 1)))) = some (r1, r2) := by first | (rw [hy198]; with_reducible exact H) | (have H2_ := (Option.bind_some _ _).symm.trans H; rw [hy198]; with_reducible exact H2_) | (have H2_ := (Option.bind_some _ _).symm.trans H; with_reducible exact H2_) | with_reducible exact H | (rw [hy198]; exact H) | exact H
   have Ny198 := Aside0.mk hy198
   clear hy198
   by_cases c24 : t197 = true
   ·subst c24
    have H1 : (some (([] : List Int), 11)) = some (r1, r2) := by rw [if_pos rfl] at H; exact H
    clear H
    have H := H1
    clear H1
    simp only [Option.some.injEq, Prod.mk.injEq] at H
    obtain ⟨rfl, rfl⟩ := H
    have p191 : 0 ≤ (x31_1 : Int) := of_decide_eq_true (by first | (with_reducible assumption) | assumption)
    have q191 : x31_1 < (l0.length : Int) := of_decide_eq_true (by first | (with_reducible assumption) | assumption)
    obtain ⟨ad191, e191, hx191_0, hx191_1, hx191_2⟩ := at_T32 HR0.out x31_1 p191 q191
    cases e191
    replace hx191_0 := (HB.out.cell (World.block_lt_of_cell? w _ hx191_0)).trans hx191_0
    replace hx191_1 := (HB.out.cell (World.block_lt_of_cell? w _ hx191_1)).trans hx191_1
    replace hx191_2 := (HB.out.cell (World.block_lt_of_cell? w _ hx191_2)).trans hx191_2
    replace p191 := eq_true p191
    replace q191 := eq_true q191
    go_wp2_with (first | ((with_reducible refine gate_dst (N := 12) rfl ?_); refine box_event ?hg (N := 12) ?hd (cs := #[.int .i64 0, .int .i64 0, .int .i64 0]) (t := 32) ?hr ?_; (case hd => rfl); (case hg => rfl); (case hr => first | (go_simp; done) | (go_simp; rfl)); intro gb192 hg w25 hbox hb; have n0_ := Aside0.mk (Kd.R_below (by (with_reducible repeat (first | apply Kd.R_alloc | apply Kd.R_drewN | apply Kd.R_drew)); exact HO_5.out) hb); have n1_ := Aside0.mk (Kd.R_below (by (with_reducible repeat (first | apply Kd.R_alloc | apply Kd.R_drewN | apply Kd.R_drew)); exact HO_7.out) hb); have n2_ := Aside0.mk (Kd.R_below (by (with_reducible repeat (first | apply Kd.R_alloc | apply Kd.R_drewN | apply Kd.R_drew)); exact HO_9.out) hb); have n3_ := Aside0.mk (below_step (by repeat (first | (with_reducible first | exact HB.out | apply below_alloc | apply pw_below_drewN | apply below_drew1) | exact HB.out)) hb); have n4_ := Aside0.mk (hbox); have n5_ := Aside0.mk ((by rw [hg]; exact (below_size (by repeat (first | (with_reducible first | exact HB.out | apply below_alloc | apply pw_below_drewN | apply below_drew1) | exact HB.out))) : w.heap.size ≤ gb192)); have n6_ := Aside0.mk ((by rw [hg]; exact (below_size (by repeat (first | (with_reducible first | exact HB.out | apply below_alloc | apply pw_below_drewN | apply below_drew1) | exact HB.out))) : w.heap.size ≤ gb192)); clear HO_5; clear HO_7; clear HO_9; clear HB; have HO_5 := n0_; have HO_7 := n1_; have HO_9 := n2_; have HB := n3_; have BK192 := n4_; have GW192 := n5_; have GE192 := n6_; clear n0_ n1_ n2_ n3_ n4_ n5_ n6_; clear hb hbox hg; have hcz26_0 : w25.cell? ⟨gb192, 0, none⟩ = some (.int .i64 0) := (blk_cell BK192.out 0).trans rfl; have hcz26_1 : w25.cell? ⟨gb192, 1, none⟩ = some (.int .i64 0) := (blk_cell BK192.out 1).trans rfl; have hcz26_2 : w25.cell? ⟨gb192, 2, none⟩ = some (.int .i64 0) := (blk_cell BK192.out 2).trans rfl; have hfz26_0 := blk_frozen BK192.out 0; have hfz26_1 := blk_frozen BK192.out 1; have hfz26_2 := blk_frozen BK192.out 2; obtain ⟨Ao27, co27, eo27⟩ := Kd.R_slice HO_5.out; subst eo27; have p196 : 0 ≤ (x31_1 : Int) := of_decide_eq_true (by first | (with_reducible assumption) | assumption); have q196 : x31_1 < (t183.length : Int) := of_decide_eq_true (by first | (with_reducible assumption) | assumption); obtain ⟨ad196, e196, hx196_0⟩ := Kd.at_int (Kd.R_reads' HO_5.out).2.2 x31_1 p196 q196; cases e196; have hn196_0 : ad196.block ≠ gb192 := Kd.own_blk (Kd.R_ne HO_5.out BK192.out (by decide)); have hn196_1 : ad196.block ≠ gb192 := Kd.own_blk (Kd.R_ne HO_5.out BK192.out (by decide)); have hn196_2 : ad196.block ≠ gb192 := Kd.own_blk (Kd.R_ne HO_5.out BK192.out (by decide)); replace hx196_0 := (cell_far (p := ⟨gb192, 0, none⟩) (by first | (rw [add_block]; exact hn196_0) | (show (Addr.add _ _).block ≠ _; rw [add_block]; exact hn196_0) | exact hn196_0) (.int .i64 ((rd_T32 l0 x31_1).f0))).trans hx196_0; replace hx196_0 := (cell_far (p := ⟨gb192, 1, none⟩) (by first | (rw [add_block]; exact hn196_1) | (show (Addr.add _ _).block ≠ _; rw [add_block]; exact hn196_1) | exact hn196_1) (.int .i64 ((rd_T32 l0 x31_1).f1))).trans hx196_0; replace hx196_0 := (cell_far (p := ⟨gb192, 2, none⟩) (by first | (rw [add_block]; exact hn196_2) | (show (Addr.add _ _).block ≠ _; rw [add_block]; exact hn196_2) | exact hn196_2) (.int .i64 ((rd_T32 l0 x31_1).f2))).trans hx196_0; (try have hy196_0 := fun (n_ : Nat) => (show (((((w25.drewN n_).setCell ⟨gb192, 0, none⟩ (.int .i64 ((rd_T32 l0 x31_1).f0))).setCell ⟨gb192, 1, none⟩ (.int .i64 ((rd_T32 l0 x31_1).f1))).setCell ⟨gb192, 2, none⟩ (.int .i64 ((rd_T32 l0 x31_1).f2)))).cell? _ = some _ from hx196_0)); clear hn196_0; clear hn196_1; clear hn196_2; replace p196 := eq_true p196; replace q196 := eq_true q196; obtain ⟨Ao28, co28, eo28⟩ := Kd.R_slice HO_7.out; subst eo28) | (go_at_call 28; (with_reducible refine (nest_looped.calls k1 _ _ l0 _ _ t187 x31_1 true _ ?side1 ?side2 ?side3 ?side4 A22.out).mono ?_); (case side1 => exact Kd.C_below HR0.out (by repeat (first | (with_reducible first | exact HB.out | apply below_alloc | apply pw_below_drewN | apply below_drew1 | refine below_set ?_ GE192.out) | exact HB.out))); (case side2 => exact HC0.out); (case side3 => refine (Kd.R_reads' (e := 3) (base := w.heap.size) (ok := fun k_ => (some k_ ≠ (.slice (some ad196) t183.length co27 : Value).ownBlock ∧ some k_ ≠ (u9 : Value).ownBlock)) (n := t187.length) (c := co28) ?_).2.2; exact (by (with_reducible repeat (first | apply Kd.R_alloc | apply Kd.R_drewN | apply Kd.R_drew)); exact (Kd.R_mono (Kd.R_far (p := ⟨gb192, 2, none⟩) (Kd.R_far (p := ⟨gb192, 1, none⟩) (Kd.R_far (p := ⟨gb192, 0, none⟩) (Kd.R_types HO_7.out BK192.out (by decide)) (fun _ hk => hk.2) (.int .i64 ((rd_T32 l0 x31_1).f0))) (fun _ hk => hk.2) (.int .i64 ((rd_T32 l0 x31_1).f1))) (fun _ hk => hk.2) (.int .i64 ((rd_T32 l0 x31_1).f2))) (fun _ h_ => h_.1)))); (case side4 => exact (Kd.R_reads' HO_7.out).2.1); rintro e w' ⟨rfl, ⟨nd, rfl⟩⟩; (try first | exact ⟨rfl, _, World.drewN_drewN _ _ _⟩ | exact ⟨rfl, _, Eq.trans (World.drewN_drewN _ _ _) (congrArg (World.drewN _) (Nat.add_assoc _ _ _))⟩)) | ((with_reducible refine gate_builtin (b := .append) (xs := #[.tmp 59, .tmp 62]) rfl ?_); at_builtin; refine Kd.R_append (Kd.int .i64) (w0 := w) w.heap.size rfl (.tmp 59) (.tmp 62) 24 3 (.int .i64 0) 8 rfl Try.underlying24 info3 rfl (by decide) (by omega) u9 x9_1 ((rd_T32 l0 x31_1).f1) [.int .i64 ((rd_T32 l0 x31_1).f1)] (fun k_ => some k_ ≠ (.slice (some ad196) t183.length co27 : Value).ownBlock ∧ some k_ ≠ (.slice Ao28 t187.length co28 : Value).ownBlock) (fun _ => False) rfl (by first | (go_simp; done) | (go_simp; rfl)) ?aP (fun _ hk => hk.elim) ?aF ?aO ?aB ?aS ?aL ?_; (case aP => exact rfl); (case aB => exact (by repeat (first | (with_reducible first | exact HB.out | apply below_alloc | apply pw_below_drewN | apply below_drew1 | refine below_set ?_ GE192.out) | exact HB.out))); (case aF => exact (fun k_ hk => ⟨Kd.fresh' (Kd.R_lt (by (with_reducible repeat (first | apply Kd.R_alloc | apply Kd.R_drewN | apply Kd.R_drew)); exact (Kd.R_mono (Kd.R_far (p := ⟨gb192, 2, none⟩) (Kd.R_far (p := ⟨gb192, 1, none⟩) (Kd.R_far (p := ⟨gb192, 0, none⟩) (Kd.R_types HO_5.out BK192.out (by decide)) (fun _ hk => hk.2) (.int .i64 ((rd_T32 l0 x31_1).f0))) (fun _ hk => hk.2) (.int .i64 ((rd_T32 l0 x31_1).f1))) (fun _ hk => hk.2) (.int .i64 ((rd_T32 l0 x31_1).f2))) (fun _ h_ => h_.1)))) k_ hk, Kd.fresh' (Kd.R_lt (by (with_reducible repeat (first | apply Kd.R_alloc | apply Kd.R_drewN | apply Kd.R_drew)); exact (Kd.R_mono (Kd.R_far (p := ⟨gb192, 2, none⟩) (Kd.R_far (p := ⟨gb192, 1, none⟩) (Kd.R_far (p := ⟨gb192, 0, none⟩) (Kd.R_types HO_7.out BK192.out (by decide)) (fun _ hk => hk.2) (.int .i64 ((rd_T32 l0 x31_1).f0))) (fun _ hk => hk.2) (.int .i64 ((rd_T32 l0 x31_1).f1))) (fun _ hk => hk.2) (.int .i64 ((rd_T32 l0 x31_1).f2))) (fun _ h_ => h_.1)))) k_ hk⟩)); (case aO => exact (by (with_reducible repeat (first | apply Kd.R_alloc | apply Kd.R_drewN | apply Kd.R_drew)); exact Kd.R_mono (Kd.R_far (p := ⟨gb192, 2, none⟩) (Kd.R_far (p := ⟨gb192, 1, none⟩) (Kd.R_far (p := ⟨gb192, 0, none⟩) (Kd.R_types HO_9.out BK192.out (by decide)) (fun _ hk => hk.2) (.int .i64 ((rd_T32 l0 x31_1).f0))) (fun _ hk => hk.2) (.int .i64 ((rd_T32 l0 x31_1).f1))) (fun _ hk => hk.2) (.int .i64 ((rd_T32 l0 x31_1).f2))) (fun _ hk => ⟨hk.1.1, hk.1.2⟩))); (case aS => exact (below_size (by repeat (first | (with_reducible first | exact HB.out | apply below_alloc | apply pw_below_drewN | apply below_drew1 | refine below_set ?_ GE192.out) | exact HB.out)))); (case aL => have := LMc23.out; omega); intro v199 w29 ho hb hg hat; rw [← Ny198.out] at ho; have n0_ := Aside0.mk (Kd.R_after (ok := (fun k_ => some k_ ≠ (.slice Ao28 t187.length co28 : Value).ownBlock)) (by (with_reducible repeat (first | apply Kd.R_alloc | apply Kd.R_drewN | apply Kd.R_drew)); exact Kd.R_mono (Kd.R_far (p := ⟨gb192, 2, none⟩) (Kd.R_far (p := ⟨gb192, 1, none⟩) (Kd.R_far (p := ⟨gb192, 0, none⟩) (Kd.R_types HO_5.out BK192.out (by decide)) (fun _ hk => hk.2) (.int .i64 ((rd_T32 l0 x31_1).f0))) (fun _ hk => hk.2) (.int .i64 ((rd_T32 l0 x31_1).f1))) (fun _ hk => hk.2) (.int .i64 ((rd_T32 l0 x31_1).f2))) (fun _ hk => ⟨hk.1.1, hk.1.2⟩)) hg hat); have n1_ := Aside0.mk (Kd.R_after (ok := (fun k_ => some k_ ≠ (.slice (some ad196) t183.length co27 : Value).ownBlock)) (by (with_reducible repeat (first | apply Kd.R_alloc | apply Kd.R_drewN | apply Kd.R_drew)); exact Kd.R_mono (Kd.R_far (p := ⟨gb192, 2, none⟩) (Kd.R_far (p := ⟨gb192, 1, none⟩) (Kd.R_far (p := ⟨gb192, 0, none⟩) (Kd.R_types HO_7.out BK192.out (by decide)) (fun _ hk => hk.2) (.int .i64 ((rd_T32 l0 x31_1).f0))) (fun _ hk => hk.2) (.int .i64 ((rd_T32 l0 x31_1).f1))) (fun _ hk => hk.2) (.int .i64 ((rd_T32 l0 x31_1).f2))) (fun _ hk => ⟨hk.1.1, hk.1.2⟩)) hg hat); have n2_ := Aside0.mk (blk_grown (g := gb192) (o := .cells #[.int .i64 ((rd_T32 l0 x31_1).f0), .int .i64 ((rd_T32 l0 x31_1).f1), .int .i64 ((rd_T32 l0 x31_1).f2)] 32 (0, 0)) (by (with_reducible repeat (first | refine blk_drewN ?_ _ | refine blk_drew ?_ | refine blk_alloc ?_ _)); refine blk_put (cs := #[.int .i64 ((rd_T32 l0 x31_1).f0), .int .i64 ((rd_T32 l0 x31_1).f1), .int .i64 0]) ?_ 2 _ rfl; (with_reducible repeat (first | refine blk_drewN ?_ _ | refine blk_drew ?_ | refine blk_alloc ?_ _)); refine blk_put (cs := #[.int .i64 ((rd_T32 l0 x31_1).f0), .int .i64 0, .int .i64 0]) ?_ 1 _ rfl; (with_reducible repeat (first | refine blk_drewN ?_ _ | refine blk_drew ?_ | refine blk_alloc ?_ _)); refine blk_put (cs := #[.int .i64 0, .int .i64 0, .int .i64 0]) ?_ 0 _ rfl; (with_reducible repeat (first | refine blk_drewN ?_ _ | refine blk_drew ?_ | refine blk_alloc ?_ _)); exact BK192.out) hg (Kd.R_ne HO_9.out BK192.out (by decide))); have n3_ := Aside0.mk (hb); have n4_ := Aside0.mk (ho); clear HO_5; clear HO_7; clear BK192; clear HB; clear HO_9; have HO_5 := n0_; have HO_7 := n1_; have BK192 := n2_; have HB := n3_; have HO200 := n4_; clear n0_ n1_ n2_ n3_ n4_; clear ho hb hg hat))
    repeat (go_quiet (first | (go_at_call 28; (with_reducible refine (nest_looped.calls k1 _ _ l0 _ _ t187 x31_1 true _ ?side1 ?side2 ?side3 ?side4 A22.out).mono ?_); (case side1 => exact Kd.C_below HR0.out (by repeat (first | (with_reducible first | exact HB.out | apply below_alloc | apply pw_below_drewN | apply below_drew1 | refine below_set ?_ GE192.out) | exact HB.out))); (case side2 => exact HC0.out); (case side3 => refine (Kd.R_reads' (e := 3) (base := w.heap.size) (ok := fun k_ => (some k_ ≠ (.slice (some ad196) t183.length co27 : Value).ownBlock ∧ some k_ ≠ (u9 : Value).ownBlock)) (n := t187.length) (c := co28) ?_).2.2; exact (by (with_reducible repeat (first | apply Kd.R_alloc | apply Kd.R_drewN | apply Kd.R_drew)); exact (Kd.R_mono (Kd.R_far (p := ⟨gb192, 2, none⟩) (Kd.R_far (p := ⟨gb192, 1, none⟩) (Kd.R_far (p := ⟨gb192, 0, none⟩) (Kd.R_types HO_7.out BK192.out (by decide)) (fun _ hk => hk.2) (.int .i64 ((rd_T32 l0 x31_1).f0))) (fun _ hk => hk.2) (.int .i64 ((rd_T32 l0 x31_1).f1))) (fun _ hk => hk.2) (.int .i64 ((rd_T32 l0 x31_1).f2))) (fun _ h_ => h_.1)))); (case side4 => exact (Kd.R_reads' HO_7.out).2.1); rintro e w' ⟨rfl, ⟨nd, rfl⟩⟩; (try first | exact ⟨rfl, _, World.drewN_drewN _ _ _⟩ | exact ⟨rfl, _, Eq.trans (World.drewN_drewN _ _ _) (congrArg (World.drewN _) (Nat.add_assoc _ _ _))⟩))); try go_wp2_with (first | ((with_reducible refine gate_builtin (b := .append) (xs := #[.tmp 59, .tmp 62]) rfl ?_); at_builtin; refine Kd.R_append (Kd.int .i64) (w0 := w) w.heap.size rfl (.tmp 59) (.tmp 62) 24 3 (.int .i64 0) 8 rfl Try.underlying24 info3 rfl (by decide) (by omega) u9 x9_1 ((rd_T32 l0 x31_1).f1) [.int .i64 ((rd_T32 l0 x31_1).f1)] (fun k_ => some k_ ≠ (.slice (some ad196) t183.length co27 : Value).ownBlock ∧ some k_ ≠ (.slice Ao28 t187.length co28 : Value).ownBlock) (fun _ => False) rfl (by first | (go_simp; done) | (go_simp; rfl)) ?aP (fun _ hk => hk.elim) ?aF ?aO ?aB ?aS ?aL ?_; (case aP => exact rfl); (case aB => exact (by repeat (first | (with_reducible first | exact HB.out | apply below_alloc | apply pw_below_drewN | apply below_drew1 | refine below_set ?_ GE192.out) | exact HB.out))); (case aF => exact (fun k_ hk => ⟨Kd.fresh' (Kd.R_lt (by (with_reducible repeat (first | apply Kd.R_alloc | apply Kd.R_drewN | apply Kd.R_drew)); exact (Kd.R_mono (Kd.R_far (p := ⟨gb192, 2, none⟩) (Kd.R_far (p := ⟨gb192, 1, none⟩) (Kd.R_far (p := ⟨gb192, 0, none⟩) (Kd.R_types HO_5.out BK192.out (by decide)) (fun _ hk => hk.2) (.int .i64 ((rd_T32 l0 x31_1).f0))) (fun _ hk => hk.2) (.int .i64 ((rd_T32 l0 x31_1).f1))) (fun _ hk => hk.2) (.int .i64 ((rd_T32 l0 x31_1).f2))) (fun _ h_ => h_.1)))) k_ hk, Kd.fresh' (Kd.R_lt (by (with_reducible repeat (first | apply Kd.R_alloc | apply Kd.R_drewN | apply Kd.R_drew)); exact (Kd.R_mono (Kd.R_far (p := ⟨gb192, 2, none⟩) (Kd.R_far (p := ⟨gb192, 1, none⟩) (Kd.R_far (p := ⟨gb192, 0, none⟩) (Kd.R_types HO_7.out BK192.out (by decide)) (fun _ hk => hk.2) (.int .i64 ((rd_T32 l0 x31_1).f0))) (fun _ hk => hk.2) (.int .i64 ((rd_T32 l0 x31_1).f1))) (fun _ hk => hk.2) (.int .i64 ((rd_T32 l0 x31_1).f2))) (fun _ h_ => h_.1)))) k_ hk⟩)); (case aO => exact (by (with_reducible repeat (first | apply Kd.R_alloc | apply Kd.R_drewN | apply Kd.R_drew)); exact Kd.R_mono (Kd.R_far (p := ⟨gb192, 2, none⟩) (Kd.R_far (p := ⟨gb192, 1, none⟩) (Kd.R_far (p := ⟨gb192, 0, none⟩) (Kd.R_types HO_9.out BK192.out (by decide)) (fun _ hk => hk.2) (.int .i64 ((rd_T32 l0 x31_1).f0))) (fun _ hk => hk.2) (.int .i64 ((rd_T32 l0 x31_1).f1))) (fun _ hk => hk.2) (.int .i64 ((rd_T32 l0 x31_1).f2))) (fun _ hk => ⟨hk.1.1, hk.1.2⟩))); (case aS => exact (below_size (by repeat (first | (with_reducible first | exact HB.out | apply below_alloc | apply pw_below_drewN | apply below_drew1 | refine below_set ?_ GE192.out) | exact HB.out)))); (case aL => have := LMc23.out; omega); intro v199 w29 ho hb hg hat; rw [← Ny198.out] at ho; have n0_ := Aside0.mk (Kd.R_after (ok := (fun k_ => some k_ ≠ (.slice Ao28 t187.length co28 : Value).ownBlock)) (by (with_reducible repeat (first | apply Kd.R_alloc | apply Kd.R_drewN | apply Kd.R_drew)); exact Kd.R_mono (Kd.R_far (p := ⟨gb192, 2, none⟩) (Kd.R_far (p := ⟨gb192, 1, none⟩) (Kd.R_far (p := ⟨gb192, 0, none⟩) (Kd.R_types HO_5.out BK192.out (by decide)) (fun _ hk => hk.2) (.int .i64 ((rd_T32 l0 x31_1).f0))) (fun _ hk => hk.2) (.int .i64 ((rd_T32 l0 x31_1).f1))) (fun _ hk => hk.2) (.int .i64 ((rd_T32 l0 x31_1).f2))) (fun _ hk => ⟨hk.1.1, hk.1.2⟩)) hg hat); have n1_ := Aside0.mk (Kd.R_after (ok := (fun k_ => some k_ ≠ (.slice (some ad196) t183.length co27 : Value).ownBlock)) (by (with_reducible repeat (first | apply Kd.R_alloc | apply Kd.R_drewN | apply Kd.R_drew)); exact Kd.R_mono (Kd.R_far (p := ⟨gb192, 2, none⟩) (Kd.R_far (p := ⟨gb192, 1, none⟩) (Kd.R_far (p := ⟨gb192, 0, none⟩) (Kd.R_types HO_7.out BK192.out (by decide)) (fun _ hk => hk.2) (.int .i64 ((rd_T32 l0 x31_1).f0))) (fun _ hk => hk.2) (.int .i64 ((rd_T32 l0 x31_1).f1))) (fun _ hk => hk.2) (.int .i64 ((rd_T32 l0 x31_1).f2))) (fun _ hk => ⟨hk.1.1, hk.1.2⟩)) hg hat); have n2_ := Aside0.mk (blk_grown (g := gb192) (o := .cells #[.int .i64 ((rd_T32 l0 x31_1).f0), .int .i64 ((rd_T32 l0 x31_1).f1), .int .i64 ((rd_T32 l0 x31_1).f2)] 32 (0, 0)) (by (with_reducible repeat (first | refine blk_drewN ?_ _ | refine blk_drew ?_ | refine blk_alloc ?_ _)); refine blk_put (cs := #[.int .i64 ((rd_T32 l0 x31_1).f0), .int .i64 ((rd_T32 l0 x31_1).f1), .int .i64 0]) ?_ 2 _ rfl; (with_reducible repeat (first | refine blk_drewN ?_ _ | refine blk_drew ?_ | refine blk_alloc ?_ _)); refine blk_put (cs := #[.int .i64 ((rd_T32 l0 x31_1).f0), .int .i64 0, .int .i64 0]) ?_ 1 _ rfl; (with_reducible repeat (first | refine blk_drewN ?_ _ | refine blk_drew ?_ | refine blk_alloc ?_ _)); refine blk_put (cs := #[.int .i64 0, .int .i64 0, .int .i64 0]) ?_ 0 _ rfl; (with_reducible repeat (first | refine blk_drewN ?_ _ | refine blk_drew ?_ | refine blk_alloc ?_ _)); exact BK192.out) hg (Kd.R_ne HO_9.out BK192.out (by decide))); have n3_ := Aside0.mk (hb); have n4_ := Aside0.mk (ho); clear HO_5; clear HO_7; clear BK192; clear HB; clear HO_9; have HO_5 := n0_; have HO_7 := n1_; have BK192 := n2_; have HB := n3_; have HO200 := n4_; clear n0_ n1_ n2_ n3_ n4_; clear ho hb hg hat)))
    go_ret2
    exact ⟨_, by first | rfl | (simp [errW_none, errW_some] <;> rfl) | (simp only [← hji20]; first | rfl | (simp [errW_none, errW_some] <;> rfl)) | (simp [*, errW_none, errW_some] <;> rfl), by first | exact Kd.R_nil _ _ _ _ _ | exact Kd.N_nil _ _ _ _ _ | exact Kd.V_nil _ _ _ _ _ | exact Kd.Q_nil _ _ _ _ _ | exact Kd.S_nil _ _ _ _ _, by repeat (first | (with_reducible first | exact HB.out | apply below_alloc | apply pw_below_drewN | apply below_drew1 | refine below_set ?_ GE192.out) | exact HB.out | exact Below.refl _ _)⟩
   replace c24 := Bool.eq_false_iff.mpr c24
   subst c24
   have H1 : (nest_Locks.l0 k1 l0 t183 t187 y198 false l0 (l0.length : Int) (wrap64 (x31_1 + 1))) = some (r1, r2) := by rw [if_neg (show ¬ (false = true) by decide)] at H; exact H
   clear H
   have H := H1
   clear H1
   have H' := Aside0.mk H
   clear H
   have p191 : 0 ≤ (x31_1 : Int) := of_decide_eq_true (by first | (with_reducible assumption) | assumption)
   have q191 : x31_1 < (l0.length : Int) := of_decide_eq_true (by first | (with_reducible assumption) | assumption)
   obtain ⟨ad191, e191, hx191_0, hx191_1, hx191_2⟩ := at_T32 HR0.out x31_1 p191 q191
   cases e191
   replace hx191_0 := (HB.out.cell (World.block_lt_of_cell? w _ hx191_0)).trans hx191_0
   replace hx191_1 := (HB.out.cell (World.block_lt_of_cell? w _ hx191_1)).trans hx191_1
   replace hx191_2 := (HB.out.cell (World.block_lt_of_cell? w _ hx191_2)).trans hx191_2
   replace p191 := eq_true p191
   replace q191 := eq_true q191
   go_wp2_with (first | ((with_reducible refine gate_dst (N := 12) rfl ?_); refine box_event ?hg (N := 12) ?hd (cs := #[.int .i64 0, .int .i64 0, .int .i64 0]) (t := 32) ?hr ?_; (case hd => rfl); (case hg => rfl); (case hr => first | (go_simp; done) | (go_simp; rfl)); intro gb192 hg w30 hbox hb; have n0_ := Aside0.mk (Kd.R_below (by (with_reducible repeat (first | apply Kd.R_alloc | apply Kd.R_drewN | apply Kd.R_drew)); exact HO_5.out) hb); have n1_ := Aside0.mk (Kd.R_below (by (with_reducible repeat (first | apply Kd.R_alloc | apply Kd.R_drewN | apply Kd.R_drew)); exact HO_7.out) hb); have n2_ := Aside0.mk (Kd.R_below (by (with_reducible repeat (first | apply Kd.R_alloc | apply Kd.R_drewN | apply Kd.R_drew)); exact HO_9.out) hb); have n3_ := Aside0.mk (below_step (by repeat (first | (with_reducible first | exact HB.out | apply below_alloc | apply pw_below_drewN | apply below_drew1) | exact HB.out)) hb); have n4_ := Aside0.mk (hbox); have n5_ := Aside0.mk ((by rw [hg]; exact (below_size (by repeat (first | (with_reducible first | exact HB.out | apply below_alloc | apply pw_below_drewN | apply below_drew1) | exact HB.out))) : w.heap.size ≤ gb192)); have n6_ := Aside0.mk ((by rw [hg]; exact (below_size (by repeat (first | (with_reducible first | exact HB.out | apply below_alloc | apply pw_below_drewN | apply below_drew1) | exact HB.out))) : w.heap.size ≤ gb192)); clear HO_5; clear HO_7; clear HO_9; clear HB; have HO_5 := n0_; have HO_7 := n1_; have HO_9 := n2_; have HB := n3_; have BK192 := n4_; have GW192 := n5_; have GE192 := n6_; clear n0_ n1_ n2_ n3_ n4_ n5_ n6_; clear hb hbox hg; have hcz31_0 : w30.cell? ⟨gb192, 0, none⟩ = some (.int .i64 0) := (blk_cell BK192.out 0).trans rfl; have hcz31_1 : w30.cell? ⟨gb192, 1, none⟩ = some (.int .i64 0) := (blk_cell BK192.out 1).trans rfl; have hcz31_2 : w30.cell? ⟨gb192, 2, none⟩ = some (.int .i64 0) := (blk_cell BK192.out 2).trans rfl; have hfz31_0 := blk_frozen BK192.out 0; have hfz31_1 := blk_frozen BK192.out 1; have hfz31_2 := blk_frozen BK192.out 2; obtain ⟨Ao32, co32, eo32⟩ := Kd.R_slice HO_5.out; subst eo32; have p196 : 0 ≤ (x31_1 : Int) := of_decide_eq_true (by first | (with_reducible assumption) | assumption); have q196 : x31_1 < (t183.length : Int) := of_decide_eq_true (by first | (with_reducible assumption) | assumption); obtain ⟨ad196, e196, hx196_0⟩ := Kd.at_int (Kd.R_reads' HO_5.out).2.2 x31_1 p196 q196; cases e196; have hn196_0 : ad196.block ≠ gb192 := Kd.own_blk (Kd.R_ne HO_5.out BK192.out (by decide)); have hn196_1 : ad196.block ≠ gb192 := Kd.own_blk (Kd.R_ne HO_5.out BK192.out (by decide)); have hn196_2 : ad196.block ≠ gb192 := Kd.own_blk (Kd.R_ne HO_5.out BK192.out (by decide)); replace hx196_0 := (cell_far (p := ⟨gb192, 0, none⟩) (by first | (rw [add_block]; exact hn196_0) | (show (Addr.add _ _).block ≠ _; rw [add_block]; exact hn196_0) | exact hn196_0) (.int .i64 ((rd_T32 l0 x31_1).f0))).trans hx196_0; replace hx196_0 := (cell_far (p := ⟨gb192, 1, none⟩) (by first | (rw [add_block]; exact hn196_1) | (show (Addr.add _ _).block ≠ _; rw [add_block]; exact hn196_1) | exact hn196_1) (.int .i64 ((rd_T32 l0 x31_1).f1))).trans hx196_0; replace hx196_0 := (cell_far (p := ⟨gb192, 2, none⟩) (by first | (rw [add_block]; exact hn196_2) | (show (Addr.add _ _).block ≠ _; rw [add_block]; exact hn196_2) | exact hn196_2) (.int .i64 ((rd_T32 l0 x31_1).f2))).trans hx196_0; (try have hy196_0 := fun (n_ : Nat) => (show (((((w30.drewN n_).setCell ⟨gb192, 0, none⟩ (.int .i64 ((rd_T32 l0 x31_1).f0))).setCell ⟨gb192, 1, none⟩ (.int .i64 ((rd_T32 l0 x31_1).f1))).setCell ⟨gb192, 2, none⟩ (.int .i64 ((rd_T32 l0 x31_1).f2)))).cell? _ = some _ from hx196_0)); clear hn196_0; clear hn196_1; clear hn196_2; replace p196 := eq_true p196; replace q196 := eq_true q196; obtain ⟨Ao33, co33, eo33⟩ := Kd.R_slice HO_7.out; subst eo33) | (go_at_call 28; (with_reducible refine (nest_looped.calls k1 _ _ l0 _ _ t187 x31_1 false _ ?side1 ?side2 ?side3 ?side4 A22.out).mono ?_); (case side1 => exact Kd.C_below HR0.out (by repeat (first | (with_reducible first | exact HB.out | apply below_alloc | apply pw_below_drewN | apply below_drew1 | refine below_set ?_ GE192.out) | exact HB.out))); (case side2 => exact HC0.out); (case side3 => refine (Kd.R_reads' (e := 3) (base := w.heap.size) (ok := fun k_ => (some k_ ≠ (.slice (some ad196) t183.length co32 : Value).ownBlock ∧ some k_ ≠ (u9 : Value).ownBlock)) (n := t187.length) (c := co33) ?_).2.2; exact (by (with_reducible repeat (first | apply Kd.R_alloc | apply Kd.R_drewN | apply Kd.R_drew)); exact (Kd.R_mono (Kd.R_far (p := ⟨gb192, 2, none⟩) (Kd.R_far (p := ⟨gb192, 1, none⟩) (Kd.R_far (p := ⟨gb192, 0, none⟩) (Kd.R_types HO_7.out BK192.out (by decide)) (fun _ hk => hk.2) (.int .i64 ((rd_T32 l0 x31_1).f0))) (fun _ hk => hk.2) (.int .i64 ((rd_T32 l0 x31_1).f1))) (fun _ hk => hk.2) (.int .i64 ((rd_T32 l0 x31_1).f2))) (fun _ h_ => h_.1)))); (case side4 => exact (Kd.R_reads' HO_7.out).2.1); rintro e w' ⟨rfl, ⟨nd, rfl⟩⟩; (try first | exact ⟨rfl, _, World.drewN_drewN _ _ _⟩ | exact ⟨rfl, _, Eq.trans (World.drewN_drewN _ _ _) (congrArg (World.drewN _) (Nat.add_assoc _ _ _))⟩)) | ((with_reducible refine gate_builtin (b := .append) (xs := #[.tmp 59, .tmp 62]) rfl ?_); at_builtin; refine Kd.R_append (Kd.int .i64) (w0 := w) w.heap.size rfl (.tmp 59) (.tmp 62) 24 3 (.int .i64 0) 8 rfl Try.underlying24 info3 rfl (by decide) (by omega) u9 x9_1 ((rd_T32 l0 x31_1).f1) [.int .i64 ((rd_T32 l0 x31_1).f1)] (fun k_ => some k_ ≠ (.slice (some ad196) t183.length co32 : Value).ownBlock ∧ some k_ ≠ (.slice Ao33 t187.length co33 : Value).ownBlock) (fun _ => False) rfl (by first | (go_simp; done) | (go_simp; rfl)) ?aP (fun _ hk => hk.elim) ?aF ?aO ?aB ?aS ?aL ?_; (case aP => exact rfl); (case aB => exact (by repeat (first | (with_reducible first | exact HB.out | apply below_alloc | apply pw_below_drewN | apply below_drew1 | refine below_set ?_ GE192.out) | exact HB.out))); (case aF => exact (fun k_ hk => ⟨Kd.fresh' (Kd.R_lt (by (with_reducible repeat (first | apply Kd.R_alloc | apply Kd.R_drewN | apply Kd.R_drew)); exact (Kd.R_mono (Kd.R_far (p := ⟨gb192, 2, none⟩) (Kd.R_far (p := ⟨gb192, 1, none⟩) (Kd.R_far (p := ⟨gb192, 0, none⟩) (Kd.R_types HO_5.out BK192.out (by decide)) (fun _ hk => hk.2) (.int .i64 ((rd_T32 l0 x31_1).f0))) (fun _ hk => hk.2) (.int .i64 ((rd_T32 l0 x31_1).f1))) (fun _ hk => hk.2) (.int .i64 ((rd_T32 l0 x31_1).f2))) (fun _ h_ => h_.1)))) k_ hk, Kd.fresh' (Kd.R_lt (by (with_reducible repeat (first | apply Kd.R_alloc | apply Kd.R_drewN | apply Kd.R_drew)); exact (Kd.R_mono (Kd.R_far (p := ⟨gb192, 2, none⟩) (Kd.R_far (p := ⟨gb192, 1, none⟩) (Kd.R_far (p := ⟨gb192, 0, none⟩) (Kd.R_types HO_7.out BK192.out (by decide)) (fun _ hk => hk.2) (.int .i64 ((rd_T32 l0 x31_1).f0))) (fun _ hk => hk.2) (.int .i64 ((rd_T32 l0 x31_1).f1))) (fun _ hk => hk.2) (.int .i64 ((rd_T32 l0 x31_1).f2))) (fun _ h_ => h_.1)))) k_ hk⟩)); (case aO => exact (by (with_reducible repeat (first | apply Kd.R_alloc | apply Kd.R_drewN | apply Kd.R_drew)); exact Kd.R_mono (Kd.R_far (p := ⟨gb192, 2, none⟩) (Kd.R_far (p := ⟨gb192, 1, none⟩) (Kd.R_far (p := ⟨gb192, 0, none⟩) (Kd.R_types HO_9.out BK192.out (by decide)) (fun _ hk => hk.2) (.int .i64 ((rd_T32 l0 x31_1).f0))) (fun _ hk => hk.2) (.int .i64 ((rd_T32 l0 x31_1).f1))) (fun _ hk => hk.2) (.int .i64 ((rd_T32 l0 x31_1).f2))) (fun _ hk => ⟨hk.1.1, hk.1.2⟩))); (case aS => exact (below_size (by repeat (first | (with_reducible first | exact HB.out | apply below_alloc | apply pw_below_drewN | apply below_drew1 | refine below_set ?_ GE192.out) | exact HB.out)))); (case aL => have := LMc23.out; omega); intro v199 w34 ho hb hg hat; rw [← Ny198.out] at ho; have n0_ := Aside0.mk (Kd.R_after (ok := (fun k_ => some k_ ≠ (.slice Ao33 t187.length co33 : Value).ownBlock)) (by (with_reducible repeat (first | apply Kd.R_alloc | apply Kd.R_drewN | apply Kd.R_drew)); exact Kd.R_mono (Kd.R_far (p := ⟨gb192, 2, none⟩) (Kd.R_far (p := ⟨gb192, 1, none⟩) (Kd.R_far (p := ⟨gb192, 0, none⟩) (Kd.R_types HO_5.out BK192.out (by decide)) (fun _ hk => hk.2) (.int .i64 ((rd_T32 l0 x31_1).f0))) (fun _ hk => hk.2) (.int .i64 ((rd_T32 l0 x31_1).f1))) (fun _ hk => hk.2) (.int .i64 ((rd_T32 l0 x31_1).f2))) (fun _ hk => ⟨hk.1.1, hk.1.2⟩)) hg hat); have n1_ := Aside0.mk (Kd.R_after (ok := (fun k_ => some k_ ≠ (.slice (some ad196) t183.length co32 : Value).ownBlock)) (by (with_reducible repeat (first | apply Kd.R_alloc | apply Kd.R_drewN | apply Kd.R_drew)); exact Kd.R_mono (Kd.R_far (p := ⟨gb192, 2, none⟩) (Kd.R_far (p := ⟨gb192, 1, none⟩) (Kd.R_far (p := ⟨gb192, 0, none⟩) (Kd.R_types HO_7.out BK192.out (by decide)) (fun _ hk => hk.2) (.int .i64 ((rd_T32 l0 x31_1).f0))) (fun _ hk => hk.2) (.int .i64 ((rd_T32 l0 x31_1).f1))) (fun _ hk => hk.2) (.int .i64 ((rd_T32 l0 x31_1).f2))) (fun _ hk => ⟨hk.1.1, hk.1.2⟩)) hg hat); have n2_ := Aside0.mk (blk_grown (g := gb192) (o := .cells #[.int .i64 ((rd_T32 l0 x31_1).f0), .int .i64 ((rd_T32 l0 x31_1).f1), .int .i64 ((rd_T32 l0 x31_1).f2)] 32 (0, 0)) (by (with_reducible repeat (first | refine blk_drewN ?_ _ | refine blk_drew ?_ | refine blk_alloc ?_ _)); refine blk_put (cs := #[.int .i64 ((rd_T32 l0 x31_1).f0), .int .i64 ((rd_T32 l0 x31_1).f1), .int .i64 0]) ?_ 2 _ rfl; (with_reducible repeat (first | refine blk_drewN ?_ _ | refine blk_drew ?_ | refine blk_alloc ?_ _)); refine blk_put (cs := #[.int .i64 ((rd_T32 l0 x31_1).f0), .int .i64 0, .int .i64 0]) ?_ 1 _ rfl; (with_reducible repeat (first | refine blk_drewN ?_ _ | refine blk_drew ?_ | refine blk_alloc ?_ _)); refine blk_put (cs := #[.int .i64 0, .int .i64 0, .int .i64 0]) ?_ 0 _ rfl; (with_reducible repeat (first | refine blk_drewN ?_ _ | refine blk_drew ?_ | refine blk_alloc ?_ _)); exact BK192.out) hg (Kd.R_ne HO_9.out BK192.out (by decide))); have n3_ := Aside0.mk (hb); have n4_ := Aside0.mk (ho); clear HO_5; clear HO_7; clear BK192; clear HB; clear HO_9; have HO_5 := n0_; have HO_7 := n1_; have BK192 := n2_; have HB := n3_; have HO200 := n4_; clear n0_ n1_ n2_ n3_ n4_; clear ho hb hg hat))
   repeat (go_quiet (first | (go_at_call 28; (with_reducible refine (nest_looped.calls k1 _ _ l0 _ _ t187 x31_1 false _ ?side1 ?side2 ?side3 ?side4 A22.out).mono ?_); (case side1 => exact Kd.C_below HR0.out (by repeat (first | (with_reducible first | exact HB.out | apply below_alloc | apply pw_below_drewN | apply below_drew1 | refine below_set ?_ GE192.out) | exact HB.out))); (case side2 => exact HC0.out); (case side3 => refine (Kd.R_reads' (e := 3) (base := w.heap.size) (ok := fun k_ => (some k_ ≠ (.slice (some ad196) t183.length co32 : Value).ownBlock ∧ some k_ ≠ (u9 : Value).ownBlock)) (n := t187.length) (c := co33) ?_).2.2; exact (by (with_reducible repeat (first | apply Kd.R_alloc | apply Kd.R_drewN | apply Kd.R_drew)); exact (Kd.R_mono (Kd.R_far (p := ⟨gb192, 2, none⟩) (Kd.R_far (p := ⟨gb192, 1, none⟩) (Kd.R_far (p := ⟨gb192, 0, none⟩) (Kd.R_types HO_7.out BK192.out (by decide)) (fun _ hk => hk.2) (.int .i64 ((rd_T32 l0 x31_1).f0))) (fun _ hk => hk.2) (.int .i64 ((rd_T32 l0 x31_1).f1))) (fun _ hk => hk.2) (.int .i64 ((rd_T32 l0 x31_1).f2))) (fun _ h_ => h_.1)))); (case side4 => exact (Kd.R_reads' HO_7.out).2.1); rintro e w' ⟨rfl, ⟨nd, rfl⟩⟩; (try first | exact ⟨rfl, _, World.drewN_drewN _ _ _⟩ | exact ⟨rfl, _, Eq.trans (World.drewN_drewN _ _ _) (congrArg (World.drewN _) (Nat.add_assoc _ _ _))⟩))); try go_wp2_with (first | ((with_reducible refine gate_builtin (b := .append) (xs := #[.tmp 59, .tmp 62]) rfl ?_); at_builtin; refine Kd.R_append (Kd.int .i64) (w0 := w) w.heap.size rfl (.tmp 59) (.tmp 62) 24 3 (.int .i64 0) 8 rfl Try.underlying24 info3 rfl (by decide) (by omega) u9 x9_1 ((rd_T32 l0 x31_1).f1) [.int .i64 ((rd_T32 l0 x31_1).f1)] (fun k_ => some k_ ≠ (.slice (some ad196) t183.length co32 : Value).ownBlock ∧ some k_ ≠ (.slice Ao33 t187.length co33 : Value).ownBlock) (fun _ => False) rfl (by first | (go_simp; done) | (go_simp; rfl)) ?aP (fun _ hk => hk.elim) ?aF ?aO ?aB ?aS ?aL ?_; (case aP => exact rfl); (case aB => exact (by repeat (first | (with_reducible first | exact HB.out | apply below_alloc | apply pw_below_drewN | apply below_drew1 | refine below_set ?_ GE192.out) | exact HB.out))); (case aF => exact (fun k_ hk => ⟨Kd.fresh' (Kd.R_lt (by (with_reducible repeat (first | apply Kd.R_alloc | apply Kd.R_drewN | apply Kd.R_drew)); exact (Kd.R_mono (Kd.R_far (p := ⟨gb192, 2, none⟩) (Kd.R_far (p := ⟨gb192, 1, none⟩) (Kd.R_far (p := ⟨gb192, 0, none⟩) (Kd.R_types HO_5.out BK192.out (by decide)) (fun _ hk => hk.2) (.int .i64 ((rd_T32 l0 x31_1).f0))) (fun _ hk => hk.2) (.int .i64 ((rd_T32 l0 x31_1).f1))) (fun _ hk => hk.2) (.int .i64 ((rd_T32 l0 x31_1).f2))) (fun _ h_ => h_.1)))) k_ hk, Kd.fresh' (Kd.R_lt (by (with_reducible repeat (first | apply Kd.R_alloc | apply Kd.R_drewN | apply Kd.R_drew)); exact (Kd.R_mono (Kd.R_far (p := ⟨gb192, 2, none⟩) (Kd.R_far (p := ⟨gb192, 1, none⟩) (Kd.R_far (p := ⟨gb192, 0, none⟩) (Kd.R_types HO_7.out BK192.out (by decide)) (fun _ hk => hk.2) (.int .i64 ((rd_T32 l0 x31_1).f0))) (fun _ hk => hk.2) (.int .i64 ((rd_T32 l0 x31_1).f1))) (fun _ hk => hk.2) (.int .i64 ((rd_T32 l0 x31_1).f2))) (fun _ h_ => h_.1)))) k_ hk⟩)); (case aO => exact (by (with_reducible repeat (first | apply Kd.R_alloc | apply Kd.R_drewN | apply Kd.R_drew)); exact Kd.R_mono (Kd.R_far (p := ⟨gb192, 2, none⟩) (Kd.R_far (p := ⟨gb192, 1, none⟩) (Kd.R_far (p := ⟨gb192, 0, none⟩) (Kd.R_types HO_9.out BK192.out (by decide)) (fun _ hk => hk.2) (.int .i64 ((rd_T32 l0 x31_1).f0))) (fun _ hk => hk.2) (.int .i64 ((rd_T32 l0 x31_1).f1))) (fun _ hk => hk.2) (.int .i64 ((rd_T32 l0 x31_1).f2))) (fun _ hk => ⟨hk.1.1, hk.1.2⟩))); (case aS => exact (below_size (by repeat (first | (with_reducible first | exact HB.out | apply below_alloc | apply pw_below_drewN | apply below_drew1 | refine below_set ?_ GE192.out) | exact HB.out)))); (case aL => have := LMc23.out; omega); intro v199 w34 ho hb hg hat; rw [← Ny198.out] at ho; have n0_ := Aside0.mk (Kd.R_after (ok := (fun k_ => some k_ ≠ (.slice Ao33 t187.length co33 : Value).ownBlock)) (by (with_reducible repeat (first | apply Kd.R_alloc | apply Kd.R_drewN | apply Kd.R_drew)); exact Kd.R_mono (Kd.R_far (p := ⟨gb192, 2, none⟩) (Kd.R_far (p := ⟨gb192, 1, none⟩) (Kd.R_far (p := ⟨gb192, 0, none⟩) (Kd.R_types HO_5.out BK192.out (by decide)) (fun _ hk => hk.2) (.int .i64 ((rd_T32 l0 x31_1).f0))) (fun _ hk => hk.2) (.int .i64 ((rd_T32 l0 x31_1).f1))) (fun _ hk => hk.2) (.int .i64 ((rd_T32 l0 x31_1).f2))) (fun _ hk => ⟨hk.1.1, hk.1.2⟩)) hg hat); have n1_ := Aside0.mk (Kd.R_after (ok := (fun k_ => some k_ ≠ (.slice (some ad196) t183.length co32 : Value).ownBlock)) (by (with_reducible repeat (first | apply Kd.R_alloc | apply Kd.R_drewN | apply Kd.R_drew)); exact Kd.R_mono (Kd.R_far (p := ⟨gb192, 2, none⟩) (Kd.R_far (p := ⟨gb192, 1, none⟩) (Kd.R_far (p := ⟨gb192, 0, none⟩) (Kd.R_types HO_7.out BK192.out (by decide)) (fun _ hk => hk.2) (.int .i64 ((rd_T32 l0 x31_1).f0))) (fun _ hk => hk.2) (.int .i64 ((rd_T32 l0 x31_1).f1))) (fun _ hk => hk.2) (.int .i64 ((rd_T32 l0 x31_1).f2))) (fun _ hk => ⟨hk.1.1, hk.1.2⟩)) hg hat); have n2_ := Aside0.mk (blk_grown (g := gb192) (o := .cells #[.int .i64 ((rd_T32 l0 x31_1).f0), .int .i64 ((rd_T32 l0 x31_1).f1), .int .i64 ((rd_T32 l0 x31_1).f2)] 32 (0, 0)) (by (with_reducible repeat (first | refine blk_drewN ?_ _ | refine blk_drew ?_ | refine blk_alloc ?_ _)); refine blk_put (cs := #[.int .i64 ((rd_T32 l0 x31_1).f0), .int .i64 ((rd_T32 l0 x31_1).f1), .int .i64 0]) ?_ 2 _ rfl; (with_reducible repeat (first | refine blk_drewN ?_ _ | refine blk_drew ?_ | refine blk_alloc ?_ _)); refine blk_put (cs := #[.int .i64 ((rd_T32 l0 x31_1).f0), .int .i64 0, .int .i64 0]) ?_ 1 _ rfl; (with_reducible repeat (first | refine blk_drewN ?_ _ | refine blk_drew ?_ | refine blk_alloc ?_ _)); refine blk_put (cs := #[.int .i64 0, .int .i64 0, .int .i64 0]) ?_ 0 _ rfl; (with_reducible repeat (first | refine blk_drewN ?_ _ | refine blk_drew ?_ | refine blk_alloc ?_ _)); exact BK192.out) hg (Kd.R_ne HO_9.out BK192.out (by decide))); have n3_ := Aside0.mk (hb); have n4_ := Aside0.mk (ho); clear HO_5; clear HO_7; clear BK192; clear HB; clear HO_9; have HO_5 := n0_; have HO_7 := n1_; have BK192 := n2_; have HB := n3_; have HO200 := n4_; clear n0_ n1_ n2_ n3_ n4_; clear ho hb hg hat)))
   go_roundg k1
   case measure => have := HK1.out; omega
   case rel => exact ⟨(y198), (false), (wrap64 (x31_1 + 1)), (by first | rfl | (simp; done) | (simp [*]; done)), (by first | rfl | (simp; done) | (simp [*]; done)), H', ⟨by have := HK1.out; omega⟩, ⟨by (with_reducible repeat (first | apply Kd.R_alloc | apply Kd.R_drewN | apply Kd.R_drew)); exact HO_5.out⟩, ⟨by (with_reducible repeat (first | apply Kd.R_alloc | apply Kd.R_drewN | apply Kd.R_drew)); exact HO_7.out⟩, ⟨by (with_reducible repeat (first | apply Kd.R_alloc | apply Kd.R_drewN | apply Kd.R_drew)); exact HO200.out⟩, ⟨by repeat (first | (with_reducible first | exact HB.out | apply below_alloc | apply pw_below_drewN | apply below_drew1 | refine below_set ?_ GE192.out) | exact HB.out | exact Below.refl _ _)⟩⟩

end Go.Proofs.Ytljgllcllddcdaa.P
