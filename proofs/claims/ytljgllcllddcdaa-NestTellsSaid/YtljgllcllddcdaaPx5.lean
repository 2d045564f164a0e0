-- Written by a program of this session (wip/tools: patched print) for this claim. Not trusted: Lean checks it.
import Derived.Test.YtljgllcllddcdaaPx0
import Derived.Test.YtljgllcllddcdaaPx3
namespace Go.Proofs.Ytljgllcllddcdaa.P
open Go.RowKit Go.Proofs.YtljgllcllddcdaaW.PrintWords Go.Proofs.YtljgllcllddcdaaW.PrintLast Go.Proofs.YtljgllcllddcdaaW.PrintMore
open List (setIfInBounds_toArray set_cons_zero set_cons_succ)
attribute [local go_sem] max2_int min2_int max_two min_two max_three min_three max_four min_four   -- for this text's walks alone
set_option linter.unusedVariables false
set_option linter.unusedSimpArgs false

/-! ### nest_Held: function 17 -/
def nest_Held.l0 : Nat → List (S32) → List Int → List Int → Int → Int → Option (List Int × Int)
 | 0, _, _, _, _, _ => none
 | k + 1, x0, x5, x7, x23, x24 => if x24 < x23 then (if 0 ≤ x24 then (if x24 < (x5.length : Int) then (if (rd x5 x24) = (-1) then (nest_Held.l0 k x0 x5 x7 x23 (wrap64 (x24 + 1))) else (if 0 ≤ (rd x5 x24) then (if (rd x5 x24) < (x7.length : Int) then (if x24 < (x7.length : Int) then ((some (x7.set (x24 : Int).toNat (rd x7 (rd x5 x24)) : List Int)).bind fun y161 => (if (rd x5 x24) < (x0.length : Int) then (if ((rd_T32 x0 (rd x5 x24)).f0) = 23 then (if 0 ≤ ((rd_T32 x0 (rd x5 x24)).f1) then (nest_Held.l0 k x0 x5 (y161.set (x24 : Int).toNat (Go.bits .or .i64 (rd y161 x24) (shl .i64 1 ((rd_T32 x0 (rd x5 x24)).f1)))) x23 (wrap64 (x24 + 1))) else (none)) else (nest_Held.l0 k x0 x5 y161 x23 (wrap64 (x24 + 1)))) else (none))) else (none)) else (none)) else (none))) else (none)) else (none)) else (some (x7, 0))
def nest_Held.f (k : Nat) (l0 : List (S32)) : Option (List Int × Int) := (nest_scan.f k l0).bind fun bt149 => (if bt149.2.2 = 0 then (if 0 ≤ (l0.length : Int) then (if ((l0.length : Int) : Int).toNat ≤ 35184372088832 then (nest_Held.l0 k l0 bt149.2.1 (List.replicate ((l0.length : Int) : Int).toNat 0) (l0.length : Int) 0) else (none)) else (none)) else (some (([] : List Int), bt149.2.2)))
theorem nest_Held.mono_l : ∀ k, (∀ y0 y1 y2 y3 y4, LeO (nest_Held.l0 k y0 y1 y2 y3 y4) (nest_Held.l0 (k + 1) y0 y1 y2 y3 y4))
 | 0 => fun _ _ _ _ _ r h => by simp [nest_Held.l0] at h
 | k + 1 => by
  have ih0 := nest_Held.mono_l k
  ·intro y0 y1 y2 y3 y4
   unfold nest_Held.l0
   repeat' first
   | (with_reducible exact ih0 _ _ _ _ _)
   | (with_reducible exact nest_scan.mono _ _)
   | (with_reducible exact LeO.refl _)
   | (with_reducible exact LeO.none _)
   | (with_reducible refine LeO.ite ?_ ?_)
   | (with_reducible refine LeO.bind ?_ (fun _ => ?_))
   | exact ih0 _ _ _ _ _
   | exact nest_scan.mono _ _
   | exact LeO.none _
   | refine LeO.ite ?_ ?_
   | refine LeO.bind ?_ (fun _ => ?_)
theorem nest_Held.mono : ∀ a0 k, LeO (nest_Held.f k a0) (nest_Held.f (k + 1) a0) := by
 intro a0 k
 have ih0 := nest_Held.mono_l k
 unfold nest_Held.f
 repeat' first
   | (with_reducible exact ih0 _ _ _ _ _)
   | (with_reducible exact nest_scan.mono _ _)
   | (with_reducible exact LeO.refl _)
   | (with_reducible exact LeO.none _)
   | (with_reducible refine LeO.ite ?_ ?_)
   | (with_reducible refine LeO.bind ?_ (fun _ => ?_))
   | exact ih0 _ _ _ _ _
   | exact nest_scan.mono _ _
   | exact LeO.none _
   | refine LeO.ite ?_ ?_
   | refine LeO.bind ?_ (fun _ => ?_)
def nest_Held.T12 : Bool × List (List Nat × List Nat) := (true, [([], []), ([], []), ([0, 1], [0, 1]), ([2], [2]), ([], []), ([], []), ([4, 5], [4, 5]), ([6], [6]), ([7], [7]), ([8], [8]), ([3, 9], [3, 9]), ([0, 1, 0, 1, 2, 3, 4, 5, 6, 7, 8, 9, 10], [0, 1]), ([11, 10, 0, 1, 2, 3, 4, 5, 6, 7, 8, 9, 10], [10, 11])])
def nest_Held.B12 : List Nat := [0, 0, 3, 7, 0, 0, 48, 112, 240, 496, 1023, 2047, 4095]
theorem nest_Held.tab12 : rtab .any (opsOf Try.f17 12) = nest_Held.T12 := by kernel_rfl
theorem nest_Held.bits12 : waitsOk nest_Held.T12.2 nest_Held.B12 = true := by kernel_rfl
set_option maxHeartbeats 8000000 in
set_option maxRecDepth 100000 in
theorem nest_Held.calls (k : Nat) (A0 : Option Addr) (c0 : Nat) (l0 : List (S32)) (r1 : List Int) (r2 : Int) (w : World) (hr0 : Kd.C k32 w A0 l0.length l0) (hc0 : l0.length ≤ c0) (h : nest_Held.f k l0 = some (r1, r2)) :
  Calls Try.prog 17 #[.slice A0 l0.length c0] w fun e w' => ∃ v0_ : Value, e = .returned (.tuple #[v0_, .int .i64 r2]) ∧ Kd.R (Kd.int .i64) 3 w' w.heap.size (fun _ => True) v0_ r1 ∧ Below w.heap.size w w' := by
 have HR0 := Aside0.mk hr0
 have HC0 := Aside0.mk hc0
 clear hr0 hc0
 have HB := Aside0.mk (Below.refl w.heap.size w)
 have H : ((nest_scan.f k l0).bind fun bt149 => (if bt149.2.2 = 0 then (if 0 ≤ (l0.length : Int) then (if ((l0.length : Int) : Int).toNat ≤ 35184372088832 then (nest_Held.l0 k l0 bt149.2.1 (List.replicate ((l0.length : Int) : Int).toNat 0) (l0.length : Int) 0) else (none)) else (none)) else (some (([] : List Int), bt149.2.2)))) = some (r1, r2) := h
 clear h
 replace H := Option.bind_eq_some_iff.mp H
 obtain ⟨⟨t149, t150, t151⟩, A20, H⟩ := H
 replace H : (if t151 = 0 then (if 0 ≤ (l0.length : Int) then (if ((l0.length : Int) : Int).toNat ≤ 35184372088832 then (nest_Held.l0 k l0 t150 (List.replicate ((l0.length : Int) : Int).toNat 0) (l0.length : Int) 0) else (none)) else (none)) else (some (([] : List Int), t151))) = some (r1, r2) := H
 have A2 := Aside0.mk A20
 clear A20
 by_cases c3 : t151 = 0
 rotate_left
 ·rw [if_neg c3] at H
  have c3b0 : (t151 == 0) = false := beq_eq_false_iff_ne.mpr c3
  have c3b1 : (t151 != 0) = true := bne_iff_ne.mpr c3
  simp only [Option.some.injEq, Prod.mk.injEq] at H
  obtain ⟨rfl, rfl⟩ := H
  go_enter Try.func17, Try.ntmps17
  go_wp2_with (first | ((with_reducible refine gate_callee (f := 22) rfl ?_); refine goesL_ (some 12) rfl rfl Try.func22 (by kernel_rfl) rfl #[.slice A0 l0.length c0] rfl (by (try simp only [List.map_toArray, List.map_cons, List.map_nil]); first | done | rfl | (simp only [List.length_drop, List.length_take]; rfl)) ?_; (with_reducible refine (nest_scan.calls k _ _ l0 t149 t150 t151 _ ?side1 ?side2 A2.out).mono ?_); (case side1 => repeat (first | exact HR0.out | (with_reducible refine Kd.C_alloc ?_ _) | (with_reducible refine Kd.C_drewN ?_ _) | (with_reducible refine Kd.C_drew ?_))); (case side2 => exact HC0.out); rintro e w33 ⟨v152, v154, rfl, ho0, ho1, hb⟩; refine ⟨_, rfl, ?_⟩; have n0_ := Aside0.mk (Kd.R_lower ho0 (below_size (by repeat (first | (with_reducible first | exact HB.out | apply below_alloc | apply pw_below_drewN | apply below_drew1) | exact HB.out)))); have n1_ := Aside0.mk (Kd.R_lower ho1 (below_size (by repeat (first | (with_reducible first | exact HB.out | apply below_alloc | apply pw_below_drewN | apply below_drew1) | exact HB.out)))); have n2_ := Aside0.mk (below_step (by repeat (first | (with_reducible first | exact HB.out | apply below_alloc | apply pw_below_drewN | apply below_drew1) | exact HB.out)) hb); clear HB; have HO153 := n0_; have HO155 := n1_; have HB := n2_; clear n0_ n1_ n2_; (try clear hb); (try clear hb2); (try clear hk); (try clear hi); (try clear ho0); (try clear ho1)))
  go_ret2
  exact ⟨_, by first | rfl | (simp [errW_none, errW_some] <;> rfl) | (simp [*, errW_none, errW_some] <;> rfl), by first | exact Kd.R_nil _ _ _ _ _ | exact Kd.N_nil _ _ _ _ _ | exact Kd.V_nil _ _ _ _ _ | exact Kd.Q_nil _ _ _ _ _ | exact Kd.S_nil _ _ _ _ _, by repeat (first | (with_reducible first | exact HB.out | apply below_alloc | apply pw_below_drewN | apply below_drew1) | exact HB.out | exact Below.refl _ _)⟩
 rw [if_pos c3] at H
 have c3b0 : (t151 == 0) = true := beq_iff_eq.mpr c3
 have c3b1 : (t151 != 0) = false := bne_eq_false_iff_eq.mpr c3
 clear c3
 by_cases c4 : 0 ≤ (l0.length : Int)
 rotate_left
 ·rw [if_neg c4] at H
  exact absurd H (by simp)
 rw [if_pos c4] at H
 have c4b0 := eq_true c4
 have c4b1 : decide (0 ≤ (l0.length : Int)) = true := decide_eq_true c4
 clear c4
 by_cases c5 : ((l0.length : Int) : Int).toNat ≤ 35184372088832
 rotate_left
 ·rw [if_neg c5] at H
  exact absurd H (by simp)
 rw [if_pos c5] at H
 have c5b0 := eq_true c5
 have c5b1 : decide (((l0.length : Int) : Int).toNat ≤ 35184372088832) = true := decide_eq_true c5
 clear c5
 obtain ⟨y156, hy156⟩ : ∃ y_ : List Int, y_ = (List.replicate ((l0.length : Int) : Int).toNat 0) := ⟨_, rfl⟩
 replace H : (nest_Held.l0 k l0 t150 y156 (l0.length : Int) 0) = some (r1, r2) := by first | (rw [hy156]; with_reducible exact H) | (have H2_ := (Option.bind_some _ _).symm.trans H; rw [hy156]; with_reducible exact H2_) | (have H2_ := (Option.bind_some _ _).symm.trans H; with_reducible exact H2_) | with_reducible exact H | (rw [hy156]; exact H) | exact H
 have Ny156 := Aside0.mk hy156
 clear hy156
 have H' := Aside0.mk H
 clear H
 go_enter Try.func17, Try.ntmps17
 go_wp2_with (first | ((with_reducible refine gate_callee (f := 22) rfl ?_); refine goesL_ (some 12) rfl rfl Try.func22 (by kernel_rfl) rfl #[.slice A0 l0.length c0] rfl (by (try simp only [List.map_toArray, List.map_cons, List.map_nil]); first | done | rfl | (simp only [List.length_drop, List.length_take]; rfl)) ?_; (with_reducible refine (nest_scan.calls k _ _ l0 t149 t150 t151 _ ?side1 ?side2 A2.out).mono ?_); (case side1 => repeat (first | exact HR0.out | (with_reducible refine Kd.C_alloc ?_ _) | (with_reducible refine Kd.C_drewN ?_ _) | (with_reducible refine Kd.C_drew ?_))); (case side2 => exact HC0.out); rintro e w6 ⟨v152, v154, rfl, ho0, ho1, hb⟩; refine ⟨_, rfl, ?_⟩; have n0_ := Aside0.mk (Kd.R_lower ho0 (below_size (by repeat (first | (with_reducible first | exact HB.out | apply below_alloc | apply pw_below_drewN | apply below_drew1) | exact HB.out)))); have n1_ := Aside0.mk (Kd.R_lower ho1 (below_size (by repeat (first | (with_reducible first | exact HB.out | apply below_alloc | apply pw_below_drewN | apply below_drew1) | exact HB.out)))); have n2_ := Aside0.mk (below_step (by repeat (first | (with_reducible first | exact HB.out | apply below_alloc | apply pw_below_drewN | apply below_drew1) | exact HB.out)) hb); clear HB; have HO153 := n0_; have HO155 := n1_; have HB := n2_; clear n0_ n1_ n2_; (try clear hb); (try clear hb2); (try clear hk); (try clear hi); (try clear ho0); (try clear ho1)) | ((with_reducible refine gate_dst (N := 21) rfl ?_); refine Kd.R_make (Kd.int .i64) _ 3 rfl (N := 21) rfl 24 _ _ rfl (l0.length : Int) rfl rfl Try.underlying24 (.int .i64 0) 8 info3 rfl (by decide) (by omega) 0 (ok := fun _ => True) (okp := fun _ => True) rfl (fun _ hk => hk) trivial (of_decide_eq_true (by first | (with_reducible assumption) | assumption)) (Nat.le_trans (Nat.mul_le_mul_right _ (of_decide_eq_true (by first | (with_reducible assumption) | assumption) : (l0.length : Int).toNat ≤ 35184372088832)) (by omega)) (Below.refl _ _) (Nat.le_refl _) ?_; intro v157 w7 ho8 hb hg_ hnew_; clear hg_ hnew_; (first | rw [← Ny156.out] at ho8 | (simp only [Int.reduceToNat] at ho8; rw [← Ny156.out] at ho8)); have n0_ := Aside0.mk (Kd.R_elder' (by (with_reducible repeat (first | apply Kd.R_alloc | apply Kd.R_drewN | apply Kd.R_drew)); exact HO153.out) (Kd.R_base ho8) hb); have n1_ := Aside0.mk (Kd.R_elder' (by (with_reducible repeat (first | apply Kd.R_alloc | apply Kd.R_drewN | apply Kd.R_drew)); exact HO155.out) (Kd.R_base ho8) hb); have n2_ := Aside0.mk (Kd.R_lower (Kd.R_new' (Kd.R_new' ho8 (Kd.R_lt (by (with_reducible repeat (first | apply Kd.R_alloc | apply Kd.R_drewN | apply Kd.R_drew)); exact HO153.out))) (Kd.R_lt (by (with_reducible repeat (first | apply Kd.R_alloc | apply Kd.R_drewN | apply Kd.R_drew)); exact HO155.out))) (below_size (by repeat (first | (with_reducible first | exact HB.out | apply below_alloc | apply pw_below_drewN | apply below_drew1) | exact HB.out)))); have n3_ := Aside0.mk (below_step (by repeat (first | (with_reducible first | exact HB.out | apply below_alloc | apply pw_below_drewN | apply below_drew1) | exact HB.out)) hb); clear HO153; clear HO155; clear HB; have HO153 := n0_; have HO155 := n1_; have HO158 := n2_; have HB := n3_; clear n0_ n1_ n2_ n3_; clear hb ho8))
 go_loopg [24] k (fun kq v24 w' => ∃ (x7_1 : List Int) (x24_1 : Int), v24 = .int .i64 x24_1 ∧ Aside0 (nest_Held.l0 kq l0 t150 x7_1 (l0.length : Int) x24_1 = some (r1, r2)) ∧ Aside0 (kq ≤ k) ∧ Aside0 (Kd.R (Kd.int .i64) 3 w' w.heap.size (fun k_ => some k_ ≠ (v157 : Value).ownBlock) v154 t150) ∧ Aside0 (Kd.R (Kd.int .i64) 3 w' w.heap.size (fun k_ => some k_ ≠ (v154 : Value).ownBlock) v157 x7_1) ∧ Aside0 (Below w.heap.size w w'))
 case atStart => exact ⟨(y156), (0), (by first | rfl | (simp; done) | (simp [*]; done)), H', ⟨Nat.le_refl _⟩, ⟨by (with_reducible repeat (first | apply Kd.R_alloc | apply Kd.R_drewN | apply Kd.R_drew)); exact Kd.R_mono HO155.out (fun _ hk => hk.2)⟩, ⟨by (with_reducible repeat (first | apply Kd.R_alloc | apply Kd.R_drewN | apply Kd.R_drew)); exact Kd.R_mono HO158.out (fun _ hk => hk.2)⟩, ⟨by repeat (first | (with_reducible first | exact HB.out | apply below_alloc | apply pw_below_drewN | apply below_drew1) | exact HB.out)⟩⟩
 case round =>
  clear H'
  try clear c1
  try clear c2
  try clear p2
  try clear c3
  try clear c3b0
  try clear c3b1
  try clear c4
  try clear c4b0
  try clear c4b1
  try clear c5
  try clear c5b0
  try clear c5b1
  obtain ⟨x7_1, x24_1, rfl, HA, HK1, HO_5, HO_7, HB⟩ := hrel
  cases gk with
  | zero => exact absurd HA.out (by simp [nest_Held.l0])
  | succ k1 =>
   have H := HA.out
   clear HA
   simp only [nest_Held.l0] at H
   by_cases c9 : x24_1 < (l0.length : Int)
   rotate_left
   ·rw [if_neg c9] at H
    have c9b0 : decide (x24_1 < (l0.length : Int)) = false := decide_eq_false c9
    clear c9
    simp only [Option.some.injEq, Prod.mk.injEq] at H
    obtain ⟨rfl, rfl⟩ := H
    go_wp2
    go_ret2
    exact ⟨_, by first | rfl | (simp [errW_none, errW_some] <;> rfl) | (simp [*, errW_none, errW_some] <;> rfl), by (with_reducible repeat (first | apply Kd.R_alloc | apply Kd.R_drewN | apply Kd.R_drew)); exact Kd.R_mono HO_7.out (fun _ hk => trivial), by repeat (first | (with_reducible first | exact HB.out | apply below_alloc | apply pw_below_drewN | apply below_drew1) | exact HB.out | exact Below.refl _ _)⟩
   rw [if_pos c9] at H
   have c9b0 : decide (x24_1 < (l0.length : Int)) = true := decide_eq_true c9
   clear c9
   by_cases c10 : 0 ≤ x24_1
   rotate_left
   ·rw [if_neg c10] at H
    exact absurd H (by simp)
   rw [if_pos c10] at H
   have c10b0 : decide (0 ≤ x24_1) = true := decide_eq_true c10
   clear c10
   by_cases c11 : x24_1 < (t150.length : Int)
   rotate_left
   ·rw [if_neg c11] at H
    exact absurd H (by simp)
   rw [if_pos c11] at H
   have c11b0 : decide (x24_1 < (t150.length : Int)) = true := decide_eq_true c11
   clear c11
   by_cases c12 : (rd t150 x24_1) = (-1)
   ·rw [if_pos c12] at H
    have c12b0 : ((rd t150 x24_1) == (-1)) = true := beq_iff_eq.mpr c12
    have c12b1 : ((rd t150 x24_1) != (-1)) = false := bne_eq_false_iff_eq.mpr c12
    clear c12
    have H' := Aside0.mk H
    clear H
    obtain ⟨Ao13, co13, eo13⟩ := Kd.R_slice HO_5.out
    subst eo13
    have p159 : 0 ≤ (x24_1 : Int) := of_decide_eq_true (by first | (with_reducible assumption) | assumption)
    have q159 : x24_1 < (t150.length : Int) := of_decide_eq_true (by first | (with_reducible assumption) | assumption)
    obtain ⟨ad159, e159, hx159_0⟩ := Kd.at_int (Kd.R_reads' HO_5.out).2.2 x24_1 p159 q159
    cases e159
    replace p159 := eq_true p159
    replace q159 := eq_true q159
    go_wp2
    go_roundg k1
    case measure => have := HK1.out; omega
    case rel => exact ⟨(x7_1), (wrap64 (x24_1 + 1)), (by first | rfl | (simp; done) | (simp [*]; done)), H', ⟨by have := HK1.out; omega⟩, ⟨by (with_reducible repeat (first | apply Kd.R_alloc | apply Kd.R_drewN | apply Kd.R_drew)); exact HO_5.out⟩, ⟨by (with_reducible repeat (first | apply Kd.R_alloc | apply Kd.R_drewN | apply Kd.R_drew)); exact HO_7.out⟩, ⟨by repeat (first | (with_reducible first | exact HB.out | apply below_alloc | apply pw_below_drewN | apply below_drew1) | exact HB.out | exact Below.refl _ _)⟩⟩
   rw [if_neg c12] at H
   have c12b0 : ((rd t150 x24_1) == (-1)) = false := beq_eq_false_iff_ne.mpr c12
   have c12b1 : ((rd t150 x24_1) != (-1)) = true := bne_iff_ne.mpr c12
   by_cases c14 : 0 ≤ (rd t150 x24_1)
   rotate_left
   ·rw [if_neg c14] at H
    exact absurd H (by simp)
   rw [if_pos c14] at H
   have c14b0 : decide (0 ≤ (rd t150 x24_1)) = true := decide_eq_true c14
   clear c14
   by_cases c15 : (rd t150 x24_1) < (x7_1.length : Int)
   rotate_left
   ·rw [if_neg c15] at H
    exact absurd H (by simp)
   rw [if_pos c15] at H
   have c15b0 : decide ((rd t150 x24_1) < (x7_1.length : Int)) = true := decide_eq_true c15
   clear c15
   by_cases c16 : x24_1 < (x7_1.length : Int)
   rotate_left
   ·rw [if_neg c16] at H
    exact absurd H (by simp)
   rw [if_pos c16] at H
   have c16b0 : decide (x24_1 < (x7_1.length : Int)) = true := decide_eq_true c16
   clear c16
   obtain ⟨y161, hy161⟩ : ∃ y_ : List Int, y_ = (x7_1.set (x24_1 : Int).toNat (rd x7_1 (rd t150 x24_1))) := ⟨_, rfl⟩
   replace H : (if (rd t150 x24_1) < (l0.length : Int) then (if ((rd_T32 l0 (rd t150 x24_1)).f0) = 23 then (if 0 ≤ ((rd_T32 l0 (rd t150 x24_1)).f1) then (nest_Held.l0 k1 l0 t150 (y161.set (x24_1 : Int).toNat (Go.bits .or .i64 (rd y161 x24_1) (shl .i64 1 ((rd_T32 l0 (rd t150 x24_1)).f1)))) (l0.length : Int) (wrap64 (x24_1 + 1))) else (none)) else (nest_Held.l0 k1 l0 t150 y161 (l0.length : Int) (wrap64 (x24_1 + 1)))) else (none)) = some (r1, r2) := by first | (rw [hy161]; with_reducible exact H) | (have H2_ := (Option.bind_some _ _).symm.trans H; rw [hy161]; with_reducible exact H2_) | (have H2_ := (Option.bind_some _ _).symm.trans H; with_reducible exact H2_) | with_reducible exact H | (rw [hy161]; exact H) | exact H
   have Ny161 := Aside0.mk hy161
   clear hy161
   by_cases c18 : (rd t150 x24_1) < (l0.length : Int)
   rotate_left
   ·rw [if_neg c18] at H
    exact absurd H (by simp)
   rw [if_pos c18] at H
   have c18b0 : decide ((rd t150 x24_1) < (l0.length : Int)) = true := decide_eq_true c18
   clear c18
   by_cases c19 : ((rd_T32 l0 (rd t150 x24_1)).f0) = 23
   rotate_left
   ·rw [if_neg c19] at H
    have c19b0 : (((rd_T32 l0 (rd t150 x24_1)).f0) == 23) = false := beq_eq_false_iff_ne.mpr c19
    have c19b1 : (((rd_T32 l0 (rd t150 x24_1)).f0) != 23) = true := bne_iff_ne.mpr c19
    have H' := Aside0.mk H
    clear H
    obtain ⟨Ao29, co29, eo29⟩ := Kd.R_slice HO_5.out
    subst eo29
    have p159 : 0 ≤ (x24_1 : Int) := of_decide_eq_true (by first | (with_reducible assumption) | assumption)
    have q159 : x24_1 < (t150.length : Int) := of_decide_eq_true (by first | (with_reducible assumption) | assumption)
    obtain ⟨ad159, e159, hx159_0⟩ := Kd.at_int (Kd.R_reads' HO_5.out).2.2 x24_1 p159 q159
    cases e159
    replace p159 := eq_true p159
    replace q159 := eq_true q159
    obtain ⟨Ao30, co30, eo30⟩ := Kd.R_slice HO_7.out
    subst eo30
    have p160 : 0 ≤ ((rd t150 x24_1) : Int) := of_decide_eq_true (by first | (with_reducible assumption) | assumption)
    have q160 : (rd t150 x24_1) < (x7_1.length : Int) := of_decide_eq_true (by first | (with_reducible assumption) | assumption)
    obtain ⟨ad160, e160, hx160_0⟩ := Kd.at_int (Kd.R_reads' HO_7.out).2.2 (rd t150 x24_1) p160 q160
    cases e160
    replace p160 := eq_true p160
    replace q160 := eq_true q160
    have p17 : 0 ≤ (x24_1 : Int) := of_decide_eq_true (by first | (with_reducible assumption) | assumption)
    have q17 : (x24_1 : Int) < ((x7_1.length : Int) : Int) := of_decide_eq_true (by first | (with_reducible assumption) | assumption)
    obtain ⟨go17, co17, eo17, gb17, gl17, cl17, HG17⟩ := Kd.R_form HO_7.out (by omega)
    (first | cases eo17 | (injection eo17 with ea_ en_ ec_; (first | subst ea_ | (injection ea_ with ea_; subst ea_)); subst ec_; clear en_))
    have GB17 := Aside0.mk gb17
    have GG17 := Aside0.mk HG17
    clear gb17 gl17 HG17
    (first | simp only [add_plain] at hx160_0 | skip)
    obtain ⟨hx17_0, hf17_0⟩ := Kd.R_celln 0 HO_7.out (x24_1 : Int) p17 q17
    replace p17 := eq_true p17
    replace q17 := eq_true q17
    have HP31 := Kd.R_putg HO_7.out (x24_1 : Int) (rd x7_1 (rd t150 x24_1))
    go_wp2_with (first | ((with_reducible refine gate_store (t := 3) (p := 39) rfl ?_); refine store_event (t := 3) (p := 39) (v := ?vo_w32) (w1 := (wr.setCell ⟨go17, (x24_1 : Int).toNat, none⟩ (.int .i64 (rd x7_1 (rd t150 x24_1))))) ?hg ?ho ?hn ?hr ?_; (case ho => rfl); (case hg => rfl); (case hn => rfl); (case hr => first | (go_simp; done) | (go_simp; rfl)); intro w32 hw; have hg : wr.grownBy w32 (some go17) := (by rw [hw]; exact HP31.2); have hp_ : Kd.R (Kd.int .i64) 3 w32 w.heap.size (fun k_ => some k_ ≠ (.slice (some ad159) t150.length co29 : Value).ownBlock) (.slice (some ⟨go17, 0, none⟩) x7_1.length co30) y161 := (by rw [hw, Ny161.out]; exact HP31.1); clear HP31; have n0_ := Aside0.mk (Kd.R_after (v := (.slice (some ⟨go17, 0, none⟩) x7_1.length co30)) (v1 := (.slice (some ⟨go17, 0, none⟩) x7_1.length co30)) (ok := (fun _ => True)) (by (with_reducible repeat (first | apply Kd.R_alloc | apply Kd.R_drewN | apply Kd.R_drew)); exact Kd.R_mono HO_5.out (fun _ hk => ⟨trivial, hk⟩)) hg (.inl rfl)); have n1_ := Aside0.mk (hp_); have n2_ := Aside0.mk ((by rw [hw]; exact below_set (HB.out) GB17.out : Below w.heap.size w w32)); clear HO_5; clear HO_7; clear HB; have HO_5 := n0_; have HO_7 := n1_; have HB := n2_; clear n0_ n1_ n2_; clear hg hw hp_; have p162 : 0 ≤ ((rd t150 x24_1) : Int) := of_decide_eq_true (by first | (with_reducible assumption) | assumption); have q162 : (rd t150 x24_1) < (l0.length : Int) := of_decide_eq_true (by first | (with_reducible assumption) | assumption); obtain ⟨ad162, e162, hx162_0, hx162_1, hx162_2⟩ := at_T32 HR0.out (rd t150 x24_1) p162 q162; cases e162; replace hx162_0 := (HB.out.cell (World.block_lt_of_cell? w _ hx162_0)).trans hx162_0; replace hx162_1 := (HB.out.cell (World.block_lt_of_cell? w _ hx162_1)).trans hx162_1; replace hx162_2 := (HB.out.cell (World.block_lt_of_cell? w _ hx162_2)).trans hx162_2; replace p162 := eq_true p162; replace q162 := eq_true q162))
    go_roundg k1
    case measure => have := HK1.out; omega
    case rel => exact ⟨(y161), (wrap64 (x24_1 + 1)), (by first | rfl | (simp; done) | (simp [*]; done)), H', ⟨by have := HK1.out; omega⟩, ⟨by (with_reducible repeat (first | apply Kd.R_alloc | apply Kd.R_drewN | apply Kd.R_drew)); exact Kd.R_mono HO_5.out (fun _ hk => hk.2)⟩, ⟨by (with_reducible repeat (first | apply Kd.R_alloc | apply Kd.R_drewN | apply Kd.R_drew)); exact HO_7.out⟩, ⟨by repeat (first | (with_reducible first | exact HB.out | apply below_alloc | apply pw_below_drewN | apply below_drew1) | exact HB.out | exact Below.refl _ _)⟩⟩
   rw [if_pos c19] at H
   have c19b0 : (((rd_T32 l0 (rd t150 x24_1)).f0) == 23) = true := beq_iff_eq.mpr c19
   have c19b1 : (((rd_T32 l0 (rd t150 x24_1)).f0) != 23) = false := bne_eq_false_iff_eq.mpr c19
   clear c19
   by_cases c20 : 0 ≤ ((rd_T32 l0 (rd t150 x24_1)).f1)
   rotate_left
   ·rw [if_neg c20] at H
    exact absurd H (by simp)
   rw [if_pos c20] at H
   have c20b0 := eq_true c20
   have c20b1 : decide (0 ≤ ((rd_T32 l0 (rd t150 x24_1)).f1)) = true := decide_eq_true c20
   clear c20
   obtain ⟨ji21, hji21⟩ : ∃ j_ : Int, (shl .i64 1 ((rd_T32 l0 (rd t150 x24_1)).f1)) = j_ := ⟨_, rfl⟩
   replace H : (nest_Held.l0 k1 l0 t150 (y161.set (x24_1 : Int).toNat (Go.bits .or .i64 (rd y161 x24_1) (ji21))) (l0.length : Int) (wrap64 (x24_1 + 1))) = some (r1, r2) := by first | (rw [hji21] at H; exact H) | (simp only [hji21] at H ⊢; exact H)
   have hji21_ : (IntKind.i64.wrap (1 * 2 ^ min ((rd_T32 l0 (rd t150 x24_1)).f1).toNat 64)) = ji21 := hji21
   have hji21z : ((rd_T32 l0 (rd t150 x24_1)).f1) ≤ 64 → (IntKind.i64.wrap (1 * 2 ^ ((rd_T32 l0 (rd t150 x24_1)).f1).toNat)) = ji21 := shl_small hji21
   have hji21u : (IntKind.i64.wrap (2 ^ min ((rd_T32 l0 (rd t150 x24_1)).f1).toNat 64)) = ji21 := by have h_ := hji21_; rw [Int.one_mul] at h_; exact h_
   have hji21v : ((rd_T32 l0 (rd t150 x24_1)).f1) ≤ 64 → (IntKind.i64.wrap (2 ^ ((rd_T32 l0 (rd t150 x24_1)).f1).toNat)) = ji21 := fun hle_ => by have h_ := hji21z hle_; rw [Int.one_mul] at h_; exact h_
   have hji21y : (wrap64 (1 * 2 ^ min ((rd_T32 l0 (rd t150 x24_1)).f1).toNat 64)) = ji21 := (i64_w _).symm.trans hji21_
   have hji21x : ((rd_T32 l0 (rd t150 x24_1)).f1) ≤ 64 → (wrap64 (1 * 2 ^ ((rd_T32 l0 (rd t150 x24_1)).f1).toNat)) = ji21 := fun h_ => (i64_w _).symm.trans (hji21z h_)
   obtain ⟨y165, hy165⟩ : ∃ y_ : List Int, y_ = (y161.set (x24_1 : Int).toNat (Go.bits .or .i64 (rd y161 x24_1) (ji21))) := ⟨_, rfl⟩
   replace H : (nest_Held.l0 k1 l0 t150 y165 (l0.length : Int) (wrap64 (x24_1 + 1))) = some (r1, r2) := by first | (rw [hy165]; with_reducible exact H) | (have H2_ := (Option.bind_some _ _).symm.trans H; rw [hy165]; with_reducible exact H2_) | (have H2_ := (Option.bind_some _ _).symm.trans H; with_reducible exact H2_) | with_reducible exact H | (rw [hy165]; exact H) | exact H
   have Ny165 := Aside0.mk hy165
   clear hy165
   have H' := Aside0.mk H
   clear H
   obtain ⟨Ao23, co23, eo23⟩ := Kd.R_slice HO_5.out
   subst eo23
   have p159 : 0 ≤ (x24_1 : Int) := of_decide_eq_true (by first | (with_reducible assumption) | assumption)
   have q159 : x24_1 < (t150.length : Int) := of_decide_eq_true (by first | (with_reducible assumption) | assumption)
   obtain ⟨ad159, e159, hx159_0⟩ := Kd.at_int (Kd.R_reads' HO_5.out).2.2 x24_1 p159 q159
   cases e159
   replace p159 := eq_true p159
   replace q159 := eq_true q159
   obtain ⟨Ao24, co24, eo24⟩ := Kd.R_slice HO_7.out
   subst eo24
   have p160 : 0 ≤ ((rd t150 x24_1) : Int) := of_decide_eq_true (by first | (with_reducible assumption) | assumption)
   have q160 : (rd t150 x24_1) < (x7_1.length : Int) := of_decide_eq_true (by first | (with_reducible assumption) | assumption)
   obtain ⟨ad160, e160, hx160_0⟩ := Kd.at_int (Kd.R_reads' HO_7.out).2.2 (rd t150 x24_1) p160 q160
   cases e160
   replace p160 := eq_true p160
   replace q160 := eq_true q160
   have p17 : 0 ≤ (x24_1 : Int) := of_decide_eq_true (by first | (with_reducible assumption) | assumption)
   have q17 : (x24_1 : Int) < ((x7_1.length : Int) : Int) := of_decide_eq_true (by first | (with_reducible assumption) | assumption)
   obtain ⟨go17, co17, eo17, gb17, gl17, cl17, HG17⟩ := Kd.R_form HO_7.out (by omega)
   (first | cases eo17 | (injection eo17 with ea_ en_ ec_; (first | subst ea_ | (injection ea_ with ea_; subst ea_)); subst ec_; clear en_))
   have GB17 := Aside0.mk gb17
   have GG17 := Aside0.mk HG17
   clear gb17 gl17 HG17
   (first | simp only [add_plain] at hx160_0 | skip)
   obtain ⟨hx17_0, hf17_0⟩ := Kd.R_celln 0 HO_7.out (x24_1 : Int) p17 q17
   replace p17 := eq_true p17
   replace q17 := eq_true q17
   have HP25 := Kd.R_putg HO_7.out (x24_1 : Int) (rd x7_1 (rd t150 x24_1))
   try go_wp2_with (first | ((with_reducible refine gate_store (t := 3) (p := 39) rfl ?_); refine store_event (t := 3) (p := 39) (v := ?vo_w26) (w1 := (wr.setCell ⟨go17, (x24_1 : Int).toNat, none⟩ (.int .i64 (rd x7_1 (rd t150 x24_1))))) ?hg ?ho ?hn ?hr ?_; (case ho => rfl); (case hg => rfl); (case hn => rfl); (case hr => first | (go_simp; done) | (go_simp; rfl)); intro w26 hw; have hg : wr.grownBy w26 (some go17) := (by rw [hw]; exact HP25.2); have hp_ : Kd.R (Kd.int .i64) 3 w26 w.heap.size (fun k_ => some k_ ≠ (.slice (some ad159) t150.length co23 : Value).ownBlock) (.slice (some ⟨go17, 0, none⟩) x7_1.length co24) y161 := (by rw [hw, Ny161.out]; exact HP25.1); clear HP25; have n0_ := Aside0.mk (Kd.R_after (v := (.slice (some ⟨go17, 0, none⟩) x7_1.length co24)) (v1 := (.slice (some ⟨go17, 0, none⟩) x7_1.length co24)) (ok := (fun _ => True)) (by (with_reducible repeat (first | apply Kd.R_alloc | apply Kd.R_drewN | apply Kd.R_drew)); exact Kd.R_mono HO_5.out (fun _ hk => ⟨trivial, hk⟩)) hg (.inl rfl)); have n1_ := Aside0.mk (hp_); have n2_ := Aside0.mk ((by rw [hw]; exact below_set (HB.out) GB17.out : Below w.heap.size w w26)); clear HO_5; clear HO_7; clear HB; have HO_5 := n0_; have HO_7 := n1_; have HB := n2_; clear n0_ n1_ n2_; clear hg hw hp_; have p162 : 0 ≤ ((rd t150 x24_1) : Int) := of_decide_eq_true (by first | (with_reducible assumption) | assumption); have q162 : (rd t150 x24_1) < (l0.length : Int) := of_decide_eq_true (by first | (with_reducible assumption) | assumption); obtain ⟨ad162, e162, hx162_0, hx162_1, hx162_2⟩ := at_T32 HR0.out (rd t150 x24_1) p162 q162; cases e162; replace hx162_0 := (HB.out.cell (World.block_lt_of_cell? w _ hx162_0)).trans hx162_0; replace hx162_1 := (HB.out.cell (World.block_lt_of_cell? w _ hx162_1)).trans hx162_1; replace hx162_2 := (HB.out.cell (World.block_lt_of_cell? w _ hx162_2)).trans hx162_2; replace p162 := eq_true p162; replace q162 := eq_true q162))
   have n0_ := Aside0.mk (Kd.R_drew HO_5.out)
   have n1_ := Aside0.mk (Kd.R_drew HO_7.out)
   have n2_ := Aside0.mk (below_drew1 HB.out)
   clear HO_5
   clear HO_7
   clear HB
   have HO_5 := n0_
   have HO_7 := n1_
   have HB := n2_
   clear n0_ n1_ n2_
   have p163 : 0 ≤ (x24_1 : Int) := of_decide_eq_true (by first | (with_reducible assumption) | assumption)
   have q163 : x24_1 < (y161.length : Int) := (by have h_ : (x24_1 : Int) < ((x7_1.length : Int) : Int) := of_decide_eq_true (by first | (with_reducible assumption) | assumption); first | (have e_ := (Kd.R_reads' HO_7.out).1; omega) | simpa only [Ny161.out, List.length_set] using h_)
   have ql163 : ((x24_1 : Int) < ((x7_1.length : Int) : Int)) = True := eq_true (of_decide_eq_true (by first | (with_reducible assumption) | assumption))
   obtain ⟨ad163, e163, hx163_0⟩ := Kd.at_int (Kd.R_reads' HO_7.out).2.2 x24_1 p163 q163
   obtain rfl : (⟨go17, 0, none⟩ : Addr) = ad163 := (by injection e163)
   (first | simp only [add_plain] at hx163_0 | simp only [add_at] at hx163_0 | simp only [Addr.add, Nat.zero_add] at hx163_0 | skip)
   replace p163 := eq_true p163
   replace q163 := eq_true q163
   have p164 : 0 ≤ ((rd t150 x24_1) : Int) := of_decide_eq_true (by first | (with_reducible assumption) | assumption)
   have q164 : (rd t150 x24_1) < (l0.length : Int) := of_decide_eq_true (by first | (with_reducible assumption) | assumption)
   obtain ⟨ad164, e164, hx164_0, hx164_1, hx164_2⟩ := at_T32 HR0.out (rd t150 x24_1) p164 q164
   have hw164_2 := hx164_2
   have hw164_1 := hx164_1
   have hw164_0 := hx164_0
   obtain rfl : ad162 = ad164 := (by injection e164)
   replace hx164_0 := (HB.out.cell (World.block_lt_of_cell? w _ hx164_0)).trans hx164_0
   replace hx164_1 := (HB.out.cell (World.block_lt_of_cell? w _ hx164_1)).trans hx164_1
   replace hx164_2 := (HB.out.cell (World.block_lt_of_cell? w _ hx164_2)).trans hx164_2
   replace p164 := eq_true p164
   replace q164 := eq_true q164
   have p22 : 0 ≤ (x24_1 : Int) := of_decide_eq_true (by first | (with_reducible assumption) | assumption)
   have q22 : (x24_1 : Int) < ((x7_1.length : Int) : Int) := of_decide_eq_true (by first | (with_reducible assumption) | assumption)
   obtain ⟨hx22_0, hf22_0⟩ := Kd.R_celln 0 HO_7.out (x24_1 : Int) p22 q22
   replace p22 := eq_true p22
   replace q22 := eq_true q22
   have HP28 := Kd.R_putn HO_7.out (x24_1 : Int) (Go.bits .or .i64 (rd y161 x24_1) (ji21))
   rw [← Ny165.out] at HP28
   have HQ28 := Aside0.mk HP28
   clear HP28
   refine start_ (n := 13) (S := fun w' => w'.cell? ⟨go17, (x24_1).toNat, none⟩ = some (.int .i64 (rd y161 x24_1)) ∧ w'.cell? (ad162.add (((rd t150 x24_1)).toNat * 3)) = some (.int .i64 ((rd_T32 l0 (rd t150 x24_1)).f0)) ∧ w'.cell? ⟨(ad162.add (((rd t150 x24_1)).toNat * 3)).block, (ad162.add (((rd t150 x24_1)).toNat * 3)).off + 1, none⟩ = some (.int .i64 ((rd_T32 l0 (rd t150 x24_1)).f1)) ∧ w'.cell? ⟨(ad162.add (((rd t150 x24_1)).toNat * 3)).block, (ad162.add (((rd t150 x24_1)).toNat * 3)).off + 2, none⟩ = some (.int .i64 ((rd_T32 l0 (rd t150 x24_1)).f2))) (ds := [12]) #[sqF,sqF,sqF,sqF,sqF,sqF,sqF,sqF,sqF,sqF,sqF,sqF,sqF] (by kernel_rfl) rfl rfl ⟨hx163_0, ((HB.out.cell (World.block_lt_of_cell? w _ hw164_0)).trans hw164_0), ((HB.out.cell (World.block_lt_of_cell? w _ hw164_1)).trans hw164_1), ((HB.out.cell (World.block_lt_of_cell? w _ hw164_2)).trans hw164_2)⟩ (fun hHeld => ?_); refine with_tabW nest_Held.tab12 nest_Held.bits12 (fun HT_ HW_ => ?_)
   generalize w26.drew = w27 at HO_5 HO_7 HB HQ28 hf22_0 hx163_0 hx164_0 hx164_1 hx164_2 hx22_0 hHeld ⊢
   refine pure_ (i := 0) (N := some 46) (v := ?_) (a' := ?_) #[sqT,sqF,sqF,sqF,sqF,sqF,sqF,sqF,sqF,sqF,sqF,sqF,sqF] rfl rfl (any_of HT_.out (by kernel_rfl)) (fun _ _ _ h => h) (Or.inl ⟨by rfl, ?_⟩) ?_ ?_
   rotate_left
   ·intro w'
    go_simp
    with_reducible rfl
   rotate_left
   ·simp only [Act.put, setIfInBounds_toArray,set_cons_zero,set_cons_succ, i64_w, i32_w]
    rfl
   refine pure_ (i := 1) (N := some 47) (v := ?_) (a' := ?_) #[sqT,sqT,sqF,sqF,sqF,sqF,sqF,sqF,sqF,sqF,sqF,sqF,sqF] rfl rfl (any_of HT_.out (by kernel_rfl)) (fun _ _ _ h => h) (Or.inl ⟨by rfl, ?_⟩) ?_ ?_
   rotate_left
   ·intro w'
    go_simp
    with_reducible rfl
   rotate_left
   ·simp only [Act.put, setIfInBounds_toArray,set_cons_zero,set_cons_succ, i64_w, i32_w]
    rfl
   refine pure_ (i := 2) (N := some 48) (v := ?_) (a' := ?_) #[sqT,sqT,sqT,sqF,sqF,sqF,sqF,sqF,sqF,sqF,sqF,sqF,sqF] rfl rfl (any_of HT_.out (by kernel_rfl)) (fun _ _ _ h => h) (Or.inl ⟨by rfl, ?_⟩) ?_ ?_
   rotate_left
   ·intro w'
    go_simp
    with_reducible rfl
   rotate_left
   ·simp only [Act.put, setIfInBounds_toArray,set_cons_zero,set_cons_succ, i64_w, i32_w]
    rfl
   refine pure_ (i := 4) (N := some 50) (v := ?_) (a' := ?_) #[sqT,sqT,sqT,sqF,sqT,sqF,sqF,sqF,sqF,sqF,sqF,sqF,sqF] rfl rfl (any_of HT_.out (by kernel_rfl)) (fun _ _ _ h => h) (Or.inl ⟨by rfl, ?_⟩) ?_ ?_
   rotate_left
   ·intro w'
    go_simp
    with_reducible rfl
   rotate_left
   ·simp only [Act.put, setIfInBounds_toArray,set_cons_zero,set_cons_succ, i64_w, i32_w]
    rfl
   refine pure_ (i := 5) (N := some 51) (v := ?_) (a' := ?_) #[sqT,sqT,sqT,sqF,sqT,sqT,sqF,sqF,sqF,sqF,sqF,sqF,sqF] rfl rfl (any_of HT_.out (by kernel_rfl)) (fun _ _ _ h => h) (Or.inl ⟨by rfl, ?_⟩) ?_ ?_
   rotate_left
   ·intro w'
    go_simp
    with_reducible rfl
   rotate_left
   ·simp only [Act.put, setIfInBounds_toArray,set_cons_zero,set_cons_succ, i64_w, i32_w]
    rfl
   refine pure_ (i := 6) (N := some 52) (v := ?_) (a' := ?_) #[sqT,sqT,sqT,sqF,sqT,sqT,sqT,sqF,sqF,sqF,sqF,sqF,sqF] rfl rfl (any_of HT_.out (by kernel_rfl)) (fun _ _ _ h => h) (Or.inl ⟨by rfl, ?_⟩) ?_ ?_
   rotate_left
   ·intro w'
    go_simp
    with_reducible rfl
   rotate_left
   ·simp only [Act.put, setIfInBounds_toArray,set_cons_zero,set_cons_succ, i64_w, i32_w]
    rfl
   refine pure_ (i := 7) (N := some 53) (v := ?_) (a' := ?_) #[sqT,sqT,sqT,sqF,sqT,sqT,sqT,sqT,sqF,sqF,sqF,sqF,sqF] rfl rfl (any_of HT_.out (by kernel_rfl)) (fun _ _ _ h => h) (Or.inl ⟨by rfl, ?_⟩) ?_ ?_
   rotate_left
   ·intro w'
    go_simp
    with_reducible rfl
   rotate_left
   ·simp only [Act.put, setIfInBounds_toArray,set_cons_zero,set_cons_succ, i64_w, i32_w]
    rfl
   refine take_ (i := 3) (N := some 49) (v := ?_) (a' := ?_) #[sqT,sqT,sqT,sqT,sqT,sqT,sqT,sqT,sqF,sqF,sqF,sqF,sqF] rfl rfl (take_ofW HT_.out HW_.out (by kernel_rfl)) (fun _ _ _ h => h) (Or.inl ⟨by rfl, ?_⟩) hHeld ?_ ?_
   rotate_left
   ·rintro w' ⟨s0, s1, s2, s3⟩
    go_simp
    with_reducible rfl
   rotate_left
   ·simp only [Act.put, setIfInBounds_toArray,set_cons_zero,set_cons_succ, i64_w, i32_w]
    rfl
   refine take_ (i := 8) (N := some 54) (v := ?_) (a' := ?_) #[sqT,sqT,sqT,sqT,sqT,sqT,sqT,sqT,sqT,sqF,sqF,sqF,sqF] rfl rfl (take_ofW HT_.out HW_.out (by kernel_rfl)) (fun _ _ _ h => h) (Or.inl ⟨by rfl, ?_⟩) hHeld ?_ ?_
   rotate_left
   ·rintro w' ⟨s0, s1, s2, s3⟩
    go_simp
    with_reducible rfl
   rotate_left
   ·simp only [Act.put, setIfInBounds_toArray,set_cons_zero,set_cons_succ, i64_w, i32_w]
    rfl
   refine pure_ (i := 9) (N := some 55) (v := ?_) (a' := ?_) #[sqT,sqT,sqT,sqT,sqT,sqT,sqT,sqT,sqT,sqT,sqF,sqF,sqF] rfl rfl (any_of HT_.out (by kernel_rfl)) (fun _ _ _ h => h) (Or.inl ⟨by rfl, ?_⟩) ?_ ?_
   rotate_left
   ·intro w'
    go_simp
    with_reducible rfl
   rotate_left
   ·simp only [Act.put, setIfInBounds_toArray,set_cons_zero,set_cons_succ, i64_w, i32_w]
    rfl
   refine pure_ (i := 10) (N := some 56) (v := ?_) (a' := ?_) #[sqT,sqT,sqT,sqT,sqT,sqT,sqT,sqT,sqT,sqT,sqT,sqF,sqF] rfl rfl (any_of HT_.out (by kernel_rfl)) (fun _ _ _ h => h) (Or.inl ⟨by rfl, ?_⟩) ?_ ?_
   rotate_left
   ·intro w'
    go_simp
    with_reducible rfl
   rotate_left
   ·simp only [Act.put, setIfInBounds_toArray,set_cons_zero,set_cons_succ, i64_w, i32_w]
    rfl
   refine pure_ (i := 11) (N := some 57) (v := ?_) (a' := ?_) #[sqT,sqT,sqT,sqT,sqT,sqT,sqT,sqT,sqT,sqT,sqT,sqT,sqF] rfl rfl (any_of HT_.out (by kernel_rfl)) (fun _ _ _ h => h) (Or.inl ⟨by rfl, ?_⟩) ?_ ?_
   rotate_left
   ·intro w'
    go_simp
    with_reducible rfl
   rotate_left
   ·simp only [Act.put, setIfInBounds_toArray,set_cons_zero,set_cons_succ, i64_w, i32_w]
    rfl
   refine last_ (i := 12) (N := none) #[sqT,sqT,sqT,sqT,sqT,sqT,sqT,sqT,sqT,sqT,sqT,sqT,sqT] rfl rfl (one_of HT_.out (by kernel_rfl)) (by decide) (fun K hK => ?_)
   refine skip_ (w1 := ?_) (by rfl) rfl ?_ ?_
   rotate_left
   ·go_simp
    rfl
   refine hK.out _ _ ?_
   clear hK K
   refine done_ (done_of HT_.out (by kernel_rfl)) ?_
   try go_wp2
   go_roundg k1
   case measure => have := HK1.out; omega
   case rel => exact ⟨(y165), (wrap64 (x24_1 + 1)), (by first | rfl | (simp; done) | (simp [*]; done)), H', ⟨by have := HK1.out; omega⟩, ⟨by (with_reducible repeat (first | apply Kd.R_alloc | apply Kd.R_drewN | apply Kd.R_drew)); exact Kd.R_mono (Kd.R_far (p := ⟨go17, (x24_1 : Int).toNat, none⟩) (Kd.R_mono HO_5.out (fun k_ hk => (⟨hk, fun e_ => hk.2 (by rw [e_]; rfl)⟩ : _ ∧ k_ ≠ go17))) (fun _ hk => hk.2) (.int .i64 (Go.bits .or .i64 (rd y161 x24_1) (ji21)))) (fun _ hk => hk.1.2)⟩, ⟨by (with_reducible repeat (first | apply Kd.R_alloc | apply Kd.R_drewN | apply Kd.R_drew)); exact HQ28.out⟩, ⟨by repeat (first | (with_reducible first | exact HB.out | apply below_alloc | apply pw_below_drewN | apply below_drew1 | refine below_set ?_ GB17.out) | exact HB.out | exact Below.refl _ _)⟩⟩

end Go.Proofs.Ytljgllcllddcdaa.P
