-- Written by a program of this session (wip/tools: patched print) for this claim. Not trusted: Lean checks it.
import Derived.Test.YtdhlhbhclggheaaQx0
import Derived.Test.YtdhlhbhclggheaaQx4
namespace Go.Proofs.Ytdhlhbhclggheaa.Q
open Go.RowKit Go.Proofs.Ytdhlhbhclggheaa.P Go.Proofs.Ytdhlhbhclggheaa.D Go.Proofs.YtdhlhbhclggheaaW.PrintWords Go.Proofs.YtdhlhbhclggheaaW.PrintLast Go.Proofs.YtdhlhbhclggheaaW.PrintMore
open List (setIfInBounds_toArray set_cons_zero set_cons_succ)
attribute [local go_sem] max2_int min2_int max_two min_two max_three min_three max_four min_four   -- for this text's walks alone
set_option linter.unusedVariables false
set_option linter.unusedSimpArgs false

/-! ### camshaftref06_Match: function 21 -/
mutual
def camshaftref06_Match.l0 : Nat → List (S37) → List Int → List Int → Int → Option (List Int × Int)
 | 0, _, _, _, _ => none
 | k + 1, x0, x4, x5, x6 => if x6 < (x0.length : Int) then (if 0 ≤ x6 then (if x6 < (x4.length : Int) then ((some (x4.set (x6 : Int).toNat (-1) : List Int)).bind fun y178 => ((camshaftref06_opens.f ((rd_T37 x0 x6).f0) ((rd_T37 x0 x6).f1) ((rd_T37 x0 x6).f2)).bind fun t180 => (if t180 = true then (if x5.length < 17592186044416 then (camshaftref06_Match.j1 k x0 y178 (x5 ++ [x6]) x6) else (none)) else (camshaftref06_Match.j1 k x0 y178 x5 x6)))) else (none)) else (none)) else (if (x5.length : Int) > 0 then (some (([] : List Int), 7)) else (some (x4, 0)))
def camshaftref06_Match.j1 : Nat → List (S37) → List Int → List Int → Int → Option (List Int × Int)
 | 0, _, _, _, _ => none
 | k + 1, x0, x4, x5, x6 => if 0 ≤ x6 then (if x6 < (x0.length : Int) then ((camshaftref06_closer.f ((rd_T37 x0 x6).f0) ((rd_T37 x0 x6).f1) ((rd_T37 x0 x6).f2)).bind fun t185 => (if t185 = true then (if (x5.length : Int) = 0 then (some (([] : List Int), 7)) else (if 0 ≤ (wrap64 ((x5.length : Int) - 1)) then (if (wrap64 ((x5.length : Int) - 1)) < (x5.length : Int) then (if 0 ≤ (rd x5 (wrap64 ((x5.length : Int) - 1))) then (if (rd x5 (wrap64 ((x5.length : Int) - 1))) < (x0.length : Int) then ((camshaftref06_closes.f ((rd_T37 x0 (rd x5 (wrap64 ((x5.length : Int) - 1)))).f0) ((rd_T37 x0 (rd x5 (wrap64 ((x5.length : Int) - 1)))).f1) ((rd_T37 x0 (rd x5 (wrap64 ((x5.length : Int) - 1)))).f2) ((rd_T37 x0 x6).f0) ((rd_T37 x0 x6).f1) ((rd_T37 x0 x6).f2)).bind fun t189 => (if t189 = true then (if x6 < (x4.length : Int) then (if (rd x5 (wrap64 ((x5.length : Int) - 1))) < (x4.length : Int) then (if (wrap64 ((x5.length : Int) - 1)) ≤ (x5.length : Int) then (camshaftref06_Match.l0 k x0 ((x4.set (x6 : Int).toNat (rd x5 (wrap64 ((x5.length : Int) - 1)))).set ((rd x5 (wrap64 ((x5.length : Int) - 1))) : Int).toNat x6) (x5.take ((wrap64 ((x5.length : Int) - 1)) : Int).toNat) (wrap64 (x6 + 1))) else (none)) else (none)) else (none)) else (some (([] : List Int), 7)))) else (none)) else (none)) else (none)) else (none))) else (camshaftref06_Match.l0 k x0 x4 x5 (wrap64 (x6 + 1))))) else (none)) else (none)
end
def camshaftref06_Match.f (k : Nat) (l0 : List (S37)) : Option (List Int × Int) := (camshaftref06_right.f k l0).bind fun t174 => (if t174 = true then (if 0 ≤ (l0.length : Int) then (if ((l0.length : Int) : Int).toNat ≤ 35184372088832 then (camshaftref06_Match.l0 k l0 (List.replicate ((l0.length : Int) : Int).toNat 0) ([] : List Int) 0) else (none)) else (none)) else (some (([] : List Int), 1)))
theorem camshaftref06_Match.mono_l : ∀ k, (∀ y0 y1 y2 y3, LeO (camshaftref06_Match.l0 k y0 y1 y2 y3) (camshaftref06_Match.l0 (k + 1) y0 y1 y2 y3)) ∧ (∀ y0 y1 y2 y3, LeO (camshaftref06_Match.j1 k y0 y1 y2 y3) (camshaftref06_Match.j1 (k + 1) y0 y1 y2 y3))
 | 0 => ⟨fun _ _ _ _ r h => by simp [camshaftref06_Match.l0] at h, fun _ _ _ _ r h => by simp [camshaftref06_Match.j1] at h⟩
 | k + 1 => by
  obtain ⟨ih0, ih1⟩ := camshaftref06_Match.mono_l k
  refine ⟨?_, ?_⟩
  ·intro y0 y1 y2 y3
   unfold camshaftref06_Match.l0
   repeat' first
   | (with_reducible exact ih0 _ _ _ _)
   | (with_reducible exact ih1 _ _ _ _)
   | (with_reducible exact camshaftref06_right.mono _ _)
   | (with_reducible exact LeO.refl _)
   | (with_reducible exact LeO.none _)
   | (with_reducible refine LeO.ite ?_ ?_)
   | (with_reducible refine LeO.bind ?_ (fun _ => ?_))
   | exact ih0 _ _ _ _
   | exact ih1 _ _ _ _
   | exact camshaftref06_right.mono _ _
   | exact LeO.none _
   | refine LeO.ite ?_ ?_
   | refine LeO.bind ?_ (fun _ => ?_)
  ·intro y0 y1 y2 y3
   unfold camshaftref06_Match.j1
   repeat' first
   | (with_reducible exact ih0 _ _ _ _)
   | (with_reducible exact ih1 _ _ _ _)
   | (with_reducible exact camshaftref06_right.mono _ _)
   | (with_reducible exact LeO.refl _)
   | (with_reducible exact LeO.none _)
   | (with_reducible refine LeO.ite ?_ ?_)
   | (with_reducible refine LeO.bind ?_ (fun _ => ?_))
   | exact ih0 _ _ _ _
   | exact ih1 _ _ _ _
   | exact camshaftref06_right.mono _ _
   | exact LeO.none _
   | refine LeO.ite ?_ ?_
   | refine LeO.bind ?_ (fun _ => ?_)
theorem camshaftref06_Match.mono : ∀ a0 k, LeO (camshaftref06_Match.f k a0) (camshaftref06_Match.f (k + 1) a0) := by
 intro a0 k
 obtain ⟨ih0, ih1⟩ := camshaftref06_Match.mono_l k
 unfold camshaftref06_Match.f
 repeat' first
   | (with_reducible exact ih0 _ _ _ _)
   | (with_reducible exact ih1 _ _ _ _)
   | (with_reducible exact camshaftref06_right.mono _ _)
   | (with_reducible exact LeO.refl _)
   | (with_reducible exact LeO.none _)
   | (with_reducible refine LeO.ite ?_ ?_)
   | (with_reducible refine LeO.bind ?_ (fun _ => ?_))
   | exact ih0 _ _ _ _
   | exact ih1 _ _ _ _
   | exact camshaftref06_right.mono _ _
   | exact LeO.none _
   | refine LeO.ite ?_ ?_
   | refine LeO.bind ?_ (fun _ => ?_)
def camshaftref06_Match.T13 : Bool × List (List Nat × List Nat) := (true, [([], []), ([0], [0]), ([1], [1]), ([2], [2]), ([2], [2]), ([2], [2]), ([5, 2], [2, 5]), ([4, 6, 2], [2, 4, 6]), ([7, 2], [2, 7]), ([3, 8, 2], [2, 3, 8]), ([9, 2], [2, 9]), ([2], [2]), ([2], [2]), ([11, 12, 2], [2, 11, 12]), ([13, 2], [2, 13]), ([10, 14, 2, 2], [2, 10, 14]), ([15, 2], [2, 15]), ([2, 16], [2, 16])])
def camshaftref06_Match.B13 : List Nat := [0, 1, 3, 7, 7, 7, 39, 119, 247, 511, 1023, 7, 7, 6151, 14343, 32767, 65535, 131071]
theorem camshaftref06_Match.tab13 : rtab .any (opsOf Try.f21 13) = camshaftref06_Match.T13 := by kernel_rfl
theorem camshaftref06_Match.bits13 : waitsOk camshaftref06_Match.T13.2 camshaftref06_Match.B13 = true := by kernel_rfl
set_option maxHeartbeats 8000000 in
set_option maxRecDepth 100000 in
theorem camshaftref06_Match.calls (k : Nat) (A0 : Option Addr) (c0 : Nat) (l0 : List (S37)) (r1 : List Int) (r2 : Int) (w : World) (hr0 : Kd.C k37 w A0 l0.length l0) (hc0 : l0.length ≤ c0) (h : camshaftref06_Match.f k l0 = some (r1, r2)) :
  Calls Try.prog 21 #[.slice A0 l0.length c0] w fun e w' => ∃ v0_ : Value, e = .returned (.tuple #[v0_, .int .i64 r2]) ∧ Kd.R (Kd.int .i64) 3 w' w.heap.size (fun _ => True) v0_ r1 ∧ Below w.heap.size w w' := by
 have hu37 := Try.underlying37
 have HR0 := Aside0.mk hr0
 have HC0 := Aside0.mk hc0
 clear hr0 hc0
 have HB := Aside0.mk (Below.refl w.heap.size w)
 have H : ((camshaftref06_right.f k l0).bind fun t174 => (if t174 = true then (if 0 ≤ (l0.length : Int) then (if ((l0.length : Int) : Int).toNat ≤ 35184372088832 then (camshaftref06_Match.l0 k l0 (List.replicate ((l0.length : Int) : Int).toNat 0) ([] : List Int) 0) else (none)) else (none)) else (some (([] : List Int), 1)))) = some (r1, r2) := h
 clear h
 replace H := Option.bind_eq_some_iff.mp H
 obtain ⟨t174, A20, H⟩ := H
 replace H : (if t174 = true then (if 0 ≤ (l0.length : Int) then (if ((l0.length : Int) : Int).toNat ≤ 35184372088832 then (camshaftref06_Match.l0 k l0 (List.replicate ((l0.length : Int) : Int).toNat 0) ([] : List Int) 0) else (none)) else (none)) else (some (([] : List Int), 1))) = some (r1, r2) := H
 have A2 := Aside0.mk A20
 clear A20
 by_cases c3 : t174 = true
 rotate_left
 ·replace c3 := Bool.eq_false_iff.mpr c3
  subst c3
  have H1 : (some (([] : List Int), 1)) = some (r1, r2) := by rw [if_neg (show ¬ (false = true) by decide)] at H; exact H
  clear H
  have H := H1
  clear H1
  simp only [Option.some.injEq, Prod.mk.injEq] at H
  obtain ⟨rfl, rfl⟩ := H
  go_enter Try.func21, Try.ntmps21
  go_wp2_with (first | ((with_reducible refine gate_callee (f := 32) rfl ?_); refine goesL_ (some 9) rfl rfl Try.func32 (by kernel_rfl) rfl #[.slice A0 l0.length c0] rfl am_ ?_; (with_reducible refine (camshaftref06_right.calls k _ _ l0 false _ ?side1 ?side2 A2.out).mono ?_); (case side1 => repeat (first | exact HR0.out | (with_reducible refine Kd.C_alloc ?_ _) | (with_reducible refine Kd.C_drewN ?_ _) | (with_reducible refine Kd.C_drew ?_))); (case side2 => exact HC0.out); rintro e w58 ⟨rfl, hb⟩; refine ⟨_, rfl, ?_⟩; have n0_ := Aside0.mk (below_step ab_ hb); clear HB; have HB := n0_; clear n0_; (try clear hb); (try clear hb2); (try clear hk); (try clear hi)))
  go_ret2
  exact ⟨_, by first | rfl | (simp [errW_none, errW_some] <;> rfl) | (simp [*, errW_none, errW_some] <;> rfl), by first | exact Kd.R_nil _ _ _ _ _ | exact Kd.N_nil _ _ _ _ _ | exact Kd.V_nil _ _ _ _ _ | exact Kd.Q_nil _ _ _ _ _ | exact Kd.S_nil _ _ _ _ _, by repeat (first | (with_reducible first | exact HB.out | apply below_alloc | apply pw_below_drewN | apply below_drew1) | exact HB.out | exact Below.refl _ _)⟩
 subst c3
 have H1 : (if 0 ≤ (l0.length : Int) then (if ((l0.length : Int) : Int).toNat ≤ 35184372088832 then (camshaftref06_Match.l0 k l0 (List.replicate ((l0.length : Int) : Int).toNat 0) ([] : List Int) 0) else (none)) else (none)) = some (r1, r2) := by rw [if_pos rfl] at H; exact H
 clear H
 have H := H1
 clear H1
 by_cases c4 : 0 ≤ (l0.length : Int)
 rotate_left
 ·rw [if_neg c4] at H
  exact absurd H (by simp)
 rw [if_pos c4] at H
 have c4b0 := eq_true c4
 have c4b1 : decide (0 ≤ (l0.length : Int)) = true := decide_eq_true c4
 clear c4
 by_cases c5 : ((l0.length : Int) : Int).toNat ≤ 35184372088832
 rotate_left
 ·rw [if_neg c5] at H
  exact absurd H (by simp)
 rw [if_pos c5] at H
 have c5b0 := eq_true c5
 have c5b1 : decide (((l0.length : Int) : Int).toNat ≤ 35184372088832) = true := decide_eq_true c5
 clear c5
 obtain ⟨y175, hy175⟩ : ∃ y_ : List Int, y_ = (List.replicate ((l0.length : Int) : Int).toNat 0) := ⟨_, rfl⟩
 replace H : (camshaftref06_Match.l0 k l0 y175 ([] : List Int) 0) = some (r1, r2) := by first | (rw [hy175]; with_reducible exact H) | (have H2_ := (Option.bind_some _ _).symm.trans H; rw [hy175]; with_reducible exact H2_) | (have H2_ := (Option.bind_some _ _).symm.trans H; with_reducible exact H2_) | with_reducible exact H | (rw [hy175]; exact H) | exact H
 have Ny175 := Aside0.mk hy175
 clear hy175
 have H' := Aside0.mk H
 clear H
 go_enter Try.func21, Try.ntmps21
 go_wp2_with (first | ((with_reducible refine gate_callee (f := 32) rfl ?_); refine goesL_ (some 9) rfl rfl Try.func32 (by kernel_rfl) rfl #[.slice A0 l0.length c0] rfl am_ ?_; (with_reducible refine (camshaftref06_right.calls k _ _ l0 true _ ?side1 ?side2 A2.out).mono ?_); (case side1 => repeat (first | exact HR0.out | (with_reducible refine Kd.C_alloc ?_ _) | (with_reducible refine Kd.C_drewN ?_ _) | (with_reducible refine Kd.C_drew ?_))); (case side2 => exact HC0.out); rintro e w6 ⟨rfl, hb⟩; refine ⟨_, rfl, ?_⟩; have n0_ := Aside0.mk (below_step ab_ hb); clear HB; have HB := n0_; clear n0_; (try clear hb); (try clear hb2); (try clear hk); (try clear hi)) | ((with_reducible refine gate_dst (N := 13) rfl ?_); refine Kd.R_make (Kd.int .i64) _ 3 rfl (N := 13) rfl 32 _ _ rfl (l0.length : Int) rfl rfl Try.underlying32 (.int .i64 0) 8 info3 rfl (by decide) (by omega) 0 (ok := fun _ => True) (okp := fun _ => True) rfl (fun _ hk => hk) trivial (of_decide_eq_true as_) (Nat.le_trans (Nat.mul_le_mul_right _ (of_decide_eq_true as_ : (l0.length : Int).toNat ≤ 35184372088832)) (by omega)) (Below.refl _ _) (Nat.le_refl _) ?_; intro v176 w7 ho8 hb hg_ hnew_; clear hg_ hnew_; (first | rw [← Ny175.out] at ho8 | (simp only [Int.reduceToNat] at ho8; rw [← Ny175.out] at ho8)); have n0_ := Aside0.mk (Kd.R_lower ho8 (below_size ab_)); have n1_ := Aside0.mk (below_step ab_ hb); clear HB; have HO177 := n0_; have HB := n1_; clear n0_ n1_; clear hb ho8))
 go_loopg [5, 6] k (fun kq v5 v6 w' => ∃ (x4_1 : List Int) (x5_1 : List Int) (x6_1 : Int), v6 = .int .i64 x6_1 ∧ Aside0 (camshaftref06_Match.l0 kq l0 x4_1 x5_1 x6_1 = some (r1, r2)) ∧ Aside0 (kq ≤ k) ∧ Aside0 (Kd.R (Kd.int .i64) 3 w' w.heap.size (fun k_ => some k_ ≠ (v5 : Value).ownBlock) v176 x4_1) ∧ Aside0 (Kd.R (Kd.int .i64) 3 w' w.heap.size (fun k_ => some k_ ≠ (v176 : Value).ownBlock) v5 x5_1) ∧ Aside0 (Below w.heap.size w w'))
 case atStart => exact ⟨(y175), (([] : List Int)), (0), (by first | rfl | (simp; done) | (simp [*]; done)), H', ⟨Nat.le_refl _⟩, ⟨by (with_reducible repeat (first | apply Kd.R_alloc | apply Kd.R_drewN | apply Kd.R_drew)); exact Kd.R_mono HO177.out (fun _ hk => (by simp [Value.ownBlock]))⟩, ⟨by first | exact Kd.R_nil _ _ _ _ _ | exact Kd.N_nil _ _ _ _ _ | exact Kd.V_nil _ _ _ _ _ | exact Kd.Q_nil _ _ _ _ _ | exact Kd.S_nil _ _ _ _ _⟩, ⟨by repeat (first | (with_reducible first | exact HB.out | apply below_alloc | apply pw_below_drewN | apply below_drew1) | exact HB.out)⟩⟩
 case round =>
  clear H'
  try clear c2
  try clear p2
  try clear c3
  try clear c4
  try clear c4b0
  try clear c4b1
  try clear c5
  try clear c5b0
  try clear c5b1
  obtain ⟨x4_1, x5_1, x6_1, rfl, HA, HK1, HO_4, HO_5, HB⟩ := hrel
  cases gk with
  | zero => exact absurd HA.out (by simp [camshaftref06_Match.l0])
  | succ k1 =>
   have H := HA.out
   clear HA
   simp only [camshaftref06_Match.l0] at H
   by_cases c9 : x6_1 < (l0.length : Int)
   rotate_left
   ·rw [if_neg c9] at H
    have c9b0 : decide (x6_1 < (l0.length : Int)) = false := decide_eq_false c9
    clear c9
    by_cases c55 : (x5_1.length : Int) > 0
    rotate_left
    ·rw [if_neg c55] at H
     have c55b0 : decide (0 < (x5_1.length : Int)) = false := decide_eq_false c55
     have c55b1 : decide (0 < x5_1.length) = false := decide_eq_false (by omega)
     clear c55
     simp only [Option.some.injEq, Prod.mk.injEq] at H
     obtain ⟨rfl, rfl⟩ := H
     obtain ⟨Ao57, co57, eo57⟩ := Kd.R_slice HO_5.out
     subst eo57
     go_wp2
     go_ret2
     exact ⟨_, by first | rfl | (simp [errW_none, errW_some] <;> rfl) | (simp [*, errW_none, errW_some] <;> rfl), by (with_reducible repeat (first | apply Kd.R_alloc | apply Kd.R_drewN | apply Kd.R_drew)); exact Kd.R_mono HO_4.out (fun _ hk => trivial), by repeat (first | (with_reducible first | exact HB.out | apply below_alloc | apply pw_below_drewN | apply below_drew1) | exact HB.out | exact Below.refl _ _)⟩
    rw [if_pos c55] at H
    have c55b0 : decide (0 < (x5_1.length : Int)) = true := decide_eq_true c55
    have c55b1 : decide (0 < x5_1.length) = true := decide_eq_true (by omega)
    clear c55
    simp only [Option.some.injEq, Prod.mk.injEq] at H
    obtain ⟨rfl, rfl⟩ := H
    obtain ⟨Ao56, co56, eo56⟩ := Kd.R_slice HO_5.out
    subst eo56
    go_wp2
    go_ret2
    exact ⟨_, by first | rfl | (simp [errW_none, errW_some] <;> rfl) | (simp [*, errW_none, errW_some] <;> rfl), by first | exact Kd.R_nil _ _ _ _ _ | exact Kd.N_nil _ _ _ _ _ | exact Kd.V_nil _ _ _ _ _ | exact Kd.Q_nil _ _ _ _ _ | exact Kd.S_nil _ _ _ _ _, by repeat (first | (with_reducible first | exact HB.out | apply below_alloc | apply pw_below_drewN | apply below_drew1) | exact HB.out | exact Below.refl _ _)⟩
   rw [if_pos c9] at H
   have c9b0 : decide (x6_1 < (l0.length : Int)) = true := decide_eq_true c9
   clear c9
   by_cases c10 : 0 ≤ x6_1
   rotate_left
   ·rw [if_neg c10] at H
    exact absurd H (by simp)
   rw [if_pos c10] at H
   have c10b0 : decide (0 ≤ x6_1) = true := decide_eq_true c10
   clear c10
   by_cases c11 : x6_1 < (x4_1.length : Int)
   rotate_left
   ·rw [if_neg c11] at H
    exact absurd H (by simp)
   rw [if_pos c11] at H
   have c11b0 : decide (x6_1 < (x4_1.length : Int)) = true := decide_eq_true c11
   clear c11
   obtain ⟨y178, hy178⟩ : ∃ y_ : List Int, y_ = (x4_1.set (x6_1 : Int).toNat (-1)) := ⟨_, rfl⟩
   replace H : ((camshaftref06_opens.f ((rd_T37 l0 x6_1).f0) ((rd_T37 l0 x6_1).f1) ((rd_T37 l0 x6_1).f2)).bind fun t180 => (if t180 = true then (if x5_1.length < 17592186044416 then (camshaftref06_Match.j1 k1 l0 y178 (x5_1 ++ [x6_1]) x6_1) else (none)) else (camshaftref06_Match.j1 k1 l0 y178 x5_1 x6_1))) = some (r1, r2) := by first | (rw [hy178]; with_reducible exact H) | (have H2_ := (Option.bind_some _ _).symm.trans H; rw [hy178]; with_reducible exact H2_) | (have H2_ := (Option.bind_some _ _).symm.trans H; with_reducible exact H2_) | with_reducible exact H | (rw [hy178]; exact H) | exact H
   have Ny178 := Aside0.mk hy178
   clear hy178
   replace H := Option.bind_eq_some_iff.mp H
   obtain ⟨t180, A130, H⟩ := H
   replace H : (if t180 = true then (if x5_1.length < 17592186044416 then (camshaftref06_Match.j1 k1 l0 y178 (x5_1 ++ [x6_1]) x6_1) else (none)) else (camshaftref06_Match.j1 k1 l0 y178 x5_1 x6_1)) = some (r1, r2) := H
   have A13 := Aside0.mk A130
   clear A130
   have HC14 := Aside0.mk H
   clear H
   have p12 : 0 ≤ (x6_1 : Int) := of_decide_eq_true as_
   have q12 : (x6_1 : Int) < ((x4_1.length : Int) : Int) := of_decide_eq_true as_
   obtain ⟨go12, co12, eo12, gb12, gl12, cl12, HG12⟩ := Kd.R_form HO_4.out (by omega)
   (first | cases eo12 | (injection eo12 with ea_ en_ ec_; (first | subst ea_ | (injection ea_ with ea_; subst ea_)); subst ec_; clear en_))
   have GB12 := Aside0.mk gb12
   have GG12 := Aside0.mk HG12
   clear gb12 gl12 HG12
   obtain ⟨hx12_0, hf12_0⟩ := Kd.R_celln 0 HO_4.out (x6_1 : Int) p12 q12
   replace p12 := eq_true p12
   replace q12 := eq_true q12
   have HP15 := Kd.R_putg HO_4.out (x6_1 : Int) (-1)
   go_upto_if 27 with (first | ((with_reducible refine gate_store (t := 3) (p := 22) rfl ?_); refine store_event (t := 3) (p := 22) (v := ?vo_w16) (w1 := (wr.setCell ⟨go12, (x6_1 : Int).toNat, none⟩ (.int .i64 (-1)))) ?hg ?ho ?hn ?hr ?_; (case ho => rfl); (case hg => rfl); (case hn => rfl); (case hr => first | (go_simp; done) | (go_simp; rfl)); intro w16 hw; have hg : wr.grownBy w16 (some go12) := (by rw [hw]; exact HP15.2); have hp_ : Kd.R (Kd.int .i64) 3 w16 w.heap.size (fun k_ => some k_ ≠ (u5 : Value).ownBlock) (.slice (some ⟨go12, 0, none⟩) x4_1.length co12) y178 := (by rw [hw, Ny178.out]; exact HP15.1); clear HP15; have n0_ := Aside0.mk (hp_); have n1_ := Aside0.mk (Kd.R_after (v := (.slice (some ⟨go12, 0, none⟩) x4_1.length co12)) (v1 := (.slice (some ⟨go12, 0, none⟩) x4_1.length co12)) (ok := (fun _ => True)) (by (with_reducible repeat (first | apply Kd.R_alloc | apply Kd.R_drewN | apply Kd.R_drew)); exact Kd.R_mono HO_5.out (fun _ hk => ⟨trivial, hk⟩)) hg (.inl rfl)); have n2_ := Aside0.mk ((by rw [hw]; exact below_set (HB.out) GB12.out : Below w.heap.size w w16)); clear HO_4; clear HO_5; clear HB; have HO_4 := n0_; have HO_5 := n1_; have HB := n2_; clear n0_ n1_ n2_; clear hg hw hp_; have p179 : 0 ≤ (x6_1 : Int) := of_decide_eq_true as_; have q179 : x6_1 < (l0.length : Int) := of_decide_eq_true as_; obtain ⟨ad179, e179, hx179_0, hx179_1, hx179_2⟩ := at_T37 HR0.out x6_1 p179 q179; cases e179; replace hx179_0 := (HB.out.cell (World.block_lt_of_cell? w _ hx179_0)).trans hx179_0; replace hx179_1 := (HB.out.cell (World.block_lt_of_cell? w _ hx179_1)).trans hx179_1; replace hx179_2 := (HB.out.cell (World.block_lt_of_cell? w _ hx179_2)).trans hx179_2; replace p179 := eq_true p179; replace q179 := eq_true q179) | ((with_reducible refine gate_callee (f := 33) rfl ?_); refine goesL_ (some 27) rfl rfl Try.func33 (by kernel_rfl) rfl #[.agg #[.int .i64 ((rd_T37 l0 x6_1).f0), .int .i64 ((rd_T37 l0 x6_1).f1), .int .i64 ((rd_T37 l0 x6_1).f2)]] rfl am_ ?_; (with_reducible refine (camshaftref06_opens.calls ((rd_T37 l0 x6_1).f0) ((rd_T37 l0 x6_1).f1) ((rd_T37 l0 x6_1).f2) t180 _ A13.out).mono ?_); rintro e w17 ⟨rfl, hb⟩; refine ⟨_, rfl, ?_⟩; have n0_ := Aside0.mk (Kd.R_below (by (with_reducible repeat (first | apply Kd.R_alloc | apply Kd.R_drewN | apply Kd.R_drew)); exact HO_4.out) hb); have n1_ := Aside0.mk (Kd.R_below (by (with_reducible repeat (first | apply Kd.R_alloc | apply Kd.R_drewN | apply Kd.R_drew)); exact HO_5.out) hb); have n2_ := Aside0.mk (below_step ab_ hb); clear HO_4; clear HO_5; clear HB; have HO_4 := n0_; have HO_5 := n1_; have HB := n2_; clear n0_ n1_ n2_; (try clear hb); (try clear hb2); (try clear hk); (try clear hi)))
   (try simp only [Act.put, setIfInBounds_toArray,set_cons_zero,set_cons_succ])
   go_cut [5] (fun v5 wc => ∃ (kq : Nat) (x5_13 : List Int), Aside0 (camshaftref06_Match.j1 kq l0 y178 x5_13 x6_1 = some (r1, r2)) ∧ Aside0 (kq ≤ k1) ∧ Aside0 (Kd.R (Kd.int .i64) 3 wc w.heap.size (fun k_ => some k_ ≠ (v5 : Value).ownBlock) (.slice (some ⟨go12, 0, none⟩) x4_1.length co12) y178) ∧ Aside0 (Kd.R (Kd.int .i64) 3 wc w.heap.size (fun k_ => some k_ ≠ ((.slice (some ⟨go12, 0, none⟩) x4_1.length co12) : Value).ownBlock) v5 x5_13) ∧ Aside0 (Below w.heap.size w wc))
   case first =>
    have H := HC14.out
    clear HC14
    by_cases c18 : t180 = true
    rotate_left
    ·replace c18 := Bool.eq_false_iff.mpr c18
     subst c18
     have H1 : (camshaftref06_Match.j1 k1 l0 y178 x5_1 x6_1) = some (r1, r2) := by rw [if_neg (show ¬ (false = true) by decide)] at H; exact H
     clear H
     have H := H1
     clear H1
     have H' := Aside0.mk H
     clear H
     go_wp2
     go_meet
     case rel => exact ⟨_, (x5_1), H', ⟨by have := HK1.out; first | omega | exact Nat.le_refl _⟩, ⟨by (with_reducible repeat (first | apply Kd.R_alloc | apply Kd.R_drewN | apply Kd.R_drew)); exact HO_4.out⟩, ⟨by (with_reducible repeat (first | apply Kd.R_alloc | apply Kd.R_drewN | apply Kd.R_drew)); exact Kd.R_mono HO_5.out (fun _ hk => hk.2)⟩, ⟨by repeat (first | (with_reducible first | exact HB.out | apply below_alloc | apply pw_below_drewN | apply below_drew1) | exact HB.out | exact Below.refl _ _)⟩⟩
    subst c18
    have H1 : (if x5_1.length < 17592186044416 then (camshaftref06_Match.j1 k1 l0 y178 (x5_1 ++ [x6_1]) x6_1) else (none)) = some (r1, r2) := by rw [if_pos rfl] at H; exact H
    clear H
    have H := H1
    clear H1
    by_cases c19 : x5_1.length < 17592186044416
    rotate_left
    ·rw [if_neg c19] at H
     exact absurd H (by simp)
    rw [if_pos c19] at H
    have LMc19 := Aside0.mk c19
    clear c19
    obtain ⟨y181, hy181⟩ : ∃ y_ : List Int, y_ = (x5_1 ++ [x6_1]) := ⟨_, rfl⟩
    replace H : (camshaftref06_Match.j1 k1 l0 y178 y181 x6_1) = some (r1, r2) := by first | (rw [hy181]; with_reducible exact H) | (have H2_ := (Option.bind_some _ _).symm.trans H; rw [hy181]; with_reducible exact H2_) | (have H2_ := (Option.bind_some _ _).symm.trans H; with_reducible exact H2_) | with_reducible exact H | (rw [hy181]; exact H) | exact H
    have Ny181 := Aside0.mk hy181
    clear hy181
    have H' := Aside0.mk H
    clear H
    go_wp2_with (first | ((with_reducible refine gate_builtin (b := .append) (xs := #[.tmp 28, .tmp 30]) rfl ?_); at_builtin; refine Kd.R_append (Kd.int .i64) (w0 := w) w.heap.size rfl (.tmp 28) (.tmp 30) 32 3 (.int .i64 0) 8 rfl Try.underlying32 info3 rfl (by decide) (by omega) u5 x5_1 x6_1 [.int .i64 x6_1] (fun k_ => some k_ ≠ (.slice (some ⟨go12, 0, none⟩) x4_1.length co12 : Value).ownBlock) (fun _ => False) rfl rfl ?aP (fun _ hk => hk.elim) ?aF ?aO ?aB ?aS ?aL ?_; (case aP => exact rfl); (case aB => exact ab_); (case aF => exact (fun k_ hk => Kd.fresh' (Kd.R_lt (by (with_reducible repeat (first | apply Kd.R_alloc | apply Kd.R_drewN | apply Kd.R_drew)); exact HO_4.out)) k_ hk)); (case aO => exact (by (with_reducible repeat (first | apply Kd.R_alloc | apply Kd.R_drewN | apply Kd.R_drew)); exact Kd.R_mono HO_5.out (fun _ hk => hk.2))); (case aS => exact (below_size ab_)); (case aL => have := LMc19.out; omega); intro v182 w20 ho hb hg hat; rw [← Ny181.out] at ho; have n0_ := Aside0.mk (Kd.R_after (ok := (fun _ => True)) (by (with_reducible repeat (first | apply Kd.R_alloc | apply Kd.R_drewN | apply Kd.R_drew)); exact Kd.R_mono HO_4.out (fun _ hk => ⟨trivial, hk⟩)) hg hat); have n1_ := Aside0.mk (hb); have n2_ := Aside0.mk (ho); clear HO_4; clear HB; clear HO_5; have HO_4 := n0_; have HB := n1_; have HO183 := n2_; clear n0_ n1_ n2_; clear ho hb hg hat))
    go_meet
    case rel => exact ⟨_, (y181), H', ⟨by have := HK1.out; first | omega | exact Nat.le_refl _⟩, ⟨by (with_reducible repeat (first | apply Kd.R_alloc | apply Kd.R_drewN | apply Kd.R_drew)); exact Kd.R_mono HO_4.out (fun _ hk => hk.2)⟩, ⟨by (with_reducible repeat (first | apply Kd.R_alloc | apply Kd.R_drewN | apply Kd.R_drew)); exact HO183.out⟩, ⟨by repeat (first | (with_reducible first | exact HB.out | apply below_alloc | apply pw_below_drewN | apply below_drew1) | exact HB.out | exact Below.refl _ _)⟩⟩
   case rest =>
    clear HC14
    try clear c1
    try clear p1
    try clear q1
    try clear hx1
    try clear hf1
    try clear c2
    try clear p2
    try clear c3
    try clear c4
    try clear c4b0
    try clear c4b1
    try clear c5
    try clear c5b0
    try clear c5b1
    try clear c9
    try clear c9b0
    try clear c10
    try clear c10b0
    try clear c11
    try clear c11b0
    try clear p12
    try clear q12
    try clear hx12
    try clear hf12
    try clear p17
    try clear q17
    try clear hx17
    try clear c18
    try clear c19
    try clear hx12_0
    try clear hx179_0
    try clear hx179_1
    try clear hx179_2
    try clear p12
    try clear p179
    try clear p2
    try clear q12
    try clear q179
    obtain ⟨kq, x5_13, HA, HJ13, HO_4, HO_5, HB⟩ := hcut
    have hl4_13 := (Kd.R_reads' HO_4.out).1
    rw [hl4_13] at HO_4
    (try simp only [hl4_13])
    (try simp only [hl4_13] at HO_5)
    cases kq with
    | zero => exact absurd HA.out (by simp [camshaftref06_Match.j1])
    | succ kj13 =>
     have H := HA.out
     clear HA
     simp only [camshaftref06_Match.j1] at H
     by_cases c21 : 0 ≤ x6_1
     rotate_left
     ·rw [if_neg c21] at H
      exact absurd H (by simp)
     rw [if_pos c21] at H
     have c21b0 : decide (0 ≤ x6_1) = true := decide_eq_true c21
     clear c21
     by_cases c22 : x6_1 < (l0.length : Int)
     rotate_left
     ·rw [if_neg c22] at H
      exact absurd H (by simp)
     rw [if_pos c22] at H
     have c22b0 : decide (x6_1 < (l0.length : Int)) = true := decide_eq_true c22
     clear c22
     replace H := Option.bind_eq_some_iff.mp H
     obtain ⟨t185, A230, H⟩ := H
     replace H : (if t185 = true then (if (x5_13.length : Int) = 0 then (some (([] : List Int), 7)) else (if 0 ≤ (wrap64 ((x5_13.length : Int) - 1)) then (if (wrap64 ((x5_13.length : Int) - 1)) < (x5_13.length : Int) then (if 0 ≤ (rd x5_13 (wrap64 ((x5_13.length : Int) - 1))) then (if (rd x5_13 (wrap64 ((x5_13.length : Int) - 1))) < (l0.length : Int) then ((camshaftref06_closes.f ((rd_T37 l0 (rd x5_13 (wrap64 ((x5_13.length : Int) - 1)))).f0) ((rd_T37 l0 (rd x5_13 (wrap64 ((x5_13.length : Int) - 1)))).f1) ((rd_T37 l0 (rd x5_13 (wrap64 ((x5_13.length : Int) - 1)))).f2) ((rd_T37 l0 x6_1).f0) ((rd_T37 l0 x6_1).f1) ((rd_T37 l0 x6_1).f2)).bind fun t189 => (if t189 = true then (if x6_1 < (y178.length : Int) then (if (rd x5_13 (wrap64 ((x5_13.length : Int) - 1))) < (y178.length : Int) then (if (wrap64 ((x5_13.length : Int) - 1)) ≤ (x5_13.length : Int) then (camshaftref06_Match.l0 kj13 l0 ((y178.set (x6_1 : Int).toNat (rd x5_13 (wrap64 ((x5_13.length : Int) - 1)))).set ((rd x5_13 (wrap64 ((x5_13.length : Int) - 1))) : Int).toNat x6_1) (x5_13.take ((wrap64 ((x5_13.length : Int) - 1)) : Int).toNat) (wrap64 (x6_1 + 1))) else (none)) else (none)) else (none)) else (some (([] : List Int), 7)))) else (none)) else (none)) else (none)) else (none))) else (camshaftref06_Match.l0 kj13 l0 y178 x5_13 (wrap64 (x6_1 + 1)))) = some (r1, r2) := H
     have A23 := Aside0.mk A230
     clear A230
     by_cases c24 : t185 = true
     rotate_left
     ·replace c24 := Bool.eq_false_iff.mpr c24
      subst c24
      have H1 : (camshaftref06_Match.l0 kj13 l0 y178 x5_13 (wrap64 (x6_1 + 1))) = some (r1, r2) := by rw [if_neg (show ¬ (false = true) by decide)] at H; exact H
      clear H
      have H := H1
      clear H1
      have H' := Aside0.mk H
      clear H
      have p184 : 0 ≤ (x6_1 : Int) := of_decide_eq_true as_
      have q184 : x6_1 < (l0.length : Int) := of_decide_eq_true as_
      obtain ⟨ad184, e184, hx184_0, hx184_1, hx184_2⟩ := at_T37 HR0.out x6_1 p184 q184
      obtain rfl : ad179 = ad184 := (by injection e184)
      replace hx184_0 := (HB.out.cell (World.block_lt_of_cell? w _ hx184_0)).trans hx184_0
      replace hx184_1 := (HB.out.cell (World.block_lt_of_cell? w _ hx184_1)).trans hx184_1
      replace hx184_2 := (HB.out.cell (World.block_lt_of_cell? w _ hx184_2)).trans hx184_2
      replace p184 := eq_true p184
      replace q184 := eq_true q184
      go_wp2_with (first | ((with_reducible refine gate_callee (f := 34) rfl ?_); refine goesL_ (some 36) rfl rfl Try.func34 (by kernel_rfl) rfl #[.agg #[.int .i64 ((rd_T37 l0 x6_1).f0), .int .i64 ((rd_T37 l0 x6_1).f1), .int .i64 ((rd_T37 l0 x6_1).f2)]] rfl am_ ?_; (with_reducible refine (camshaftref06_closer.calls ((rd_T37 l0 x6_1).f0) ((rd_T37 l0 x6_1).f1) ((rd_T37 l0 x6_1).f2) false _ A23.out).mono ?_); rintro e w54 ⟨rfl, hb⟩; refine ⟨_, rfl, ?_⟩; have n0_ := Aside0.mk (Kd.R_below (by (with_reducible repeat (first | apply Kd.R_alloc | apply Kd.R_drewN | apply Kd.R_drew)); exact HO_4.out) hb); have n1_ := Aside0.mk (Kd.R_below (by (with_reducible repeat (first | apply Kd.R_alloc | apply Kd.R_drewN | apply Kd.R_drew)); exact HO_5.out) hb); have n2_ := Aside0.mk (below_step ab_ hb); clear HO_4; clear HO_5; clear HB; have HO_4 := n0_; have HO_5 := n1_; have HB := n2_; clear n0_ n1_ n2_; (try clear hb); (try clear hb2); (try clear hk); (try clear hi)))
      (try simp only [← hl4_13])
      go_roundg kj13
      case measure => have := HK1.out; have := HJ13.out; omega
      case rel => exact ⟨(y178), (x5_13), (wrap64 (x6_1 + 1)), (by first | rfl | (simp; done) | (simp [*]; done)), H', ⟨by have := HK1.out; have := HJ13.out; omega⟩, ⟨by (try simp only [hl4_13]); (with_reducible repeat (first | apply Kd.R_alloc | apply Kd.R_drewN | apply Kd.R_drew)); exact HO_4.out⟩, ⟨by (try simp only [hl4_13]); (with_reducible repeat (first | apply Kd.R_alloc | apply Kd.R_drewN | apply Kd.R_drew)); exact HO_5.out⟩, ⟨by repeat (first | (with_reducible first | exact HB.out | apply below_alloc | apply pw_below_drewN | apply below_drew1) | exact HB.out | exact Below.refl _ _)⟩⟩
     subst c24
     have H1 : (if (x5_13.length : Int) = 0 then (some (([] : List Int), 7)) else (if 0 ≤ (wrap64 ((x5_13.length : Int) - 1)) then (if (wrap64 ((x5_13.length : Int) - 1)) < (x5_13.length : Int) then (if 0 ≤ (rd x5_13 (wrap64 ((x5_13.length : Int) - 1))) then (if (rd x5_13 (wrap64 ((x5_13.length : Int) - 1))) < (l0.length : Int) then ((camshaftref06_closes.f ((rd_T37 l0 (rd x5_13 (wrap64 ((x5_13.length : Int) - 1)))).f0) ((rd_T37 l0 (rd x5_13 (wrap64 ((x5_13.length : Int) - 1)))).f1) ((rd_T37 l0 (rd x5_13 (wrap64 ((x5_13.length : Int) - 1)))).f2) ((rd_T37 l0 x6_1).f0) ((rd_T37 l0 x6_1).f1) ((rd_T37 l0 x6_1).f2)).bind fun t189 => (if t189 = true then (if x6_1 < (y178.length : Int) then (if (rd x5_13 (wrap64 ((x5_13.length : Int) - 1))) < (y178.length : Int) then (if (wrap64 ((x5_13.length : Int) - 1)) ≤ (x5_13.length : Int) then (camshaftref06_Match.l0 kj13 l0 ((y178.set (x6_1 : Int).toNat (rd x5_13 (wrap64 ((x5_13.length : Int) - 1)))).set ((rd x5_13 (wrap64 ((x5_13.length : Int) - 1))) : Int).toNat x6_1) (x5_13.take ((wrap64 ((x5_13.length : Int) - 1)) : Int).toNat) (wrap64 (x6_1 + 1))) else (none)) else (none)) else (none)) else (some (([] : List Int), 7)))) else (none)) else (none)) else (none)) else (none))) = some (r1, r2) := by rw [if_pos rfl] at H; exact H
     clear H
     have H := H1
     clear H1
     by_cases c25 : (x5_13.length : Int) = 0
     ·rw [if_pos c25] at H
      have c25b0 : ((x5_13.length : Int) == 0) = true := beq_iff_eq.mpr c25
      have c25b1 : ((x5_13.length : Int) != 0) = false := bne_eq_false_iff_eq.mpr c25
      clear c25
      simp only [Option.some.injEq, Prod.mk.injEq] at H
      obtain ⟨rfl, rfl⟩ := H
      have p184 : 0 ≤ (x6_1 : Int) := of_decide_eq_true as_
      have q184 : x6_1 < (l0.length : Int) := of_decide_eq_true as_
      obtain ⟨ad184, e184, hx184_0, hx184_1, hx184_2⟩ := at_T37 HR0.out x6_1 p184 q184
      obtain rfl : ad179 = ad184 := (by injection e184)
      replace hx184_0 := (HB.out.cell (World.block_lt_of_cell? w _ hx184_0)).trans hx184_0
      replace hx184_1 := (HB.out.cell (World.block_lt_of_cell? w _ hx184_1)).trans hx184_1
      replace hx184_2 := (HB.out.cell (World.block_lt_of_cell? w _ hx184_2)).trans hx184_2
      replace p184 := eq_true p184
      replace q184 := eq_true q184
      try go_wp2_with (first | ((with_reducible refine gate_callee (f := 34) rfl ?_); refine goesL_ (some 36) rfl rfl Try.func34 (by kernel_rfl) rfl #[.agg #[.int .i64 ((rd_T37 l0 x6_1).f0), .int .i64 ((rd_T37 l0 x6_1).f1), .int .i64 ((rd_T37 l0 x6_1).f2)]] rfl am_ ?_; (with_reducible refine (camshaftref06_closer.calls ((rd_T37 l0 x6_1).f0) ((rd_T37 l0 x6_1).f1) ((rd_T37 l0 x6_1).f2) true _ A23.out).mono ?_); rintro e w26 ⟨rfl, hb⟩; refine ⟨_, rfl, ?_⟩; have n0_ := Aside0.mk (Kd.R_below (by (with_reducible repeat (first | apply Kd.R_alloc | apply Kd.R_drewN | apply Kd.R_drew)); exact HO_4.out) hb); have n1_ := Aside0.mk (Kd.R_below (by (with_reducible repeat (first | apply Kd.R_alloc | apply Kd.R_drewN | apply Kd.R_drew)); exact HO_5.out) hb); have n2_ := Aside0.mk (below_step ab_ hb); clear HO_4; clear HO_5; clear HB; have HO_4 := n0_; have HO_5 := n1_; have HB := n2_; clear n0_ n1_ n2_; (try clear hb); (try clear hb2); (try clear hk); (try clear hi); obtain ⟨Ao27, co27, eo27⟩ := Kd.R_slice HO_5.out; subst eo27))
      have n0_ := Aside0.mk (Kd.R_drew HO_4.out)
      have n1_ := Aside0.mk (Kd.R_drew HO_5.out)
      have n2_ := Aside0.mk (below_drew1 HB.out)
      clear HO_4
      clear HO_5
      clear HB
      have HO_4 := n0_
      have HO_5 := n1_
      have HB := n2_
      clear n0_ n1_ n2_
      refine start_ (n := 18) (S := fun w' => True) (ds := []) #[Z,Z,Z,Z,Z,Z,Z,Z,Z,Z,Z,Z,Z,Z,Z,Z,Z,Z] (by kernel_rfl) rfl rfl trivial (fun hHeld => ?_); refine with_tabW camshaftref06_Match.tab13 camshaftref06_Match.bits13 (fun HT_ HW_ => ?_)
      generalize w26.drew = w28 at HO_4 HO_5 HB hHeld ⊢
      refine pure_ (i := 0) (N := some 39) (v := ?_) (a' := ?_) #[Y,Z,Z,Z,Z,Z,Z,Z,Z,Z,Z,Z,Z,Z,Z,Z,Z,Z] rfl rfl (any_of HT_.out (by kernel_rfl)) (fun _ _ _ h => h) (Or.inl ⟨by rfl, ?_⟩) ?_ ?_
      rotate_left
      ·intro w'
       go_simp
       with_reducible rfl
      rotate_left
      ·exact ac_
      refine pure_ (i := 1) (N := some 40) (v := ?_) (a' := ?_) #[Y,Y,Z,Z,Z,Z,Z,Z,Z,Z,Z,Z,Z,Z,Z,Z,Z,Z] rfl rfl (any_of HT_.out (by kernel_rfl)) (fun _ _ _ h => h) (Or.inl ⟨by rfl, ?_⟩) ?_ ?_
      rotate_left
      ·intro w'
       go_simp
       with_reducible rfl
      rotate_left
      ·exact ac_
      refine pure_ (i := 2) (N := some 41) (v := ?_) (a' := ?_) #[Y,Y,Y,Z,Z,Z,Z,Z,Z,Z,Z,Z,Z,Z,Z,Z,Z,Z] rfl rfl (any_of HT_.out (by kernel_rfl)) (fun _ _ _ h => h) (Or.inl ⟨by rfl, ?_⟩) ?_ ?_
      rotate_left
      ·intro w'
       go_simp
       with_reducible rfl
      rotate_left
      ·exact ac_
      refine pure_ (i := 3) (N := some 42) (v := undef) (a' := ?_) #[Y,Y,Y,Y,Z,Z,Z,Z,Z,Z,Z,Z,Z,Z,Z,Z,Z,Z] rfl rfl (any_of HT_.out (by kernel_rfl)) (fun _ _ _ h => h) (Or.inr ⟨by rfl, rfl⟩) ?_ ?_
      rotate_left
      ·exact ac_
      refine pure_ (i := 4) (N := some 43) (v := undef) (a' := ?_) #[Y,Y,Y,Y,Y,Z,Z,Z,Z,Z,Z,Z,Z,Z,Z,Z,Z,Z] rfl rfl (any_of HT_.out (by kernel_rfl)) (fun _ _ _ h => h) (Or.inr ⟨by rfl, rfl⟩) ?_ ?_
      rotate_left
      ·exact ac_
      refine pure_ (i := 5) (N := some 44) (v := undef) (a' := ?_) #[Y,Y,Y,Y,Y,Y,Z,Z,Z,Z,Z,Z,Z,Z,Z,Z,Z,Z] rfl rfl (any_of HT_.out (by kernel_rfl)) (fun _ _ _ h => h) (Or.inr ⟨by rfl, rfl⟩) ?_ ?_
      rotate_left
      ·exact ac_
      refine pure_ (i := 6) (N := some 45) (v := undef) (a' := ?_) #[Y,Y,Y,Y,Y,Y,Y,Z,Z,Z,Z,Z,Z,Z,Z,Z,Z,Z] rfl rfl (any_of HT_.out (by kernel_rfl)) (fun _ _ _ h => h) (Or.inr ⟨by rfl, rfl⟩) ?_ ?_
      rotate_left
      ·exact ac_
      refine pure_ (i := 7) (N := some 46) (v := undef) (a' := ?_) #[Y,Y,Y,Y,Y,Y,Y,Y,Z,Z,Z,Z,Z,Z,Z,Z,Z,Z] rfl rfl (any_of HT_.out (by kernel_rfl)) (fun _ _ _ h => h) (Or.inr ⟨by rfl, rfl⟩) ?_ ?_
      rotate_left
      ·exact ac_
      refine pure_ (i := 8) (N := some 47) (v := undef) (a' := ?_) #[Y,Y,Y,Y,Y,Y,Y,Y,Y,Z,Z,Z,Z,Z,Z,Z,Z,Z] rfl rfl (any_of HT_.out (by kernel_rfl)) (fun _ _ _ h => h) (Or.inr ⟨by rfl, rfl⟩) ?_ ?_
      rotate_left
      ·exact ac_
      refine pure_ (i := 9) (N := some 48) (v := undef) (a' := ?_) #[Y,Y,Y,Y,Y,Y,Y,Y,Y,Y,Z,Z,Z,Z,Z,Z,Z,Z] rfl rfl (any_of HT_.out (by kernel_rfl)) (fun _ _ _ h => h) (Or.inr ⟨by rfl, rfl⟩) ?_ ?_
      rotate_left
      ·exact ac_
      refine pure_ (i := 10) (N := some 49) (v := undef) (a' := ?_) #[Y,Y,Y,Y,Y,Y,Y,Y,Y,Y,Y,Z,Z,Z,Z,Z,Z,Z] rfl rfl (any_of HT_.out (by kernel_rfl)) (fun _ _ _ h => h) (Or.inr ⟨by rfl, rfl⟩) ?_ ?_
      rotate_left
      ·exact ac_
      refine pure_ (i := 11) (N := some 50) (v := undef) (a' := ?_) #[Y,Y,Y,Y,Y,Y,Y,Y,Y,Y,Y,Y,Z,Z,Z,Z,Z,Z] rfl rfl (any_of HT_.out (by kernel_rfl)) (fun _ _ _ h => h) (Or.inr ⟨by rfl, rfl⟩) ?_ ?_
      rotate_left
      ·exact ac_
      refine pure_ (i := 12) (N := some 51) (v := undef) (a' := ?_) #[Y,Y,Y,Y,Y,Y,Y,Y,Y,Y,Y,Y,Y,Z,Z,Z,Z,Z] rfl rfl (any_of HT_.out (by kernel_rfl)) (fun _ _ _ h => h) (Or.inr ⟨by rfl, rfl⟩) ?_ ?_
      rotate_left
      ·exact ac_
      refine pure_ (i := 13) (N := some 52) (v := undef) (a' := ?_) #[Y,Y,Y,Y,Y,Y,Y,Y,Y,Y,Y,Y,Y,Y,Z,Z,Z,Z] rfl rfl (any_of HT_.out (by kernel_rfl)) (fun _ _ _ h => h) (Or.inr ⟨by rfl, rfl⟩) ?_ ?_
      rotate_left
      ·exact ac_
      refine pure_ (i := 14) (N := some 53) (v := undef) (a' := ?_) #[Y,Y,Y,Y,Y,Y,Y,Y,Y,Y,Y,Y,Y,Y,Y,Z,Z,Z] rfl rfl (any_of HT_.out (by kernel_rfl)) (fun _ _ _ h => h) (Or.inr ⟨by rfl, rfl⟩) ?_ ?_
      rotate_left
      ·exact ac_
      refine pure_ (i := 15) (N := some 54) (v := undef) (a' := ?_) #[Y,Y,Y,Y,Y,Y,Y,Y,Y,Y,Y,Y,Y,Y,Y,Y,Z,Z] rfl rfl (any_of HT_.out (by kernel_rfl)) (fun _ _ _ h => h) (Or.inr ⟨by rfl, rfl⟩) ?_ ?_
      rotate_left
      ·exact ac_
      refine pure_ (i := 16) (N := some 55) (v := undef) (a' := ?_) #[Y,Y,Y,Y,Y,Y,Y,Y,Y,Y,Y,Y,Y,Y,Y,Y,Y,Z] rfl rfl (any_of HT_.out (by kernel_rfl)) (fun _ _ _ h => h) (Or.inr ⟨by rfl, rfl⟩) ?_ ?_
      rotate_left
      ·exact ac_
      refine pure_ (i := 17) (N := some 56) (v := ?_) (a' := ?_) #[Y,Y,Y,Y,Y,Y,Y,Y,Y,Y,Y,Y,Y,Y,Y,Y,Y,Y] rfl rfl (any_of HT_.out (by kernel_rfl)) (fun _ _ _ h => h) (Or.inl ⟨by rfl, ?_⟩) ?_ ?_
      rotate_left
      ·intro w'
       go_simp
       with_reducible rfl
      rotate_left
      ·exact ac_
      refine done_ (done_of HT_.out (by kernel_rfl)) ?_
      try go_wp2
      go_ret2
      exact ⟨_, by first | rfl | (simp [errW_none, errW_some] <;> rfl) | (simp [*, errW_none, errW_some] <;> rfl), by first | exact Kd.R_nil _ _ _ _ _ | exact Kd.N_nil _ _ _ _ _ | exact Kd.V_nil _ _ _ _ _ | exact Kd.Q_nil _ _ _ _ _ | exact Kd.S_nil _ _ _ _ _, by repeat (first | (with_reducible first | exact HB.out | apply below_alloc | apply pw_below_drewN | apply below_drew1) | exact HB.out | exact Below.refl _ _)⟩
     rw [if_neg c25] at H
     have c25b0 : ((x5_13.length : Int) == 0) = false := beq_eq_false_iff_ne.mpr c25
     have c25b1 : ((x5_13.length : Int) != 0) = true := bne_iff_ne.mpr c25
     have c25b2 : ¬ (x5_13 = []) := fun h_ => c25 (by rw [h_]; rfl)
     obtain ⟨ji29, hji29⟩ : ∃ j_ : Int, (wrap64 ((x5_13.length : Int) - 1)) = j_ := ⟨_, rfl⟩
     replace H : (if 0 ≤ (ji29) then (if (ji29) < (x5_13.length : Int) then (if 0 ≤ (rd x5_13 (ji29)) then (if (rd x5_13 (ji29)) < (l0.length : Int) then ((camshaftref06_closes.f ((rd_T37 l0 (rd x5_13 (ji29))).f0) ((rd_T37 l0 (rd x5_13 (ji29))).f1) ((rd_T37 l0 (rd x5_13 (ji29))).f2) ((rd_T37 l0 x6_1).f0) ((rd_T37 l0 x6_1).f1) ((rd_T37 l0 x6_1).f2)).bind fun t189 => (if t189 = true then (if x6_1 < (y178.length : Int) then (if (rd x5_13 (ji29)) < (y178.length : Int) then (if (ji29) ≤ (x5_13.length : Int) then (camshaftref06_Match.l0 kj13 l0 ((y178.set (x6_1 : Int).toNat (rd x5_13 (ji29))).set ((rd x5_13 (ji29)) : Int).toNat x6_1) (x5_13.take ((ji29) : Int).toNat) (wrap64 (x6_1 + 1))) else (none)) else (none)) else (none)) else (some (([] : List Int), 7)))) else (none)) else (none)) else (none)) else (none)) = some (r1, r2) := by first | (rw [hji29] at H; exact H) | (simp only [hji29] at H ⊢; exact H)
     (try rw [hji29] at A23)
     have hji29w : (IntKind.i64.wrap ((x5_13.length : Int) - 1)) = ji29 := (i64_w _).trans hji29
     by_cases c30 : 0 ≤ (ji29)
     rotate_left
     ·rw [if_neg c30] at H
      exact absurd H (by simp)
     rw [if_pos c30] at H
     have c30b0 : decide (0 ≤ (ji29)) = true := decide_eq_true c30
     clear c30
     by_cases c31 : (ji29) < (x5_13.length : Int)
     rotate_left
     ·rw [if_neg c31] at H
      exact absurd H (by simp)
     rw [if_pos c31] at H
     have c31b0 : decide ((ji29) < (x5_13.length : Int)) = true := decide_eq_true c31
     clear c31
     by_cases c32 : 0 ≤ (rd x5_13 (ji29))
     rotate_left
     ·rw [if_neg c32] at H
      exact absurd H (by simp)
     rw [if_pos c32] at H
     have c32b0 : decide (0 ≤ (rd x5_13 (ji29))) = true := decide_eq_true c32
     clear c32
     by_cases c33 : (rd x5_13 (ji29)) < (l0.length : Int)
     rotate_left
     ·rw [if_neg c33] at H
      exact absurd H (by simp)
     rw [if_pos c33] at H
     have c33b0 : decide ((rd x5_13 (ji29)) < (l0.length : Int)) = true := decide_eq_true c33
     clear c33
     replace H := Option.bind_eq_some_iff.mp H
     obtain ⟨t189, A340, H⟩ := H
     replace H : (if t189 = true then (if x6_1 < (y178.length : Int) then (if (rd x5_13 (ji29)) < (y178.length : Int) then (if (ji29) ≤ (x5_13.length : Int) then (camshaftref06_Match.l0 kj13 l0 ((y178.set (x6_1 : Int).toNat (rd x5_13 (ji29))).set ((rd x5_13 (ji29)) : Int).toNat x6_1) (x5_13.take ((ji29) : Int).toNat) (wrap64 (x6_1 + 1))) else (none)) else (none)) else (none)) else (some (([] : List Int), 7))) = some (r1, r2) := H
     have A34 := Aside0.mk A340
     clear A340
     by_cases c35 : t189 = true
     rotate_left
     ·replace c35 := Bool.eq_false_iff.mpr c35
      subst c35
      have H1 : (some (([] : List Int), 7)) = some (r1, r2) := by rw [if_neg (show ¬ (false = true) by decide)] at H; exact H
      clear H
      have H := H1
      clear H1
      simp only [Option.some.injEq, Prod.mk.injEq] at H
      obtain ⟨rfl, rfl⟩ := H
      have p184 : 0 ≤ (x6_1 : Int) := of_decide_eq_true as_
      have q184 : x6_1 < (l0.length : Int) := of_decide_eq_true as_
      obtain ⟨ad184, e184, hx184_0, hx184_1, hx184_2⟩ := at_T37 HR0.out x6_1 p184 q184
      obtain rfl : ad179 = ad184 := (by injection e184)
      replace hx184_0 := (HB.out.cell (World.block_lt_of_cell? w _ hx184_0)).trans hx184_0
      replace hx184_1 := (HB.out.cell (World.block_lt_of_cell? w _ hx184_1)).trans hx184_1
      replace hx184_2 := (HB.out.cell (World.block_lt_of_cell? w _ hx184_2)).trans hx184_2
      replace p184 := eq_true p184
      replace q184 := eq_true q184
      try go_wp2_with (first | ((with_reducible refine gate_callee (f := 34) rfl ?_); refine goesL_ (some 36) rfl rfl Try.func34 (by kernel_rfl) rfl #[.agg #[.int .i64 ((rd_T37 l0 x6_1).f0), .int .i64 ((rd_T37 l0 x6_1).f1), .int .i64 ((rd_T37 l0 x6_1).f2)]] rfl am_ ?_; (with_reducible refine (camshaftref06_closer.calls ((rd_T37 l0 x6_1).f0) ((rd_T37 l0 x6_1).f1) ((rd_T37 l0 x6_1).f2) true _ A23.out).mono ?_); rintro e w50 ⟨rfl, hb⟩; refine ⟨_, rfl, ?_⟩; have n0_ := Aside0.mk (Kd.R_below (by (with_reducible repeat (first | apply Kd.R_alloc | apply Kd.R_drewN | apply Kd.R_drew)); exact HO_4.out) hb); have n1_ := Aside0.mk (Kd.R_below (by (with_reducible repeat (first | apply Kd.R_alloc | apply Kd.R_drewN | apply Kd.R_drew)); exact HO_5.out) hb); have n2_ := Aside0.mk (below_step ab_ hb); clear HO_4; clear HO_5; clear HB; have HO_4 := n0_; have HO_5 := n1_; have HB := n2_; clear n0_ n1_ n2_; (try clear hb); (try clear hb2); (try clear hk); (try clear hi); obtain ⟨Ao51, co51, eo51⟩ := Kd.R_slice HO_5.out; subst eo51))
      have n0_ := Aside0.mk (Kd.R_drew HO_4.out)
      have n1_ := Aside0.mk (Kd.R_drew HO_5.out)
      have n2_ := Aside0.mk (below_drew1 HB.out)
      clear HO_4
      clear HO_5
      clear HB
      have HO_4 := n0_
      have HO_5 := n1_
      have HB := n2_
      clear n0_ n1_ n2_
      have p186 : 0 ≤ ((ji29) : Int) := of_decide_eq_true as_
      have q186 : (ji29) < (x5_13.length : Int) := of_decide_eq_true as_
      obtain ⟨ad186, e186, hx186_0⟩ := Kd.at_int (Kd.R_reads' HO_5.out).2.2 (ji29) p186 q186
      cases e186
      replace p186 := eq_true p186
      replace q186 := eq_true q186
      have p187 : 0 ≤ ((rd x5_13 (ji29)) : Int) := of_decide_eq_true as_
      have q187 : (rd x5_13 (ji29)) < (l0.length : Int) := of_decide_eq_true as_
      obtain ⟨ad187, e187, hx187_0, hx187_1, hx187_2⟩ := at_T37 HR0.out (rd x5_13 (ji29)) p187 q187
      have hw187_2 := hx187_2
      have hw187_1 := hx187_1
      have hw187_0 := hx187_0
      obtain rfl : ad179 = ad187 := (by injection e187)
      replace hx187_0 := (HB.out.cell (World.block_lt_of_cell? w _ hx187_0)).trans hx187_0
      replace hx187_1 := (HB.out.cell (World.block_lt_of_cell? w _ hx187_1)).trans hx187_1
      replace hx187_2 := (HB.out.cell (World.block_lt_of_cell? w _ hx187_2)).trans hx187_2
      replace p187 := eq_true p187
      replace q187 := eq_true q187
      have p188 : 0 ≤ (x6_1 : Int) := of_decide_eq_true as_
      have q188 : x6_1 < (l0.length : Int) := of_decide_eq_true as_
      obtain ⟨ad188, e188, hx188_0, hx188_1, hx188_2⟩ := at_T37 HR0.out x6_1 p188 q188
      have hw188_2 := hx188_2
      have hw188_1 := hx188_1
      have hw188_0 := hx188_0
      obtain rfl : ad179 = ad188 := (by injection e188)
      replace hx188_0 := (HB.out.cell (World.block_lt_of_cell? w _ hx188_0)).trans hx188_0
      replace hx188_1 := (HB.out.cell (World.block_lt_of_cell? w _ hx188_1)).trans hx188_1
      replace hx188_2 := (HB.out.cell (World.block_lt_of_cell? w _ hx188_2)).trans hx188_2
      replace p188 := eq_true p188
      replace q188 := eq_true q188
      refine start_ (n := 18) (S := fun w' => w'.cell? (ad186.add ((ji29)).toNat) = some (.int .i64 (rd x5_13 (ji29))) ∧ w'.cell? (ad179.add (((rd x5_13 (ji29))).toNat * 3)) = some (.int .i64 ((rd_T37 l0 (rd x5_13 (ji29))).f0)) ∧ w'.cell? ⟨(ad179.add (((rd x5_13 (ji29))).toNat * 3)).block, (ad179.add (((rd x5_13 (ji29))).toNat * 3)).off + 1, none⟩ = some (.int .i64 ((rd_T37 l0 (rd x5_13 (ji29))).f1)) ∧ w'.cell? ⟨(ad179.add (((rd x5_13 (ji29))).toNat * 3)).block, (ad179.add (((rd x5_13 (ji29))).toNat * 3)).off + 2, none⟩ = some (.int .i64 ((rd_T37 l0 (rd x5_13 (ji29))).f2)) ∧ w'.cell? (ad179.add ((x6_1).toNat * 3)) = some (.int .i64 ((rd_T37 l0 x6_1).f0)) ∧ w'.cell? ⟨(ad179.add ((x6_1).toNat * 3)).block, (ad179.add ((x6_1).toNat * 3)).off + 1, none⟩ = some (.int .i64 ((rd_T37 l0 x6_1).f1)) ∧ w'.cell? ⟨(ad179.add ((x6_1).toNat * 3)).block, (ad179.add ((x6_1).toNat * 3)).off + 2, none⟩ = some (.int .i64 ((rd_T37 l0 x6_1).f2))) (ds := []) #[Z,Z,Z,Z,Z,Z,Z,Z,Z,Z,Z,Z,Z,Z,Z,Z,Z,Z] (by kernel_rfl) rfl rfl ⟨hx186_0, ((HB.out.cell (World.block_lt_of_cell? w _ hw187_0)).trans hw187_0), ((HB.out.cell (World.block_lt_of_cell? w _ hw187_1)).trans hw187_1), ((HB.out.cell (World.block_lt_of_cell? w _ hw187_2)).trans hw187_2), ((HB.out.cell (World.block_lt_of_cell? w _ hw188_0)).trans hw188_0), ((HB.out.cell (World.block_lt_of_cell? w _ hw188_1)).trans hw188_1), ((HB.out.cell (World.block_lt_of_cell? w _ hw188_2)).trans hw188_2)⟩ (fun hHeld => ?_); refine with_tabW camshaftref06_Match.tab13 camshaftref06_Match.bits13 (fun HT_ HW_ => ?_)
      generalize w50.drew = w52 at HO_4 HO_5 HB hx186_0 hx187_0 hx187_1 hx187_2 hx188_0 hx188_1 hx188_2 hHeld ⊢
      refine pure_ (i := 0) (N := some 39) (v := ?_) (a' := ?_) #[Y,Z,Z,Z,Z,Z,Z,Z,Z,Z,Z,Z,Z,Z,Z,Z,Z,Z] rfl rfl (any_of HT_.out (by kernel_rfl)) (fun _ _ _ h => h) (Or.inl ⟨by rfl, ?_⟩) ?_ ?_
      rotate_left
      ·intro w'
       go_simp
       with_reducible rfl
      rotate_left
      ·exact ac_
      refine pure_ (i := 1) (N := some 40) (v := ?_) (a' := ?_) #[Y,Y,Z,Z,Z,Z,Z,Z,Z,Z,Z,Z,Z,Z,Z,Z,Z,Z] rfl rfl (any_of HT_.out (by kernel_rfl)) (fun _ _ _ h => h) (Or.inl ⟨by rfl, ?_⟩) ?_ ?_
      rotate_left
      ·intro w'
       go_simp
       with_reducible rfl
      rotate_left
      ·exact ac_
      refine pure_ (i := 2) (N := some 41) (v := ?_) (a' := ?_) #[Y,Y,Y,Z,Z,Z,Z,Z,Z,Z,Z,Z,Z,Z,Z,Z,Z,Z] rfl rfl (any_of HT_.out (by kernel_rfl)) (fun _ _ _ h => h) (Or.inl ⟨by rfl, ?_⟩) ?_ ?_
      rotate_left
      ·intro w'
       go_simp
       with_reducible rfl
      rotate_left
      ·exact ac_
      refine pure_ (i := 3) (N := some 42) (v := ?_) (a' := ?_) #[Y,Y,Y,Y,Z,Z,Z,Z,Z,Z,Z,Z,Z,Z,Z,Z,Z,Z] rfl rfl (any_of HT_.out (by kernel_rfl)) (fun _ _ _ h => h) (Or.inl ⟨by rfl, ?_⟩) ?_ ?_
      rotate_left
      ·intro w'
       go_simp
       with_reducible rfl
      rotate_left
      ·exact ac_
      refine pure_ (i := 4) (N := some 43) (v := ?_) (a' := ?_) #[Y,Y,Y,Y,Y,Z,Z,Z,Z,Z,Z,Z,Z,Z,Z,Z,Z,Z] rfl rfl (any_of HT_.out (by kernel_rfl)) (fun _ _ _ h => h) (Or.inl ⟨by rfl, ?_⟩) ?_ ?_
      rotate_left
      ·intro w'
       go_simp
       with_reducible rfl
      rotate_left
      ·exact ac_
      refine pure_ (i := 5) (N := some 44) (v := ?_) (a' := ?_) #[Y,Y,Y,Y,Y,Y,Z,Z,Z,Z,Z,Z,Z,Z,Z,Z,Z,Z] rfl rfl (any_of HT_.out (by kernel_rfl)) (fun _ _ _ h => h) (Or.inl ⟨by rfl, ?_⟩) ?_ ?_
      rotate_left
      ·intro w'
       go_simp
       with_reducible rfl
      rotate_left
      ·exact ac_
      refine pure_ (i := 6) (N := some 45) (v := ?_) (a' := ?_) #[Y,Y,Y,Y,Y,Y,Y,Z,Z,Z,Z,Z,Z,Z,Z,Z,Z,Z] rfl rfl (any_of HT_.out (by kernel_rfl)) (fun _ _ _ h => h) (Or.inl ⟨by rfl, ?_⟩) ?_ ?_
      rotate_left
      ·intro w'
       go_simp
       with_reducible rfl
      rotate_left
      ·exact ac_
      refine pure_ (i := 7) (N := some 46) (v := ?_) (a' := ?_) #[Y,Y,Y,Y,Y,Y,Y,Y,Z,Z,Z,Z,Z,Z,Z,Z,Z,Z] rfl rfl (any_of HT_.out (by kernel_rfl)) (fun _ _ _ h => h) (Or.inl ⟨by rfl, ?_⟩) ?_ ?_
      rotate_left
      ·intro w'
       go_simp
       with_reducible rfl
      rotate_left
      ·exact ac_
      refine pure_ (i := 11) (N := some 50) (v := ?_) (a' := ?_) #[Y,Y,Y,Y,Y,Y,Y,Y,Z,Z,Z,Y,Z,Z,Z,Z,Z,Z] rfl rfl (any_of HT_.out (by kernel_rfl)) (fun _ _ _ h => h) (Or.inl ⟨by rfl, ?_⟩) ?_ ?_
      rotate_left
      ·intro w'
       go_simp
       with_reducible rfl
      rotate_left
      ·exact ac_
      refine pure_ (i := 12) (N := some 51) (v := ?_) (a' := ?_) #[Y,Y,Y,Y,Y,Y,Y,Y,Z,Z,Z,Y,Y,Z,Z,Z,Z,Z] rfl rfl (any_of HT_.out (by kernel_rfl)) (fun _ _ _ h => h) (Or.inl ⟨by rfl, ?_⟩) ?_ ?_
      rotate_left
      ·intro w'
       go_simp
       with_reducible rfl
      rotate_left
      ·exact ac_
      refine pure_ (i := 13) (N := some 52) (v := ?_) (a' := ?_) #[Y,Y,Y,Y,Y,Y,Y,Y,Z,Z,Z,Y,Y,Y,Z,Z,Z,Z] rfl rfl (any_of HT_.out (by kernel_rfl)) (fun _ _ _ h => h) (Or.inl ⟨by rfl, ?_⟩) ?_ ?_
      rotate_left
      ·intro w'
       go_simp
       with_reducible rfl
      rotate_left
      ·exact ac_
      refine take_ (i := 8) (N := some 47) (v := ?_) (a' := ?_) #[Y,Y,Y,Y,Y,Y,Y,Y,Y,Z,Z,Y,Y,Y,Z,Z,Z,Z] rfl rfl (take_ofW HT_.out HW_.out (by kernel_rfl)) (fun _ _ _ h => h) (Or.inl ⟨by rfl, ?_⟩) hHeld ?_ ?_
      rotate_left
      ·rintro w' ⟨s0, s1, s2, s3, s4, s5, s6⟩
       go_simp
       with_reducible rfl
      rotate_left
      ·exact ac_
      refine pure_ (i := 9) (N := some 48) (v := ?_) (a' := ?_) #[Y,Y,Y,Y,Y,Y,Y,Y,Y,Y,Z,Y,Y,Y,Z,Z,Z,Z] rfl rfl (any_of HT_.out (by kernel_rfl)) (fun _ _ _ h => h) (Or.inl ⟨by rfl, ?_⟩) ?_ ?_
      rotate_left
      ·intro w'
       go_simp
       with_reducible rfl
      rotate_left
      ·exact ac_
      refine take_ (i := 10) (N := some 49) (v := ?_) (a' := ?_) #[Y,Y,Y,Y,Y,Y,Y,Y,Y,Y,Y,Y,Y,Y,Z,Z,Z,Z] rfl rfl (take_ofW HT_.out HW_.out (by kernel_rfl)) (fun _ _ _ h => h) (Or.inl ⟨by rfl, ?_⟩) hHeld ?_ ?_
      rotate_left
      ·rintro w' ⟨s0, s1, s2, s3, s4, s5, s6⟩
       go_simp
       with_reducible rfl
      rotate_left
      ·exact ac_
      refine take_ (i := 14) (N := some 53) (v := ?_) (a' := ?_) #[Y,Y,Y,Y,Y,Y,Y,Y,Y,Y,Y,Y,Y,Y,Y,Z,Z,Z] rfl rfl (take_ofW HT_.out HW_.out (by kernel_rfl)) (fun _ _ _ h => h) (Or.inl ⟨by rfl, ?_⟩) hHeld ?_ ?_
      rotate_left
      ·rintro w' ⟨s0, s1, s2, s3, s4, s5, s6⟩
       go_simp
       with_reducible rfl
      rotate_left
      ·exact ac_
      refine one_ (i := 15) (N := some 54) #[Y,Y,Y,Y,Y,Y,Y,Y,Y,Y,Y,Y,Y,Y,Y,Y,Z,Z] rfl rfl (one_of HT_.out (by kernel_rfl)) (by decide) (fun K hK => ?_)
      refine goes_ Try.func35 (by kernel_rfl) rfl #[.agg #[.int .i64 ((rd_T37 l0 (rd x5_13 (ji29))).f0), .int .i64 ((rd_T37 l0 (rd x5_13 (ji29))).f1), .int .i64 ((rd_T37 l0 (rd x5_13 (ji29))).f2)], .agg #[.int .i64 ((rd_T37 l0 x6_1).f0), .int .i64 ((rd_T37 l0 x6_1).f1), .int .i64 ((rd_T37 l0 x6_1).f2)]] (by rfl) rfl rfl (by (try simp only [List.map_toArray, List.map_cons, List.map_nil]); first | done | (simp only [hji29]; rfl) | rfl | (simp only [List.length_drop, List.length_take]; rfl)) ?_
      with_reducible refine (camshaftref06_closes.calls ((rd_T37 l0 (rd x5_13 (ji29))).f0) ((rd_T37 l0 (rd x5_13 (ji29))).f1) ((rd_T37 l0 (rd x5_13 (ji29))).f2) ((rd_T37 l0 x6_1).f0) ((rd_T37 l0 x6_1).f1) ((rd_T37 l0 x6_1).f2) false _ A34.out).mono ?_
      rintro e w53 ⟨rfl, hb⟩
      have HS0_ := (hb.cell (World.block_lt_of_cell? _ _ (hHeld.1))).trans (hHeld.1)
      refine ⟨_, rfl, ?_⟩
      have n0_ := Aside0.mk (Kd.R_below (by (with_reducible repeat (first | apply Kd.R_alloc | apply Kd.R_drewN | apply Kd.R_drew)); exact HO_4.out) hb)
      have n1_ := Aside0.mk (Kd.R_below (by (with_reducible repeat (first | apply Kd.R_alloc | apply Kd.R_drewN | apply Kd.R_drew)); exact HO_5.out) hb)
      first | (have n2_ := Aside0.mk (below_step (Below.refl w.heap.size w) hb)) | (have n2_ := Aside0.mk (below_step (below_drew (pw_below_drewN (Below.refl w.heap.size w) _)) hb)) | (have n2_ := Aside0.mk (below_step (pw_below_drewN (Below.refl w.heap.size w) _) hb)) | (have n2_ := Aside0.mk (below_step ab_ hb))
      clear HO_4
      clear HO_5
      clear HB
      have HO_4 := n0_
      have HO_5 := n1_
      have HB := n2_
      clear n0_ n1_ n2_
      (try clear hb)
      (try clear hb2)
      (try clear hk)
      (try clear hi)
      refine hK.out _ _ ⟨HS0_, ((HB.out.cell (World.block_lt_of_cell? w _ hw187_0)).trans hw187_0), ((HB.out.cell (World.block_lt_of_cell? w _ hw187_1)).trans hw187_1), ((HB.out.cell (World.block_lt_of_cell? w _ hw187_2)).trans hw187_2), ((HB.out.cell (World.block_lt_of_cell? w _ hw188_0)).trans hw188_0), ((HB.out.cell (World.block_lt_of_cell? w _ hw188_1)).trans hw188_1), ((HB.out.cell (World.block_lt_of_cell? w _ hw188_2)).trans hw188_2)⟩ (fun hHeld => ?_)
      clear hK K
      refine norm_ (a' := ?_) ?_ ?_
      rotate_left
      ·show Act.put _ (some 54) _ = _
       simp only [Act.put, setIfInBounds_toArray,set_cons_zero,set_cons_succ, i64_w, i32_w]
       rfl
      refine pure_ (i := 16) (N := some 55) (v := ?_) (a' := ?_) #[Y,Y,Y,Y,Y,Y,Y,Y,Y,Y,Y,Y,Y,Y,Y,Y,Y,Z] rfl rfl (any_of HT_.out (by kernel_rfl)) (fun _ _ _ h => h) (Or.inl ⟨by rfl, ?_⟩) ?_ ?_
      rotate_left
      ·intro w'
       go_simp
       with_reducible rfl
      rotate_left
      ·exact ac_
      refine pure_ (i := 17) (N := some 56) (v := ?_) (a' := ?_) #[Y,Y,Y,Y,Y,Y,Y,Y,Y,Y,Y,Y,Y,Y,Y,Y,Y,Y] rfl rfl (any_of HT_.out (by kernel_rfl)) (fun _ _ _ h => h) (Or.inl ⟨by rfl, ?_⟩) ?_ ?_
      rotate_left
      ·intro w'
       go_simp
       with_reducible rfl
      rotate_left
      ·exact ac_
      refine done_ (done_of HT_.out (by kernel_rfl)) ?_
      try go_wp2
      go_ret2
      exact ⟨_, by first | rfl | (simp [errW_none, errW_some] <;> rfl) | (simp only [← hji29]; first | rfl | (simp [errW_none, errW_some] <;> rfl)) | (simp [*, errW_none, errW_some] <;> rfl), by first | exact Kd.R_nil _ _ _ _ _ | exact Kd.N_nil _ _ _ _ _ | exact Kd.V_nil _ _ _ _ _ | exact Kd.Q_nil _ _ _ _ _ | exact Kd.S_nil _ _ _ _ _, by repeat (first | (with_reducible first | exact HB.out | apply below_alloc | apply pw_below_drewN | apply below_drew1) | exact HB.out | exact Below.refl _ _)⟩
     subst c35
     have H1 : (if x6_1 < (y178.length : Int) then (if (rd x5_13 (ji29)) < (y178.length : Int) then (if (ji29) ≤ (x5_13.length : Int) then (camshaftref06_Match.l0 kj13 l0 ((y178.set (x6_1 : Int).toNat (rd x5_13 (ji29))).set ((rd x5_13 (ji29)) : Int).toNat x6_1) (x5_13.take ((ji29) : Int).toNat) (wrap64 (x6_1 + 1))) else (none)) else (none)) else (none)) = some (r1, r2) := by rw [if_pos rfl] at H; exact H
     clear H
     have H := H1
     clear H1
     by_cases c36 : x6_1 < (y178.length : Int)
     rotate_left
     ·rw [if_neg c36] at H
      exact absurd H (by simp)
     rw [if_pos c36] at H
     have c36b0 : decide (x6_1 < (y178.length : Int)) = true := decide_eq_true c36
     clear c36
     obtain ⟨y191, hy191⟩ : ∃ y_ : List Int, y_ = (y178.set (x6_1 : Int).toNat (rd x5_13 (ji29))) := ⟨_, rfl⟩
     replace H : (if (rd x5_13 (ji29)) < (y178.length : Int) then (if (ji29) ≤ (x5_13.length : Int) then (camshaftref06_Match.l0 kj13 l0 (y191.set ((rd x5_13 (ji29)) : Int).toNat x6_1) (x5_13.take ((ji29) : Int).toNat) (wrap64 (x6_1 + 1))) else (none)) else (none)) = some (r1, r2) := by first | (rw [hy191]; with_reducible exact H) | (have H2_ := (Option.bind_some _ _).symm.trans H; rw [hy191]; with_reducible exact H2_) | (have H2_ := (Option.bind_some _ _).symm.trans H; with_reducible exact H2_) | with_reducible exact H | (rw [hy191]; exact H) | exact H
     have Ny191 := Aside0.mk hy191
     clear hy191
     by_cases c38 : (rd x5_13 (ji29)) < (y178.length : Int)
     rotate_left
     ·rw [if_neg c38] at H
      exact absurd H (by simp)
     rw [if_pos c38] at H
     have c38b0 : decide ((rd x5_13 (ji29)) < (y178.length : Int)) = true := decide_eq_true c38
     clear c38
     obtain ⟨y193, hy193⟩ : ∃ y_ : List Int, y_ = (y191.set ((rd x5_13 (ji29)) : Int).toNat x6_1) := ⟨_, rfl⟩
     replace H : (if (ji29) ≤ (x5_13.length : Int) then (camshaftref06_Match.l0 kj13 l0 y193 (x5_13.take ((ji29) : Int).toNat) (wrap64 (x6_1 + 1))) else (none)) = some (r1, r2) := by first | (rw [hy193]; with_reducible exact H) | (have H2_ := (Option.bind_some _ _).symm.trans H; rw [hy193]; with_reducible exact H2_) | (have H2_ := (Option.bind_some _ _).symm.trans H; with_reducible exact H2_) | with_reducible exact H | (rw [hy193]; exact H) | exact H
     have Ny193 := Aside0.mk hy193
     clear hy193
     by_cases c40 : (ji29) ≤ (x5_13.length : Int)
     rotate_left
     ·rw [if_neg c40] at H
      exact absurd H (by simp)
     rw [if_pos c40] at H
     have c40b0 := eq_true c40
     have c40b1 : decide ((ji29) ≤ (x5_13.length : Int)) = true := decide_eq_true c40
     clear c40
     obtain ⟨y194, hy194⟩ : ∃ y_ : List Int, y_ = (x5_13.take ((ji29) : Int).toNat) := ⟨_, rfl⟩
     replace H : (camshaftref06_Match.l0 kj13 l0 y193 y194 (wrap64 (x6_1 + 1))) = some (r1, r2) := by first | (rw [hy194]; with_reducible exact H) | (have H2_ := (Option.bind_some _ _).symm.trans H; rw [hy194]; with_reducible exact H2_) | (have H2_ := (Option.bind_some _ _).symm.trans H; with_reducible exact H2_) | with_reducible exact H | (rw [hy194]; exact H) | exact H
     have Ny194 := Aside0.mk hy194
     clear hy194
     have H' := Aside0.mk H
     clear H
     have p184 : 0 ≤ (x6_1 : Int) := of_decide_eq_true as_
     have q184 : x6_1 < (l0.length : Int) := of_decide_eq_true as_
     obtain ⟨ad184, e184, hx184_0, hx184_1, hx184_2⟩ := at_T37 HR0.out x6_1 p184 q184
     obtain rfl : ad179 = ad184 := (by injection e184)
     replace hx184_0 := (HB.out.cell (World.block_lt_of_cell? w _ hx184_0)).trans hx184_0
     replace hx184_1 := (HB.out.cell (World.block_lt_of_cell? w _ hx184_1)).trans hx184_1
     replace hx184_2 := (HB.out.cell (World.block_lt_of_cell? w _ hx184_2)).trans hx184_2
     replace p184 := eq_true p184
     replace q184 := eq_true q184
     try go_wp2_with (first | ((with_reducible refine gate_callee (f := 34) rfl ?_); refine goesL_ (some 36) rfl rfl Try.func34 (by kernel_rfl) rfl #[.agg #[.int .i64 ((rd_T37 l0 x6_1).f0), .int .i64 ((rd_T37 l0 x6_1).f1), .int .i64 ((rd_T37 l0 x6_1).f2)]] rfl am_ ?_; (with_reducible refine (camshaftref06_closer.calls ((rd_T37 l0 x6_1).f0) ((rd_T37 l0 x6_1).f1) ((rd_T37 l0 x6_1).f2) true _ A23.out).mono ?_); rintro e w41 ⟨rfl, hb⟩; refine ⟨_, rfl, ?_⟩; have n0_ := Aside0.mk (Kd.R_below (by (with_reducible repeat (first | apply Kd.R_alloc | apply Kd.R_drewN | apply Kd.R_drew)); exact HO_4.out) hb); have n1_ := Aside0.mk (Kd.R_below (by (with_reducible repeat (first | apply Kd.R_alloc | apply Kd.R_drewN | apply Kd.R_drew)); exact HO_5.out) hb); have n2_ := Aside0.mk (below_step ab_ hb); clear HO_4; clear HO_5; clear HB; have HO_4 := n0_; have HO_5 := n1_; have HB := n2_; clear n0_ n1_ n2_; (try clear hb); (try clear hb2); (try clear hk); (try clear hi); obtain ⟨Ao42, co42, eo42⟩ := Kd.R_slice HO_5.out; subst eo42))
     have n0_ := Aside0.mk (Kd.R_drew HO_4.out)
     have n1_ := Aside0.mk (Kd.R_drew HO_5.out)
     have n2_ := Aside0.mk (below_drew1 HB.out)
     clear HO_4
     clear HO_5
     clear HB
     have HO_4 := n0_
     have HO_5 := n1_
     have HB := n2_
     clear n0_ n1_ n2_
     have p186 : 0 ≤ ((ji29) : Int) := of_decide_eq_true as_
     have q186 : (ji29) < (x5_13.length : Int) := of_decide_eq_true as_
     obtain ⟨ad186, e186, hx186_0⟩ := Kd.at_int (Kd.R_reads' HO_5.out).2.2 (ji29) p186 q186
     cases e186
     replace p186 := eq_true p186
     replace q186 := eq_true q186
     have p187 : 0 ≤ ((rd x5_13 (ji29)) : Int) := of_decide_eq_true as_
     have q187 : (rd x5_13 (ji29)) < (l0.length : Int) := of_decide_eq_true as_
     obtain ⟨ad187, e187, hx187_0, hx187_1, hx187_2⟩ := at_T37 HR0.out (rd x5_13 (ji29)) p187 q187
     have hw187_2 := hx187_2
     have hw187_1 := hx187_1
     have hw187_0 := hx187_0
     obtain rfl : ad179 = ad187 := (by injection e187)
     replace hx187_0 := (HB.out.cell (World.block_lt_of_cell? w _ hx187_0)).trans hx187_0
     replace hx187_1 := (HB.out.cell (World.block_lt_of_cell? w _ hx187_1)).trans hx187_1
     replace hx187_2 := (HB.out.cell (World.block_lt_of_cell? w _ hx187_2)).trans hx187_2
     replace p187 := eq_true p187
     replace q187 := eq_true q187
     have p188 : 0 ≤ (x6_1 : Int) := of_decide_eq_true as_
     have q188 : x6_1 < (l0.length : Int) := of_decide_eq_true as_
     obtain ⟨ad188, e188, hx188_0, hx188_1, hx188_2⟩ := at_T37 HR0.out x6_1 p188 q188
     have hw188_2 := hx188_2
     have hw188_1 := hx188_1
     have hw188_0 := hx188_0
     obtain rfl : ad179 = ad188 := (by injection e188)
     replace hx188_0 := (HB.out.cell (World.block_lt_of_cell? w _ hx188_0)).trans hx188_0
     replace hx188_1 := (HB.out.cell (World.block_lt_of_cell? w _ hx188_1)).trans hx188_1
     replace hx188_2 := (HB.out.cell (World.block_lt_of_cell? w _ hx188_2)).trans hx188_2
     replace p188 := eq_true p188
     replace q188 := eq_true q188
     refine start_ (n := 18) (S := fun w' => w'.cell? (ad186.add ((ji29)).toNat) = some (.int .i64 (rd x5_13 (ji29))) ∧ w'.cell? (ad179.add (((rd x5_13 (ji29))).toNat * 3)) = some (.int .i64 ((rd_T37 l0 (rd x5_13 (ji29))).f0)) ∧ w'.cell? ⟨(ad179.add (((rd x5_13 (ji29))).toNat * 3)).block, (ad179.add (((rd x5_13 (ji29))).toNat * 3)).off + 1, none⟩ = some (.int .i64 ((rd_T37 l0 (rd x5_13 (ji29))).f1)) ∧ w'.cell? ⟨(ad179.add (((rd x5_13 (ji29))).toNat * 3)).block, (ad179.add (((rd x5_13 (ji29))).toNat * 3)).off + 2, none⟩ = some (.int .i64 ((rd_T37 l0 (rd x5_13 (ji29))).f2)) ∧ w'.cell? (ad179.add ((x6_1).toNat * 3)) = some (.int .i64 ((rd_T37 l0 x6_1).f0)) ∧ w'.cell? ⟨(ad179.add ((x6_1).toNat * 3)).block, (ad179.add ((x6_1).toNat * 3)).off + 1, none⟩ = some (.int .i64 ((rd_T37 l0 x6_1).f1)) ∧ w'.cell? ⟨(ad179.add ((x6_1).toNat * 3)).block, (ad179.add ((x6_1).toNat * 3)).off + 2, none⟩ = some (.int .i64 ((rd_T37 l0 x6_1).f2))) (ds := []) #[Z,Z,Z,Z,Z,Z,Z,Z,Z,Z,Z,Z,Z,Z,Z,Z,Z,Z] (by kernel_rfl) rfl rfl ⟨hx186_0, ((HB.out.cell (World.block_lt_of_cell? w _ hw187_0)).trans hw187_0), ((HB.out.cell (World.block_lt_of_cell? w _ hw187_1)).trans hw187_1), ((HB.out.cell (World.block_lt_of_cell? w _ hw187_2)).trans hw187_2), ((HB.out.cell (World.block_lt_of_cell? w _ hw188_0)).trans hw188_0), ((HB.out.cell (World.block_lt_of_cell? w _ hw188_1)).trans hw188_1), ((HB.out.cell (World.block_lt_of_cell? w _ hw188_2)).trans hw188_2)⟩ (fun hHeld => ?_); refine with_tabW camshaftref06_Match.tab13 camshaftref06_Match.bits13 (fun HT_ HW_ => ?_)
     generalize w41.drew = w43 at HO_4 HO_5 HB hx186_0 hx187_0 hx187_1 hx187_2 hx188_0 hx188_1 hx188_2 hHeld ⊢
     refine pure_ (i := 0) (N := some 39) (v := ?_) (a' := ?_) #[Y,Z,Z,Z,Z,Z,Z,Z,Z,Z,Z,Z,Z,Z,Z,Z,Z,Z] rfl rfl (any_of HT_.out (by kernel_rfl)) (fun _ _ _ h => h) (Or.inl ⟨by rfl, ?_⟩) ?_ ?_
     rotate_left
     ·intro w'
      go_simp
      with_reducible rfl
     rotate_left
     ·exact ac_
     refine pure_ (i := 1) (N := some 40) (v := ?_) (a' := ?_) #[Y,Y,Z,Z,Z,Z,Z,Z,Z,Z,Z,Z,Z,Z,Z,Z,Z,Z] rfl rfl (any_of HT_.out (by kernel_rfl)) (fun _ _ _ h => h) (Or.inl ⟨by rfl, ?_⟩) ?_ ?_
     rotate_left
     ·intro w'
      go_simp
      with_reducible rfl
     rotate_left
     ·exact ac_
     refine pure_ (i := 2) (N := some 41) (v := ?_) (a' := ?_) #[Y,Y,Y,Z,Z,Z,Z,Z,Z,Z,Z,Z,Z,Z,Z,Z,Z,Z] rfl rfl (any_of HT_.out (by kernel_rfl)) (fun _ _ _ h => h) (Or.inl ⟨by rfl, ?_⟩) ?_ ?_
     rotate_left
     ·intro w'
      go_simp
      with_reducible rfl
     rotate_left
     ·exact ac_
     refine pure_ (i := 3) (N := some 42) (v := ?_) (a' := ?_) #[Y,Y,Y,Y,Z,Z,Z,Z,Z,Z,Z,Z,Z,Z,Z,Z,Z,Z] rfl rfl (any_of HT_.out (by kernel_rfl)) (fun _ _ _ h => h) (Or.inl ⟨by rfl, ?_⟩) ?_ ?_
     rotate_left
     ·intro w'
      go_simp
      with_reducible rfl
     rotate_left
     ·exact ac_
     refine pure_ (i := 4) (N := some 43) (v := ?_) (a' := ?_) #[Y,Y,Y,Y,Y,Z,Z,Z,Z,Z,Z,Z,Z,Z,Z,Z,Z,Z] rfl rfl (any_of HT_.out (by kernel_rfl)) (fun _ _ _ h => h) (Or.inl ⟨by rfl, ?_⟩) ?_ ?_
     rotate_left
     ·intro w'
      go_simp
      with_reducible rfl
     rotate_left
     ·exact ac_
     refine pure_ (i := 5) (N := some 44) (v := ?_) (a' := ?_) #[Y,Y,Y,Y,Y,Y,Z,Z,Z,Z,Z,Z,Z,Z,Z,Z,Z,Z] rfl rfl (any_of HT_.out (by kernel_rfl)) (fun _ _ _ h => h) (Or.inl ⟨by rfl, ?_⟩) ?_ ?_
     rotate_left
     ·intro w'
      go_simp
      with_reducible rfl
     rotate_left
     ·exact ac_
     refine pure_ (i := 6) (N := some 45) (v := ?_) (a' := ?_) #[Y,Y,Y,Y,Y,Y,Y,Z,Z,Z,Z,Z,Z,Z,Z,Z,Z,Z] rfl rfl (any_of HT_.out (by kernel_rfl)) (fun _ _ _ h => h) (Or.inl ⟨by rfl, ?_⟩) ?_ ?_
     rotate_left
     ·intro w'
      go_simp
      with_reducible rfl
     rotate_left
     ·exact ac_
     refine pure_ (i := 7) (N := some 46) (v := ?_) (a' := ?_) #[Y,Y,Y,Y,Y,Y,Y,Y,Z,Z,Z,Z,Z,Z,Z,Z,Z,Z] rfl rfl (any_of HT_.out (by kernel_rfl)) (fun _ _ _ h => h) (Or.inl ⟨by rfl, ?_⟩) ?_ ?_
     rotate_left
     ·intro w'
      go_simp
      with_reducible rfl
     rotate_left
     ·exact ac_
     refine pure_ (i := 11) (N := some 50) (v := ?_) (a' := ?_) #[Y,Y,Y,Y,Y,Y,Y,Y,Z,Z,Z,Y,Z,Z,Z,Z,Z,Z] rfl rfl (any_of HT_.out (by kernel_rfl)) (fun _ _ _ h => h) (Or.inl ⟨by rfl, ?_⟩) ?_ ?_
     rotate_left
     ·intro w'
      go_simp
      with_reducible rfl
     rotate_left
     ·exact ac_
     refine pure_ (i := 12) (N := some 51) (v := ?_) (a' := ?_) #[Y,Y,Y,Y,Y,Y,Y,Y,Z,Z,Z,Y,Y,Z,Z,Z,Z,Z] rfl rfl (any_of HT_.out (by kernel_rfl)) (fun _ _ _ h => h) (Or.inl ⟨by rfl, ?_⟩) ?_ ?_
     rotate_left
     ·intro w'
      go_simp
      with_reducible rfl
     rotate_left
     ·exact ac_
     refine pure_ (i := 13) (N := some 52) (v := ?_) (a' := ?_) #[Y,Y,Y,Y,Y,Y,Y,Y,Z,Z,Z,Y,Y,Y,Z,Z,Z,Z] rfl rfl (any_of HT_.out (by kernel_rfl)) (fun _ _ _ h => h) (Or.inl ⟨by rfl, ?_⟩) ?_ ?_
     rotate_left
     ·intro w'
      go_simp
      with_reducible rfl
     rotate_left
     ·exact ac_
     refine take_ (i := 8) (N := some 47) (v := ?_) (a' := ?_) #[Y,Y,Y,Y,Y,Y,Y,Y,Y,Z,Z,Y,Y,Y,Z,Z,Z,Z] rfl rfl (take_ofW HT_.out HW_.out (by kernel_rfl)) (fun _ _ _ h => h) (Or.inl ⟨by rfl, ?_⟩) hHeld ?_ ?_
     rotate_left
     ·rintro w' ⟨s0, s1, s2, s3, s4, s5, s6⟩
      go_simp
      with_reducible rfl
     rotate_left
     ·exact ac_
     refine pure_ (i := 9) (N := some 48) (v := ?_) (a' := ?_) #[Y,Y,Y,Y,Y,Y,Y,Y,Y,Y,Z,Y,Y,Y,Z,Z,Z,Z] rfl rfl (any_of HT_.out (by kernel_rfl)) (fun _ _ _ h => h) (Or.inl ⟨by rfl, ?_⟩) ?_ ?_
     rotate_left
     ·intro w'
      go_simp
      with_reducible rfl
     rotate_left
     ·exact ac_
     refine take_ (i := 10) (N := some 49) (v := ?_) (a' := ?_) #[Y,Y,Y,Y,Y,Y,Y,Y,Y,Y,Y,Y,Y,Y,Z,Z,Z,Z] rfl rfl (take_ofW HT_.out HW_.out (by kernel_rfl)) (fun _ _ _ h => h) (Or.inl ⟨by rfl, ?_⟩) hHeld ?_ ?_
     rotate_left
     ·rintro w' ⟨s0, s1, s2, s3, s4, s5, s6⟩
      go_simp
      with_reducible rfl
     rotate_left
     ·exact ac_
     refine take_ (i := 14) (N := some 53) (v := ?_) (a' := ?_) #[Y,Y,Y,Y,Y,Y,Y,Y,Y,Y,Y,Y,Y,Y,Y,Z,Z,Z] rfl rfl (take_ofW HT_.out HW_.out (by kernel_rfl)) (fun _ _ _ h => h) (Or.inl ⟨by rfl, ?_⟩) hHeld ?_ ?_
     rotate_left
     ·rintro w' ⟨s0, s1, s2, s3, s4, s5, s6⟩
      go_simp
      with_reducible rfl
     rotate_left
     ·exact ac_
     refine one_ (i := 15) (N := some 54) #[Y,Y,Y,Y,Y,Y,Y,Y,Y,Y,Y,Y,Y,Y,Y,Y,Z,Z] rfl rfl (one_of HT_.out (by kernel_rfl)) (by decide) (fun K hK => ?_)
     refine goes_ Try.func35 (by kernel_rfl) rfl #[.agg #[.int .i64 ((rd_T37 l0 (rd x5_13 (ji29))).f0), .int .i64 ((rd_T37 l0 (rd x5_13 (ji29))).f1), .int .i64 ((rd_T37 l0 (rd x5_13 (ji29))).f2)], .agg #[.int .i64 ((rd_T37 l0 x6_1).f0), .int .i64 ((rd_T37 l0 x6_1).f1), .int .i64 ((rd_T37 l0 x6_1).f2)]] (by rfl) rfl rfl (by (try simp only [List.map_toArray, List.map_cons, List.map_nil]); first | done | (simp only [hji29]; rfl) | rfl | (simp only [List.length_drop, List.length_take]; rfl)) ?_
     with_reducible refine (camshaftref06_closes.calls ((rd_T37 l0 (rd x5_13 (ji29))).f0) ((rd_T37 l0 (rd x5_13 (ji29))).f1) ((rd_T37 l0 (rd x5_13 (ji29))).f2) ((rd_T37 l0 x6_1).f0) ((rd_T37 l0 x6_1).f1) ((rd_T37 l0 x6_1).f2) true _ A34.out).mono ?_
     rintro e w44 ⟨rfl, hb⟩
     have HS0_ := (hb.cell (World.block_lt_of_cell? _ _ (hHeld.1))).trans (hHeld.1)
     refine ⟨_, rfl, ?_⟩
     have n0_ := Aside0.mk (Kd.R_below (by (with_reducible repeat (first | apply Kd.R_alloc | apply Kd.R_drewN | apply Kd.R_drew)); exact HO_4.out) hb)
     have n1_ := Aside0.mk (Kd.R_below (by (with_reducible repeat (first | apply Kd.R_alloc | apply Kd.R_drewN | apply Kd.R_drew)); exact HO_5.out) hb)
     first | (have n2_ := Aside0.mk (below_step (Below.refl w.heap.size w) hb)) | (have n2_ := Aside0.mk (below_step (below_drew (pw_below_drewN (Below.refl w.heap.size w) _)) hb)) | (have n2_ := Aside0.mk (below_step (pw_below_drewN (Below.refl w.heap.size w) _) hb)) | (have n2_ := Aside0.mk (below_step ab_ hb))
     clear HO_4
     clear HO_5
     clear HB
     have HO_4 := n0_
     have HO_5 := n1_
     have HB := n2_
     clear n0_ n1_ n2_
     (try clear hb)
     (try clear hb2)
     (try clear hk)
     (try clear hi)
     refine hK.out _ _ ⟨HS0_, ((HB.out.cell (World.block_lt_of_cell? w _ hw187_0)).trans hw187_0), ((HB.out.cell (World.block_lt_of_cell? w _ hw187_1)).trans hw187_1), ((HB.out.cell (World.block_lt_of_cell? w _ hw187_2)).trans hw187_2), ((HB.out.cell (World.block_lt_of_cell? w _ hw188_0)).trans hw188_0), ((HB.out.cell (World.block_lt_of_cell? w _ hw188_1)).trans hw188_1), ((HB.out.cell (World.block_lt_of_cell? w _ hw188_2)).trans hw188_2)⟩ (fun hHeld => ?_)
     clear hK K
     refine norm_ (a' := ?_) ?_ ?_
     rotate_left
     ·show Act.put _ (some 54) _ = _
      simp only [Act.put, setIfInBounds_toArray,set_cons_zero,set_cons_succ, i64_w, i32_w]
      rfl
     refine pure_ (i := 16) (N := some 55) (v := ?_) (a' := ?_) #[Y,Y,Y,Y,Y,Y,Y,Y,Y,Y,Y,Y,Y,Y,Y,Y,Y,Z] rfl rfl (any_of HT_.out (by kernel_rfl)) (fun _ _ _ h => h) (Or.inl ⟨by rfl, ?_⟩) ?_ ?_
     rotate_left
     ·intro w'
      go_simp
      with_reducible rfl
     rotate_left
     ·exact ac_
     refine pure_ (i := 17) (N := some 56) (v := ?_) (a' := ?_) #[Y,Y,Y,Y,Y,Y,Y,Y,Y,Y,Y,Y,Y,Y,Y,Y,Y,Y] rfl rfl (any_of HT_.out (by kernel_rfl)) (fun _ _ _ h => h) (Or.inl ⟨by rfl, ?_⟩) ?_ ?_
     rotate_left
     ·intro w'
      go_simp
      with_reducible rfl
     rotate_left
     ·exact ac_
     refine done_ (done_of HT_.out (by kernel_rfl)) ?_
     have p190 : 0 ≤ ((ji29) : Int) := of_decide_eq_true as_
     have q190 : (ji29) < (x5_13.length : Int) := of_decide_eq_true as_
     obtain ⟨ad190, e190, hx190_0⟩ := Kd.at_int (Kd.R_reads' HO_5.out).2.2 (ji29) p190 q190
     obtain rfl : ad186 = ad190 := (by injection e190)
     replace p190 := eq_true p190
     replace q190 := eq_true q190
     have p37 : 0 ≤ (x6_1 : Int) := of_decide_eq_true as_
     have q37 : (x6_1 : Int) < ((y178.length : Int) : Int) := of_decide_eq_true as_
     obtain ⟨hx37_0, hf37_0⟩ := Kd.R_celln 0 HO_4.out (x6_1 : Int) p37 q37
     replace p37 := eq_true p37
     replace q37 := eq_true q37
     obtain ⟨hy45_, hz45_⟩ := Kd.R_celln 0 HO_4.out (x6_1 : Int) (of_decide_eq_true as_) (of_decide_eq_true as_)
     have HP45 := Kd.R_putg HO_4.out (x6_1 : Int) (rd x5_13 (ji29))
     try go_wp2_with (first | ((with_reducible refine gate_store (t := 3) (p := 64) rfl ?_); refine store_event (t := 3) (p := 64) (v := ?vo_w46) (w1 := (w44.setCell ⟨go12, (x6_1 : Int).toNat, none⟩ (.int .i64 (rd x5_13 (ji29))))) ?hg ?ho ?hn ?hr ?_; (case ho => rfl); (case hg => rfl); (case hn => rfl); (case hr => first | (go_simp; done) | (go_simp; rfl)); intro w46 hw; have hg : w44.grownBy w46 (some go12) := (by rw [hw]; exact HP45.2); have hp_ : Kd.R (Kd.int .i64) 3 w46 w.heap.size (fun k_ => some k_ ≠ (.slice (some ad186) x5_13.length co42 : Value).ownBlock) (.slice (some ⟨go12, 0, none⟩) y178.length co12) y191 := (by rw [hw, Ny191.out]; exact HP45.1); clear HP45; have n0_ := Aside0.mk (hp_); have n1_ := Aside0.mk (Kd.R_after (v := (.slice (some ⟨go12, 0, none⟩) y178.length co12)) (v1 := (.slice (some ⟨go12, 0, none⟩) y178.length co12)) (ok := (fun _ => True)) (by (with_reducible repeat (first | apply Kd.R_alloc | apply Kd.R_drewN | apply Kd.R_drew)); exact Kd.R_mono HO_5.out (fun _ hk => ⟨trivial, hk⟩)) hg (.inl rfl)); have n2_ := Aside0.mk ((by rw [hw]; exact below_set (HB.out) GB12.out : Below w.heap.size w w46)); clear HO_4; clear HO_5; clear HB; have HO_4 := n0_; have HO_5 := n1_; have HB := n2_; clear n0_ n1_ n2_; clear hg hw hp_; have p192 : 0 ≤ ((ji29) : Int) := of_decide_eq_true as_; have q192 : (ji29) < (x5_13.length : Int) := of_decide_eq_true as_; obtain ⟨ad192, e192, hx192_0⟩ := Kd.at_int (Kd.R_reads' HO_5.out).2.2 (ji29) p192 q192; obtain rfl : ad186 = ad192 := (by injection e192); replace p192 := eq_true p192; replace q192 := eq_true q192; have p39 : 0 ≤ ((rd x5_13 (ji29)) : Int) := of_decide_eq_true as_; have q39 : ((rd x5_13 (ji29)) : Int) < ((y178.length : Int) : Int) := of_decide_eq_true as_; obtain ⟨hx39_0, hf39_0⟩ := Kd.R_celln 0 HO_4.out ((rd x5_13 (ji29)) : Int) p39 q39; replace p39 := eq_true p39; replace q39 := eq_true q39; obtain ⟨hy47_, hz47_⟩ := Kd.R_celln 0 HO_4.out ((rd x5_13 (ji29)) : Int) (of_decide_eq_true as_) (of_decide_eq_true as_); have HP47 := Kd.R_putg HO_4.out ((rd x5_13 (ji29)) : Int) x6_1) | ((with_reducible refine gate_store (t := 3) (p := 72) rfl ?_); refine store_event (t := 3) (p := 72) (v := ?vo_w48) (w1 := (w46.setCell ⟨go12, ((rd x5_13 (ji29)) : Int).toNat, none⟩ (.int .i64 x6_1))) ?hg ?ho ?hn ?hr ?_; (case ho => rfl); (case hg => rfl); (case hn => rfl); (case hr => first | (go_simp; done) | (go_simp; rfl)); intro w48 hw; have hg : w46.grownBy w48 (some go12) := (by rw [hw]; exact HP47.2); have hp_ : Kd.R (Kd.int .i64) 3 w48 w.heap.size (fun k_ => some k_ ≠ (.slice (some ad186) x5_13.length co42 : Value).ownBlock) (.slice (some ⟨go12, 0, none⟩) y178.length co12) y193 := (by rw [hw, Ny193.out]; exact HP47.1); clear HP47; have n0_ := Aside0.mk (hp_); have n1_ := Aside0.mk (Kd.R_after (v := (.slice (some ⟨go12, 0, none⟩) y178.length co12)) (v1 := (.slice (some ⟨go12, 0, none⟩) y178.length co12)) (ok := (fun _ => True)) (by (with_reducible repeat (first | apply Kd.R_alloc | apply Kd.R_drewN | apply Kd.R_drew)); exact HO_5.out) hg (.inl rfl)); have n2_ := Aside0.mk ((by rw [hw]; exact below_set (HB.out) GB12.out : Below w.heap.size w w48)); clear HO_4; clear HO_5; clear HB; have HO_4 := n0_; have HO_5 := n1_; have HB := n2_; clear n0_ n1_ n2_; clear hg hw hp_; have q49 : ((ji29) : Int) ≤ ((x5_13.length : Int) : Int) := of_decide_eq_true as_; obtain ⟨i049, hi049, _, hsz49, _⟩ := info_parts info3; have hcut49 := cut_to (P := Try.prog) 32 3 .i64 Try.underlying32 hi049 (some ad186) x5_13.length co42 (ji29) (of_decide_eq_true as_) q49 (Kd.R_reads' HO_5.out).2.1; have hr49 := Kd.R_take (m := ((ji29) : Int).toNat) HO_5.out (by omega); have hy49 : y194.length = ((ji29) : Int).toNat := (by rw [Ny194.out, List.length_take]; omega); rw [← Ny194.out] at hr49; rw [← hy49] at hr49 hcut49; clear hy49 hi049 hsz49 HO_5; have HO196 := Aside0.mk hr49; clear hr49; replace q49 := eq_true q49))
     (try simp only [← hl4_13])
     go_roundg kj13
     case measure => have := HK1.out; have := HJ13.out; omega
     case rel => exact ⟨(y193), (y194), (wrap64 (x6_1 + 1)), (by first | rfl | (simp; done) | (simp [*]; done)), H', ⟨by have := HK1.out; have := HJ13.out; omega⟩, ⟨by (try simp only [hl4_13]); (with_reducible repeat (first | apply Kd.R_alloc | apply Kd.R_drewN | apply Kd.R_drew)); exact HO_4.out⟩, ⟨by (try simp only [hl4_13]); (with_reducible repeat (first | apply Kd.R_alloc | apply Kd.R_drewN | apply Kd.R_drew)); exact Kd.R_mono HO196.out (fun _ hk => hk.2)⟩, ⟨by repeat (first | (with_reducible first | exact HB.out | apply below_alloc | apply pw_below_drewN | apply below_drew1) | exact HB.out | exact Below.refl _ _)⟩⟩

end Go.Proofs.Ytdhlhbhclggheaa.Q
