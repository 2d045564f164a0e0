-- Written by a program of this session (wip/tools: patched print) for this claim. Not trusted: Lean checks it.
import Derived.Test.YtdhlhbhclggheaaDx0
import Derived.Test.YtdhlhbhclggheaaDx3
namespace Go.Proofs.Ytdhlhbhclggheaa.D
open Go.RowKit Go.Proofs.Ytdhlhbhclggheaa.P Go.Proofs.YtdhlhbhclggheaaW.PrintWords Go.Proofs.YtdhlhbhclggheaaW.PrintLast Go.Proofs.YtdhlhbhclggheaaW.PrintMore
open List (setIfInBounds_toArray set_cons_zero set_cons_succ)
attribute [local go_sem] max2_int min2_int max_two min_two max_three min_three max_four min_four   -- for this text's walks alone
set_option linter.unusedVariables false
set_option linter.unusedSimpArgs false

/-! ### nest_Whole: function 17 -/
mutual
def nest_Whole.l0 : Nat → List (S37) → List Int → Int → List (S37) → Int → Int → Option (Int)
 | 0, _, _, _, _, _, _ => none
 | k + 1, x0, x4, x6, x24, x25, x26 => if x26 < x25 then (if 0 ≤ x26 then (if x26 < (x24.length : Int) then (if ((((rd_T37 x24 x26).f0) == 25) != (x26 == x6)) = true then (some 7) else (nest_Whole.l0 k x0 x4 x6 x24 x25 (wrap64 (x26 + 1)))) else (none)) else (none)) else (nest_Whole.l1 k x4 x6 x0 (x0.length : Int) 0)
def nest_Whole.l1 : Nat → List Int → Int → List (S37) → Int → Int → Option (Int)
 | 0, _, _, _, _, _ => none
 | k + 1, x4, x6, x39, x40, x41 => if x41 < x40 then (if 0 ≤ x41 then (if x41 < (x39.length : Int) then (if ((rd_T37 x39 x41).f0) = 19 then (nest_Whole.j2 k x4 x6 x41 x39 x40 x41 false ((rd_T37 x39 x41).f0) ((rd_T37 x39 x41).f1) ((rd_T37 x39 x41).f2)) else (nest_Whole.j2 k x4 x6 x41 x39 x40 x41 (((rd_T37 x39 x41).f0) != 20) ((rd_T37 x39 x41).f0) ((rd_T37 x39 x41).f1) ((rd_T37 x39 x41).f2))) else (none)) else (none)) else (some 0)
def nest_Whole.j2 : Nat → List Int → Int → Int → List (S37) → Int → Int → Bool → Int → Int → Int → Option (Int)
 | 0, _, _, _, _, _, _, _, _, _, _ => none
 | k + 1, x4, x6, x9, x39, x40, x41, x53, x146000, x146001, x146002 => if x53 = true then (nest_Whole.l1 k x4 x6 x39 x40 (wrap64 (x41 + 1))) else (if (wrap64 ((wrap64 (x9 + 1)) + x146001)) > x6 then (some 8) else (if 0 ≤ (wrap64 ((wrap64 (x9 + 1)) + x146001)) then (if (wrap64 ((wrap64 (x9 + 1)) + x146001)) < (x4.length : Int) then (if 0 ≤ x9 then (if x9 < (x4.length : Int) then (if (rd x4 (wrap64 ((wrap64 (x9 + 1)) + x146001))) = (rd x4 x9) then (nest_Whole.l1 k x4 x6 x39 x40 (wrap64 (x41 + 1))) else (some 8)) else (none)) else (none)) else (none)) else (none)))
end
def nest_Whole.f (k : Nat) (l0 : List (S37)) : Option (Int) := (nest_scan.f k l0).bind fun bt135 => (if bt135.2.2 = 0 then (nest_Whole.l0 k l0 bt135.2.1 (wrap64 ((l0.length : Int) - 1)) l0 (l0.length : Int) 0) else (some bt135.2.2))
theorem nest_Whole.mono_l : ∀ k, (∀ y0 y1 y2 y3 y4 y5, LeO (nest_Whole.l0 k y0 y1 y2 y3 y4 y5) (nest_Whole.l0 (k + 1) y0 y1 y2 y3 y4 y5)) ∧ (∀ y0 y1 y2 y3 y4, LeO (nest_Whole.l1 k y0 y1 y2 y3 y4) (nest_Whole.l1 (k + 1) y0 y1 y2 y3 y4)) ∧ (∀ y0 y1 y2 y3 y4 y5 y6 y7 y8 y9, LeO (nest_Whole.j2 k y0 y1 y2 y3 y4 y5 y6 y7 y8 y9) (nest_Whole.j2 (k + 1) y0 y1 y2 y3 y4 y5 y6 y7 y8 y9))
 | 0 => ⟨fun _ _ _ _ _ _ r h => by simp [nest_Whole.l0] at h, fun _ _ _ _ _ r h => by simp [nest_Whole.l1] at h, fun _ _ _ _ _ _ _ _ _ _ r h => by simp [nest_Whole.j2] at h⟩
 | k + 1 => by
  obtain ⟨ih0, ih1, ih2⟩ := nest_Whole.mono_l k
  refine ⟨?_, ?_, ?_⟩
  ·intro y0 y1 y2 y3 y4 y5
   unfold nest_Whole.l0
   repeat' first
   | (with_reducible exact ih0 _ _ _ _ _ _)
   | (with_reducible exact ih1 _ _ _ _ _)
   | (with_reducible exact ih2 _ _ _ _ _ _ _ _ _ _)
   | (with_reducible exact nest_scan.mono _ _)
   | (with_reducible exact LeO.refl _)
   | (with_reducible exact LeO.none _)
   | (with_reducible refine LeO.ite ?_ ?_)
   | (with_reducible refine LeO.bind ?_ (fun _ => ?_))
   | exact ih0 _ _ _ _ _ _
   | exact ih1 _ _ _ _ _
   | exact ih2 _ _ _ _ _ _ _ _ _ _
   | exact nest_scan.mono _ _
   | exact LeO.none _
   | refine LeO.ite ?_ ?_
   | refine LeO.bind ?_ (fun _ => ?_)
  ·intro y0 y1 y2 y3 y4
   unfold nest_Whole.l1
   repeat' first
   | (with_reducible exact ih0 _ _ _ _ _ _)
   | (with_reducible exact ih1 _ _ _ _ _)
   | (with_reducible exact ih2 _ _ _ _ _ _ _ _ _ _)
   | (with_reducible exact nest_scan.mono _ _)
   | (with_reducible exact LeO.refl _)
   | (with_reducible exact LeO.none _)
   | (with_reducible refine LeO.ite ?_ ?_)
   | (with_reducible refine LeO.bind ?_ (fun _ => ?_))
   | exact ih0 _ _ _ _ _ _
   | exact ih1 _ _ _ _ _
   | exact ih2 _ _ _ _ _ _ _ _ _ _
   | exact nest_scan.mono _ _
   | exact LeO.none _
   | refine LeO.ite ?_ ?_
   | refine LeO.bind ?_ (fun _ => ?_)
  ·intro y0 y1 y2 y3 y4 y5 y6 y7 y8 y9
   unfold nest_Whole.j2
   repeat' first
   | (with_reducible exact ih0 _ _ _ _ _ _)
   | (with_reducible exact ih1 _ _ _ _ _)
   | (with_reducible exact ih2 _ _ _ _ _ _ _ _ _ _)
   | (with_reducible exact nest_scan.mono _ _)
   | (with_reducible exact LeO.refl _)
   | (with_reducible exact LeO.none _)
   | (with_reducible refine LeO.ite ?_ ?_)
   | (with_reducible refine LeO.bind ?_ (fun _ => ?_))
   | exact ih0 _ _ _ _ _ _
   | exact ih1 _ _ _ _ _
   | exact ih2 _ _ _ _ _ _ _ _ _ _
   | exact nest_scan.mono _ _
   | exact LeO.none _
   | refine LeO.ite ?_ ?_
   | refine LeO.bind ?_ (fun _ => ?_)
theorem nest_Whole.mono : ∀ a0 k, LeO (nest_Whole.f k a0) (nest_Whole.f (k + 1) a0) := by
 intro a0 k
 obtain ⟨ih0, ih1, ih2⟩ := nest_Whole.mono_l k
 unfold nest_Whole.f
 repeat' first
   | (with_reducible exact ih0 _ _ _ _ _ _)
   | (with_reducible exact ih1 _ _ _ _ _)
   | (with_reducible exact ih2 _ _ _ _ _ _ _ _ _ _)
   | (with_reducible exact nest_scan.mono _ _)
   | (with_reducible exact LeO.refl _)
   | (with_reducible exact LeO.none _)
   | (with_reducible refine LeO.ite ?_ ?_)
   | (with_reducible refine LeO.bind ?_ (fun _ => ?_))
   | exact ih0 _ _ _ _ _ _
   | exact ih1 _ _ _ _ _
   | exact ih2 _ _ _ _ _ _ _ _ _ _
   | exact nest_scan.mono _ _
   | exact LeO.none _
   | refine LeO.ite ?_ ?_
   | refine LeO.bind ?_ (fun _ => ?_)
set_option maxHeartbeats 8000000 in
set_option maxRecDepth 100000 in
theorem nest_Whole.calls (k : Nat) (A0 : Option Addr) (c0 : Nat) (l0 : List (S37)) (r : Int) (w : World) (hr0 : Kd.C k37 w A0 l0.length l0) (hc0 : l0.length ≤ c0) (h : nest_Whole.f k l0 = some r) :
  Calls Try.prog 17 #[.slice A0 l0.length c0] w fun e w' => e = .returned (.int .i64 r) ∧ Below w.heap.size w w' := by
 have hu37 := Try.underlying37
 have HR0 := Aside0.mk hr0
 have HC0 := Aside0.mk hc0
 clear hr0 hc0
 have HB := Aside0.mk (Below.refl w.heap.size w)
 have H : ((nest_scan.f k l0).bind fun bt135 => (if bt135.2.2 = 0 then (nest_Whole.l0 k l0 bt135.2.1 (wrap64 ((l0.length : Int) - 1)) l0 (l0.length : Int) 0) else (some bt135.2.2))) = some r := h
 clear h
 replace H := Option.bind_eq_some_iff.mp H
 obtain ⟨⟨t135, t136, t137⟩, A20, H⟩ := H
 replace H : (if t137 = 0 then (nest_Whole.l0 k l0 t136 (wrap64 ((l0.length : Int) - 1)) l0 (l0.length : Int) 0) else (some t137)) = some r := H
 have A2 := Aside0.mk A20
 clear A20
 by_cases c3 : t137 = 0
 rotate_left
 ·rw [if_neg c3] at H
  have c3b0 : (t137 == 0) = false := beq_eq_false_iff_ne.mpr c3
  have c3b1 : (t137 != 0) = true := bne_iff_ne.mpr c3
  obtain rfl := Option.some.inj H
  go_enter Try.func17, Try.ntmps17
  go_wp2_with (first | (go_at_call 26; (with_reducible refine (nest_scan.calls k _ _ l0 t135 t136 t137 _ ?side1 ?side2 A2.out).mono ?_); (case side1 => repeat (first | exact HR0.out | (with_reducible refine Kd.C_alloc ?_ _) | (with_reducible refine Kd.C_drewN ?_ _) | (with_reducible refine Kd.C_drew ?_))); (case side2 => exact HC0.out); rintro e w35 ⟨v138, v140, rfl, ho0, ho1, hb⟩; have n0_ := Aside0.mk (Kd.R_lower ho0 (below_size ab_)); have n1_ := Aside0.mk (Kd.R_lower ho1 (below_size ab_)); have n2_ := Aside0.mk (below_step ab_ hb); clear HB; have HO139 := n0_; have HO141 := n1_; have HB := n2_; clear n0_ n1_ n2_; (try clear hb); (try clear hb2); (try clear hk); (try clear hi); (try clear ho0); (try clear ho1)))
  repeat (go_quiet (first | (go_at_call 26; (with_reducible refine (nest_scan.calls k _ _ l0 t135 t136 t137 _ ?side1 ?side2 A2.out).mono ?_); (case side1 => repeat (first | exact HR0.out | (with_reducible refine Kd.C_alloc ?_ _) | (with_reducible refine Kd.C_drewN ?_ _) | (with_reducible refine Kd.C_drew ?_))); (case side2 => exact HC0.out); rintro e w35 ⟨v138, v140, rfl, ho0, ho1, hb⟩; have n0_ := Aside0.mk (Kd.R_lower ho0 (below_size ab_)); have n1_ := Aside0.mk (Kd.R_lower ho1 (below_size ab_)); have n2_ := Aside0.mk (below_step ab_ hb); clear HB; have HO139 := n0_; have HO141 := n1_; have HB := n2_; clear n0_ n1_ n2_; (try clear hb); (try clear hb2); (try clear hk); (try clear hi); (try clear ho0); (try clear ho1))); try go_wp2_with (first | (go_at_call 26; (with_reducible refine (nest_scan.calls k _ _ l0 t135 t136 t137 _ ?side1 ?side2 A2.out).mono ?_); (case side1 => repeat (first | exact HR0.out | (with_reducible refine Kd.C_alloc ?_ _) | (with_reducible refine Kd.C_drewN ?_ _) | (with_reducible refine Kd.C_drew ?_))); (case side2 => exact HC0.out); rintro e w35 ⟨v138, v140, rfl, ho0, ho1, hb⟩; have n0_ := Aside0.mk (Kd.R_lower ho0 (below_size ab_)); have n1_ := Aside0.mk (Kd.R_lower ho1 (below_size ab_)); have n2_ := Aside0.mk (below_step ab_ hb); clear HB; have HO139 := n0_; have HO141 := n1_; have HB := n2_; clear n0_ n1_ n2_; (try clear hb); (try clear hb2); (try clear hk); (try clear hi); (try clear ho0); (try clear ho1))))
  go_ret
  exact ⟨by first | rfl | (simp [errW_none, errW_some] <;> rfl) | (simp [*, errW_none, errW_some] <;> rfl), by repeat (first | (with_reducible first | exact HB.out | apply below_alloc | apply pw_below_drewN | apply below_drew1) | exact HB.out | exact Below.refl _ _)⟩
 rw [if_pos c3] at H
 have c3b0 : (t137 == 0) = true := beq_iff_eq.mpr c3
 have c3b1 : (t137 != 0) = false := bne_eq_false_iff_eq.mpr c3
 clear c3
 have H' := Aside0.mk H
 clear H
 go_enter Try.func17, Try.ntmps17
 go_wp2_with (first | (go_at_call 26; (with_reducible refine (nest_scan.calls k _ _ l0 t135 t136 t137 _ ?side1 ?side2 A2.out).mono ?_); (case side1 => repeat (first | exact HR0.out | (with_reducible refine Kd.C_alloc ?_ _) | (with_reducible refine Kd.C_drewN ?_ _) | (with_reducible refine Kd.C_drew ?_))); (case side2 => exact HC0.out); rintro e w4 ⟨v138, v140, rfl, ho0, ho1, hb⟩; have n0_ := Aside0.mk (Kd.R_lower ho0 (below_size ab_)); have n1_ := Aside0.mk (Kd.R_lower ho1 (below_size ab_)); have n2_ := Aside0.mk (below_step ab_ hb); clear HB; have HO139 := n0_; have HO141 := n1_; have HB := n2_; clear n0_ n1_ n2_; (try clear hb); (try clear hb2); (try clear hk); (try clear hi); (try clear ho0); (try clear ho1)))
 repeat (go_quiet (first | (go_at_call 26; (with_reducible refine (nest_scan.calls k _ _ l0 t135 t136 t137 _ ?side1 ?side2 A2.out).mono ?_); (case side1 => repeat (first | exact HR0.out | (with_reducible refine Kd.C_alloc ?_ _) | (with_reducible refine Kd.C_drewN ?_ _) | (with_reducible refine Kd.C_drew ?_))); (case side2 => exact HC0.out); rintro e w4 ⟨v138, v140, rfl, ho0, ho1, hb⟩; have n0_ := Aside0.mk (Kd.R_lower ho0 (below_size ab_)); have n1_ := Aside0.mk (Kd.R_lower ho1 (below_size ab_)); have n2_ := Aside0.mk (below_step ab_ hb); clear HB; have HO139 := n0_; have HO141 := n1_; have HB := n2_; clear n0_ n1_ n2_; (try clear hb); (try clear hb2); (try clear hk); (try clear hi); (try clear ho0); (try clear ho1))); try go_wp2_with (first | (go_at_call 26; (with_reducible refine (nest_scan.calls k _ _ l0 t135 t136 t137 _ ?side1 ?side2 A2.out).mono ?_); (case side1 => repeat (first | exact HR0.out | (with_reducible refine Kd.C_alloc ?_ _) | (with_reducible refine Kd.C_drewN ?_ _) | (with_reducible refine Kd.C_drew ?_))); (case side2 => exact HC0.out); rintro e w4 ⟨v138, v140, rfl, ho0, ho1, hb⟩; have n0_ := Aside0.mk (Kd.R_lower ho0 (below_size ab_)); have n1_ := Aside0.mk (Kd.R_lower ho1 (below_size ab_)); have n2_ := Aside0.mk (below_step ab_ hb); clear HB; have HO139 := n0_; have HO141 := n1_; have HB := n2_; clear n0_ n1_ n2_; (try clear hb); (try clear hb2); (try clear hk); (try clear hi); (try clear ho0); (try clear ho1))))
 go_loopg [26] k (fun kq v26 w' => ∃ (x26_1 : Int), v26 = .int .i64 x26_1 ∧ Aside0 (nest_Whole.l0 kq l0 t136 (wrap64 ((l0.length : Int) - 1)) l0 (l0.length : Int) x26_1 = some r) ∧ Aside0 (kq ≤ k) ∧ Aside0 (Kd.R (Kd.int .i64) 3 w' w.heap.size (fun _ => True) v140 t136) ∧ Aside0 (Below w.heap.size w w'))
 case atStart => exact ⟨(0), (by first | rfl | (simp; done) | (simp [*]; done)), H', ⟨Nat.le_refl _⟩, ⟨by (with_reducible repeat (first | apply Kd.R_alloc | apply Kd.R_drewN | apply Kd.R_drew)); exact Kd.R_mono HO141.out (fun _ hk => trivial)⟩, ⟨by repeat (first | (with_reducible first | exact HB.out | apply below_alloc | apply pw_below_drewN | apply below_drew1) | exact HB.out)⟩⟩
 case round =>
  clear H'
  try clear c1
  try clear p2
  try clear c3
  try clear c3b0
  try clear c3b1
  obtain ⟨x26_1, rfl, HA, HK1, HO_4, HB⟩ := hrel
  cases gk with
  | zero => exact absurd HA.out (by simp [nest_Whole.l0])
  | succ k1 =>
   have H := HA.out
   clear HA
   simp only [nest_Whole.l0] at H
   by_cases c5 : x26_1 < (l0.length : Int)
   ·rw [if_pos c5] at H
    have c5b0 : decide (x26_1 < (l0.length : Int)) = true := decide_eq_true c5
    clear c5
    by_cases c6 : 0 ≤ x26_1
    rotate_left
    ·rw [if_neg c6] at H
     exact absurd H (by simp)
    rw [if_pos c6] at H
    have c6b0 : decide (0 ≤ x26_1) = true := decide_eq_true c6
    clear c6
    by_cases c7 : x26_1 < (l0.length : Int)
    rotate_left
    ·rw [if_neg c7] at H
     exact absurd H (by simp)
    rw [if_pos c7] at H
    have c7b0 : decide (x26_1 < (l0.length : Int)) = true := decide_eq_true c7
    clear c7
    by_cases c8 : ((((rd_T37 l0 x26_1).f0) == 25) != (x26_1 == (wrap64 ((l0.length : Int) - 1)))) = true
    ·rw [if_pos c8] at H
     have c8b0 : ((((rd_T37 l0 x26_1).f0) == 25) != (x26_1 == (wrap64 ((l0.length : Int) - 1)))) = true := c8
     (try (have c8b1 : decide ((((rd_T37 l0 x26_1).f0) == 25) = (x26_1 == (wrap64 ((l0.length : Int) - 1)))) = false := by simpa using c8))
     (try (have c8b2 : ((((rd_T37 l0 x26_1).f0) == 25) == (x26_1 == (wrap64 ((l0.length : Int) - 1)))) = false := by simpa using c8))
     (try (have c8b3 : ¬ ((((rd_T37 l0 x26_1).f0) == 25) = (x26_1 == (wrap64 ((l0.length : Int) - 1)))) := by simpa using c8))
     clear c8
     obtain rfl := Option.some.inj H
     have p142 : 0 ≤ (x26_1 : Int) := of_decide_eq_true as_
     have q142 : x26_1 < (l0.length : Int) := of_decide_eq_true as_
     obtain ⟨ad142, e142, hx142_0, hx142_1, hx142_2⟩ := at_T37 HR0.out x26_1 p142 q142
     cases e142
     replace hx142_0 := (HB.out.cell (World.block_lt_of_cell? w _ hx142_0)).trans hx142_0
     replace hx142_1 := (HB.out.cell (World.block_lt_of_cell? w _ hx142_1)).trans hx142_1
     replace hx142_2 := (HB.out.cell (World.block_lt_of_cell? w _ hx142_2)).trans hx142_2
     replace p142 := eq_true p142
     replace q142 := eq_true q142
     go_wp2_with (first | ((with_reducible refine gate_dst (N := 8) rfl ?_); refine box_event ?hg (N := 8) ?hd (cs := #[.int .i64 0, .int .i64 0, .int .i64 0]) (t := 37) ?hr ?_; (case hd => rfl); (case hg => rfl); (case hr => first | (go_simp; done) | (go_simp; rfl)); intro gb143 hg w9 hbox hb; have n0_ := Aside0.mk (Kd.R_below (by (with_reducible repeat (first | apply Kd.R_alloc | apply Kd.R_drewN | apply Kd.R_drew)); exact HO_4.out) hb); have n1_ := Aside0.mk (below_step ab_ hb); have n2_ := Aside0.mk (hbox); have n3_ := Aside0.mk ((by rw [hg]; exact (below_size ab_) : w.heap.size ≤ gb143)); have n4_ := Aside0.mk ((by rw [hg]; exact (below_size ab_) : w.heap.size ≤ gb143)); clear HO_4; clear HB; have HO_4 := n0_; have HB := n1_; have BK143 := n2_; have GW143 := n3_; have GE143 := n4_; clear n0_ n1_ n2_ n3_ n4_; clear hb hbox hg; have hcz10_0 : w9.cell? ⟨gb143, 0, none⟩ = some (.int .i64 0) := (blk_cell BK143.out 0).trans rfl; have hcz10_1 : w9.cell? ⟨gb143, 1, none⟩ = some (.int .i64 0) := (blk_cell BK143.out 1).trans rfl; have hcz10_2 : w9.cell? ⟨gb143, 2, none⟩ = some (.int .i64 0) := (blk_cell BK143.out 2).trans rfl; have hfz10_0 := blk_frozen BK143.out 0; have hfz10_1 := blk_frozen BK143.out 1; have hfz10_2 := blk_frozen BK143.out 2))
     repeat (go_quiet (first | ((with_reducible refine gate_dst (N := 8) rfl ?_); refine box_event ?hg (N := 8) ?hd (cs := #[.int .i64 0, .int .i64 0, .int .i64 0]) (t := 37) ?hr ?_; (case hd => rfl); (case hg => rfl); (case hr => first | (go_simp; done) | (go_simp; rfl)); intro gb143 hg w9 hbox hb; have n0_ := Aside0.mk (Kd.R_below (by (with_reducible repeat (first | apply Kd.R_alloc | apply Kd.R_drewN | apply Kd.R_drew)); exact HO_4.out) hb); have n1_ := Aside0.mk (below_step ab_ hb); have n2_ := Aside0.mk (hbox); have n3_ := Aside0.mk ((by rw [hg]; exact (below_size ab_) : w.heap.size ≤ gb143)); have n4_ := Aside0.mk ((by rw [hg]; exact (below_size ab_) : w.heap.size ≤ gb143)); clear HO_4; clear HB; have HO_4 := n0_; have HB := n1_; have BK143 := n2_; have GW143 := n3_; have GE143 := n4_; clear n0_ n1_ n2_ n3_ n4_; clear hb hbox hg; have hcz10_0 : w9.cell? ⟨gb143, 0, none⟩ = some (.int .i64 0) := (blk_cell BK143.out 0).trans rfl; have hcz10_1 : w9.cell? ⟨gb143, 1, none⟩ = some (.int .i64 0) := (blk_cell BK143.out 1).trans rfl; have hcz10_2 : w9.cell? ⟨gb143, 2, none⟩ = some (.int .i64 0) := (blk_cell BK143.out 2).trans rfl; have hfz10_0 := blk_frozen BK143.out 0; have hfz10_1 := blk_frozen BK143.out 1; have hfz10_2 := blk_frozen BK143.out 2)); try go_wp2_with (first | ((with_reducible refine gate_dst (N := 8) rfl ?_); refine box_event ?hg (N := 8) ?hd (cs := #[.int .i64 0, .int .i64 0, .int .i64 0]) (t := 37) ?hr ?_; (case hd => rfl); (case hg => rfl); (case hr => first | (go_simp; done) | (go_simp; rfl)); intro gb143 hg w9 hbox hb; have n0_ := Aside0.mk (Kd.R_below (by (with_reducible repeat (first | apply Kd.R_alloc | apply Kd.R_drewN | apply Kd.R_drew)); exact HO_4.out) hb); have n1_ := Aside0.mk (below_step ab_ hb); have n2_ := Aside0.mk (hbox); have n3_ := Aside0.mk ((by rw [hg]; exact (below_size ab_) : w.heap.size ≤ gb143)); have n4_ := Aside0.mk ((by rw [hg]; exact (below_size ab_) : w.heap.size ≤ gb143)); clear HO_4; clear HB; have HO_4 := n0_; have HB := n1_; have BK143 := n2_; have GW143 := n3_; have GE143 := n4_; clear n0_ n1_ n2_ n3_ n4_; clear hb hbox hg; have hcz10_0 : w9.cell? ⟨gb143, 0, none⟩ = some (.int .i64 0) := (blk_cell BK143.out 0).trans rfl; have hcz10_1 : w9.cell? ⟨gb143, 1, none⟩ = some (.int .i64 0) := (blk_cell BK143.out 1).trans rfl; have hcz10_2 : w9.cell? ⟨gb143, 2, none⟩ = some (.int .i64 0) := (blk_cell BK143.out 2).trans rfl; have hfz10_0 := blk_frozen BK143.out 0; have hfz10_1 := blk_frozen BK143.out 1; have hfz10_2 := blk_frozen BK143.out 2)))
     go_ret
     exact ⟨by first | rfl | (simp [errW_none, errW_some] <;> rfl) | (simp [*, errW_none, errW_some] <;> rfl), by repeat (first | (with_reducible first | exact HB.out | apply below_alloc | apply pw_below_drewN | apply below_drew1 | refine below_set ?_ GE143.out) | exact HB.out | exact Below.refl _ _)⟩
    rw [if_neg c8] at H
    have c8b0 : ((((rd_T37 l0 x26_1).f0) == 25) != (x26_1 == (wrap64 ((l0.length : Int) - 1)))) = false := by simpa using c8
    (try (have c8b1 : decide ((((rd_T37 l0 x26_1).f0) == 25) = (x26_1 == (wrap64 ((l0.length : Int) - 1)))) = true := by simpa using c8))
    (try (have c8b2 : ((((rd_T37 l0 x26_1).f0) == 25) == (x26_1 == (wrap64 ((l0.length : Int) - 1)))) = true := by simpa using c8))
    clear c8
    have H' := Aside0.mk H
    clear H
    have p142 : 0 ≤ (x26_1 : Int) := of_decide_eq_true as_
    have q142 : x26_1 < (l0.length : Int) := of_decide_eq_true as_
    obtain ⟨ad142, e142, hx142_0, hx142_1, hx142_2⟩ := at_T37 HR0.out x26_1 p142 q142
    cases e142
    replace hx142_0 := (HB.out.cell (World.block_lt_of_cell? w _ hx142_0)).trans hx142_0
    replace hx142_1 := (HB.out.cell (World.block_lt_of_cell? w _ hx142_1)).trans hx142_1
    replace hx142_2 := (HB.out.cell (World.block_lt_of_cell? w _ hx142_2)).trans hx142_2
    replace p142 := eq_true p142
    replace q142 := eq_true q142
    go_wp2_with (first | ((with_reducible refine gate_dst (N := 8) rfl ?_); refine box_event ?hg (N := 8) ?hd (cs := #[.int .i64 0, .int .i64 0, .int .i64 0]) (t := 37) ?hr ?_; (case hd => rfl); (case hg => rfl); (case hr => first | (go_simp; done) | (go_simp; rfl)); intro gb143 hg w11 hbox hb; have n0_ := Aside0.mk (Kd.R_below (by (with_reducible repeat (first | apply Kd.R_alloc | apply Kd.R_drewN | apply Kd.R_drew)); exact HO_4.out) hb); have n1_ := Aside0.mk (below_step ab_ hb); have n2_ := Aside0.mk (hbox); have n3_ := Aside0.mk ((by rw [hg]; exact (below_size ab_) : w.heap.size ≤ gb143)); have n4_ := Aside0.mk ((by rw [hg]; exact (below_size ab_) : w.heap.size ≤ gb143)); clear HO_4; clear HB; have HO_4 := n0_; have HB := n1_; have BK143 := n2_; have GW143 := n3_; have GE143 := n4_; clear n0_ n1_ n2_ n3_ n4_; clear hb hbox hg; have hcz12_0 : w11.cell? ⟨gb143, 0, none⟩ = some (.int .i64 0) := (blk_cell BK143.out 0).trans rfl; have hcz12_1 : w11.cell? ⟨gb143, 1, none⟩ = some (.int .i64 0) := (blk_cell BK143.out 1).trans rfl; have hcz12_2 : w11.cell? ⟨gb143, 2, none⟩ = some (.int .i64 0) := (blk_cell BK143.out 2).trans rfl; have hfz12_0 := blk_frozen BK143.out 0; have hfz12_1 := blk_frozen BK143.out 1; have hfz12_2 := blk_frozen BK143.out 2))
    repeat (go_quiet (first | ((with_reducible refine gate_dst (N := 8) rfl ?_); refine box_event ?hg (N := 8) ?hd (cs := #[.int .i64 0, .int .i64 0, .int .i64 0]) (t := 37) ?hr ?_; (case hd => rfl); (case hg => rfl); (case hr => first | (go_simp; done) | (go_simp; rfl)); intro gb143 hg w11 hbox hb; have n0_ := Aside0.mk (Kd.R_below (by (with_reducible repeat (first | apply Kd.R_alloc | apply Kd.R_drewN | apply Kd.R_drew)); exact HO_4.out) hb); have n1_ := Aside0.mk (below_step ab_ hb); have n2_ := Aside0.mk (hbox); have n3_ := Aside0.mk ((by rw [hg]; exact (below_size ab_) : w.heap.size ≤ gb143)); have n4_ := Aside0.mk ((by rw [hg]; exact (below_size ab_) : w.heap.size ≤ gb143)); clear HO_4; clear HB; have HO_4 := n0_; have HB := n1_; have BK143 := n2_; have GW143 := n3_; have GE143 := n4_; clear n0_ n1_ n2_ n3_ n4_; clear hb hbox hg; have hcz12_0 : w11.cell? ⟨gb143, 0, none⟩ = some (.int .i64 0) := (blk_cell BK143.out 0).trans rfl; have hcz12_1 : w11.cell? ⟨gb143, 1, none⟩ = some (.int .i64 0) := (blk_cell BK143.out 1).trans rfl; have hcz12_2 : w11.cell? ⟨gb143, 2, none⟩ = some (.int .i64 0) := (blk_cell BK143.out 2).trans rfl; have hfz12_0 := blk_frozen BK143.out 0; have hfz12_1 := blk_frozen BK143.out 1; have hfz12_2 := blk_frozen BK143.out 2)); try go_wp2_with (first | ((with_reducible refine gate_dst (N := 8) rfl ?_); refine box_event ?hg (N := 8) ?hd (cs := #[.int .i64 0, .int .i64 0, .int .i64 0]) (t := 37) ?hr ?_; (case hd => rfl); (case hg => rfl); (case hr => first | (go_simp; done) | (go_simp; rfl)); intro gb143 hg w11 hbox hb; have n0_ := Aside0.mk (Kd.R_below (by (with_reducible repeat (first | apply Kd.R_alloc | apply Kd.R_drewN | apply Kd.R_drew)); exact HO_4.out) hb); have n1_ := Aside0.mk (below_step ab_ hb); have n2_ := Aside0.mk (hbox); have n3_ := Aside0.mk ((by rw [hg]; exact (below_size ab_) : w.heap.size ≤ gb143)); have n4_ := Aside0.mk ((by rw [hg]; exact (below_size ab_) : w.heap.size ≤ gb143)); clear HO_4; clear HB; have HO_4 := n0_; have HB := n1_; have BK143 := n2_; have GW143 := n3_; have GE143 := n4_; clear n0_ n1_ n2_ n3_ n4_; clear hb hbox hg; have hcz12_0 : w11.cell? ⟨gb143, 0, none⟩ = some (.int .i64 0) := (blk_cell BK143.out 0).trans rfl; have hcz12_1 : w11.cell? ⟨gb143, 1, none⟩ = some (.int .i64 0) := (blk_cell BK143.out 1).trans rfl; have hcz12_2 : w11.cell? ⟨gb143, 2, none⟩ = some (.int .i64 0) := (blk_cell BK143.out 2).trans rfl; have hfz12_0 := blk_frozen BK143.out 0; have hfz12_1 := blk_frozen BK143.out 1; have hfz12_2 := blk_frozen BK143.out 2)))
    go_roundg k1
    case measure => have := HK1.out; omega
    case rel => exact ⟨(wrap64 (x26_1 + 1)), (by first | rfl | (simp; done) | (simp [*]; done)), H', ⟨by have := HK1.out; omega⟩, ⟨by (with_reducible repeat (first | apply Kd.R_alloc | apply Kd.R_drewN | apply Kd.R_drew)); exact Kd.R_mono (Kd.R_far (p := ⟨gb143, 2, none⟩) (Kd.R_far (p := ⟨gb143, 1, none⟩) (Kd.R_far (p := ⟨gb143, 0, none⟩) (Kd.R_types HO_4.out BK143.out (by decide)) (fun _ hk => hk.2) (.int .i64 ((rd_T37 l0 x26_1).f0))) (fun _ hk => hk.2) (.int .i64 ((rd_T37 l0 x26_1).f1))) (fun _ hk => hk.2) (.int .i64 ((rd_T37 l0 x26_1).f2))) (fun _ hk => trivial)⟩, ⟨by repeat (first | (with_reducible first | exact HB.out | apply below_alloc | apply pw_below_drewN | apply below_drew1 | refine below_set ?_ GE143.out) | exact HB.out | exact Below.refl _ _)⟩⟩
   rw [if_neg c5] at H
   have c5b0 : decide (x26_1 < (l0.length : Int)) = false := decide_eq_false c5
   clear c5
   have H' := Aside0.mk H
   clear H
   go_wp2
   repeat (go_quiet (fail); try go_wp2)
   go_loopg [41] k1 (fun kq v41 w' => ∃ (x41_2 : Int), v41 = .int .i64 x41_2 ∧ Aside0 (nest_Whole.l1 kq t136 (wrap64 ((l0.length : Int) - 1)) l0 (l0.length : Int) x41_2 = some r) ∧ Aside0 (kq ≤ k1) ∧ Aside0 (Kd.R (Kd.int .i64) 3 w' w.heap.size (fun _ => True) v140 t136) ∧ Aside0 (Below w.heap.size w w'))
   case atStart => exact ⟨(0), (by first | rfl | (simp; done) | (simp [*]; done)), H', ⟨Nat.le_refl _⟩, ⟨by (with_reducible repeat (first | apply Kd.R_alloc | apply Kd.R_drewN | apply Kd.R_drew)); exact HO_4.out⟩, ⟨by repeat (first | (with_reducible first | exact HB.out | apply below_alloc | apply pw_below_drewN | apply below_drew1) | exact HB.out)⟩⟩
   case round =>
    clear H'
    try clear c1
    try clear p1
    try clear q1
    try clear hx1
    try clear p2
    try clear c3
    try clear c3b0
    try clear c3b1
    try clear c5
    try clear c5b0
    try clear c6
    try clear c6b0
    try clear p6
    try clear c7
    try clear c7b0
    try clear c8
    try clear c8b0
    try clear c8b1
    try clear c8b2
    try clear hcz10_0
    try clear hcz10_1
    try clear hcz10_2
    try clear hcz12_0
    try clear hcz12_1
    try clear hcz12_2
    try clear hfz10_0
    try clear hfz10_1
    try clear hfz10_2
    try clear hfz12_0
    try clear hfz12_1
    try clear hfz12_2
    try clear hx142_0
    try clear hx142_1
    try clear hx142_2
    try clear p142
    try clear p2
    try clear q142
    obtain ⟨x41_2, rfl, HA, HK2, HO_4, HB⟩ := hrel
    cases gk with
    | zero => exact absurd HA.out (by simp [nest_Whole.l1])
    | succ k2 =>
     have H := HA.out
     clear HA
     simp only [nest_Whole.l1] at H
     by_cases c13 : x41_2 < (l0.length : Int)
     rotate_left
     ·rw [if_neg c13] at H
      have c13b0 : decide (x41_2 < (l0.length : Int)) = false := decide_eq_false c13
      clear c13
      obtain rfl := Option.some.inj H
      go_wp2
      repeat (go_quiet (fail); try go_wp2)
      go_ret
      exact ⟨by first | rfl | (simp [errW_none, errW_some] <;> rfl) | (simp [*, errW_none, errW_some] <;> rfl), by repeat (first | (with_reducible first | exact HB.out | apply below_alloc | apply pw_below_drewN | apply below_drew1) | exact HB.out | exact Below.refl _ _)⟩
     rw [if_pos c13] at H
     have c13b0 : decide (x41_2 < (l0.length : Int)) = true := decide_eq_true c13
     clear c13
     by_cases c14 : 0 ≤ x41_2
     rotate_left
     ·rw [if_neg c14] at H
      exact absurd H (by simp)
     rw [if_pos c14] at H
     have c14b0 : decide (0 ≤ x41_2) = true := decide_eq_true c14
     clear c14
     by_cases c15 : x41_2 < (l0.length : Int)
     rotate_left
     ·rw [if_neg c15] at H
      exact absurd H (by simp)
     rw [if_pos c15] at H
     have c15b0 : decide (x41_2 < (l0.length : Int)) = true := decide_eq_true c15
     clear c15
     have HC16 := Aside0.mk H
     clear H
     have p144 : 0 ≤ (x41_2 : Int) := of_decide_eq_true as_
     have q144 : x41_2 < (l0.length : Int) := of_decide_eq_true as_
     obtain ⟨ad144, e144, hx144_0, hx144_1, hx144_2⟩ := at_T37 HR0.out x41_2 p144 q144
     cases e144
     replace hx144_0 := (HB.out.cell (World.block_lt_of_cell? w _ hx144_0)).trans hx144_0
     replace hx144_1 := (HB.out.cell (World.block_lt_of_cell? w _ hx144_1)).trans hx144_1
     replace hx144_2 := (HB.out.cell (World.block_lt_of_cell? w _ hx144_2)).trans hx144_2
     replace p144 := eq_true p144
     replace q144 := eq_true q144
     go_upto_region 14 with (first | ((with_reducible refine gate_dst (N := 10) rfl ?_); refine box_event ?hg (N := 10) ?hd (cs := #[.int .i64 0, .int .i64 0, .int .i64 0]) (t := 37) ?hr ?_; (case hd => rfl); (case hg => rfl); (case hr => first | (go_simp; done) | (go_simp; rfl)); intro gb145 hg w17 hbox hb; have n0_ := Aside0.mk (Kd.R_below (by (with_reducible repeat (first | apply Kd.R_alloc | apply Kd.R_drewN | apply Kd.R_drew)); exact HO_4.out) hb); have n1_ := Aside0.mk (below_step ab_ hb); have n2_ := Aside0.mk (hbox); have n3_ := Aside0.mk ((by rw [hg]; exact (below_size ab_) : w.heap.size ≤ gb145)); have n4_ := Aside0.mk ((by rw [hg]; exact (below_size ab_) : w.heap.size ≤ gb145)); clear HO_4; clear HB; have HO_4 := n0_; have HB := n1_; have BK145 := n2_; have GW145 := n3_; have GE145 := n4_; clear n0_ n1_ n2_ n3_ n4_; clear hb hbox hg; have hcz18_0 : w17.cell? ⟨gb145, 0, none⟩ = some (.int .i64 0) := (blk_cell BK145.out 0).trans rfl; have hcz18_1 : w17.cell? ⟨gb145, 1, none⟩ = some (.int .i64 0) := (blk_cell BK145.out 1).trans rfl; have hcz18_2 : w17.cell? ⟨gb145, 2, none⟩ = some (.int .i64 0) := (blk_cell BK145.out 2).trans rfl; have hfz18_0 := blk_frozen BK145.out 0; have hfz18_1 := blk_frozen BK145.out 1; have hfz18_2 := blk_frozen BK145.out 2))
     repeat (go_quiet (first | ((with_reducible refine gate_dst (N := 10) rfl ?_); refine box_event ?hg (N := 10) ?hd (cs := #[.int .i64 0, .int .i64 0, .int .i64 0]) (t := 37) ?hr ?_; (case hd => rfl); (case hg => rfl); (case hr => first | (go_simp; done) | (go_simp; rfl)); intro gb145 hg w17 hbox hb; have n0_ := Aside0.mk (Kd.R_below (by (with_reducible repeat (first | apply Kd.R_alloc | apply Kd.R_drewN | apply Kd.R_drew)); exact HO_4.out) hb); have n1_ := Aside0.mk (below_step ab_ hb); have n2_ := Aside0.mk (hbox); have n3_ := Aside0.mk ((by rw [hg]; exact (below_size ab_) : w.heap.size ≤ gb145)); have n4_ := Aside0.mk ((by rw [hg]; exact (below_size ab_) : w.heap.size ≤ gb145)); clear HO_4; clear HB; have HO_4 := n0_; have HB := n1_; have BK145 := n2_; have GW145 := n3_; have GE145 := n4_; clear n0_ n1_ n2_ n3_ n4_; clear hb hbox hg; have hcz18_0 : w17.cell? ⟨gb145, 0, none⟩ = some (.int .i64 0) := (blk_cell BK145.out 0).trans rfl; have hcz18_1 : w17.cell? ⟨gb145, 1, none⟩ = some (.int .i64 0) := (blk_cell BK145.out 1).trans rfl; have hcz18_2 : w17.cell? ⟨gb145, 2, none⟩ = some (.int .i64 0) := (blk_cell BK145.out 2).trans rfl; have hfz18_0 := blk_frozen BK145.out 0; have hfz18_1 := blk_frozen BK145.out 1; have hfz18_2 := blk_frozen BK145.out 2)); go_upto_region 14 with (first | ((with_reducible refine gate_dst (N := 10) rfl ?_); refine box_event ?hg (N := 10) ?hd (cs := #[.int .i64 0, .int .i64 0, .int .i64 0]) (t := 37) ?hr ?_; (case hd => rfl); (case hg => rfl); (case hr => first | (go_simp; done) | (go_simp; rfl)); intro gb145 hg w17 hbox hb; have n0_ := Aside0.mk (Kd.R_below (by (with_reducible repeat (first | apply Kd.R_alloc | apply Kd.R_drewN | apply Kd.R_drew)); exact HO_4.out) hb); have n1_ := Aside0.mk (below_step ab_ hb); have n2_ := Aside0.mk (hbox); have n3_ := Aside0.mk ((by rw [hg]; exact (below_size ab_) : w.heap.size ≤ gb145)); have n4_ := Aside0.mk ((by rw [hg]; exact (below_size ab_) : w.heap.size ≤ gb145)); clear HO_4; clear HB; have HO_4 := n0_; have HB := n1_; have BK145 := n2_; have GW145 := n3_; have GE145 := n4_; clear n0_ n1_ n2_ n3_ n4_; clear hb hbox hg; have hcz18_0 : w17.cell? ⟨gb145, 0, none⟩ = some (.int .i64 0) := (blk_cell BK145.out 0).trans rfl; have hcz18_1 : w17.cell? ⟨gb145, 1, none⟩ = some (.int .i64 0) := (blk_cell BK145.out 1).trans rfl; have hcz18_2 : w17.cell? ⟨gb145, 2, none⟩ = some (.int .i64 0) := (blk_cell BK145.out 2).trans rfl; have hfz18_0 := blk_frozen BK145.out 0; have hfz18_1 := blk_frozen BK145.out 1; have hfz18_2 := blk_frozen BK145.out 2)))
     (try simp only [Act.put, setIfInBounds_toArray,set_cons_zero,set_cons_succ])
     go_cut [53] (fun v53 wc => ∃ (kq : Nat) (x53_15 : Bool), v53 = .bool x53_15 ∧ Aside0 (nest_Whole.j2 kq t136 (wrap64 ((l0.length : Int) - 1)) x41_2 l0 (l0.length : Int) x41_2 x53_15 ((rd_T37 l0 x41_2).f0) ((rd_T37 l0 x41_2).f1) ((rd_T37 l0 x41_2).f2) = some r) ∧ Aside0 (kq ≤ k2) ∧ Aside0 (Kd.R (Kd.int .i64) 3 wc w.heap.size (fun _ => True) v140 t136) ∧ Aside0 (wc.heap[gb145]? = some (.cells #[.int .i64 ((rd_T37 l0 x41_2).f0), .int .i64 ((rd_T37 l0 x41_2).f1), .int .i64 ((rd_T37 l0 x41_2).f2)] 37 (0, 0))) ∧ Aside0 (Below w.heap.size w wc))
     case first =>
      have H := HC16.out
      clear HC16
      by_cases c19 : ((rd_T37 l0 x41_2).f0) = 19
      ·rw [if_pos c19] at H
       have c19b0 : (((rd_T37 l0 x41_2).f0) == 19) = true := beq_iff_eq.mpr c19
       have c19b1 : (((rd_T37 l0 x41_2).f0) != 19) = false := bne_eq_false_iff_eq.mpr c19
       clear c19
       (first | rw [c19b0] | (simp only [i64_w, i32_w]; rw [c19b0]) | rw [c19b1] | skip)
       have H' := Aside0.mk H
       clear H
       have hcz20_0 : w17.cell? ⟨gb145, 0, none⟩ = some (.int .i64 0) := (blk_cell BK145.out 0).trans rfl
       have hcz20_1 : w17.cell? ⟨gb145, 1, none⟩ = some (.int .i64 0) := (blk_cell BK145.out 1).trans rfl
       have hcz20_2 : w17.cell? ⟨gb145, 2, none⟩ = some (.int .i64 0) := (blk_cell BK145.out 2).trans rfl
       have hfz20_0 := blk_frozen BK145.out 0
       have hfz20_1 := blk_frozen BK145.out 1
       have hfz20_2 := blk_frozen BK145.out 2
       go_wp2
       repeat (go_quiet (fail); try go_wp2)
       go_meet
       case rel => exact ⟨_, (false), (by first | rfl | (simp; done) | (simp [*]; done)), H', ⟨by have := HK1.out; have := HK2.out; first | omega | exact Nat.le_refl _⟩, ⟨by (with_reducible repeat (first | apply Kd.R_alloc | apply Kd.R_drewN | apply Kd.R_drew)); exact Kd.R_mono (Kd.R_far (p := ⟨gb145, 2, none⟩) (Kd.R_far (p := ⟨gb145, 1, none⟩) (Kd.R_far (p := ⟨gb145, 0, none⟩) (Kd.R_types HO_4.out BK145.out (by decide)) (fun _ hk => hk.2) (.int .i64 ((rd_T37 l0 x41_2).f0))) (fun _ hk => hk.2) (.int .i64 ((rd_T37 l0 x41_2).f1))) (fun _ hk => hk.2) (.int .i64 ((rd_T37 l0 x41_2).f2))) (fun _ hk => trivial)⟩, ⟨by (with_reducible repeat (first | refine blk_drewN ?_ _ | refine blk_drew ?_ | refine blk_alloc ?_ _)); refine blk_put (cs := #[.int .i64 ((rd_T37 l0 x41_2).f0), .int .i64 ((rd_T37 l0 x41_2).f1), .int .i64 0]) ?_ 2 _ rfl; (with_reducible repeat (first | refine blk_drewN ?_ _ | refine blk_drew ?_ | refine blk_alloc ?_ _)); refine blk_put (cs := #[.int .i64 ((rd_T37 l0 x41_2).f0), .int .i64 0, .int .i64 0]) ?_ 1 _ rfl; (with_reducible repeat (first | refine blk_drewN ?_ _ | refine blk_drew ?_ | refine blk_alloc ?_ _)); refine blk_put (cs := #[.int .i64 0, .int .i64 0, .int .i64 0]) ?_ 0 _ rfl; (with_reducible repeat (first | refine blk_drewN ?_ _ | refine blk_drew ?_ | refine blk_alloc ?_ _)); exact BK145.out⟩, ⟨by repeat (first | (with_reducible first | exact HB.out | apply below_alloc | apply pw_below_drewN | apply below_drew1 | refine below_set ?_ GE145.out) | exact HB.out | exact Below.refl _ _)⟩⟩
      rw [if_neg c19] at H
      have c19b0 : (((rd_T37 l0 x41_2).f0) == 19) = false := beq_eq_false_iff_ne.mpr c19
      have c19b1 : (((rd_T37 l0 x41_2).f0) != 19) = true := bne_iff_ne.mpr c19
      (first | rw [c19b0] | (simp only [i64_w, i32_w]; rw [c19b0]) | rw [c19b1] | skip)
      have H' := Aside0.mk H
      clear H
      have hcz21_0 : w17.cell? ⟨gb145, 0, none⟩ = some (.int .i64 0) := (blk_cell BK145.out 0).trans rfl
      have hcz21_1 : w17.cell? ⟨gb145, 1, none⟩ = some (.int .i64 0) := (blk_cell BK145.out 1).trans rfl
      have hcz21_2 : w17.cell? ⟨gb145, 2, none⟩ = some (.int .i64 0) := (blk_cell BK145.out 2).trans rfl
      have hfz21_0 := blk_frozen BK145.out 0
      have hfz21_1 := blk_frozen BK145.out 1
      have hfz21_2 := blk_frozen BK145.out 2
      go_wp2
      repeat (go_quiet (fail); try go_wp2)
      go_meet
      case rel => exact ⟨_, ((((rd_T37 l0 x41_2).f0) != 20)), (by first | rfl | (simp; done) | (simp [*]; done)), H', ⟨by have := HK1.out; have := HK2.out; first | omega | exact Nat.le_refl _⟩, ⟨by (with_reducible repeat (first | apply Kd.R_alloc | apply Kd.R_drewN | apply Kd.R_drew)); exact Kd.R_mono (Kd.R_far (p := ⟨gb145, 2, none⟩) (Kd.R_far (p := ⟨gb145, 1, none⟩) (Kd.R_far (p := ⟨gb145, 0, none⟩) (Kd.R_types HO_4.out BK145.out (by decide)) (fun _ hk => hk.2) (.int .i64 ((rd_T37 l0 x41_2).f0))) (fun _ hk => hk.2) (.int .i64 ((rd_T37 l0 x41_2).f1))) (fun _ hk => hk.2) (.int .i64 ((rd_T37 l0 x41_2).f2))) (fun _ hk => trivial)⟩, ⟨by (with_reducible repeat (first | refine blk_drewN ?_ _ | refine blk_drew ?_ | refine blk_alloc ?_ _)); refine blk_put (cs := #[.int .i64 ((rd_T37 l0 x41_2).f0), .int .i64 ((rd_T37 l0 x41_2).f1), .int .i64 0]) ?_ 2 _ rfl; (with_reducible repeat (first | refine blk_drewN ?_ _ | refine blk_drew ?_ | refine blk_alloc ?_ _)); refine blk_put (cs := #[.int .i64 ((rd_T37 l0 x41_2).f0), .int .i64 0, .int .i64 0]) ?_ 1 _ rfl; (with_reducible repeat (first | refine blk_drewN ?_ _ | refine blk_drew ?_ | refine blk_alloc ?_ _)); refine blk_put (cs := #[.int .i64 0, .int .i64 0, .int .i64 0]) ?_ 0 _ rfl; (with_reducible repeat (first | refine blk_drewN ?_ _ | refine blk_drew ?_ | refine blk_alloc ?_ _)); exact BK145.out⟩, ⟨by repeat (first | (with_reducible first | exact HB.out | apply below_alloc | apply pw_below_drewN | apply below_drew1 | refine below_set ?_ GE145.out) | exact HB.out | exact Below.refl _ _)⟩⟩
     case rest =>
      clear HC16
      try clear c1
      try clear p1
      try clear q1
      try clear hx1
      try clear p2
      try clear c3
      try clear c3b0
      try clear c3b1
      try clear c5
      try clear c5b0
      try clear c6
      try clear c6b0
      try clear p6
      try clear c7
      try clear c7b0
      try clear c8
      try clear c8b0
      try clear c8b1
      try clear c8b2
      try clear c13
      try clear c13b0
      try clear c14
      try clear c14b0
      try clear p14
      try clear q14
      try clear hx14
      try clear c15
      try clear c15b0
      try clear c17
      try clear c19
      try clear c19b0
      try clear c19b1
      try clear hcz10_0
      try clear hcz10_1
      try clear hcz10_2
      try clear hcz12_0
      try clear hcz12_1
      try clear hcz12_2
      try clear hcz18_0
      try clear hcz18_1
      try clear hcz18_2
      try clear hcz20_0
      try clear hcz20_1
      try clear hcz20_2
      try clear hcz21_0
      try clear hcz21_1
      try clear hcz21_2
      try clear hfz10_0
      try clear hfz10_1
      try clear hfz10_2
      try clear hfz12_0
      try clear hfz12_1
      try clear hfz12_2
      try clear hfz18_0
      try clear hfz18_1
      try clear hfz18_2
      try clear hfz20_0
      try clear hfz20_1
      try clear hfz20_2
      try clear hfz21_0
      try clear hfz21_1
      try clear hfz21_2
      try clear hx142_0
      try clear hx142_1
      try clear hx142_2
      try clear hx144_0
      try clear hx144_1
      try clear hx144_2
      try clear p1
      try clear p142
      try clear p144
      try clear p2
      try clear p6
      try clear q1
      try clear q142
      try clear q144
      obtain ⟨kq, x53_15, rfl, HA, HJ15, HO_4, BK145, HB⟩ := hcut
      cases kq with
      | zero => exact absurd HA.out (by simp [nest_Whole.j2])
      | succ kj15 =>
       have H := HA.out
       clear HA
       simp only [nest_Whole.j2] at H
       by_cases c22 : x53_15 = true
       ·subst c22
        have H1 : (nest_Whole.l1 kj15 t136 (wrap64 ((l0.length : Int) - 1)) l0 (l0.length : Int) (wrap64 (x41_2 + 1))) = some r := by rw [if_pos rfl] at H; exact H
        clear H
        have H := H1
        clear H1
        have H' := Aside0.mk H
        clear H
        go_wp2
        repeat (go_quiet (fail); try go_wp2)
        go_roundg kj15
        case measure => have := HK1.out; have := HK2.out; have := HJ15.out; omega
        case rel => exact ⟨(wrap64 (x41_2 + 1)), (by first | rfl | (simp; done) | (simp [*]; done)), H', ⟨by have := HK1.out; have := HK2.out; have := HJ15.out; omega⟩, ⟨by (with_reducible repeat (first | apply Kd.R_alloc | apply Kd.R_drewN | apply Kd.R_drew)); exact HO_4.out⟩, ⟨by repeat (first | (with_reducible first | exact HB.out | apply below_alloc | apply pw_below_drewN | apply below_drew1 | refine below_set ?_ GE145.out) | exact HB.out | exact Below.refl _ _)⟩⟩
       replace c22 := Bool.eq_false_iff.mpr c22
       subst c22
       have H1 : (if (wrap64 ((wrap64 (x41_2 + 1)) + ((rd_T37 l0 x41_2).f1))) > (wrap64 ((l0.length : Int) - 1)) then (some 8) else (if 0 ≤ (wrap64 ((wrap64 (x41_2 + 1)) + ((rd_T37 l0 x41_2).f1))) then (if (wrap64 ((wrap64 (x41_2 + 1)) + ((rd_T37 l0 x41_2).f1))) < (t136.length : Int) then (if 0 ≤ x41_2 then (if x41_2 < (t136.length : Int) then (if (rd t136 (wrap64 ((wrap64 (x41_2 + 1)) + ((rd_T37 l0 x41_2).f1)))) = (rd t136 x41_2) then (nest_Whole.l1 kj15 t136 (wrap64 ((l0.length : Int) - 1)) l0 (l0.length : Int) (wrap64 (x41_2 + 1))) else (some 8)) else (none)) else (none)) else (none)) else (none))) = some r := by rw [if_neg (show ¬ (false = true) by decide)] at H; exact H
       clear H
       have H := H1
       clear H1
       by_cases c23 : (wrap64 ((wrap64 (x41_2 + 1)) + ((rd_T37 l0 x41_2).f1))) > (wrap64 ((l0.length : Int) - 1))
       ·rw [if_pos c23] at H
        have c23b0 : decide ((wrap64 ((l0.length : Int) - 1)) < (wrap64 ((wrap64 (x41_2 + 1)) + ((rd_T37 l0 x41_2).f1)))) = true := decide_eq_true c23
        clear c23
        obtain rfl := Option.some.inj H
        have hcz24_0 : wc.cell? ⟨gb145, 0, none⟩ = some (.int .i64 ((rd_T37 l0 x41_2).f0)) := (blk_cell BK145.out 0).trans rfl
        have hcz24_1 : wc.cell? ⟨gb145, 1, none⟩ = some (.int .i64 ((rd_T37 l0 x41_2).f1)) := (blk_cell BK145.out 1).trans rfl
        have hcz24_2 : wc.cell? ⟨gb145, 2, none⟩ = some (.int .i64 ((rd_T37 l0 x41_2).f2)) := (blk_cell BK145.out 2).trans rfl
        have hfz24_0 := blk_frozen BK145.out 0
        have hfz24_1 := blk_frozen BK145.out 1
        have hfz24_2 := blk_frozen BK145.out 2
        go_wp2
        repeat (go_quiet (fail); try go_wp2)
        go_ret
        exact ⟨by first | rfl | (simp [errW_none, errW_some] <;> rfl) | (simp [*, errW_none, errW_some] <;> rfl), by repeat (first | (with_reducible first | exact HB.out | apply below_alloc | apply pw_below_drewN | apply below_drew1 | refine below_set ?_ GE145.out) | exact HB.out | exact Below.refl _ _)⟩
       rw [if_neg c23] at H
       have c23b0 : decide ((wrap64 ((l0.length : Int) - 1)) < (wrap64 ((wrap64 (x41_2 + 1)) + ((rd_T37 l0 x41_2).f1)))) = false := decide_eq_false c23
       clear c23
       obtain ⟨ji25, hji25⟩ : ∃ j_ : Int, (wrap64 ((wrap64 (x41_2 + 1)) + ((rd_T37 l0 x41_2).f1))) = j_ := ⟨_, rfl⟩
       replace H : (if 0 ≤ (ji25) then (if (ji25) < (t136.length : Int) then (if 0 ≤ x41_2 then (if x41_2 < (t136.length : Int) then (if (rd t136 (ji25)) = (rd t136 x41_2) then (nest_Whole.l1 kj15 t136 (wrap64 ((l0.length : Int) - 1)) l0 (l0.length : Int) (wrap64 (x41_2 + 1))) else (some 8)) else (none)) else (none)) else (none)) else (none)) = some r := by first | (rw [hji25] at H; exact H) | (simp only [hji25] at H ⊢; exact H)
       (try rw [hji25] at c23b0)
       have hji25w : (IntKind.i64.wrap ((wrap64 (x41_2 + 1)) + ((rd_T37 l0 x41_2).f1))) = ji25 := (i64_w _).trans hji25
       by_cases c26 : 0 ≤ (ji25)
       rotate_left
       ·rw [if_neg c26] at H
        exact absurd H (by simp)
       rw [if_pos c26] at H
       have c26b0 : decide (0 ≤ (ji25)) = true := decide_eq_true c26
       clear c26
       by_cases c27 : (ji25) < (t136.length : Int)
       rotate_left
       ·rw [if_neg c27] at H
        exact absurd H (by simp)
       rw [if_pos c27] at H
       have c27b0 : decide ((ji25) < (t136.length : Int)) = true := decide_eq_true c27
       clear c27
       by_cases c28 : 0 ≤ x41_2
       rotate_left
       ·rw [if_neg c28] at H
        exact absurd H (by simp)
       rw [if_pos c28] at H
       have c28b0 : decide (0 ≤ x41_2) = true := decide_eq_true c28
       clear c28
       by_cases c29 : x41_2 < (t136.length : Int)
       rotate_left
       ·rw [if_neg c29] at H
        exact absurd H (by simp)
       rw [if_pos c29] at H
       have c29b0 : decide (x41_2 < (t136.length : Int)) = true := decide_eq_true c29
       clear c29
       by_cases c30 : (rd t136 (ji25)) = (rd t136 x41_2)
       rotate_left
       ·rw [if_neg c30] at H
        have c30b0 : ((rd t136 (ji25)) == (rd t136 x41_2)) = false := beq_eq_false_iff_ne.mpr c30
        have c30b1 : ((rd t136 (ji25)) != (rd t136 x41_2)) = true := bne_iff_ne.mpr c30
        obtain rfl := Option.some.inj H
        have hcz33_0 : wc.cell? ⟨gb145, 0, none⟩ = some (.int .i64 ((rd_T37 l0 x41_2).f0)) := (blk_cell BK145.out 0).trans rfl
        have hcz33_1 : wc.cell? ⟨gb145, 1, none⟩ = some (.int .i64 ((rd_T37 l0 x41_2).f1)) := (blk_cell BK145.out 1).trans rfl
        have hcz33_2 : wc.cell? ⟨gb145, 2, none⟩ = some (.int .i64 ((rd_T37 l0 x41_2).f2)) := (blk_cell BK145.out 2).trans rfl
        have hfz33_0 := blk_frozen BK145.out 0
        have hfz33_1 := blk_frozen BK145.out 1
        have hfz33_2 := blk_frozen BK145.out 2
        obtain ⟨Ao34, co34, eo34⟩ := Kd.R_slice HO_4.out
        subst eo34
        have p146 : 0 ≤ ((ji25) : Int) := of_decide_eq_true as_
        have q146 : (ji25) < (t136.length : Int) := of_decide_eq_true as_
        obtain ⟨ad146, e146, hx146_0⟩ := Kd.at_int (Kd.R_reads' HO_4.out).2.2 (ji25) p146 q146
        cases e146
        replace p146 := eq_true p146
        replace q146 := eq_true q146
        have p147 : 0 ≤ (x41_2 : Int) := of_decide_eq_true as_
        have q147 : x41_2 < (t136.length : Int) := of_decide_eq_true as_
        obtain ⟨ad147, e147, hx147_0⟩ := Kd.at_int (Kd.R_reads' HO_4.out).2.2 x41_2 p147 q147
        obtain rfl : ad146 = ad147 := (by injection e147)
        replace p147 := eq_true p147
        replace q147 := eq_true q147
        go_wp2
        repeat (go_quiet (fail); try go_wp2)
        go_ret
        exact ⟨by first | rfl | (simp [errW_none, errW_some] <;> rfl) | (simp only [← hji25]; first | rfl | (simp [errW_none, errW_some] <;> rfl)) | (simp [*, errW_none, errW_some] <;> rfl), by repeat (first | (with_reducible first | exact HB.out | apply below_alloc | apply pw_below_drewN | apply below_drew1 | refine below_set ?_ GE145.out) | exact HB.out | exact Below.refl _ _)⟩
       rw [if_pos c30] at H
       have c30b0 : ((rd t136 (ji25)) == (rd t136 x41_2)) = true := beq_iff_eq.mpr c30
       have c30b1 : ((rd t136 (ji25)) != (rd t136 x41_2)) = false := bne_eq_false_iff_eq.mpr c30
       clear c30
       have H' := Aside0.mk H
       clear H
       have hcz31_0 : wc.cell? ⟨gb145, 0, none⟩ = some (.int .i64 ((rd_T37 l0 x41_2).f0)) := (blk_cell BK145.out 0).trans rfl
       have hcz31_1 : wc.cell? ⟨gb145, 1, none⟩ = some (.int .i64 ((rd_T37 l0 x41_2).f1)) := (blk_cell BK145.out 1).trans rfl
       have hcz31_2 : wc.cell? ⟨gb145, 2, none⟩ = some (.int .i64 ((rd_T37 l0 x41_2).f2)) := (blk_cell BK145.out 2).trans rfl
       have hfz31_0 := blk_frozen BK145.out 0
       have hfz31_1 := blk_frozen BK145.out 1
       have hfz31_2 := blk_frozen BK145.out 2
       obtain ⟨Ao32, co32, eo32⟩ := Kd.R_slice HO_4.out
       subst eo32
       have p146 : 0 ≤ ((ji25) : Int) := of_decide_eq_true as_
       have q146 : (ji25) < (t136.length : Int) := of_decide_eq_true as_
       obtain ⟨ad146, e146, hx146_0⟩ := Kd.at_int (Kd.R_reads' HO_4.out).2.2 (ji25) p146 q146
       cases e146
       replace p146 := eq_true p146
       replace q146 := eq_true q146
       have p147 : 0 ≤ (x41_2 : Int) := of_decide_eq_true as_
       have q147 : x41_2 < (t136.length : Int) := of_decide_eq_true as_
       obtain ⟨ad147, e147, hx147_0⟩ := Kd.at_int (Kd.R_reads' HO_4.out).2.2 x41_2 p147 q147
       obtain rfl : ad146 = ad147 := (by injection e147)
       replace p147 := eq_true p147
       replace q147 := eq_true q147
       go_wp2
       repeat (go_quiet (fail); try go_wp2)
       go_roundg kj15
       case measure => have := HK1.out; have := HK2.out; have := HJ15.out; omega
       case rel => exact ⟨(wrap64 (x41_2 + 1)), (by first | rfl | (simp; done) | (simp [*]; done)), H', ⟨by have := HK1.out; have := HK2.out; have := HJ15.out; omega⟩, ⟨by (with_reducible repeat (first | apply Kd.R_alloc | apply Kd.R_drewN | apply Kd.R_drew)); exact HO_4.out⟩, ⟨by repeat (first | (with_reducible first | exact HB.out | apply below_alloc | apply pw_below_drewN | apply below_drew1 | refine below_set ?_ GE145.out) | exact HB.out | exact Below.refl _ _)⟩⟩

end Go.Proofs.Ytdhlhbhclggheaa.D
