-- Written by a program of this session (wip/tools: patched print) for this claim. Not trusted: Lean checks it.
import Derived.Test.YtljgllcllddcdaaPx0
import Derived.Test.YtljgllcllddcdaaPx16
namespace Go.Proofs.Ytljgllcllddcdaa.P
open Go.RowKit Go.Proofs.YtljgllcllddcdaaW.PrintWords Go.Proofs.YtljgllcllddcdaaW.PrintLast Go.Proofs.YtljgllcllddcdaaW.PrintMore
open List (setIfInBounds_toArray set_cons_zero set_cons_succ)
attribute [local go_sem] max2_int min2_int max_two min_two max_three min_three max_four min_four   -- for this text's walks alone
set_option linter.unusedVariables false
set_option linter.unusedSimpArgs false

/-! ### camshaftref06_bad: function 29 -/
mutual
def camshaftref06_bad.l0 : Nat → List (S32) → List Int → Int → Bool → Int → Int → Int → Int → Option (Bool)
 | 0, _, _, _, _, _, _, _, _ => none
 | k + 1, x0, x1, x2, x8, x9, x342000, x342001, x342002 => if x9 < x2 then (if x342000 = 23 then (if 0 ≤ x9 then (if x9 < (x0.length : Int) then (if ((rd_T32 x0 x9).f0) = 24 then (camshaftref06_bad.j1 k x0 x1 x2 x8 x9 true x342000 x342001 x342002) else ((camshaftref06_within.f x1 x9 x2).bind fun t343 => (if t343 = true then (if ((rd_T32 x0 x9).f0) = 21 then (camshaftref06_bad.j1 k x0 x1 x2 x8 x9 true x342000 x342001 x342002) else (if ((rd_T32 x0 x9).f0) = 23 then (camshaftref06_bad.j1 k x0 x1 x2 x8 x9 (decide (((rd_T32 x0 x9).f1) ≥ x342001)) x342000 x342001 x342002) else (camshaftref06_bad.j1 k x0 x1 x2 x8 x9 false x342000 x342001 x342002))) else (camshaftref06_bad.j1 k x0 x1 x2 x8 x9 false x342000 x342001 x342002)))) else (none)) else (none)) else (camshaftref06_bad.j2 k x0 x1 x2 x8 x9 x342000 x342001 x342002)) else (if x342000 = 17 then (some (!x8)) else (if x342000 = 18 then (some (!x8)) else (some false)))
def camshaftref06_bad.j2 : Nat → List (S32) → List Int → Int → Bool → Int → Int → Int → Int → Option (Bool)
 | 0, _, _, _, _, _, _, _, _ => none
 | k + 1, x0, x1, x2, x8, x9, x342000, x342001, x342002 => if x8 = true then (camshaftref06_bad.l0 k x0 x1 x2 true (wrap64 (x9 + 1)) x342000 x342001 x342002) else (if 0 ≤ x9 then (if x9 < (x0.length : Int) then (if ((rd_T32 x0 x9).f0) = 23 then (if ((rd_T32 x0 x9).f1) = x342001 then ((camshaftref06_within.f x1 x9 x2).bind fun t349 => (camshaftref06_bad.l0 k x0 x1 x2 t349 (wrap64 (x9 + 1)) x342000 x342001 x342002)) else (camshaftref06_bad.l0 k x0 x1 x2 false (wrap64 (x9 + 1)) x342000 x342001 x342002)) else (camshaftref06_bad.l0 k x0 x1 x2 false (wrap64 (x9 + 1)) x342000 x342001 x342002)) else (none)) else (none))
def camshaftref06_bad.j1 : Nat → List (S32) → List Int → Int → Bool → Int → Bool → Int → Int → Int → Option (Bool)
 | 0, _, _, _, _, _, _, _, _, _ => none
 | k + 1, x0, x1, x2, x8, x9, x59, x342000, x342001, x342002 => if x59 = true then (some true) else (camshaftref06_bad.j2 k x0 x1 x2 x8 x9 x342000 x342001 x342002)
end
def camshaftref06_bad.f (k : Nat) (l0 : List (S32)) (l1 : List Int) (a2 : Int) : Option (Bool) := if 0 ≤ a2 then (if a2 < (l0.length : Int) then (camshaftref06_bad.l0 k l0 l1 a2 false 0 ((rd_T32 l0 a2).f0) ((rd_T32 l0 a2).f1) ((rd_T32 l0 a2).f2)) else (none)) else (none)
theorem camshaftref06_bad.mono_l : ∀ k, (∀ y0 y1 y2 y3 y4 y5 y6 y7, LeO (camshaftref06_bad.l0 k y0 y1 y2 y3 y4 y5 y6 y7) (camshaftref06_bad.l0 (k + 1) y0 y1 y2 y3 y4 y5 y6 y7)) ∧ (∀ y0 y1 y2 y3 y4 y5 y6 y7, LeO (camshaftref06_bad.j2 k y0 y1 y2 y3 y4 y5 y6 y7) (camshaftref06_bad.j2 (k + 1) y0 y1 y2 y3 y4 y5 y6 y7)) ∧ (∀ y0 y1 y2 y3 y4 y5 y6 y7 y8, LeO (camshaftref06_bad.j1 k y0 y1 y2 y3 y4 y5 y6 y7 y8) (camshaftref06_bad.j1 (k + 1) y0 y1 y2 y3 y4 y5 y6 y7 y8))
 | 0 => ⟨fun _ _ _ _ _ _ _ _ r h => by simp [camshaftref06_bad.l0] at h, fun _ _ _ _ _ _ _ _ r h => by simp [camshaftref06_bad.j2] at h, fun _ _ _ _ _ _ _ _ _ r h => by simp [camshaftref06_bad.j1] at h⟩
 | k + 1 => by
  obtain ⟨ih0, ih1, ih2⟩ := camshaftref06_bad.mono_l k
  refine ⟨?_, ?_, ?_⟩
  ·intro y0 y1 y2 y3 y4 y5 y6 y7
   unfold camshaftref06_bad.l0
   repeat' first
   | (with_reducible exact ih0 _ _ _ _ _ _ _ _)
   | (with_reducible exact ih1 _ _ _ _ _ _ _ _)
   | (with_reducible exact ih2 _ _ _ _ _ _ _ _ _)
   | (with_reducible exact LeO.refl _)
   | (with_reducible exact LeO.none _)
   | (with_reducible refine LeO.ite ?_ ?_)
   | (with_reducible refine LeO.bind ?_ (fun _ => ?_))
   | exact ih0 _ _ _ _ _ _ _ _
   | exact ih1 _ _ _ _ _ _ _ _
   | exact ih2 _ _ _ _ _ _ _ _ _
   | exact LeO.none _
   | refine LeO.ite ?_ ?_
   | refine LeO.bind ?_ (fun _ => ?_)
  ·intro y0 y1 y2 y3 y4 y5 y6 y7
   unfold camshaftref06_bad.j2
   repeat' first
   | (with_reducible exact ih0 _ _ _ _ _ _ _ _)
   | (with_reducible exact ih1 _ _ _ _ _ _ _ _)
   | (with_reducible exact ih2 _ _ _ _ _ _ _ _ _)
   | (with_reducible exact LeO.refl _)
   | (with_reducible exact LeO.none _)
   | (with_reducible refine LeO.ite ?_ ?_)
   | (with_reducible refine LeO.bind ?_ (fun _ => ?_))
   | exact ih0 _ _ _ _ _ _ _ _
   | exact ih1 _ _ _ _ _ _ _ _
   | exact ih2 _ _ _ _ _ _ _ _ _
   | exact LeO.none _
   | refine LeO.ite ?_ ?_
   | refine LeO.bind ?_ (fun _ => ?_)
  ·intro y0 y1 y2 y3 y4 y5 y6 y7 y8
   unfold camshaftref06_bad.j1
   repeat' first
   | (with_reducible exact ih0 _ _ _ _ _ _ _ _)
   | (with_reducible exact ih1 _ _ _ _ _ _ _ _)
   | (with_reducible exact ih2 _ _ _ _ _ _ _ _ _)
   | (with_reducible exact LeO.refl _)
   | (with_reducible exact LeO.none _)
   | (with_reducible refine LeO.ite ?_ ?_)
   | (with_reducible refine LeO.bind ?_ (fun _ => ?_))
   | exact ih0 _ _ _ _ _ _ _ _
   | exact ih1 _ _ _ _ _ _ _ _
   | exact ih2 _ _ _ _ _ _ _ _ _
   | exact LeO.none _
   | refine LeO.ite ?_ ?_
   | refine LeO.bind ?_ (fun _ => ?_)
theorem camshaftref06_bad.mono : ∀ a0 a1 a2 k, LeO (camshaftref06_bad.f k a0 a1 a2) (camshaftref06_bad.f (k + 1) a0 a1 a2) := by
 intro a0 a1 a2 k
 obtain ⟨ih0, ih1, ih2⟩ := camshaftref06_bad.mono_l k
 unfold camshaftref06_bad.f
 repeat' first
   | (with_reducible exact ih0 _ _ _ _ _ _ _ _)
   | (with_reducible exact ih1 _ _ _ _ _ _ _ _)
   | (with_reducible exact ih2 _ _ _ _ _ _ _ _ _)
   | (with_reducible exact LeO.refl _)
   | (with_reducible exact LeO.none _)
   | (with_reducible refine LeO.ite ?_ ?_)
   | (with_reducible refine LeO.bind ?_ (fun _ => ?_))
   | exact ih0 _ _ _ _ _ _ _ _
   | exact ih1 _ _ _ _ _ _ _ _
   | exact ih2 _ _ _ _ _ _ _ _ _
   | exact LeO.none _
   | refine LeO.ite ?_ ?_
   | refine LeO.bind ?_ (fun _ => ?_)
def camshaftref06_bad.T7 : Bool × List (List Nat × List Nat) := (true, [([], []), ([], []), ([0, 1], [0, 1]), ([2], [2]), ([3], [3]), ([4], [4]), ([5], [5]), ([6], [6]), ([6], [6]), ([6], [6]), ([7, 8, 9, 6, 6], [6, 7, 8, 9]), ([10, 10, 6], [6, 10]), ([11], [11]), ([11], [11]), ([12, 13, 11], [11, 12, 13]), ([14, 11], [11, 14]), ([15, 11], [11, 15]), ([16, 11], [11, 16]), ([17, 11, 11], [11, 17]), ([18], [18]), ([18], [18]), ([19, 20, 18], [18, 19, 20]), ([21, 18], [18, 21]), ([22, 18], [18, 22]), ([23, 18], [18, 23]), ([24, 18, 18], [18, 24]), ([25], [25]), ([25], [25]), ([26, 27, 25], [25, 26, 27]), ([28, 25], [25, 28]), ([29, 25], [25, 29]), ([25], [25]), ([31, 25], [25, 31]), ([30, 32, 25], [25, 30, 32]), ([25, 33, 18], [18, 25, 33]), ([18, 34, 11], [11, 18, 34]), ([11, 35, 6], [6, 11, 35]), ([6, 36], [6, 36])])
def camshaftref06_bad.B7 : List Nat := [0, 0, 3, 7, 15, 31, 63, 127, 127, 127, 1023, 2047, 4095, 4095, 16383, 32767, 65535, 131071, 262143, 524287, 524287, 2097151, 4194303, 8388607, 16777215, 33554431, 67108863, 67108863, 268435455, 536870911, 1073741823, 67108863, 2214592511, 8589934591, 17179869183, 34359738367, 68719476735, 137438953471]
theorem camshaftref06_bad.tab7 : rtab .any (opsOf Try.f29 7) = camshaftref06_bad.T7 := by kernel_rfl
theorem camshaftref06_bad.bits7 : waitsOk camshaftref06_bad.T7.2 camshaftref06_bad.B7 = true := by kernel_rfl
def camshaftref06_bad.T9 : Bool × List (List Nat × List Nat) := (true, [([], []), ([0], [0]), ([1], [1]), ([1], [1]), ([2, 3, 1], [1, 2, 3]), ([4, 1], [1, 4]), ([5, 1], [1, 5]), ([6, 1], [1, 6]), ([7, 1, 1], [1, 7]), ([8], [8]), ([8], [8]), ([9, 10, 8], [8, 9, 10]), ([11, 8], [8, 11]), ([12, 8], [8, 12]), ([8], [8]), ([14, 8], [8, 14]), ([13, 15, 8], [8, 13, 15]), ([8, 16, 1], [1, 8, 16]), ([17, 8, 1], [1, 17]), ([18], [18]), ([18], [18]), ([18], [18]), ([19, 20, 21, 18, 18], [18, 19, 20, 21]), ([18, 22, 1], [1, 18, 22]), ([1, 23], [1, 23]), ([24, 22, 0, 1, 2, 3, 4, 5, 6, 7, 8, 9, 10, 11, 12, 13, 14, 15, 16, 17, 18, 19, 20, 21, 22, 23, 24], [0, 24])])
def camshaftref06_bad.B9 : List Nat := [0, 1, 3, 3, 15, 31, 63, 127, 255, 511, 511, 2047, 4095, 8191, 511, 16895, 65535, 131071, 262143, 524287, 524287, 524287, 4194303, 8388607, 16777215, 33554431]
theorem camshaftref06_bad.tab9 : rtab .any (opsOf Try.f29 9) = camshaftref06_bad.T9 := by kernel_rfl
theorem camshaftref06_bad.bits9 : waitsOk camshaftref06_bad.T9.2 camshaftref06_bad.B9 = true := by kernel_rfl
set_option maxHeartbeats 8000000 in
set_option maxRecDepth 100000 in
theorem camshaftref06_bad.calls (k : Nat) (A0 : Option Addr) (c0 : Nat) (l0 : List (S32)) (A1 : Option Addr) (c1 : Nat) (l1 : List Int) (a2 : Int) (r : Bool) (w : World) (hr0 : Kd.C k32 w A0 l0.length l0) (hc0 : l0.length ≤ c0) (hr1 : Kd.C (Kd.int .i64) w A1 l1.length l1) (hc1 : l1.length ≤ c1) (h : camshaftref06_bad.f k l0 l1 a2 = some r) :
  Calls Try.prog 29 #[.slice A0 l0.length c0, .slice A1 l1.length c1, .int .i64 a2] w fun e w' => e = .returned (.bool r) ∧ Below w.heap.size w w' := by
 have hu32 := Try.underlying32
 have HR0 := Aside0.mk hr0
 have HC0 := Aside0.mk hc0
 clear hr0 hc0
 have HR1 := Aside0.mk hr1
 have HC1 := Aside0.mk hc1
 clear hr1 hc1
 have HB := Aside0.mk (Below.refl w.heap.size w)
 have H : (if 0 ≤ a2 then (if a2 < (l0.length : Int) then (camshaftref06_bad.l0 k l0 l1 a2 false 0 ((rd_T32 l0 a2).f0) ((rd_T32 l0 a2).f1) ((rd_T32 l0 a2).f2)) else (none)) else (none)) = some r := h
 clear h
 by_cases c4 : 0 ≤ a2
 rotate_left
 ·rw [if_neg c4] at H
  exact absurd H (by simp)
 rw [if_pos c4] at H
 have c4b0 : decide (0 ≤ a2) = true := decide_eq_true c4
 clear c4
 by_cases c5 : a2 < (l0.length : Int)
 rotate_left
 ·rw [if_neg c5] at H
  exact absurd H (by simp)
 rw [if_pos c5] at H
 have c5b0 : decide (a2 < (l0.length : Int)) = true := decide_eq_true c5
 clear c5
 have H' := Aside0.mk H
 clear H
 have p340 : 0 ≤ (a2 : Int) := of_decide_eq_true (by first | (with_reducible assumption) | assumption)
 have q340 : a2 < (l0.length : Int) := of_decide_eq_true (by first | (with_reducible assumption) | assumption)
 obtain ⟨ad340, e340, hx340_0, hx340_1, hx340_2⟩ := at_T32 HR0.out a2 p340 q340
 cases e340
 replace p340 := eq_true p340
 replace q340 := eq_true q340
 go_enter Try.func29, Try.ntmps29
 go_wp2_with (first | ((with_reducible refine gate_dst (N := 7) rfl ?_); refine box_event ?hg (N := 7) ?hd (cs := #[.int .i64 0, .int .i64 0, .int .i64 0]) (t := 32) ?hr ?_; (case hd => rfl); (case hg => rfl); (case hr => first | (go_simp; done) | (go_simp; rfl)); intro gb341 hg w6 hbox hb; have n0_ := Aside0.mk (below_step (by repeat (first | (with_reducible first | exact HB.out | apply below_alloc | apply pw_below_drewN | apply below_drew1) | exact HB.out)) hb); have n1_ := Aside0.mk (hbox); have n2_ := Aside0.mk ((by rw [hg]; exact (below_size (by repeat (first | (with_reducible first | exact HB.out | apply below_alloc | apply pw_below_drewN | apply below_drew1) | exact HB.out))) : w.heap.size ≤ gb341)); have n3_ := Aside0.mk ((by rw [hg]; exact (below_size (by repeat (first | (with_reducible first | exact HB.out | apply below_alloc | apply pw_below_drewN | apply below_drew1) | exact HB.out))) : w.heap.size ≤ gb341)); clear HB; have HB := n0_; have BK341 := n1_; have GW341 := n2_; have GE341 := n3_; clear n0_ n1_ n2_ n3_; clear hb hbox hg; have hcz7_0 : w6.cell? ⟨gb341, 0, none⟩ = some (.int .i64 0) := (blk_cell BK341.out 0).trans rfl; have hcz7_1 : w6.cell? ⟨gb341, 1, none⟩ = some (.int .i64 0) := (blk_cell BK341.out 1).trans rfl; have hcz7_2 : w6.cell? ⟨gb341, 2, none⟩ = some (.int .i64 0) := (blk_cell BK341.out 2).trans rfl; have hfz7_0 := blk_frozen BK341.out 0; have hfz7_1 := blk_frozen BK341.out 1; have hfz7_2 := blk_frozen BK341.out 2))
 go_loopg [8, 9] k (fun kq v8 v9 w' => ∃ (x8_1 : Bool) (x9_1 : Int), v8 = .bool x8_1 ∧ v9 = .int .i64 x9_1 ∧ Aside0 (camshaftref06_bad.l0 kq l0 l1 a2 x8_1 x9_1 ((rd_T32 l0 a2).f0) ((rd_T32 l0 a2).f1) ((rd_T32 l0 a2).f2) = some r) ∧ Aside0 (kq ≤ k) ∧ Aside0 (w'.heap[gb341]? = some (.cells #[.int .i64 ((rd_T32 l0 a2).f0), .int .i64 ((rd_T32 l0 a2).f1), .int .i64 ((rd_T32 l0 a2).f2)] 32 (0, 0))) ∧ Aside0 (Below w.heap.size w w'))
 case atStart => exact ⟨(false), (0), (by first | rfl | (simp; done) | (simp [*]; done)), (by first | rfl | (simp; done) | (simp [*]; done)), H', ⟨Nat.le_refl _⟩, ⟨by (with_reducible repeat (first | refine blk_drewN ?_ _ | refine blk_drew ?_ | refine blk_alloc ?_ _)); refine blk_put (cs := #[.int .i64 ((rd_T32 l0 a2).f0), .int .i64 ((rd_T32 l0 a2).f1), .int .i64 0]) ?_ 2 _ rfl; (with_reducible repeat (first | refine blk_drewN ?_ _ | refine blk_drew ?_ | refine blk_alloc ?_ _)); refine blk_put (cs := #[.int .i64 ((rd_T32 l0 a2).f0), .int .i64 0, .int .i64 0]) ?_ 1 _ rfl; (with_reducible repeat (first | refine blk_drewN ?_ _ | refine blk_drew ?_ | refine blk_alloc ?_ _)); refine blk_put (cs := #[.int .i64 0, .int .i64 0, .int .i64 0]) ?_ 0 _ rfl; (with_reducible repeat (first | refine blk_drewN ?_ _ | refine blk_drew ?_ | refine blk_alloc ?_ _)); exact BK341.out⟩, ⟨by repeat (first | (with_reducible first | exact HB.out | apply below_alloc | apply pw_below_drewN | apply below_drew1 | refine below_set ?_ GE341.out) | exact HB.out)⟩⟩
 case round =>
  clear H'
  try clear c1
  try clear c2
  try clear p2
  try clear p3
  try clear q3
  try clear hx3
  try clear c4
  try clear c4b0
  try clear c5
  try clear c5b0
  try clear hcz7_0
  try clear hcz7_1
  try clear hcz7_2
  try clear hfz7_0
  try clear hfz7_1
  try clear hfz7_2
  try clear hx340_0
  try clear hx340_1
  try clear hx340_2
  try clear p340
  try clear q340
  obtain ⟨x8_1, x9_1, rfl, rfl, HA, HK1, BK341, HB⟩ := hrel
  cases gk with
  | zero => exact absurd HA.out (by simp [camshaftref06_bad.l0])
  | succ k1 =>
   have H := HA.out
   clear HA
   simp only [camshaftref06_bad.l0] at H
   by_cases c8 : x9_1 < a2
   rotate_left
   ·rw [if_neg c8] at H
    have c8b0 : decide (x9_1 < a2) = false := decide_eq_false c8
    clear c8
    by_cases c36 : ((rd_T32 l0 a2).f0) = 17
    ·rw [if_pos c36] at H
     have c36b0 : (((rd_T32 l0 a2).f0) == 17) = true := beq_iff_eq.mpr c36
     have c36b1 : (((rd_T32 l0 a2).f0) != 17) = false := bne_eq_false_iff_eq.mpr c36
     clear c36
     obtain rfl := Option.some.inj H
     have hcz37_0 : wr.cell? ⟨gb341, 0, none⟩ = some (.int .i64 ((rd_T32 l0 a2).f0)) := (blk_cell BK341.out 0).trans rfl
     have hcz37_1 : wr.cell? ⟨gb341, 1, none⟩ = some (.int .i64 ((rd_T32 l0 a2).f1)) := (blk_cell BK341.out 1).trans rfl
     have hcz37_2 : wr.cell? ⟨gb341, 2, none⟩ = some (.int .i64 ((rd_T32 l0 a2).f2)) := (blk_cell BK341.out 2).trans rfl
     have hfz37_0 := blk_frozen BK341.out 0
     have hfz37_1 := blk_frozen BK341.out 1
     have hfz37_2 := blk_frozen BK341.out 2
     go_wp2
     go_ret
     exact ⟨by first | rfl | (simp [errW_none, errW_some] <;> rfl) | (simp [*, errW_none, errW_some] <;> rfl), by repeat (first | (with_reducible first | exact HB.out | apply below_alloc | apply pw_below_drewN | apply below_drew1 | refine below_set ?_ GE341.out) | exact HB.out | exact Below.refl _ _)⟩
    rw [if_neg c36] at H
    have c36b0 : (((rd_T32 l0 a2).f0) == 17) = false := beq_eq_false_iff_ne.mpr c36
    have c36b1 : (((rd_T32 l0 a2).f0) != 17) = true := bne_iff_ne.mpr c36
    by_cases c38 : ((rd_T32 l0 a2).f0) = 18
    rotate_left
    ·rw [if_neg c38] at H
     have c38b0 : (((rd_T32 l0 a2).f0) == 18) = false := beq_eq_false_iff_ne.mpr c38
     have c38b1 : (((rd_T32 l0 a2).f0) != 18) = true := bne_iff_ne.mpr c38
     obtain rfl := Option.some.inj H
     have hcz40_0 : wr.cell? ⟨gb341, 0, none⟩ = some (.int .i64 ((rd_T32 l0 a2).f0)) := (blk_cell BK341.out 0).trans rfl
     have hcz40_1 : wr.cell? ⟨gb341, 1, none⟩ = some (.int .i64 ((rd_T32 l0 a2).f1)) := (blk_cell BK341.out 1).trans rfl
     have hcz40_2 : wr.cell? ⟨gb341, 2, none⟩ = some (.int .i64 ((rd_T32 l0 a2).f2)) := (blk_cell BK341.out 2).trans rfl
     have hfz40_0 := blk_frozen BK341.out 0
     have hfz40_1 := blk_frozen BK341.out 1
     have hfz40_2 := blk_frozen BK341.out 2
     go_wp2
     go_ret
     exact ⟨by first | rfl | (simp [errW_none, errW_some] <;> rfl) | (simp [*, errW_none, errW_some] <;> rfl), by repeat (first | (with_reducible first | exact HB.out | apply below_alloc | apply pw_below_drewN | apply below_drew1 | refine below_set ?_ GE341.out) | exact HB.out | exact Below.refl _ _)⟩
    rw [if_pos c38] at H
    have c38b0 : (((rd_T32 l0 a2).f0) == 18) = true := beq_iff_eq.mpr c38
    have c38b1 : (((rd_T32 l0 a2).f0) != 18) = false := bne_eq_false_iff_eq.mpr c38
    clear c38
    obtain rfl := Option.some.inj H
    have hcz39_0 : wr.cell? ⟨gb341, 0, none⟩ = some (.int .i64 ((rd_T32 l0 a2).f0)) := (blk_cell BK341.out 0).trans rfl
    have hcz39_1 : wr.cell? ⟨gb341, 1, none⟩ = some (.int .i64 ((rd_T32 l0 a2).f1)) := (blk_cell BK341.out 1).trans rfl
    have hcz39_2 : wr.cell? ⟨gb341, 2, none⟩ = some (.int .i64 ((rd_T32 l0 a2).f2)) := (blk_cell BK341.out 2).trans rfl
    have hfz39_0 := blk_frozen BK341.out 0
    have hfz39_1 := blk_frozen BK341.out 1
    have hfz39_2 := blk_frozen BK341.out 2
    go_wp2
    go_ret
    exact ⟨by first | rfl | (simp [errW_none, errW_some] <;> rfl) | (simp [*, errW_none, errW_some] <;> rfl), by repeat (first | (with_reducible first | exact HB.out | apply below_alloc | apply pw_below_drewN | apply below_drew1 | refine below_set ?_ GE341.out) | exact HB.out | exact Below.refl _ _)⟩
   rw [if_pos c8] at H
   have c8b0 : decide (x9_1 < a2) = true := decide_eq_true c8
   clear c8
   have HC9 := Aside0.mk H
   clear H
   have hcz10_0 : wr.cell? ⟨gb341, 0, none⟩ = some (.int .i64 ((rd_T32 l0 a2).f0)) := (blk_cell BK341.out 0).trans rfl
   have hcz10_1 : wr.cell? ⟨gb341, 1, none⟩ = some (.int .i64 ((rd_T32 l0 a2).f1)) := (blk_cell BK341.out 1).trans rfl
   have hcz10_2 : wr.cell? ⟨gb341, 2, none⟩ = some (.int .i64 ((rd_T32 l0 a2).f2)) := (blk_cell BK341.out 2).trans rfl
   have hfz10_0 := blk_frozen BK341.out 0
   have hfz10_1 := blk_frozen BK341.out 1
   have hfz10_2 := blk_frozen BK341.out 2
   go_upto_if 21 with (fail)
   go_cut [] (fun wc => ∃ (kq : Nat), Aside0 (camshaftref06_bad.j2 kq l0 l1 a2 x8_1 x9_1 ((rd_T32 l0 a2).f0) ((rd_T32 l0 a2).f1) ((rd_T32 l0 a2).f2) = some r) ∧ Aside0 (kq ≤ k1) ∧ Aside0 (wc.heap[gb341]? = some (.cells #[.int .i64 ((rd_T32 l0 a2).f0), .int .i64 ((rd_T32 l0 a2).f1), .int .i64 ((rd_T32 l0 a2).f2)] 32 (0, 0))) ∧ Aside0 (Below w.heap.size w wc))
   case first =>
    have H := HC9.out
    clear HC9
    by_cases c11 : ((rd_T32 l0 a2).f0) = 23
    rotate_left
    ·rw [if_neg c11] at H
     have c11b0 : (((rd_T32 l0 a2).f0) == 23) = false := beq_eq_false_iff_ne.mpr c11
     have c11b1 : (((rd_T32 l0 a2).f0) != 23) = true := bne_iff_ne.mpr c11
     (first | rw [c11b0] | (simp only [i64_w, i32_w]; rw [c11b0]) | rw [c11b1] | skip)
     have H' := Aside0.mk H
     clear H
     go_wp2
     go_meet
     case rel => exact ⟨_, H', ⟨by have := HK1.out; first | omega | exact Nat.le_refl _⟩, ⟨by (with_reducible repeat (first | refine blk_drewN ?_ _ | refine blk_drew ?_ | refine blk_alloc ?_ _)); exact BK341.out⟩, ⟨by repeat (first | (with_reducible first | exact HB.out | apply below_alloc | apply pw_below_drewN | apply below_drew1 | refine below_set ?_ GE341.out) | exact HB.out | exact Below.refl _ _)⟩⟩
    rw [if_pos c11] at H
    have c11b0 : (((rd_T32 l0 a2).f0) == 23) = true := beq_iff_eq.mpr c11
    have c11b1 : (((rd_T32 l0 a2).f0) != 23) = false := bne_eq_false_iff_eq.mpr c11
    clear c11
    (first | rw [c11b0] | (simp only [i64_w, i32_w]; rw [c11b0]) | rw [c11b1] | skip)
    have HC12 := Aside0.mk H
    clear H
    go_upto_region 7 with (fail)
    go_cut [59] (fun v59 wc => ∃ (kq : Nat) (x59_11 : Bool), v59 = .bool x59_11 ∧ Aside0 (camshaftref06_bad.j1 kq l0 l1 a2 x8_1 x9_1 x59_11 ((rd_T32 l0 a2).f0) ((rd_T32 l0 a2).f1) ((rd_T32 l0 a2).f2) = some r) ∧ Aside0 (kq ≤ k1) ∧ Aside0 (wc.heap[gb341]? = some (.cells #[.int .i64 ((rd_T32 l0 a2).f0), .int .i64 ((rd_T32 l0 a2).f1), .int .i64 ((rd_T32 l0 a2).f2)] 32 (0, 0))) ∧ Aside0 (Below w.heap.size w wc))
    case first =>
     have H := HC12.out
     clear HC12
     by_cases c13 : 0 ≤ x9_1
     rotate_left
     ·rw [if_neg c13] at H
      exact absurd H (by simp)
     rw [if_pos c13] at H
     have c13b0 : decide (0 ≤ x9_1) = true := decide_eq_true c13
     clear c13
     (first | rw [c13b0] | (simp only [i64_w, i32_w]; rw [c13b0]) | rw [c13b1] | skip)
     by_cases c14 : x9_1 < (l0.length : Int)
     rotate_left
     ·rw [if_neg c14] at H
      exact absurd H (by simp)
     rw [if_pos c14] at H
     have c14b0 : decide (x9_1 < (l0.length : Int)) = true := decide_eq_true c14
     clear c14
     by_cases c15 : ((rd_T32 l0 x9_1).f0) = 24
     ·rw [if_pos c15] at H
      have c15b0 : (((rd_T32 l0 x9_1).f0) == 24) = true := beq_iff_eq.mpr c15
      have c15b1 : (((rd_T32 l0 x9_1).f0) != 24) = false := bne_eq_false_iff_eq.mpr c15
      clear c15
      have H' := Aside0.mk H
      clear H
      try go_wp2
      have n0_ := Aside0.mk (blk_drew BK341.out)
      have n1_ := Aside0.mk (below_drew1 HB.out)
      clear BK341
      clear HB
      have BK341 := n0_
      have HB := n1_
      clear n0_ n1_
      have p342 : 0 ≤ (x9_1 : Int) := of_decide_eq_true (by first | (with_reducible assumption) | assumption)
      have q342 : x9_1 < (l0.length : Int) := of_decide_eq_true (by first | (with_reducible assumption) | assumption)
      obtain ⟨ad342, e342, hx342_0, hx342_1, hx342_2⟩ := at_T32 HR0.out x9_1 p342 q342
      have hw342_2 := hx342_2
      have hw342_1 := hx342_1
      have hw342_0 := hx342_0
      obtain rfl : ad340 = ad342 := (by injection e342)
      replace hx342_0 := (HB.out.cell (World.block_lt_of_cell? w _ hx342_0)).trans hx342_0
      replace hx342_1 := (HB.out.cell (World.block_lt_of_cell? w _ hx342_1)).trans hx342_1
      replace hx342_2 := (HB.out.cell (World.block_lt_of_cell? w _ hx342_2)).trans hx342_2
      replace p342 := eq_true p342
      replace q342 := eq_true q342
      refine start_ (n := 38) (S := fun w' => w'.cell? (ad340.add ((x9_1).toNat * 3)) = some (.int .i64 ((rd_T32 l0 x9_1).f0)) ∧ w'.cell? ⟨(ad340.add ((x9_1).toNat * 3)).block, (ad340.add ((x9_1).toNat * 3)).off + 1, none⟩ = some (.int .i64 ((rd_T32 l0 x9_1).f1)) ∧ w'.cell? ⟨(ad340.add ((x9_1).toNat * 3)).block, (ad340.add ((x9_1).toNat * 3)).off + 2, none⟩ = some (.int .i64 ((rd_T32 l0 x9_1).f2))) (ds := []) #[sqF,sqF,sqF,sqF,sqF,sqF,sqF,sqF,sqF,sqF,sqF,sqF,sqF,sqF,sqF,sqF,sqF,sqF,sqF,sqF,sqF,sqF,sqF,sqF,sqF,sqF,sqF,sqF,sqF,sqF,sqF,sqF,sqF,sqF,sqF,sqF,sqF,sqF] (by kernel_rfl) rfl rfl ⟨((HB.out.cell (World.block_lt_of_cell? w _ hw342_0)).trans hw342_0), ((HB.out.cell (World.block_lt_of_cell? w _ hw342_1)).trans hw342_1), ((HB.out.cell (World.block_lt_of_cell? w _ hw342_2)).trans hw342_2)⟩ (fun hHeld => ?_); refine with_tabW camshaftref06_bad.tab7 camshaftref06_bad.bits7 (fun HT_ HW_ => ?_)
      generalize wr.drew = w16 at BK341 HB hx342_0 hx342_1 hx342_2 hHeld ⊢
      refine pure_ (i := 0) (N := some 22) (v := ?_) (a' := ?_) #[sqT,sqF,sqF,sqF,sqF,sqF,sqF,sqF,sqF,sqF,sqF,sqF,sqF,sqF,sqF,sqF,sqF,sqF,sqF,sqF,sqF,sqF,sqF,sqF,sqF,sqF,sqF,sqF,sqF,sqF,sqF,sqF,sqF,sqF,sqF,sqF,sqF,sqF] rfl rfl (any_of HT_.out (by kernel_rfl)) (fun _ _ _ h => h) (Or.inl ⟨by rfl, ?_⟩) ?_ ?_
      rotate_left
      ·intro w'
       go_simp
       with_reducible rfl
      rotate_left
      ·simp only [Act.put, setIfInBounds_toArray,set_cons_zero,set_cons_succ, i64_w, i32_w]
       rfl
      refine pure_ (i := 1) (N := some 23) (v := ?_) (a' := ?_) #[sqT,sqT,sqF,sqF,sqF,sqF,sqF,sqF,sqF,sqF,sqF,sqF,sqF,sqF,sqF,sqF,sqF,sqF,sqF,sqF,sqF,sqF,sqF,sqF,sqF,sqF,sqF,sqF,sqF,sqF,sqF,sqF,sqF,sqF,sqF,sqF,sqF,sqF] rfl rfl (any_of HT_.out (by kernel_rfl)) (fun _ _ _ h => h) (Or.inl ⟨by rfl, ?_⟩) ?_ ?_
      rotate_left
      ·intro w'
       go_simp
       with_reducible rfl
      rotate_left
      ·simp only [Act.put, setIfInBounds_toArray,set_cons_zero,set_cons_succ, i64_w, i32_w]
       rfl
      refine pure_ (i := 2) (N := some 24) (v := ?_) (a' := ?_) #[sqT,sqT,sqT,sqF,sqF,sqF,sqF,sqF,sqF,sqF,sqF,sqF,sqF,sqF,sqF,sqF,sqF,sqF,sqF,sqF,sqF,sqF,sqF,sqF,sqF,sqF,sqF,sqF,sqF,sqF,sqF,sqF,sqF,sqF,sqF,sqF,sqF,sqF] rfl rfl (any_of HT_.out (by kernel_rfl)) (fun _ _ _ h => h) (Or.inl ⟨by rfl, ?_⟩) ?_ ?_
      rotate_left
      ·intro w'
       go_simp
       with_reducible rfl
      rotate_left
      ·simp only [Act.put, setIfInBounds_toArray,set_cons_zero,set_cons_succ, i64_w, i32_w]
       rfl
      refine pure_ (i := 3) (N := some 25) (v := ?_) (a' := ?_) #[sqT,sqT,sqT,sqT,sqF,sqF,sqF,sqF,sqF,sqF,sqF,sqF,sqF,sqF,sqF,sqF,sqF,sqF,sqF,sqF,sqF,sqF,sqF,sqF,sqF,sqF,sqF,sqF,sqF,sqF,sqF,sqF,sqF,sqF,sqF,sqF,sqF,sqF] rfl rfl (any_of HT_.out (by kernel_rfl)) (fun _ _ _ h => h) (Or.inl ⟨by rfl, ?_⟩) ?_ ?_
      rotate_left
      ·intro w'
       go_simp
       with_reducible rfl
      rotate_left
      ·simp only [Act.put, setIfInBounds_toArray,set_cons_zero,set_cons_succ, i64_w, i32_w]
       rfl
      refine take_ (i := 4) (N := some 26) (v := ?_) (a' := ?_) #[sqT,sqT,sqT,sqT,sqT,sqF,sqF,sqF,sqF,sqF,sqF,sqF,sqF,sqF,sqF,sqF,sqF,sqF,sqF,sqF,sqF,sqF,sqF,sqF,sqF,sqF,sqF,sqF,sqF,sqF,sqF,sqF,sqF,sqF,sqF,sqF,sqF,sqF] rfl rfl (take_ofW HT_.out HW_.out (by kernel_rfl)) (fun _ _ _ h => h) (Or.inl ⟨by rfl, ?_⟩) hHeld ?_ ?_
      rotate_left
      ·rintro w' ⟨s0, s1, s2⟩
       go_simp
       with_reducible rfl
      rotate_left
      ·simp only [Act.put, setIfInBounds_toArray,set_cons_zero,set_cons_succ, i64_w, i32_w]
       rfl
      refine pure_ (i := 5) (N := some 27) (v := ?_) (a' := ?_) #[sqT,sqT,sqT,sqT,sqT,sqT,sqF,sqF,sqF,sqF,sqF,sqF,sqF,sqF,sqF,sqF,sqF,sqF,sqF,sqF,sqF,sqF,sqF,sqF,sqF,sqF,sqF,sqF,sqF,sqF,sqF,sqF,sqF,sqF,sqF,sqF,sqF,sqF] rfl rfl (any_of HT_.out (by kernel_rfl)) (fun _ _ _ h => h) (Or.inl ⟨by rfl, ?_⟩) ?_ ?_
      rotate_left
      ·intro w'
       go_simp
       with_reducible rfl
      rotate_left
      ·simp only [Act.put, setIfInBounds_toArray,set_cons_zero,set_cons_succ, i64_w, i32_w]
       rfl
      refine pure_ (i := 6) (N := some 28) (v := ?_) (a' := ?_) #[sqT,sqT,sqT,sqT,sqT,sqT,sqT,sqF,sqF,sqF,sqF,sqF,sqF,sqF,sqF,sqF,sqF,sqF,sqF,sqF,sqF,sqF,sqF,sqF,sqF,sqF,sqF,sqF,sqF,sqF,sqF,sqF,sqF,sqF,sqF,sqF,sqF,sqF] rfl rfl (any_of HT_.out (by kernel_rfl)) (fun _ _ _ h => h) (Or.inl ⟨by rfl, ?_⟩) ?_ ?_
      rotate_left
      ·intro w'
       go_simp
       with_reducible rfl
      rotate_left
      ·simp only [Act.put, setIfInBounds_toArray,set_cons_zero,set_cons_succ, i64_w, i32_w]
       rfl
      refine pure_ (i := 7) (N := some 29) (v := undef) (a' := ?_) #[sqT,sqT,sqT,sqT,sqT,sqT,sqT,sqT,sqF,sqF,sqF,sqF,sqF,sqF,sqF,sqF,sqF,sqF,sqF,sqF,sqF,sqF,sqF,sqF,sqF,sqF,sqF,sqF,sqF,sqF,sqF,sqF,sqF,sqF,sqF,sqF,sqF,sqF] rfl rfl (any_of HT_.out (by kernel_rfl)) (fun _ _ _ h => h) (Or.inr ⟨by rfl, rfl⟩) ?_ ?_
      rotate_left
      ·simp only [Act.put, setIfInBounds_toArray,set_cons_zero,set_cons_succ, i64_w, i32_w]
       rfl
      refine pure_ (i := 8) (N := some 30) (v := undef) (a' := ?_) #[sqT,sqT,sqT,sqT,sqT,sqT,sqT,sqT,sqT,sqF,sqF,sqF,sqF,sqF,sqF,sqF,sqF,sqF,sqF,sqF,sqF,sqF,sqF,sqF,sqF,sqF,sqF,sqF,sqF,sqF,sqF,sqF,sqF,sqF,sqF,sqF,sqF,sqF] rfl rfl (any_of HT_.out (by kernel_rfl)) (fun _ _ _ h => h) (Or.inr ⟨by rfl, rfl⟩) ?_ ?_
      rotate_left
      ·simp only [Act.put, setIfInBounds_toArray,set_cons_zero,set_cons_succ, i64_w, i32_w]
       rfl
      refine pure_ (i := 9) (N := some 31) (v := undef) (a' := ?_) #[sqT,sqT,sqT,sqT,sqT,sqT,sqT,sqT,sqT,sqT,sqF,sqF,sqF,sqF,sqF,sqF,sqF,sqF,sqF,sqF,sqF,sqF,sqF,sqF,sqF,sqF,sqF,sqF,sqF,sqF,sqF,sqF,sqF,sqF,sqF,sqF,sqF,sqF] rfl rfl (any_of HT_.out (by kernel_rfl)) (fun _ _ _ h => h) (Or.inr ⟨by rfl, rfl⟩) ?_ ?_
      rotate_left
      ·simp only [Act.put, setIfInBounds_toArray,set_cons_zero,set_cons_succ, i64_w, i32_w]
       rfl
      refine pure_ (i := 10) (N := some 32) (v := undef) (a' := ?_) #[sqT,sqT,sqT,sqT,sqT,sqT,sqT,sqT,sqT,sqT,sqT,sqF,sqF,sqF,sqF,sqF,sqF,sqF,sqF,sqF,sqF,sqF,sqF,sqF,sqF,sqF,sqF,sqF,sqF,sqF,sqF,sqF,sqF,sqF,sqF,sqF,sqF,sqF] rfl rfl (any_of HT_.out (by kernel_rfl)) (fun _ _ _ h => h) (Or.inr ⟨by rfl, rfl⟩) ?_ ?_
      rotate_left
      ·simp only [Act.put, setIfInBounds_toArray,set_cons_zero,set_cons_succ, i64_w, i32_w]
       rfl
      refine pure_ (i := 11) (N := some 33) (v := undef) (a' := ?_) #[sqT,sqT,sqT,sqT,sqT,sqT,sqT,sqT,sqT,sqT,sqT,sqT,sqF,sqF,sqF,sqF,sqF,sqF,sqF,sqF,sqF,sqF,sqF,sqF,sqF,sqF,sqF,sqF,sqF,sqF,sqF,sqF,sqF,sqF,sqF,sqF,sqF,sqF] rfl rfl (any_of HT_.out (by kernel_rfl)) (fun _ _ _ h => h) (Or.inr ⟨by rfl, rfl⟩) ?_ ?_
      rotate_left
      ·simp only [Act.put, setIfInBounds_toArray,set_cons_zero,set_cons_succ, i64_w, i32_w]
       rfl
      refine pure_ (i := 12) (N := some 34) (v := undef) (a' := ?_) #[sqT,sqT,sqT,sqT,sqT,sqT,sqT,sqT,sqT,sqT,sqT,sqT,sqT,sqF,sqF,sqF,sqF,sqF,sqF,sqF,sqF,sqF,sqF,sqF,sqF,sqF,sqF,sqF,sqF,sqF,sqF,sqF,sqF,sqF,sqF,sqF,sqF,sqF] rfl rfl (any_of HT_.out (by kernel_rfl)) (fun _ _ _ h => h) (Or.inr ⟨by rfl, rfl⟩) ?_ ?_
      rotate_left
      ·simp only [Act.put, setIfInBounds_toArray,set_cons_zero,set_cons_succ, i64_w, i32_w]
       rfl
      refine pure_ (i := 13) (N := some 35) (v := undef) (a' := ?_) #[sqT,sqT,sqT,sqT,sqT,sqT,sqT,sqT,sqT,sqT,sqT,sqT,sqT,sqT,sqF,sqF,sqF,sqF,sqF,sqF,sqF,sqF,sqF,sqF,sqF,sqF,sqF,sqF,sqF,sqF,sqF,sqF,sqF,sqF,sqF,sqF,sqF,sqF] rfl rfl (any_of HT_.out (by kernel_rfl)) (fun _ _ _ h => h) (Or.inr ⟨by rfl, rfl⟩) ?_ ?_
      rotate_left
      ·simp only [Act.put, setIfInBounds_toArray,set_cons_zero,set_cons_succ, i64_w, i32_w]
       rfl
      refine pure_ (i := 14) (N := some 36) (v := undef) (a' := ?_) #[sqT,sqT,sqT,sqT,sqT,sqT,sqT,sqT,sqT,sqT,sqT,sqT,sqT,sqT,sqT,sqF,sqF,sqF,sqF,sqF,sqF,sqF,sqF,sqF,sqF,sqF,sqF,sqF,sqF,sqF,sqF,sqF,sqF,sqF,sqF,sqF,sqF,sqF] rfl rfl (any_of HT_.out (by kernel_rfl)) (fun _ _ _ h => h) (Or.inr ⟨by rfl, rfl⟩) ?_ ?_
      rotate_left
      ·simp only [Act.put, setIfInBounds_toArray,set_cons_zero,set_cons_succ, i64_w, i32_w]
       rfl
      refine pure_ (i := 15) (N := some 37) (v := undef) (a' := ?_) #[sqT,sqT,sqT,sqT,sqT,sqT,sqT,sqT,sqT,sqT,sqT,sqT,sqT,sqT,sqT,sqT,sqF,sqF,sqF,sqF,sqF,sqF,sqF,sqF,sqF,sqF,sqF,sqF,sqF,sqF,sqF,sqF,sqF,sqF,sqF,sqF,sqF,sqF] rfl rfl (any_of HT_.out (by kernel_rfl)) (fun _ _ _ h => h) (Or.inr ⟨by rfl, rfl⟩) ?_ ?_
      rotate_left
      ·simp only [Act.put, setIfInBounds_toArray,set_cons_zero,set_cons_succ, i64_w, i32_w]
       rfl
      refine pure_ (i := 16) (N := some 38) (v := undef) (a' := ?_) #[sqT,sqT,sqT,sqT,sqT,sqT,sqT,sqT,sqT,sqT,sqT,sqT,sqT,sqT,sqT,sqT,sqT,sqF,sqF,sqF,sqF,sqF,sqF,sqF,sqF,sqF,sqF,sqF,sqF,sqF,sqF,sqF,sqF,sqF,sqF,sqF,sqF,sqF] rfl rfl (any_of HT_.out (by kernel_rfl)) (fun _ _ _ h => h) (Or.inr ⟨by rfl, rfl⟩) ?_ ?_
      rotate_left
      ·simp only [Act.put, setIfInBounds_toArray,set_cons_zero,set_cons_succ, i64_w, i32_w]
       rfl
      refine pure_ (i := 17) (N := some 39) (v := undef) (a' := ?_) #[sqT,sqT,sqT,sqT,sqT,sqT,sqT,sqT,sqT,sqT,sqT,sqT,sqT,sqT,sqT,sqT,sqT,sqT,sqF,sqF,sqF,sqF,sqF,sqF,sqF,sqF,sqF,sqF,sqF,sqF,sqF,sqF,sqF,sqF,sqF,sqF,sqF,sqF] rfl rfl (any_of HT_.out (by kernel_rfl)) (fun _ _ _ h => h) (Or.inr ⟨by rfl, rfl⟩) ?_ ?_
      rotate_left
      ·simp only [Act.put, setIfInBounds_toArray,set_cons_zero,set_cons_succ, i64_w, i32_w]
       rfl
      refine pure_ (i := 18) (N := some 40) (v := undef) (a' := ?_) #[sqT,sqT,sqT,sqT,sqT,sqT,sqT,sqT,sqT,sqT,sqT,sqT,sqT,sqT,sqT,sqT,sqT,sqT,sqT,sqF,sqF,sqF,sqF,sqF,sqF,sqF,sqF,sqF,sqF,sqF,sqF,sqF,sqF,sqF,sqF,sqF,sqF,sqF] rfl rfl (any_of HT_.out (by kernel_rfl)) (fun _ _ _ h => h) (Or.inr ⟨by rfl, rfl⟩) ?_ ?_
      rotate_left
      ·simp only [Act.put, setIfInBounds_toArray,set_cons_zero,set_cons_succ, i64_w, i32_w]
       rfl
      refine pure_ (i := 19) (N := some 41) (v := undef) (a' := ?_) #[sqT,sqT,sqT,sqT,sqT,sqT,sqT,sqT,sqT,sqT,sqT,sqT,sqT,sqT,sqT,sqT,sqT,sqT,sqT,sqT,sqF,sqF,sqF,sqF,sqF,sqF,sqF,sqF,sqF,sqF,sqF,sqF,sqF,sqF,sqF,sqF,sqF,sqF] rfl rfl (any_of HT_.out (by kernel_rfl)) (fun _ _ _ h => h) (Or.inr ⟨by rfl, rfl⟩) ?_ ?_
      rotate_left
      ·simp only [Act.put, setIfInBounds_toArray,set_cons_zero,set_cons_succ, i64_w, i32_w]
       rfl
      refine pure_ (i := 20) (N := some 42) (v := undef) (a' := ?_) #[sqT,sqT,sqT,sqT,sqT,sqT,sqT,sqT,sqT,sqT,sqT,sqT,sqT,sqT,sqT,sqT,sqT,sqT,sqT,sqT,sqT,sqF,sqF,sqF,sqF,sqF,sqF,sqF,sqF,sqF,sqF,sqF,sqF,sqF,sqF,sqF,sqF,sqF] rfl rfl (any_of HT_.out (by kernel_rfl)) (fun _ _ _ h => h) (Or.inr ⟨by rfl, rfl⟩) ?_ ?_
      rotate_left
      ·simp only [Act.put, setIfInBounds_toArray,set_cons_zero,set_cons_succ, i64_w, i32_w]
       rfl
      refine pure_ (i := 21) (N := some 43) (v := undef) (a' := ?_) #[sqT,sqT,sqT,sqT,sqT,sqT,sqT,sqT,sqT,sqT,sqT,sqT,sqT,sqT,sqT,sqT,sqT,sqT,sqT,sqT,sqT,sqT,sqF,sqF,sqF,sqF,sqF,sqF,sqF,sqF,sqF,sqF,sqF,sqF,sqF,sqF,sqF,sqF] rfl rfl (any_of HT_.out (by kernel_rfl)) (fun _ _ _ h => h) (Or.inr ⟨by rfl, rfl⟩) ?_ ?_
      rotate_left
      ·simp only [Act.put, setIfInBounds_toArray,set_cons_zero,set_cons_succ, i64_w, i32_w]
       rfl
      refine pure_ (i := 22) (N := some 44) (v := undef) (a' := ?_) #[sqT,sqT,sqT,sqT,sqT,sqT,sqT,sqT,sqT,sqT,sqT,sqT,sqT,sqT,sqT,sqT,sqT,sqT,sqT,sqT,sqT,sqT,sqT,sqF,sqF,sqF,sqF,sqF,sqF,sqF,sqF,sqF,sqF,sqF,sqF,sqF,sqF,sqF] rfl rfl (any_of HT_.out (by kernel_rfl)) (fun _ _ _ h => h) (Or.inr ⟨by rfl, rfl⟩) ?_ ?_
      rotate_left
      ·simp only [Act.put, setIfInBounds_toArray,set_cons_zero,set_cons_succ, i64_w, i32_w]
       rfl
      refine pure_ (i := 23) (N := some 45) (v := undef) (a' := ?_) #[sqT,sqT,sqT,sqT,sqT,sqT,sqT,sqT,sqT,sqT,sqT,sqT,sqT,sqT,sqT,sqT,sqT,sqT,sqT,sqT,sqT,sqT,sqT,sqT,sqF,sqF,sqF,sqF,sqF,sqF,sqF,sqF,sqF,sqF,sqF,sqF,sqF,sqF] rfl rfl (any_of HT_.out (by kernel_rfl)) (fun _ _ _ h => h) (Or.inr ⟨by rfl, rfl⟩) ?_ ?_
      rotate_left
      ·simp only [Act.put, setIfInBounds_toArray,set_cons_zero,set_cons_succ, i64_w, i32_w]
       rfl
      refine pure_ (i := 24) (N := some 46) (v := undef) (a' := ?_) #[sqT,sqT,sqT,sqT,sqT,sqT,sqT,sqT,sqT,sqT,sqT,sqT,sqT,sqT,sqT,sqT,sqT,sqT,sqT,sqT,sqT,sqT,sqT,sqT,sqT,sqF,sqF,sqF,sqF,sqF,sqF,sqF,sqF,sqF,sqF,sqF,sqF,sqF] rfl rfl (any_of HT_.out (by kernel_rfl)) (fun _ _ _ h => h) (Or.inr ⟨by rfl, rfl⟩) ?_ ?_
      rotate_left
      ·simp only [Act.put, setIfInBounds_toArray,set_cons_zero,set_cons_succ, i64_w, i32_w]
       rfl
      refine pure_ (i := 25) (N := some 47) (v := undef) (a' := ?_) #[sqT,sqT,sqT,sqT,sqT,sqT,sqT,sqT,sqT,sqT,sqT,sqT,sqT,sqT,sqT,sqT,sqT,sqT,sqT,sqT,sqT,sqT,sqT,sqT,sqT,sqT,sqF,sqF,sqF,sqF,sqF,sqF,sqF,sqF,sqF,sqF,sqF,sqF] rfl rfl (any_of HT_.out (by kernel_rfl)) (fun _ _ _ h => h) (Or.inr ⟨by rfl, rfl⟩) ?_ ?_
      rotate_left
      ·simp only [Act.put, setIfInBounds_toArray,set_cons_zero,set_cons_succ, i64_w, i32_w]
       rfl
      refine pure_ (i := 26) (N := some 48) (v := undef) (a' := ?_) #[sqT,sqT,sqT,sqT,sqT,sqT,sqT,sqT,sqT,sqT,sqT,sqT,sqT,sqT,sqT,sqT,sqT,sqT,sqT,sqT,sqT,sqT,sqT,sqT,sqT,sqT,sqT,sqF,sqF,sqF,sqF,sqF,sqF,sqF,sqF,sqF,sqF,sqF] rfl rfl (any_of HT_.out (by kernel_rfl)) (fun _ _ _ h => h) (Or.inr ⟨by rfl, rfl⟩) ?_ ?_
      rotate_left
      ·simp only [Act.put, setIfInBounds_toArray,set_cons_zero,set_cons_succ, i64_w, i32_w]
       rfl
      refine pure_ (i := 27) (N := some 49) (v := undef) (a' := ?_) #[sqT,sqT,sqT,sqT,sqT,sqT,sqT,sqT,sqT,sqT,sqT,sqT,sqT,sqT,sqT,sqT,sqT,sqT,sqT,sqT,sqT,sqT,sqT,sqT,sqT,sqT,sqT,sqT,sqF,sqF,sqF,sqF,sqF,sqF,sqF,sqF,sqF,sqF] rfl rfl (any_of HT_.out (by kernel_rfl)) (fun _ _ _ h => h) (Or.inr ⟨by rfl, rfl⟩) ?_ ?_
      rotate_left
      ·simp only [Act.put, setIfInBounds_toArray,set_cons_zero,set_cons_succ, i64_w, i32_w]
       rfl
      refine pure_ (i := 28) (N := some 50) (v := undef) (a' := ?_) #[sqT,sqT,sqT,sqT,sqT,sqT,sqT,sqT,sqT,sqT,sqT,sqT,sqT,sqT,sqT,sqT,sqT,sqT,sqT,sqT,sqT,sqT,sqT,sqT,sqT,sqT,sqT,sqT,sqT,sqF,sqF,sqF,sqF,sqF,sqF,sqF,sqF,sqF] rfl rfl (any_of HT_.out (by kernel_rfl)) (fun _ _ _ h => h) (Or.inr ⟨by rfl, rfl⟩) ?_ ?_
      rotate_left
      ·simp only [Act.put, setIfInBounds_toArray,set_cons_zero,set_cons_succ, i64_w, i32_w]
       rfl
      refine pure_ (i := 29) (N := some 51) (v := undef) (a' := ?_) #[sqT,sqT,sqT,sqT,sqT,sqT,sqT,sqT,sqT,sqT,sqT,sqT,sqT,sqT,sqT,sqT,sqT,sqT,sqT,sqT,sqT,sqT,sqT,sqT,sqT,sqT,sqT,sqT,sqT,sqT,sqF,sqF,sqF,sqF,sqF,sqF,sqF,sqF] rfl rfl (any_of HT_.out (by kernel_rfl)) (fun _ _ _ h => h) (Or.inr ⟨by rfl, rfl⟩) ?_ ?_
      rotate_left
      ·simp only [Act.put, setIfInBounds_toArray,set_cons_zero,set_cons_succ, i64_w, i32_w]
       rfl
      refine pure_ (i := 30) (N := some 52) (v := undef) (a' := ?_) #[sqT,sqT,sqT,sqT,sqT,sqT,sqT,sqT,sqT,sqT,sqT,sqT,sqT,sqT,sqT,sqT,sqT,sqT,sqT,sqT,sqT,sqT,sqT,sqT,sqT,sqT,sqT,sqT,sqT,sqT,sqT,sqF,sqF,sqF,sqF,sqF,sqF,sqF] rfl rfl (any_of HT_.out (by kernel_rfl)) (fun _ _ _ h => h) (Or.inr ⟨by rfl, rfl⟩) ?_ ?_
      rotate_left
      ·simp only [Act.put, setIfInBounds_toArray,set_cons_zero,set_cons_succ, i64_w, i32_w]
       rfl
      refine pure_ (i := 31) (N := some 53) (v := undef) (a' := ?_) #[sqT,sqT,sqT,sqT,sqT,sqT,sqT,sqT,sqT,sqT,sqT,sqT,sqT,sqT,sqT,sqT,sqT,sqT,sqT,sqT,sqT,sqT,sqT,sqT,sqT,sqT,sqT,sqT,sqT,sqT,sqT,sqT,sqF,sqF,sqF,sqF,sqF,sqF] rfl rfl (any_of HT_.out (by kernel_rfl)) (fun _ _ _ h => h) (Or.inr ⟨by rfl, rfl⟩) ?_ ?_
      rotate_left
      ·simp only [Act.put, setIfInBounds_toArray,set_cons_zero,set_cons_succ, i64_w, i32_w]
       rfl
      refine pure_ (i := 32) (N := some 54) (v := undef) (a' := ?_) #[sqT,sqT,sqT,sqT,sqT,sqT,sqT,sqT,sqT,sqT,sqT,sqT,sqT,sqT,sqT,sqT,sqT,sqT,sqT,sqT,sqT,sqT,sqT,sqT,sqT,sqT,sqT,sqT,sqT,sqT,sqT,sqT,sqT,sqF,sqF,sqF,sqF,sqF] rfl rfl (any_of HT_.out (by kernel_rfl)) (fun _ _ _ h => h) (Or.inr ⟨by rfl, rfl⟩) ?_ ?_
      rotate_left
      ·simp only [Act.put, setIfInBounds_toArray,set_cons_zero,set_cons_succ, i64_w, i32_w]
       rfl
      refine pure_ (i := 33) (N := some 55) (v := undef) (a' := ?_) #[sqT,sqT,sqT,sqT,sqT,sqT,sqT,sqT,sqT,sqT,sqT,sqT,sqT,sqT,sqT,sqT,sqT,sqT,sqT,sqT,sqT,sqT,sqT,sqT,sqT,sqT,sqT,sqT,sqT,sqT,sqT,sqT,sqT,sqT,sqF,sqF,sqF,sqF] rfl rfl (any_of HT_.out (by kernel_rfl)) (fun _ _ _ h => h) (Or.inr ⟨by rfl, rfl⟩) ?_ ?_
      rotate_left
      ·simp only [Act.put, setIfInBounds_toArray,set_cons_zero,set_cons_succ, i64_w, i32_w]
       rfl
      refine pure_ (i := 34) (N := some 56) (v := undef) (a' := ?_) #[sqT,sqT,sqT,sqT,sqT,sqT,sqT,sqT,sqT,sqT,sqT,sqT,sqT,sqT,sqT,sqT,sqT,sqT,sqT,sqT,sqT,sqT,sqT,sqT,sqT,sqT,sqT,sqT,sqT,sqT,sqT,sqT,sqT,sqT,sqT,sqF,sqF,sqF] rfl rfl (any_of HT_.out (by kernel_rfl)) (fun _ _ _ h => h) (Or.inr ⟨by rfl, rfl⟩) ?_ ?_
      rotate_left
      ·simp only [Act.put, setIfInBounds_toArray,set_cons_zero,set_cons_succ, i64_w, i32_w]
       rfl
      refine pure_ (i := 35) (N := some 57) (v := undef) (a' := ?_) #[sqT,sqT,sqT,sqT,sqT,sqT,sqT,sqT,sqT,sqT,sqT,sqT,sqT,sqT,sqT,sqT,sqT,sqT,sqT,sqT,sqT,sqT,sqT,sqT,sqT,sqT,sqT,sqT,sqT,sqT,sqT,sqT,sqT,sqT,sqT,sqT,sqF,sqF] rfl rfl (any_of HT_.out (by kernel_rfl)) (fun _ _ _ h => h) (Or.inr ⟨by rfl, rfl⟩) ?_ ?_
      rotate_left
      ·simp only [Act.put, setIfInBounds_toArray,set_cons_zero,set_cons_succ, i64_w, i32_w]
       rfl
      refine pure_ (i := 36) (N := some 58) (v := undef) (a' := ?_) #[sqT,sqT,sqT,sqT,sqT,sqT,sqT,sqT,sqT,sqT,sqT,sqT,sqT,sqT,sqT,sqT,sqT,sqT,sqT,sqT,sqT,sqT,sqT,sqT,sqT,sqT,sqT,sqT,sqT,sqT,sqT,sqT,sqT,sqT,sqT,sqT,sqT,sqF] rfl rfl (any_of HT_.out (by kernel_rfl)) (fun _ _ _ h => h) (Or.inr ⟨by rfl, rfl⟩) ?_ ?_
      rotate_left
      ·simp only [Act.put, setIfInBounds_toArray,set_cons_zero,set_cons_succ, i64_w, i32_w]
       rfl
      refine pure_ (i := 37) (N := some 59) (v := ?_) (a' := ?_) #[sqT,sqT,sqT,sqT,sqT,sqT,sqT,sqT,sqT,sqT,sqT,sqT,sqT,sqT,sqT,sqT,sqT,sqT,sqT,sqT,sqT,sqT,sqT,sqT,sqT,sqT,sqT,sqT,sqT,sqT,sqT,sqT,sqT,sqT,sqT,sqT,sqT,sqT] rfl rfl (any_of HT_.out (by kernel_rfl)) (fun _ _ _ h => h) (Or.inl ⟨by rfl, ?_⟩) ?_ ?_
      rotate_left
      ·intro w'
       go_simp
       with_reducible rfl
      rotate_left
      ·simp only [Act.put, setIfInBounds_toArray,set_cons_zero,set_cons_succ, i64_w, i32_w]
       rfl
      refine done_ (done_of HT_.out (by kernel_rfl)) ?_
      try go_wp2
      go_meet
      case rel => exact ⟨_, (true), (by first | rfl | (simp; done) | (simp [*]; done)), H', ⟨by have := HK1.out; first | omega | exact Nat.le_refl _⟩, ⟨by (with_reducible repeat (first | refine blk_drewN ?_ _ | refine blk_drew ?_ | refine blk_alloc ?_ _)); exact BK341.out⟩, ⟨by repeat (first | (with_reducible first | exact HB.out | apply below_alloc | apply pw_below_drewN | apply below_drew1 | refine below_set ?_ GE341.out) | exact HB.out | exact Below.refl _ _)⟩⟩
     rw [if_neg c15] at H
     have c15b0 : (((rd_T32 l0 x9_1).f0) == 24) = false := beq_eq_false_iff_ne.mpr c15
     have c15b1 : (((rd_T32 l0 x9_1).f0) != 24) = true := bne_iff_ne.mpr c15
     replace H := Option.bind_eq_some_iff.mp H
     obtain ⟨t343, A170, H⟩ := H
     replace H : (if t343 = true then (if ((rd_T32 l0 x9_1).f0) = 21 then (camshaftref06_bad.j1 k1 l0 l1 a2 x8_1 x9_1 true ((rd_T32 l0 a2).f0) ((rd_T32 l0 a2).f1) ((rd_T32 l0 a2).f2)) else (if ((rd_T32 l0 x9_1).f0) = 23 then (camshaftref06_bad.j1 k1 l0 l1 a2 x8_1 x9_1 (decide (((rd_T32 l0 x9_1).f1) ≥ ((rd_T32 l0 a2).f1))) ((rd_T32 l0 a2).f0) ((rd_T32 l0 a2).f1) ((rd_T32 l0 a2).f2)) else (camshaftref06_bad.j1 k1 l0 l1 a2 x8_1 x9_1 false ((rd_T32 l0 a2).f0) ((rd_T32 l0 a2).f1) ((rd_T32 l0 a2).f2)))) else (camshaftref06_bad.j1 k1 l0 l1 a2 x8_1 x9_1 false ((rd_T32 l0 a2).f0) ((rd_T32 l0 a2).f1) ((rd_T32 l0 a2).f2))) = some r := H
     have A17 := Aside0.mk A170
     clear A170
     by_cases c18 : t343 = true
     rotate_left
     ·replace c18 := Bool.eq_false_iff.mpr c18
      subst c18
      have H1 : (camshaftref06_bad.j1 k1 l0 l1 a2 x8_1 x9_1 false ((rd_T32 l0 a2).f0) ((rd_T32 l0 a2).f1) ((rd_T32 l0 a2).f2)) = some r := by rw [if_neg (show ¬ (false = true) by decide)] at H; exact H
      clear H
      have H := H1
      clear H1
      have H' := Aside0.mk H
      clear H
      try go_wp2
      have n0_ := Aside0.mk (blk_drew BK341.out)
      have n1_ := Aside0.mk (below_drew1 HB.out)
      clear BK341
      clear HB
      have BK341 := n0_
      have HB := n1_
      clear n0_ n1_
      have p342 : 0 ≤ (x9_1 : Int) := of_decide_eq_true (by first | (with_reducible assumption) | assumption)
      have q342 : x9_1 < (l0.length : Int) := of_decide_eq_true (by first | (with_reducible assumption) | assumption)
      obtain ⟨ad342, e342, hx342_0, hx342_1, hx342_2⟩ := at_T32 HR0.out x9_1 p342 q342
      have hw342_2 := hx342_2
      have hw342_1 := hx342_1
      have hw342_0 := hx342_0
      obtain rfl : ad340 = ad342 := (by injection e342)
      replace hx342_0 := (HB.out.cell (World.block_lt_of_cell? w _ hx342_0)).trans hx342_0
      replace hx342_1 := (HB.out.cell (World.block_lt_of_cell? w _ hx342_1)).trans hx342_1
      replace hx342_2 := (HB.out.cell (World.block_lt_of_cell? w _ hx342_2)).trans hx342_2
      replace p342 := eq_true p342
      replace q342 := eq_true q342
      refine start_ (n := 38) (S := fun w' => w'.cell? (ad340.add ((x9_1).toNat * 3)) = some (.int .i64 ((rd_T32 l0 x9_1).f0)) ∧ w'.cell? ⟨(ad340.add ((x9_1).toNat * 3)).block, (ad340.add ((x9_1).toNat * 3)).off + 1, none⟩ = some (.int .i64 ((rd_T32 l0 x9_1).f1)) ∧ w'.cell? ⟨(ad340.add ((x9_1).toNat * 3)).block, (ad340.add ((x9_1).toNat * 3)).off + 2, none⟩ = some (.int .i64 ((rd_T32 l0 x9_1).f2))) (ds := []) #[sqF,sqF,sqF,sqF,sqF,sqF,sqF,sqF,sqF,sqF,sqF,sqF,sqF,sqF,sqF,sqF,sqF,sqF,sqF,sqF,sqF,sqF,sqF,sqF,sqF,sqF,sqF,sqF,sqF,sqF,sqF,sqF,sqF,sqF,sqF,sqF,sqF,sqF] (by kernel_rfl) rfl rfl ⟨((HB.out.cell (World.block_lt_of_cell? w _ hw342_0)).trans hw342_0), ((HB.out.cell (World.block_lt_of_cell? w _ hw342_1)).trans hw342_1), ((HB.out.cell (World.block_lt_of_cell? w _ hw342_2)).trans hw342_2)⟩ (fun hHeld => ?_); refine with_tabW camshaftref06_bad.tab7 camshaftref06_bad.bits7 (fun HT_ HW_ => ?_)
      generalize wr.drew = w24 at BK341 HB hx342_0 hx342_1 hx342_2 hHeld ⊢
      refine pure_ (i := 0) (N := some 22) (v := ?_) (a' := ?_) #[sqT,sqF,sqF,sqF,sqF,sqF,sqF,sqF,sqF,sqF,sqF,sqF,sqF,sqF,sqF,sqF,sqF,sqF,sqF,sqF,sqF,sqF,sqF,sqF,sqF,sqF,sqF,sqF,sqF,sqF,sqF,sqF,sqF,sqF,sqF,sqF,sqF,sqF] rfl rfl (any_of HT_.out (by kernel_rfl)) (fun _ _ _ h => h) (Or.inl ⟨by rfl, ?_⟩) ?_ ?_
      rotate_left
      ·intro w'
       go_simp
       with_reducible rfl
      rotate_left
      ·simp only [Act.put, setIfInBounds_toArray,set_cons_zero,set_cons_succ, i64_w, i32_w]
       rfl
      refine pure_ (i := 1) (N := some 23) (v := ?_) (a' := ?_) #[sqT,sqT,sqF,sqF,sqF,sqF,sqF,sqF,sqF,sqF,sqF,sqF,sqF,sqF,sqF,sqF,sqF,sqF,sqF,sqF,sqF,sqF,sqF,sqF,sqF,sqF,sqF,sqF,sqF,sqF,sqF,sqF,sqF,sqF,sqF,sqF,sqF,sqF] rfl rfl (any_of HT_.out (by kernel_rfl)) (fun _ _ _ h => h) (Or.inl ⟨by rfl, ?_⟩) ?_ ?_
      rotate_left
      ·intro w'
       go_simp
       with_reducible rfl
      rotate_left
      ·simp only [Act.put, setIfInBounds_toArray,set_cons_zero,set_cons_succ, i64_w, i32_w]
       rfl
      refine pure_ (i := 2) (N := some 24) (v := ?_) (a' := ?_) #[sqT,sqT,sqT,sqF,sqF,sqF,sqF,sqF,sqF,sqF,sqF,sqF,sqF,sqF,sqF,sqF,sqF,sqF,sqF,sqF,sqF,sqF,sqF,sqF,sqF,sqF,sqF,sqF,sqF,sqF,sqF,sqF,sqF,sqF,sqF,sqF,sqF,sqF] rfl rfl (any_of HT_.out (by kernel_rfl)) (fun _ _ _ h => h) (Or.inl ⟨by rfl, ?_⟩) ?_ ?_
      rotate_left
      ·intro w'
       go_simp
       with_reducible rfl
      rotate_left
      ·simp only [Act.put, setIfInBounds_toArray,set_cons_zero,set_cons_succ, i64_w, i32_w]
       rfl
      refine pure_ (i := 3) (N := some 25) (v := ?_) (a' := ?_) #[sqT,sqT,sqT,sqT,sqF,sqF,sqF,sqF,sqF,sqF,sqF,sqF,sqF,sqF,sqF,sqF,sqF,sqF,sqF,sqF,sqF,sqF,sqF,sqF,sqF,sqF,sqF,sqF,sqF,sqF,sqF,sqF,sqF,sqF,sqF,sqF,sqF,sqF] rfl rfl (any_of HT_.out (by kernel_rfl)) (fun _ _ _ h => h) (Or.inl ⟨by rfl, ?_⟩) ?_ ?_
      rotate_left
      ·intro w'
       go_simp
       with_reducible rfl
      rotate_left
      ·simp only [Act.put, setIfInBounds_toArray,set_cons_zero,set_cons_succ, i64_w, i32_w]
       rfl
      refine take_ (i := 4) (N := some 26) (v := ?_) (a' := ?_) #[sqT,sqT,sqT,sqT,sqT,sqF,sqF,sqF,sqF,sqF,sqF,sqF,sqF,sqF,sqF,sqF,sqF,sqF,sqF,sqF,sqF,sqF,sqF,sqF,sqF,sqF,sqF,sqF,sqF,sqF,sqF,sqF,sqF,sqF,sqF,sqF,sqF,sqF] rfl rfl (take_ofW HT_.out HW_.out (by kernel_rfl)) (fun _ _ _ h => h) (Or.inl ⟨by rfl, ?_⟩) hHeld ?_ ?_
      rotate_left
      ·rintro w' ⟨s0, s1, s2⟩
       go_simp
       with_reducible rfl
      rotate_left
      ·simp only [Act.put, setIfInBounds_toArray,set_cons_zero,set_cons_succ, i64_w, i32_w]
       rfl
      refine pure_ (i := 5) (N := some 27) (v := ?_) (a' := ?_) #[sqT,sqT,sqT,sqT,sqT,sqT,sqF,sqF,sqF,sqF,sqF,sqF,sqF,sqF,sqF,sqF,sqF,sqF,sqF,sqF,sqF,sqF,sqF,sqF,sqF,sqF,sqF,sqF,sqF,sqF,sqF,sqF,sqF,sqF,sqF,sqF,sqF,sqF] rfl rfl (any_of HT_.out (by kernel_rfl)) (fun _ _ _ h => h) (Or.inl ⟨by rfl, ?_⟩) ?_ ?_
      rotate_left
      ·intro w'
       go_simp
       with_reducible rfl
      rotate_left
      ·simp only [Act.put, setIfInBounds_toArray,set_cons_zero,set_cons_succ, i64_w, i32_w]
       rfl
      refine pure_ (i := 6) (N := some 28) (v := ?_) (a' := ?_) #[sqT,sqT,sqT,sqT,sqT,sqT,sqT,sqF,sqF,sqF,sqF,sqF,sqF,sqF,sqF,sqF,sqF,sqF,sqF,sqF,sqF,sqF,sqF,sqF,sqF,sqF,sqF,sqF,sqF,sqF,sqF,sqF,sqF,sqF,sqF,sqF,sqF,sqF] rfl rfl (any_of HT_.out (by kernel_rfl)) (fun _ _ _ h => h) (Or.inl ⟨by rfl, ?_⟩) ?_ ?_
      rotate_left
      ·intro w'
       go_simp
       with_reducible rfl
      rotate_left
      ·simp only [Act.put, setIfInBounds_toArray,set_cons_zero,set_cons_succ, i64_w, i32_w]
       rfl
      refine pure_ (i := 7) (N := some 29) (v := ?_) (a' := ?_) #[sqT,sqT,sqT,sqT,sqT,sqT,sqT,sqT,sqF,sqF,sqF,sqF,sqF,sqF,sqF,sqF,sqF,sqF,sqF,sqF,sqF,sqF,sqF,sqF,sqF,sqF,sqF,sqF,sqF,sqF,sqF,sqF,sqF,sqF,sqF,sqF,sqF,sqF] rfl rfl (any_of HT_.out (by kernel_rfl)) (fun _ _ _ h => h) (Or.inl ⟨by rfl, ?_⟩) ?_ ?_
      rotate_left
      ·intro w'
       go_simp
       with_reducible rfl
      rotate_left
      ·simp only [Act.put, setIfInBounds_toArray,set_cons_zero,set_cons_succ, i64_w, i32_w]
       rfl
      refine pure_ (i := 8) (N := some 30) (v := ?_) (a' := ?_) #[sqT,sqT,sqT,sqT,sqT,sqT,sqT,sqT,sqT,sqF,sqF,sqF,sqF,sqF,sqF,sqF,sqF,sqF,sqF,sqF,sqF,sqF,sqF,sqF,sqF,sqF,sqF,sqF,sqF,sqF,sqF,sqF,sqF,sqF,sqF,sqF,sqF,sqF] rfl rfl (any_of HT_.out (by kernel_rfl)) (fun _ _ _ h => h) (Or.inl ⟨by rfl, ?_⟩) ?_ ?_
      rotate_left
      ·intro w'
       go_simp
       with_reducible rfl
      rotate_left
      ·simp only [Act.put, setIfInBounds_toArray,set_cons_zero,set_cons_succ, i64_w, i32_w]
       rfl
      refine pure_ (i := 9) (N := some 31) (v := ?_) (a' := ?_) #[sqT,sqT,sqT,sqT,sqT,sqT,sqT,sqT,sqT,sqT,sqF,sqF,sqF,sqF,sqF,sqF,sqF,sqF,sqF,sqF,sqF,sqF,sqF,sqF,sqF,sqF,sqF,sqF,sqF,sqF,sqF,sqF,sqF,sqF,sqF,sqF,sqF,sqF] rfl rfl (any_of HT_.out (by kernel_rfl)) (fun _ _ _ h => h) (Or.inl ⟨by rfl, ?_⟩) ?_ ?_
      rotate_left
      ·intro w'
       go_simp
       with_reducible rfl
      rotate_left
      ·simp only [Act.put, setIfInBounds_toArray,set_cons_zero,set_cons_succ, i64_w, i32_w]
       rfl
      refine one_ (i := 10) (N := some 32) #[sqT,sqT,sqT,sqT,sqT,sqT,sqT,sqT,sqT,sqT,sqT,sqF,sqF,sqF,sqF,sqF,sqF,sqF,sqF,sqF,sqF,sqF,sqF,sqF,sqF,sqF,sqF,sqF,sqF,sqF,sqF,sqF,sqF,sqF,sqF,sqF,sqF,sqF] rfl rfl (one_of HT_.out (by kernel_rfl)) (by decide) (fun K hK => ?_)
      refine goes_ Try.func30 (by kernel_rfl) rfl #[.slice A1 l1.length c1, .int .i64 x9_1, .int .i64 a2] (by rfl) rfl rfl (by (try simp only [List.map_toArray, List.map_cons, List.map_nil]); first | done | rfl | (simp only [List.length_drop, List.length_take]; rfl)) ?_
      with_reducible refine (camshaftref06_within.calls _ _ l1 x9_1 a2 false _ ?side1 ?side2 A17.out).mono ?_
      (case side1 => repeat (first | exact (Kd.C_below HR1.out HB.out) | (with_reducible refine Kd.C_alloc ?_ _) | (with_reducible refine Kd.C_drewN ?_ _) | (with_reducible refine Kd.C_drew ?_)))
      (case side2 => exact HC1.out)
      rintro e w' ⟨rfl, ⟨nd, rfl⟩⟩
      refine ⟨_, rfl, ?_⟩
      refine hK.out _ _ ⟨((HB.out.cell (World.block_lt_of_cell? w _ hw342_0)).trans hw342_0), ((HB.out.cell (World.block_lt_of_cell? w _ hw342_1)).trans hw342_1), ((HB.out.cell (World.block_lt_of_cell? w _ hw342_2)).trans hw342_2)⟩ (fun hHeld => ?_)
      clear hK K
      refine norm_ (a' := ?_) ?_ ?_
      rotate_left
      ·show Act.put _ (some 32) _ = _
       simp only [Act.put, setIfInBounds_toArray,set_cons_zero,set_cons_succ, i64_w, i32_w]
       rfl
      refine pure_ (i := 11) (N := some 33) (v := ?_) (a' := ?_) #[sqT,sqT,sqT,sqT,sqT,sqT,sqT,sqT,sqT,sqT,sqT,sqT,sqF,sqF,sqF,sqF,sqF,sqF,sqF,sqF,sqF,sqF,sqF,sqF,sqF,sqF,sqF,sqF,sqF,sqF,sqF,sqF,sqF,sqF,sqF,sqF,sqF,sqF] rfl rfl (any_of HT_.out (by kernel_rfl)) (fun _ _ _ h => h) (Or.inl ⟨by rfl, ?_⟩) ?_ ?_
      rotate_left
      ·intro w'
       go_simp
       with_reducible rfl
      rotate_left
      ·simp only [Act.put, setIfInBounds_toArray,set_cons_zero,set_cons_succ, i64_w, i32_w]
       rfl
      refine pure_ (i := 12) (N := some 34) (v := undef) (a' := ?_) #[sqT,sqT,sqT,sqT,sqT,sqT,sqT,sqT,sqT,sqT,sqT,sqT,sqT,sqF,sqF,sqF,sqF,sqF,sqF,sqF,sqF,sqF,sqF,sqF,sqF,sqF,sqF,sqF,sqF,sqF,sqF,sqF,sqF,sqF,sqF,sqF,sqF,sqF] rfl rfl (any_of HT_.out (by kernel_rfl)) (fun _ _ _ h => h) (Or.inr ⟨by rfl, rfl⟩) ?_ ?_
      rotate_left
      ·simp only [Act.put, setIfInBounds_toArray,set_cons_zero,set_cons_succ, i64_w, i32_w]
       rfl
      refine pure_ (i := 13) (N := some 35) (v := undef) (a' := ?_) #[sqT,sqT,sqT,sqT,sqT,sqT,sqT,sqT,sqT,sqT,sqT,sqT,sqT,sqT,sqF,sqF,sqF,sqF,sqF,sqF,sqF,sqF,sqF,sqF,sqF,sqF,sqF,sqF,sqF,sqF,sqF,sqF,sqF,sqF,sqF,sqF,sqF,sqF] rfl rfl (any_of HT_.out (by kernel_rfl)) (fun _ _ _ h => h) (Or.inr ⟨by rfl, rfl⟩) ?_ ?_
      rotate_left
      ·simp only [Act.put, setIfInBounds_toArray,set_cons_zero,set_cons_succ, i64_w, i32_w]
       rfl
      refine pure_ (i := 14) (N := some 36) (v := undef) (a' := ?_) #[sqT,sqT,sqT,sqT,sqT,sqT,sqT,sqT,sqT,sqT,sqT,sqT,sqT,sqT,sqT,sqF,sqF,sqF,sqF,sqF,sqF,sqF,sqF,sqF,sqF,sqF,sqF,sqF,sqF,sqF,sqF,sqF,sqF,sqF,sqF,sqF,sqF,sqF] rfl rfl (any_of HT_.out (by kernel_rfl)) (fun _ _ _ h => h) (Or.inr ⟨by rfl, rfl⟩) ?_ ?_
      rotate_left
      ·simp only [Act.put, setIfInBounds_toArray,set_cons_zero,set_cons_succ, i64_w, i32_w]
       rfl
      refine pure_ (i := 15) (N := some 37) (v := undef) (a' := ?_) #[sqT,sqT,sqT,sqT,sqT,sqT,sqT,sqT,sqT,sqT,sqT,sqT,sqT,sqT,sqT,sqT,sqF,sqF,sqF,sqF,sqF,sqF,sqF,sqF,sqF,sqF,sqF,sqF,sqF,sqF,sqF,sqF,sqF,sqF,sqF,sqF,sqF,sqF] rfl rfl (any_of HT_.out (by kernel_rfl)) (fun _ _ _ h => h) (Or.inr ⟨by rfl, rfl⟩) ?_ ?_
      rotate_left
      ·simp only [Act.put, setIfInBounds_toArray,set_cons_zero,set_cons_succ, i64_w, i32_w]
       rfl
      refine pure_ (i := 16) (N := some 38) (v := undef) (a' := ?_) #[sqT,sqT,sqT,sqT,sqT,sqT,sqT,sqT,sqT,sqT,sqT,sqT,sqT,sqT,sqT,sqT,sqT,sqF,sqF,sqF,sqF,sqF,sqF,sqF,sqF,sqF,sqF,sqF,sqF,sqF,sqF,sqF,sqF,sqF,sqF,sqF,sqF,sqF] rfl rfl (any_of HT_.out (by kernel_rfl)) (fun _ _ _ h => h) (Or.inr ⟨by rfl, rfl⟩) ?_ ?_
      rotate_left
      ·simp only [Act.put, setIfInBounds_toArray,set_cons_zero,set_cons_succ, i64_w, i32_w]
       rfl
      refine pure_ (i := 17) (N := some 39) (v := undef) (a' := ?_) #[sqT,sqT,sqT,sqT,sqT,sqT,sqT,sqT,sqT,sqT,sqT,sqT,sqT,sqT,sqT,sqT,sqT,sqT,sqF,sqF,sqF,sqF,sqF,sqF,sqF,sqF,sqF,sqF,sqF,sqF,sqF,sqF,sqF,sqF,sqF,sqF,sqF,sqF] rfl rfl (any_of HT_.out (by kernel_rfl)) (fun _ _ _ h => h) (Or.inr ⟨by rfl, rfl⟩) ?_ ?_
      rotate_left
      ·simp only [Act.put, setIfInBounds_toArray,set_cons_zero,set_cons_succ, i64_w, i32_w]
       rfl
      refine pure_ (i := 18) (N := some 40) (v := undef) (a' := ?_) #[sqT,sqT,sqT,sqT,sqT,sqT,sqT,sqT,sqT,sqT,sqT,sqT,sqT,sqT,sqT,sqT,sqT,sqT,sqT,sqF,sqF,sqF,sqF,sqF,sqF,sqF,sqF,sqF,sqF,sqF,sqF,sqF,sqF,sqF,sqF,sqF,sqF,sqF] rfl rfl (any_of HT_.out (by kernel_rfl)) (fun _ _ _ h => h) (Or.inr ⟨by rfl, rfl⟩) ?_ ?_
      rotate_left
      ·simp only [Act.put, setIfInBounds_toArray,set_cons_zero,set_cons_succ, i64_w, i32_w]
       rfl
      refine pure_ (i := 19) (N := some 41) (v := undef) (a' := ?_) #[sqT,sqT,sqT,sqT,sqT,sqT,sqT,sqT,sqT,sqT,sqT,sqT,sqT,sqT,sqT,sqT,sqT,sqT,sqT,sqT,sqF,sqF,sqF,sqF,sqF,sqF,sqF,sqF,sqF,sqF,sqF,sqF,sqF,sqF,sqF,sqF,sqF,sqF] rfl rfl (any_of HT_.out (by kernel_rfl)) (fun _ _ _ h => h) (Or.inr ⟨by rfl, rfl⟩) ?_ ?_
      rotate_left
      ·simp only [Act.put, setIfInBounds_toArray,set_cons_zero,set_cons_succ, i64_w, i32_w]
       rfl
      refine pure_ (i := 20) (N := some 42) (v := undef) (a' := ?_) #[sqT,sqT,sqT,sqT,sqT,sqT,sqT,sqT,sqT,sqT,sqT,sqT,sqT,sqT,sqT,sqT,sqT,sqT,sqT,sqT,sqT,sqF,sqF,sqF,sqF,sqF,sqF,sqF,sqF,sqF,sqF,sqF,sqF,sqF,sqF,sqF,sqF,sqF] rfl rfl (any_of HT_.out (by kernel_rfl)) (fun _ _ _ h => h) (Or.inr ⟨by rfl, rfl⟩) ?_ ?_
      rotate_left
      ·simp only [Act.put, setIfInBounds_toArray,set_cons_zero,set_cons_succ, i64_w, i32_w]
       rfl
      refine pure_ (i := 21) (N := some 43) (v := undef) (a' := ?_) #[sqT,sqT,sqT,sqT,sqT,sqT,sqT,sqT,sqT,sqT,sqT,sqT,sqT,sqT,sqT,sqT,sqT,sqT,sqT,sqT,sqT,sqT,sqF,sqF,sqF,sqF,sqF,sqF,sqF,sqF,sqF,sqF,sqF,sqF,sqF,sqF,sqF,sqF] rfl rfl (any_of HT_.out (by kernel_rfl)) (fun _ _ _ h => h) (Or.inr ⟨by rfl, rfl⟩) ?_ ?_
      rotate_left
      ·simp only [Act.put, setIfInBounds_toArray,set_cons_zero,set_cons_succ, i64_w, i32_w]
       rfl
      refine pure_ (i := 22) (N := some 44) (v := undef) (a' := ?_) #[sqT,sqT,sqT,sqT,sqT,sqT,sqT,sqT,sqT,sqT,sqT,sqT,sqT,sqT,sqT,sqT,sqT,sqT,sqT,sqT,sqT,sqT,sqT,sqF,sqF,sqF,sqF,sqF,sqF,sqF,sqF,sqF,sqF,sqF,sqF,sqF,sqF,sqF] rfl rfl (any_of HT_.out (by kernel_rfl)) (fun _ _ _ h => h) (Or.inr ⟨by rfl, rfl⟩) ?_ ?_
      rotate_left
      ·simp only [Act.put, setIfInBounds_toArray,set_cons_zero,set_cons_succ, i64_w, i32_w]
       rfl
      refine pure_ (i := 23) (N := some 45) (v := undef) (a' := ?_) #[sqT,sqT,sqT,sqT,sqT,sqT,sqT,sqT,sqT,sqT,sqT,sqT,sqT,sqT,sqT,sqT,sqT,sqT,sqT,sqT,sqT,sqT,sqT,sqT,sqF,sqF,sqF,sqF,sqF,sqF,sqF,sqF,sqF,sqF,sqF,sqF,sqF,sqF] rfl rfl (any_of HT_.out (by kernel_rfl)) (fun _ _ _ h => h) (Or.inr ⟨by rfl, rfl⟩) ?_ ?_
      rotate_left
      ·simp only [Act.put, setIfInBounds_toArray,set_cons_zero,set_cons_succ, i64_w, i32_w]
       rfl
      refine pure_ (i := 24) (N := some 46) (v := undef) (a' := ?_) #[sqT,sqT,sqT,sqT,sqT,sqT,sqT,sqT,sqT,sqT,sqT,sqT,sqT,sqT,sqT,sqT,sqT,sqT,sqT,sqT,sqT,sqT,sqT,sqT,sqT,sqF,sqF,sqF,sqF,sqF,sqF,sqF,sqF,sqF,sqF,sqF,sqF,sqF] rfl rfl (any_of HT_.out (by kernel_rfl)) (fun _ _ _ h => h) (Or.inr ⟨by rfl, rfl⟩) ?_ ?_
      rotate_left
      ·simp only [Act.put, setIfInBounds_toArray,set_cons_zero,set_cons_succ, i64_w, i32_w]
       rfl
      refine pure_ (i := 25) (N := some 47) (v := undef) (a' := ?_) #[sqT,sqT,sqT,sqT,sqT,sqT,sqT,sqT,sqT,sqT,sqT,sqT,sqT,sqT,sqT,sqT,sqT,sqT,sqT,sqT,sqT,sqT,sqT,sqT,sqT,sqT,sqF,sqF,sqF,sqF,sqF,sqF,sqF,sqF,sqF,sqF,sqF,sqF] rfl rfl (any_of HT_.out (by kernel_rfl)) (fun _ _ _ h => h) (Or.inr ⟨by rfl, rfl⟩) ?_ ?_
      rotate_left
      ·simp only [Act.put, setIfInBounds_toArray,set_cons_zero,set_cons_succ, i64_w, i32_w]
       rfl
      refine pure_ (i := 26) (N := some 48) (v := undef) (a' := ?_) #[sqT,sqT,sqT,sqT,sqT,sqT,sqT,sqT,sqT,sqT,sqT,sqT,sqT,sqT,sqT,sqT,sqT,sqT,sqT,sqT,sqT,sqT,sqT,sqT,sqT,sqT,sqT,sqF,sqF,sqF,sqF,sqF,sqF,sqF,sqF,sqF,sqF,sqF] rfl rfl (any_of HT_.out (by kernel_rfl)) (fun _ _ _ h => h) (Or.inr ⟨by rfl, rfl⟩) ?_ ?_
      rotate_left
      ·simp only [Act.put, setIfInBounds_toArray,set_cons_zero,set_cons_succ, i64_w, i32_w]
       rfl
      refine pure_ (i := 27) (N := some 49) (v := undef) (a' := ?_) #[sqT,sqT,sqT,sqT,sqT,sqT,sqT,sqT,sqT,sqT,sqT,sqT,sqT,sqT,sqT,sqT,sqT,sqT,sqT,sqT,sqT,sqT,sqT,sqT,sqT,sqT,sqT,sqT,sqF,sqF,sqF,sqF,sqF,sqF,sqF,sqF,sqF,sqF] rfl rfl (any_of HT_.out (by kernel_rfl)) (fun _ _ _ h => h) (Or.inr ⟨by rfl, rfl⟩) ?_ ?_
      rotate_left
      ·simp only [Act.put, setIfInBounds_toArray,set_cons_zero,set_cons_succ, i64_w, i32_w]
       rfl
      refine pure_ (i := 28) (N := some 50) (v := undef) (a' := ?_) #[sqT,sqT,sqT,sqT,sqT,sqT,sqT,sqT,sqT,sqT,sqT,sqT,sqT,sqT,sqT,sqT,sqT,sqT,sqT,sqT,sqT,sqT,sqT,sqT,sqT,sqT,sqT,sqT,sqT,sqF,sqF,sqF,sqF,sqF,sqF,sqF,sqF,sqF] rfl rfl (any_of HT_.out (by kernel_rfl)) (fun _ _ _ h => h) (Or.inr ⟨by rfl, rfl⟩) ?_ ?_
      rotate_left
      ·simp only [Act.put, setIfInBounds_toArray,set_cons_zero,set_cons_succ, i64_w, i32_w]
       rfl
      refine pure_ (i := 29) (N := some 51) (v := undef) (a' := ?_) #[sqT,sqT,sqT,sqT,sqT,sqT,sqT,sqT,sqT,sqT,sqT,sqT,sqT,sqT,sqT,sqT,sqT,sqT,sqT,sqT,sqT,sqT,sqT,sqT,sqT,sqT,sqT,sqT,sqT,sqT,sqF,sqF,sqF,sqF,sqF,sqF,sqF,sqF] rfl rfl (any_of HT_.out (by kernel_rfl)) (fun _ _ _ h => h) (Or.inr ⟨by rfl, rfl⟩) ?_ ?_
      rotate_left
      ·simp only [Act.put, setIfInBounds_toArray,set_cons_zero,set_cons_succ, i64_w, i32_w]
       rfl
      refine pure_ (i := 30) (N := some 52) (v := undef) (a' := ?_) #[sqT,sqT,sqT,sqT,sqT,sqT,sqT,sqT,sqT,sqT,sqT,sqT,sqT,sqT,sqT,sqT,sqT,sqT,sqT,sqT,sqT,sqT,sqT,sqT,sqT,sqT,sqT,sqT,sqT,sqT,sqT,sqF,sqF,sqF,sqF,sqF,sqF,sqF] rfl rfl (any_of HT_.out (by kernel_rfl)) (fun _ _ _ h => h) (Or.inr ⟨by rfl, rfl⟩) ?_ ?_
      rotate_left
      ·simp only [Act.put, setIfInBounds_toArray,set_cons_zero,set_cons_succ, i64_w, i32_w]
       rfl
      refine pure_ (i := 31) (N := some 53) (v := undef) (a' := ?_) #[sqT,sqT,sqT,sqT,sqT,sqT,sqT,sqT,sqT,sqT,sqT,sqT,sqT,sqT,sqT,sqT,sqT,sqT,sqT,sqT,sqT,sqT,sqT,sqT,sqT,sqT,sqT,sqT,sqT,sqT,sqT,sqT,sqF,sqF,sqF,sqF,sqF,sqF] rfl rfl (any_of HT_.out (by kernel_rfl)) (fun _ _ _ h => h) (Or.inr ⟨by rfl, rfl⟩) ?_ ?_
      rotate_left
      ·simp only [Act.put, setIfInBounds_toArray,set_cons_zero,set_cons_succ, i64_w, i32_w]
       rfl
      refine pure_ (i := 32) (N := some 54) (v := undef) (a' := ?_) #[sqT,sqT,sqT,sqT,sqT,sqT,sqT,sqT,sqT,sqT,sqT,sqT,sqT,sqT,sqT,sqT,sqT,sqT,sqT,sqT,sqT,sqT,sqT,sqT,sqT,sqT,sqT,sqT,sqT,sqT,sqT,sqT,sqT,sqF,sqF,sqF,sqF,sqF] rfl rfl (any_of HT_.out (by kernel_rfl)) (fun _ _ _ h => h) (Or.inr ⟨by rfl, rfl⟩) ?_ ?_
      rotate_left
      ·simp only [Act.put, setIfInBounds_toArray,set_cons_zero,set_cons_succ, i64_w, i32_w]
       rfl
      refine pure_ (i := 33) (N := some 55) (v := undef) (a' := ?_) #[sqT,sqT,sqT,sqT,sqT,sqT,sqT,sqT,sqT,sqT,sqT,sqT,sqT,sqT,sqT,sqT,sqT,sqT,sqT,sqT,sqT,sqT,sqT,sqT,sqT,sqT,sqT,sqT,sqT,sqT,sqT,sqT,sqT,sqT,sqF,sqF,sqF,sqF] rfl rfl (any_of HT_.out (by kernel_rfl)) (fun _ _ _ h => h) (Or.inr ⟨by rfl, rfl⟩) ?_ ?_
      rotate_left
      ·simp only [Act.put, setIfInBounds_toArray,set_cons_zero,set_cons_succ, i64_w, i32_w]
       rfl
      refine pure_ (i := 34) (N := some 56) (v := undef) (a' := ?_) #[sqT,sqT,sqT,sqT,sqT,sqT,sqT,sqT,sqT,sqT,sqT,sqT,sqT,sqT,sqT,sqT,sqT,sqT,sqT,sqT,sqT,sqT,sqT,sqT,sqT,sqT,sqT,sqT,sqT,sqT,sqT,sqT,sqT,sqT,sqT,sqF,sqF,sqF] rfl rfl (any_of HT_.out (by kernel_rfl)) (fun _ _ _ h => h) (Or.inr ⟨by rfl, rfl⟩) ?_ ?_
      rotate_left
      ·simp only [Act.put, setIfInBounds_toArray,set_cons_zero,set_cons_succ, i64_w, i32_w]
       rfl
      refine pure_ (i := 35) (N := some 57) (v := undef) (a' := ?_) #[sqT,sqT,sqT,sqT,sqT,sqT,sqT,sqT,sqT,sqT,sqT,sqT,sqT,sqT,sqT,sqT,sqT,sqT,sqT,sqT,sqT,sqT,sqT,sqT,sqT,sqT,sqT,sqT,sqT,sqT,sqT,sqT,sqT,sqT,sqT,sqT,sqF,sqF] rfl rfl (any_of HT_.out (by kernel_rfl)) (fun _ _ _ h => h) (Or.inr ⟨by rfl, rfl⟩) ?_ ?_
      rotate_left
      ·simp only [Act.put, setIfInBounds_toArray,set_cons_zero,set_cons_succ, i64_w, i32_w]
       rfl
      refine pure_ (i := 36) (N := some 58) (v := ?_) (a' := ?_) #[sqT,sqT,sqT,sqT,sqT,sqT,sqT,sqT,sqT,sqT,sqT,sqT,sqT,sqT,sqT,sqT,sqT,sqT,sqT,sqT,sqT,sqT,sqT,sqT,sqT,sqT,sqT,sqT,sqT,sqT,sqT,sqT,sqT,sqT,sqT,sqT,sqT,sqF] rfl rfl (any_of HT_.out (by kernel_rfl)) (fun _ _ _ h => h) (Or.inl ⟨by rfl, ?_⟩) ?_ ?_
      rotate_left
      ·intro w'
       go_simp
       with_reducible rfl
      rotate_left
      ·simp only [Act.put, setIfInBounds_toArray,set_cons_zero,set_cons_succ, i64_w, i32_w]
       rfl
      refine pure_ (i := 37) (N := some 59) (v := ?_) (a' := ?_) #[sqT,sqT,sqT,sqT,sqT,sqT,sqT,sqT,sqT,sqT,sqT,sqT,sqT,sqT,sqT,sqT,sqT,sqT,sqT,sqT,sqT,sqT,sqT,sqT,sqT,sqT,sqT,sqT,sqT,sqT,sqT,sqT,sqT,sqT,sqT,sqT,sqT,sqT] rfl rfl (any_of HT_.out (by kernel_rfl)) (fun _ _ _ h => h) (Or.inl ⟨by rfl, ?_⟩) ?_ ?_
      rotate_left
      ·intro w'
       go_simp
       with_reducible rfl
      rotate_left
      ·simp only [Act.put, setIfInBounds_toArray,set_cons_zero,set_cons_succ, i64_w, i32_w]
       rfl
      refine done_ (done_of HT_.out (by kernel_rfl)) ?_
      try go_wp2
      go_meet
      case rel => exact ⟨_, (false), (by first | rfl | (simp; done) | (simp [*]; done)), H', ⟨by have := HK1.out; first | omega | exact Nat.le_refl _⟩, ⟨by (with_reducible repeat (first | refine blk_drewN ?_ _ | refine blk_drew ?_ | refine blk_alloc ?_ _)); exact BK341.out⟩, ⟨by repeat (first | (with_reducible first | exact HB.out | apply below_alloc | apply pw_below_drewN | apply below_drew1 | refine below_set ?_ GE341.out) | exact HB.out | exact Below.refl _ _)⟩⟩
     subst c18
     have H1 : (if ((rd_T32 l0 x9_1).f0) = 21 then (camshaftref06_bad.j1 k1 l0 l1 a2 x8_1 x9_1 true ((rd_T32 l0 a2).f0) ((rd_T32 l0 a2).f1) ((rd_T32 l0 a2).f2)) else (if ((rd_T32 l0 x9_1).f0) = 23 then (camshaftref06_bad.j1 k1 l0 l1 a2 x8_1 x9_1 (decide (((rd_T32 l0 x9_1).f1) ≥ ((rd_T32 l0 a2).f1))) ((rd_T32 l0 a2).f0) ((rd_T32 l0 a2).f1) ((rd_T32 l0 a2).f2)) else (camshaftref06_bad.j1 k1 l0 l1 a2 x8_1 x9_1 false ((rd_T32 l0 a2).f0) ((rd_T32 l0 a2).f1) ((rd_T32 l0 a2).f2)))) = some r := by rw [if_pos rfl] at H; exact H
     clear H
     have H := H1
     clear H1
     by_cases c19 : ((rd_T32 l0 x9_1).f0) = 21
     ·rw [if_pos c19] at H
      have c19b0 : (((rd_T32 l0 x9_1).f0) == 21) = true := beq_iff_eq.mpr c19
      have c19b1 : (((rd_T32 l0 x9_1).f0) != 21) = false := bne_eq_false_iff_eq.mpr c19
      clear c19
      have H' := Aside0.mk H
      clear H
      try go_wp2
      have n0_ := Aside0.mk (blk_drew BK341.out)
      have n1_ := Aside0.mk (below_drew1 HB.out)
      clear BK341
      clear HB
      have BK341 := n0_
      have HB := n1_
      clear n0_ n1_
      have p342 : 0 ≤ (x9_1 : Int) := of_decide_eq_true (by first | (with_reducible assumption) | assumption)
      have q342 : x9_1 < (l0.length : Int) := of_decide_eq_true (by first | (with_reducible assumption) | assumption)
      obtain ⟨ad342, e342, hx342_0, hx342_1, hx342_2⟩ := at_T32 HR0.out x9_1 p342 q342
      have hw342_2 := hx342_2
      have hw342_1 := hx342_1
      have hw342_0 := hx342_0
      obtain rfl : ad340 = ad342 := (by injection e342)
      replace hx342_0 := (HB.out.cell (World.block_lt_of_cell? w _ hx342_0)).trans hx342_0
      replace hx342_1 := (HB.out.cell (World.block_lt_of_cell? w _ hx342_1)).trans hx342_1
      replace hx342_2 := (HB.out.cell (World.block_lt_of_cell? w _ hx342_2)).trans hx342_2
      replace p342 := eq_true p342
      replace q342 := eq_true q342
      have p344 : 0 ≤ (x9_1 : Int) := of_decide_eq_true (by first | (with_reducible assumption) | assumption)
      have q344 : x9_1 < (l0.length : Int) := of_decide_eq_true (by first | (with_reducible assumption) | assumption)
      obtain ⟨ad344, e344, hx344_0, hx344_1, hx344_2⟩ := at_T32 HR0.out x9_1 p344 q344
      have hw344_2 := hx344_2
      have hw344_1 := hx344_1
      have hw344_0 := hx344_0
      obtain rfl : ad340 = ad344 := (by injection e344)
      replace hx344_0 := (HB.out.cell (World.block_lt_of_cell? w _ hx344_0)).trans hx344_0
      replace hx344_1 := (HB.out.cell (World.block_lt_of_cell? w _ hx344_1)).trans hx344_1
      replace hx344_2 := (HB.out.cell (World.block_lt_of_cell? w _ hx344_2)).trans hx344_2
      replace p344 := eq_true p344
      replace q344 := eq_true q344
      refine start_ (n := 38) (S := fun w' => w'.cell? (ad340.add ((x9_1).toNat * 3)) = some (.int .i64 ((rd_T32 l0 x9_1).f0)) ∧ w'.cell? ⟨(ad340.add ((x9_1).toNat * 3)).block, (ad340.add ((x9_1).toNat * 3)).off + 1, none⟩ = some (.int .i64 ((rd_T32 l0 x9_1).f1)) ∧ w'.cell? ⟨(ad340.add ((x9_1).toNat * 3)).block, (ad340.add ((x9_1).toNat * 3)).off + 2, none⟩ = some (.int .i64 ((rd_T32 l0 x9_1).f2)) ∧ w'.cell? (ad340.add ((x9_1).toNat * 3)) = some (.int .i64 ((rd_T32 l0 x9_1).f0)) ∧ w'.cell? ⟨(ad340.add ((x9_1).toNat * 3)).block, (ad340.add ((x9_1).toNat * 3)).off + 1, none⟩ = some (.int .i64 ((rd_T32 l0 x9_1).f1)) ∧ w'.cell? ⟨(ad340.add ((x9_1).toNat * 3)).block, (ad340.add ((x9_1).toNat * 3)).off + 2, none⟩ = some (.int .i64 ((rd_T32 l0 x9_1).f2))) (ds := []) #[sqF,sqF,sqF,sqF,sqF,sqF,sqF,sqF,sqF,sqF,sqF,sqF,sqF,sqF,sqF,sqF,sqF,sqF,sqF,sqF,sqF,sqF,sqF,sqF,sqF,sqF,sqF,sqF,sqF,sqF,sqF,sqF,sqF,sqF,sqF,sqF,sqF,sqF] (by kernel_rfl) rfl rfl ⟨((HB.out.cell (World.block_lt_of_cell? w _ hw342_0)).trans hw342_0), ((HB.out.cell (World.block_lt_of_cell? w _ hw342_1)).trans hw342_1), ((HB.out.cell (World.block_lt_of_cell? w _ hw342_2)).trans hw342_2), ((HB.out.cell (World.block_lt_of_cell? w _ hw344_0)).trans hw344_0), ((HB.out.cell (World.block_lt_of_cell? w _ hw344_1)).trans hw344_1), ((HB.out.cell (World.block_lt_of_cell? w _ hw344_2)).trans hw344_2)⟩ (fun hHeld => ?_); refine with_tabW camshaftref06_bad.tab7 camshaftref06_bad.bits7 (fun HT_ HW_ => ?_)
      generalize wr.drew = w20 at BK341 HB hx342_0 hx342_1 hx342_2 hx344_0 hx344_1 hx344_2 hHeld ⊢
      refine pure_ (i := 0) (N := some 22) (v := ?_) (a' := ?_) #[sqT,sqF,sqF,sqF,sqF,sqF,sqF,sqF,sqF,sqF,sqF,sqF,sqF,sqF,sqF,sqF,sqF,sqF,sqF,sqF,sqF,sqF,sqF,sqF,sqF,sqF,sqF,sqF,sqF,sqF,sqF,sqF,sqF,sqF,sqF,sqF,sqF,sqF] rfl rfl (any_of HT_.out (by kernel_rfl)) (fun _ _ _ h => h) (Or.inl ⟨by rfl, ?_⟩) ?_ ?_
      rotate_left
      ·intro w'
       go_simp
       with_reducible rfl
      rotate_left
      ·simp only [Act.put, setIfInBounds_toArray,set_cons_zero,set_cons_succ, i64_w, i32_w]
       rfl
      refine pure_ (i := 1) (N := some 23) (v := ?_) (a' := ?_) #[sqT,sqT,sqF,sqF,sqF,sqF,sqF,sqF,sqF,sqF,sqF,sqF,sqF,sqF,sqF,sqF,sqF,sqF,sqF,sqF,sqF,sqF,sqF,sqF,sqF,sqF,sqF,sqF,sqF,sqF,sqF,sqF,sqF,sqF,sqF,sqF,sqF,sqF] rfl rfl (any_of HT_.out (by kernel_rfl)) (fun _ _ _ h => h) (Or.inl ⟨by rfl, ?_⟩) ?_ ?_
      rotate_left
      ·intro w'
       go_simp
       with_reducible rfl
      rotate_left
      ·simp only [Act.put, setIfInBounds_toArray,set_cons_zero,set_cons_succ, i64_w, i32_w]
       rfl
      refine pure_ (i := 2) (N := some 24) (v := ?_) (a' := ?_) #[sqT,sqT,sqT,sqF,sqF,sqF,sqF,sqF,sqF,sqF,sqF,sqF,sqF,sqF,sqF,sqF,sqF,sqF,sqF,sqF,sqF,sqF,sqF,sqF,sqF,sqF,sqF,sqF,sqF,sqF,sqF,sqF,sqF,sqF,sqF,sqF,sqF,sqF] rfl rfl (any_of HT_.out (by kernel_rfl)) (fun _ _ _ h => h) (Or.inl ⟨by rfl, ?_⟩) ?_ ?_
      rotate_left
      ·intro w'
       go_simp
       with_reducible rfl
      rotate_left
      ·simp only [Act.put, setIfInBounds_toArray,set_cons_zero,set_cons_succ, i64_w, i32_w]
       rfl
      refine pure_ (i := 3) (N := some 25) (v := ?_) (a' := ?_) #[sqT,sqT,sqT,sqT,sqF,sqF,sqF,sqF,sqF,sqF,sqF,sqF,sqF,sqF,sqF,sqF,sqF,sqF,sqF,sqF,sqF,sqF,sqF,sqF,sqF,sqF,sqF,sqF,sqF,sqF,sqF,sqF,sqF,sqF,sqF,sqF,sqF,sqF] rfl rfl (any_of HT_.out (by kernel_rfl)) (fun _ _ _ h => h) (Or.inl ⟨by rfl, ?_⟩) ?_ ?_
      rotate_left
      ·intro w'
       go_simp
       with_reducible rfl
      rotate_left
      ·simp only [Act.put, setIfInBounds_toArray,set_cons_zero,set_cons_succ, i64_w, i32_w]
       rfl
      refine take_ (i := 4) (N := some 26) (v := ?_) (a' := ?_) #[sqT,sqT,sqT,sqT,sqT,sqF,sqF,sqF,sqF,sqF,sqF,sqF,sqF,sqF,sqF,sqF,sqF,sqF,sqF,sqF,sqF,sqF,sqF,sqF,sqF,sqF,sqF,sqF,sqF,sqF,sqF,sqF,sqF,sqF,sqF,sqF,sqF,sqF] rfl rfl (take_ofW HT_.out HW_.out (by kernel_rfl)) (fun _ _ _ h => h) (Or.inl ⟨by rfl, ?_⟩) hHeld ?_ ?_
      rotate_left
      ·rintro w' ⟨s0, s1, s2, s3, s4, s5⟩
       go_simp
       with_reducible rfl
      rotate_left
      ·simp only [Act.put, setIfInBounds_toArray,set_cons_zero,set_cons_succ, i64_w, i32_w]
       rfl
      refine pure_ (i := 5) (N := some 27) (v := ?_) (a' := ?_) #[sqT,sqT,sqT,sqT,sqT,sqT,sqF,sqF,sqF,sqF,sqF,sqF,sqF,sqF,sqF,sqF,sqF,sqF,sqF,sqF,sqF,sqF,sqF,sqF,sqF,sqF,sqF,sqF,sqF,sqF,sqF,sqF,sqF,sqF,sqF,sqF,sqF,sqF] rfl rfl (any_of HT_.out (by kernel_rfl)) (fun _ _ _ h => h) (Or.inl ⟨by rfl, ?_⟩) ?_ ?_
      rotate_left
      ·intro w'
       go_simp
       with_reducible rfl
      rotate_left
      ·simp only [Act.put, setIfInBounds_toArray,set_cons_zero,set_cons_succ, i64_w, i32_w]
       rfl
      refine pure_ (i := 6) (N := some 28) (v := ?_) (a' := ?_) #[sqT,sqT,sqT,sqT,sqT,sqT,sqT,sqF,sqF,sqF,sqF,sqF,sqF,sqF,sqF,sqF,sqF,sqF,sqF,sqF,sqF,sqF,sqF,sqF,sqF,sqF,sqF,sqF,sqF,sqF,sqF,sqF,sqF,sqF,sqF,sqF,sqF,sqF] rfl rfl (any_of HT_.out (by kernel_rfl)) (fun _ _ _ h => h) (Or.inl ⟨by rfl, ?_⟩) ?_ ?_
      rotate_left
      ·intro w'
       go_simp
       with_reducible rfl
      rotate_left
      ·simp only [Act.put, setIfInBounds_toArray,set_cons_zero,set_cons_succ, i64_w, i32_w]
       rfl
      refine pure_ (i := 7) (N := some 29) (v := ?_) (a' := ?_) #[sqT,sqT,sqT,sqT,sqT,sqT,sqT,sqT,sqF,sqF,sqF,sqF,sqF,sqF,sqF,sqF,sqF,sqF,sqF,sqF,sqF,sqF,sqF,sqF,sqF,sqF,sqF,sqF,sqF,sqF,sqF,sqF,sqF,sqF,sqF,sqF,sqF,sqF] rfl rfl (any_of HT_.out (by kernel_rfl)) (fun _ _ _ h => h) (Or.inl ⟨by rfl, ?_⟩) ?_ ?_
      rotate_left
      ·intro w'
       go_simp
       with_reducible rfl
      rotate_left
      ·simp only [Act.put, setIfInBounds_toArray,set_cons_zero,set_cons_succ, i64_w, i32_w]
       rfl
      refine pure_ (i := 8) (N := some 30) (v := ?_) (a' := ?_) #[sqT,sqT,sqT,sqT,sqT,sqT,sqT,sqT,sqT,sqF,sqF,sqF,sqF,sqF,sqF,sqF,sqF,sqF,sqF,sqF,sqF,sqF,sqF,sqF,sqF,sqF,sqF,sqF,sqF,sqF,sqF,sqF,sqF,sqF,sqF,sqF,sqF,sqF] rfl rfl (any_of HT_.out (by kernel_rfl)) (fun _ _ _ h => h) (Or.inl ⟨by rfl, ?_⟩) ?_ ?_
      rotate_left
      ·intro w'
       go_simp
       with_reducible rfl
      rotate_left
      ·simp only [Act.put, setIfInBounds_toArray,set_cons_zero,set_cons_succ, i64_w, i32_w]
       rfl
      refine pure_ (i := 9) (N := some 31) (v := ?_) (a' := ?_) #[sqT,sqT,sqT,sqT,sqT,sqT,sqT,sqT,sqT,sqT,sqF,sqF,sqF,sqF,sqF,sqF,sqF,sqF,sqF,sqF,sqF,sqF,sqF,sqF,sqF,sqF,sqF,sqF,sqF,sqF,sqF,sqF,sqF,sqF,sqF,sqF,sqF,sqF] rfl rfl (any_of HT_.out (by kernel_rfl)) (fun _ _ _ h => h) (Or.inl ⟨by rfl, ?_⟩) ?_ ?_
      rotate_left
      ·intro w'
       go_simp
       with_reducible rfl
      rotate_left
      ·simp only [Act.put, setIfInBounds_toArray,set_cons_zero,set_cons_succ, i64_w, i32_w]
       rfl
      refine one_ (i := 10) (N := some 32) #[sqT,sqT,sqT,sqT,sqT,sqT,sqT,sqT,sqT,sqT,sqT,sqF,sqF,sqF,sqF,sqF,sqF,sqF,sqF,sqF,sqF,sqF,sqF,sqF,sqF,sqF,sqF,sqF,sqF,sqF,sqF,sqF,sqF,sqF,sqF,sqF,sqF,sqF] rfl rfl (one_of HT_.out (by kernel_rfl)) (by decide) (fun K hK => ?_)
      refine goes_ Try.func30 (by kernel_rfl) rfl #[.slice A1 l1.length c1, .int .i64 x9_1, .int .i64 a2] (by rfl) rfl rfl (by (try simp only [List.map_toArray, List.map_cons, List.map_nil]); first | done | rfl | (simp only [List.length_drop, List.length_take]; rfl)) ?_
      with_reducible refine (camshaftref06_within.calls _ _ l1 x9_1 a2 true _ ?side1 ?side2 A17.out).mono ?_
      (case side1 => repeat (first | exact (Kd.C_below HR1.out HB.out) | (with_reducible refine Kd.C_alloc ?_ _) | (with_reducible refine Kd.C_drewN ?_ _) | (with_reducible refine Kd.C_drew ?_)))
      (case side2 => exact HC1.out)
      rintro e w' ⟨rfl, ⟨nd, rfl⟩⟩
      refine ⟨_, rfl, ?_⟩
      refine hK.out _ _ ⟨((HB.out.cell (World.block_lt_of_cell? w _ hw342_0)).trans hw342_0), ((HB.out.cell (World.block_lt_of_cell? w _ hw342_1)).trans hw342_1), ((HB.out.cell (World.block_lt_of_cell? w _ hw342_2)).trans hw342_2), ((HB.out.cell (World.block_lt_of_cell? w _ hw344_0)).trans hw344_0), ((HB.out.cell (World.block_lt_of_cell? w _ hw344_1)).trans hw344_1), ((HB.out.cell (World.block_lt_of_cell? w _ hw344_2)).trans hw344_2)⟩ (fun hHeld => ?_)
      clear hK K
      refine norm_ (a' := ?_) ?_ ?_
      rotate_left
      ·show Act.put _ (some 32) _ = _
       simp only [Act.put, setIfInBounds_toArray,set_cons_zero,set_cons_succ, i64_w, i32_w]
       rfl
      refine pure_ (i := 11) (N := some 33) (v := ?_) (a' := ?_) #[sqT,sqT,sqT,sqT,sqT,sqT,sqT,sqT,sqT,sqT,sqT,sqT,sqF,sqF,sqF,sqF,sqF,sqF,sqF,sqF,sqF,sqF,sqF,sqF,sqF,sqF,sqF,sqF,sqF,sqF,sqF,sqF,sqF,sqF,sqF,sqF,sqF,sqF] rfl rfl (any_of HT_.out (by kernel_rfl)) (fun _ _ _ h => h) (Or.inl ⟨by rfl, ?_⟩) ?_ ?_
      rotate_left
      ·intro w'
       go_simp
       with_reducible rfl
      rotate_left
      ·simp only [Act.put, setIfInBounds_toArray,set_cons_zero,set_cons_succ, i64_w, i32_w]
       rfl
      refine pure_ (i := 12) (N := some 34) (v := ?_) (a' := ?_) #[sqT,sqT,sqT,sqT,sqT,sqT,sqT,sqT,sqT,sqT,sqT,sqT,sqT,sqF,sqF,sqF,sqF,sqF,sqF,sqF,sqF,sqF,sqF,sqF,sqF,sqF,sqF,sqF,sqF,sqF,sqF,sqF,sqF,sqF,sqF,sqF,sqF,sqF] rfl rfl (any_of HT_.out (by kernel_rfl)) (fun _ _ _ h => h) (Or.inl ⟨by rfl, ?_⟩) ?_ ?_
      rotate_left
      ·intro w'
       go_simp
       with_reducible rfl
      rotate_left
      ·simp only [Act.put, setIfInBounds_toArray,set_cons_zero,set_cons_succ, i64_w, i32_w]
       rfl
      refine pure_ (i := 13) (N := some 35) (v := ?_) (a' := ?_) #[sqT,sqT,sqT,sqT,sqT,sqT,sqT,sqT,sqT,sqT,sqT,sqT,sqT,sqT,sqF,sqF,sqF,sqF,sqF,sqF,sqF,sqF,sqF,sqF,sqF,sqF,sqF,sqF,sqF,sqF,sqF,sqF,sqF,sqF,sqF,sqF,sqF,sqF] rfl rfl (any_of HT_.out (by kernel_rfl)) (fun _ _ _ h => h) (Or.inl ⟨by rfl, ?_⟩) ?_ ?_
      rotate_left
      ·intro w'
       go_simp
       with_reducible rfl
      rotate_left
      ·simp only [Act.put, setIfInBounds_toArray,set_cons_zero,set_cons_succ, i64_w, i32_w]
       rfl
      refine pure_ (i := 14) (N := some 36) (v := ?_) (a' := ?_) #[sqT,sqT,sqT,sqT,sqT,sqT,sqT,sqT,sqT,sqT,sqT,sqT,sqT,sqT,sqT,sqF,sqF,sqF,sqF,sqF,sqF,sqF,sqF,sqF,sqF,sqF,sqF,sqF,sqF,sqF,sqF,sqF,sqF,sqF,sqF,sqF,sqF,sqF] rfl rfl (any_of HT_.out (by kernel_rfl)) (fun _ _ _ h => h) (Or.inl ⟨by rfl, ?_⟩) ?_ ?_
      rotate_left
      ·intro w'
       go_simp
       with_reducible rfl
      rotate_left
      ·simp only [Act.put, setIfInBounds_toArray,set_cons_zero,set_cons_succ, i64_w, i32_w]
       rfl
      refine pure_ (i := 15) (N := some 37) (v := ?_) (a' := ?_) #[sqT,sqT,sqT,sqT,sqT,sqT,sqT,sqT,sqT,sqT,sqT,sqT,sqT,sqT,sqT,sqT,sqF,sqF,sqF,sqF,sqF,sqF,sqF,sqF,sqF,sqF,sqF,sqF,sqF,sqF,sqF,sqF,sqF,sqF,sqF,sqF,sqF,sqF] rfl rfl (any_of HT_.out (by kernel_rfl)) (fun _ _ _ h => h) (Or.inl ⟨by rfl, ?_⟩) ?_ ?_
      rotate_left
      ·intro w'
       go_simp
       with_reducible rfl
      rotate_left
      ·simp only [Act.put, setIfInBounds_toArray,set_cons_zero,set_cons_succ, i64_w, i32_w]
       rfl
      refine take_ (i := 16) (N := some 38) (v := ?_) (a' := ?_) #[sqT,sqT,sqT,sqT,sqT,sqT,sqT,sqT,sqT,sqT,sqT,sqT,sqT,sqT,sqT,sqT,sqT,sqF,sqF,sqF,sqF,sqF,sqF,sqF,sqF,sqF,sqF,sqF,sqF,sqF,sqF,sqF,sqF,sqF,sqF,sqF,sqF,sqF] rfl rfl (take_ofW HT_.out HW_.out (by kernel_rfl)) (fun _ _ _ h => h) (Or.inl ⟨by rfl, ?_⟩) hHeld ?_ ?_
      rotate_left
      ·rintro w' ⟨s0, s1, s2, s3, s4, s5⟩
       go_simp
       with_reducible rfl
      rotate_left
      ·simp only [Act.put, setIfInBounds_toArray,set_cons_zero,set_cons_succ, i64_w, i32_w]
       rfl
      refine pure_ (i := 17) (N := some 39) (v := ?_) (a' := ?_) #[sqT,sqT,sqT,sqT,sqT,sqT,sqT,sqT,sqT,sqT,sqT,sqT,sqT,sqT,sqT,sqT,sqT,sqT,sqF,sqF,sqF,sqF,sqF,sqF,sqF,sqF,sqF,sqF,sqF,sqF,sqF,sqF,sqF,sqF,sqF,sqF,sqF,sqF] rfl rfl (any_of HT_.out (by kernel_rfl)) (fun _ _ _ h => h) (Or.inl ⟨by rfl, ?_⟩) ?_ ?_
      rotate_left
      ·intro w'
       go_simp
       with_reducible rfl
      rotate_left
      ·simp only [Act.put, setIfInBounds_toArray,set_cons_zero,set_cons_succ, i64_w, i32_w]
       rfl
      refine pure_ (i := 18) (N := some 40) (v := ?_) (a' := ?_) #[sqT,sqT,sqT,sqT,sqT,sqT,sqT,sqT,sqT,sqT,sqT,sqT,sqT,sqT,sqT,sqT,sqT,sqT,sqT,sqF,sqF,sqF,sqF,sqF,sqF,sqF,sqF,sqF,sqF,sqF,sqF,sqF,sqF,sqF,sqF,sqF,sqF,sqF] rfl rfl (any_of HT_.out (by kernel_rfl)) (fun _ _ _ h => h) (Or.inl ⟨by rfl, ?_⟩) ?_ ?_
      rotate_left
      ·intro w'
       go_simp
       with_reducible rfl
      rotate_left
      ·simp only [Act.put, setIfInBounds_toArray,set_cons_zero,set_cons_succ, i64_w, i32_w]
       rfl
      refine pure_ (i := 19) (N := some 41) (v := undef) (a' := ?_) #[sqT,sqT,sqT,sqT,sqT,sqT,sqT,sqT,sqT,sqT,sqT,sqT,sqT,sqT,sqT,sqT,sqT,sqT,sqT,sqT,sqF,sqF,sqF,sqF,sqF,sqF,sqF,sqF,sqF,sqF,sqF,sqF,sqF,sqF,sqF,sqF,sqF,sqF] rfl rfl (any_of HT_.out (by kernel_rfl)) (fun _ _ _ h => h) (Or.inr ⟨by rfl, rfl⟩) ?_ ?_
      rotate_left
      ·simp only [Act.put, setIfInBounds_toArray,set_cons_zero,set_cons_succ, i64_w, i32_w]
       rfl
      refine pure_ (i := 20) (N := some 42) (v := undef) (a' := ?_) #[sqT,sqT,sqT,sqT,sqT,sqT,sqT,sqT,sqT,sqT,sqT,sqT,sqT,sqT,sqT,sqT,sqT,sqT,sqT,sqT,sqT,sqF,sqF,sqF,sqF,sqF,sqF,sqF,sqF,sqF,sqF,sqF,sqF,sqF,sqF,sqF,sqF,sqF] rfl rfl (any_of HT_.out (by kernel_rfl)) (fun _ _ _ h => h) (Or.inr ⟨by rfl, rfl⟩) ?_ ?_
      rotate_left
      ·simp only [Act.put, setIfInBounds_toArray,set_cons_zero,set_cons_succ, i64_w, i32_w]
       rfl
      refine pure_ (i := 21) (N := some 43) (v := undef) (a' := ?_) #[sqT,sqT,sqT,sqT,sqT,sqT,sqT,sqT,sqT,sqT,sqT,sqT,sqT,sqT,sqT,sqT,sqT,sqT,sqT,sqT,sqT,sqT,sqF,sqF,sqF,sqF,sqF,sqF,sqF,sqF,sqF,sqF,sqF,sqF,sqF,sqF,sqF,sqF] rfl rfl (any_of HT_.out (by kernel_rfl)) (fun _ _ _ h => h) (Or.inr ⟨by rfl, rfl⟩) ?_ ?_
      rotate_left
      ·simp only [Act.put, setIfInBounds_toArray,set_cons_zero,set_cons_succ, i64_w, i32_w]
       rfl
      refine pure_ (i := 22) (N := some 44) (v := undef) (a' := ?_) #[sqT,sqT,sqT,sqT,sqT,sqT,sqT,sqT,sqT,sqT,sqT,sqT,sqT,sqT,sqT,sqT,sqT,sqT,sqT,sqT,sqT,sqT,sqT,sqF,sqF,sqF,sqF,sqF,sqF,sqF,sqF,sqF,sqF,sqF,sqF,sqF,sqF,sqF] rfl rfl (any_of HT_.out (by kernel_rfl)) (fun _ _ _ h => h) (Or.inr ⟨by rfl, rfl⟩) ?_ ?_
      rotate_left
      ·simp only [Act.put, setIfInBounds_toArray,set_cons_zero,set_cons_succ, i64_w, i32_w]
       rfl
      refine pure_ (i := 23) (N := some 45) (v := undef) (a' := ?_) #[sqT,sqT,sqT,sqT,sqT,sqT,sqT,sqT,sqT,sqT,sqT,sqT,sqT,sqT,sqT,sqT,sqT,sqT,sqT,sqT,sqT,sqT,sqT,sqT,sqF,sqF,sqF,sqF,sqF,sqF,sqF,sqF,sqF,sqF,sqF,sqF,sqF,sqF] rfl rfl (any_of HT_.out (by kernel_rfl)) (fun _ _ _ h => h) (Or.inr ⟨by rfl, rfl⟩) ?_ ?_
      rotate_left
      ·simp only [Act.put, setIfInBounds_toArray,set_cons_zero,set_cons_succ, i64_w, i32_w]
       rfl
      refine pure_ (i := 24) (N := some 46) (v := undef) (a' := ?_) #[sqT,sqT,sqT,sqT,sqT,sqT,sqT,sqT,sqT,sqT,sqT,sqT,sqT,sqT,sqT,sqT,sqT,sqT,sqT,sqT,sqT,sqT,sqT,sqT,sqT,sqF,sqF,sqF,sqF,sqF,sqF,sqF,sqF,sqF,sqF,sqF,sqF,sqF] rfl rfl (any_of HT_.out (by kernel_rfl)) (fun _ _ _ h => h) (Or.inr ⟨by rfl, rfl⟩) ?_ ?_
      rotate_left
      ·simp only [Act.put, setIfInBounds_toArray,set_cons_zero,set_cons_succ, i64_w, i32_w]
       rfl
      refine pure_ (i := 25) (N := some 47) (v := undef) (a' := ?_) #[sqT,sqT,sqT,sqT,sqT,sqT,sqT,sqT,sqT,sqT,sqT,sqT,sqT,sqT,sqT,sqT,sqT,sqT,sqT,sqT,sqT,sqT,sqT,sqT,sqT,sqT,sqF,sqF,sqF,sqF,sqF,sqF,sqF,sqF,sqF,sqF,sqF,sqF] rfl rfl (any_of HT_.out (by kernel_rfl)) (fun _ _ _ h => h) (Or.inr ⟨by rfl, rfl⟩) ?_ ?_
      rotate_left
      ·simp only [Act.put, setIfInBounds_toArray,set_cons_zero,set_cons_succ, i64_w, i32_w]
       rfl
      refine pure_ (i := 26) (N := some 48) (v := undef) (a' := ?_) #[sqT,sqT,sqT,sqT,sqT,sqT,sqT,sqT,sqT,sqT,sqT,sqT,sqT,sqT,sqT,sqT,sqT,sqT,sqT,sqT,sqT,sqT,sqT,sqT,sqT,sqT,sqT,sqF,sqF,sqF,sqF,sqF,sqF,sqF,sqF,sqF,sqF,sqF] rfl rfl (any_of HT_.out (by kernel_rfl)) (fun _ _ _ h => h) (Or.inr ⟨by rfl, rfl⟩) ?_ ?_
      rotate_left
      ·simp only [Act.put, setIfInBounds_toArray,set_cons_zero,set_cons_succ, i64_w, i32_w]
       rfl
      refine pure_ (i := 27) (N := some 49) (v := undef) (a' := ?_) #[sqT,sqT,sqT,sqT,sqT,sqT,sqT,sqT,sqT,sqT,sqT,sqT,sqT,sqT,sqT,sqT,sqT,sqT,sqT,sqT,sqT,sqT,sqT,sqT,sqT,sqT,sqT,sqT,sqF,sqF,sqF,sqF,sqF,sqF,sqF,sqF,sqF,sqF] rfl rfl (any_of HT_.out (by kernel_rfl)) (fun _ _ _ h => h) (Or.inr ⟨by rfl, rfl⟩) ?_ ?_
      rotate_left
      ·simp only [Act.put, setIfInBounds_toArray,set_cons_zero,set_cons_succ, i64_w, i32_w]
       rfl
      refine pure_ (i := 28) (N := some 50) (v := undef) (a' := ?_) #[sqT,sqT,sqT,sqT,sqT,sqT,sqT,sqT,sqT,sqT,sqT,sqT,sqT,sqT,sqT,sqT,sqT,sqT,sqT,sqT,sqT,sqT,sqT,sqT,sqT,sqT,sqT,sqT,sqT,sqF,sqF,sqF,sqF,sqF,sqF,sqF,sqF,sqF] rfl rfl (any_of HT_.out (by kernel_rfl)) (fun _ _ _ h => h) (Or.inr ⟨by rfl, rfl⟩) ?_ ?_
      rotate_left
      ·simp only [Act.put, setIfInBounds_toArray,set_cons_zero,set_cons_succ, i64_w, i32_w]
       rfl
      refine pure_ (i := 29) (N := some 51) (v := undef) (a' := ?_) #[sqT,sqT,sqT,sqT,sqT,sqT,sqT,sqT,sqT,sqT,sqT,sqT,sqT,sqT,sqT,sqT,sqT,sqT,sqT,sqT,sqT,sqT,sqT,sqT,sqT,sqT,sqT,sqT,sqT,sqT,sqF,sqF,sqF,sqF,sqF,sqF,sqF,sqF] rfl rfl (any_of HT_.out (by kernel_rfl)) (fun _ _ _ h => h) (Or.inr ⟨by rfl, rfl⟩) ?_ ?_
      rotate_left
      ·simp only [Act.put, setIfInBounds_toArray,set_cons_zero,set_cons_succ, i64_w, i32_w]
       rfl
      refine pure_ (i := 30) (N := some 52) (v := undef) (a' := ?_) #[sqT,sqT,sqT,sqT,sqT,sqT,sqT,sqT,sqT,sqT,sqT,sqT,sqT,sqT,sqT,sqT,sqT,sqT,sqT,sqT,sqT,sqT,sqT,sqT,sqT,sqT,sqT,sqT,sqT,sqT,sqT,sqF,sqF,sqF,sqF,sqF,sqF,sqF] rfl rfl (any_of HT_.out (by kernel_rfl)) (fun _ _ _ h => h) (Or.inr ⟨by rfl, rfl⟩) ?_ ?_
      rotate_left
      ·simp only [Act.put, setIfInBounds_toArray,set_cons_zero,set_cons_succ, i64_w, i32_w]
       rfl
      refine pure_ (i := 31) (N := some 53) (v := undef) (a' := ?_) #[sqT,sqT,sqT,sqT,sqT,sqT,sqT,sqT,sqT,sqT,sqT,sqT,sqT,sqT,sqT,sqT,sqT,sqT,sqT,sqT,sqT,sqT,sqT,sqT,sqT,sqT,sqT,sqT,sqT,sqT,sqT,sqT,sqF,sqF,sqF,sqF,sqF,sqF] rfl rfl (any_of HT_.out (by kernel_rfl)) (fun _ _ _ h => h) (Or.inr ⟨by rfl, rfl⟩) ?_ ?_
      rotate_left
      ·simp only [Act.put, setIfInBounds_toArray,set_cons_zero,set_cons_succ, i64_w, i32_w]
       rfl
      refine pure_ (i := 32) (N := some 54) (v := undef) (a' := ?_) #[sqT,sqT,sqT,sqT,sqT,sqT,sqT,sqT,sqT,sqT,sqT,sqT,sqT,sqT,sqT,sqT,sqT,sqT,sqT,sqT,sqT,sqT,sqT,sqT,sqT,sqT,sqT,sqT,sqT,sqT,sqT,sqT,sqT,sqF,sqF,sqF,sqF,sqF] rfl rfl (any_of HT_.out (by kernel_rfl)) (fun _ _ _ h => h) (Or.inr ⟨by rfl, rfl⟩) ?_ ?_
      rotate_left
      ·simp only [Act.put, setIfInBounds_toArray,set_cons_zero,set_cons_succ, i64_w, i32_w]
       rfl
      refine pure_ (i := 33) (N := some 55) (v := undef) (a' := ?_) #[sqT,sqT,sqT,sqT,sqT,sqT,sqT,sqT,sqT,sqT,sqT,sqT,sqT,sqT,sqT,sqT,sqT,sqT,sqT,sqT,sqT,sqT,sqT,sqT,sqT,sqT,sqT,sqT,sqT,sqT,sqT,sqT,sqT,sqT,sqF,sqF,sqF,sqF] rfl rfl (any_of HT_.out (by kernel_rfl)) (fun _ _ _ h => h) (Or.inr ⟨by rfl, rfl⟩) ?_ ?_
      rotate_left
      ·simp only [Act.put, setIfInBounds_toArray,set_cons_zero,set_cons_succ, i64_w, i32_w]
       rfl
      refine pure_ (i := 34) (N := some 56) (v := undef) (a' := ?_) #[sqT,sqT,sqT,sqT,sqT,sqT,sqT,sqT,sqT,sqT,sqT,sqT,sqT,sqT,sqT,sqT,sqT,sqT,sqT,sqT,sqT,sqT,sqT,sqT,sqT,sqT,sqT,sqT,sqT,sqT,sqT,sqT,sqT,sqT,sqT,sqF,sqF,sqF] rfl rfl (any_of HT_.out (by kernel_rfl)) (fun _ _ _ h => h) (Or.inr ⟨by rfl, rfl⟩) ?_ ?_
      rotate_left
      ·simp only [Act.put, setIfInBounds_toArray,set_cons_zero,set_cons_succ, i64_w, i32_w]
       rfl
      refine pure_ (i := 35) (N := some 57) (v := ?_) (a' := ?_) #[sqT,sqT,sqT,sqT,sqT,sqT,sqT,sqT,sqT,sqT,sqT,sqT,sqT,sqT,sqT,sqT,sqT,sqT,sqT,sqT,sqT,sqT,sqT,sqT,sqT,sqT,sqT,sqT,sqT,sqT,sqT,sqT,sqT,sqT,sqT,sqT,sqF,sqF] rfl rfl (any_of HT_.out (by kernel_rfl)) (fun _ _ _ h => h) (Or.inl ⟨by rfl, ?_⟩) ?_ ?_
      rotate_left
      ·intro w'
       go_simp
       with_reducible rfl
      rotate_left
      ·simp only [Act.put, setIfInBounds_toArray,set_cons_zero,set_cons_succ, i64_w, i32_w]
       rfl
      refine pure_ (i := 36) (N := some 58) (v := ?_) (a' := ?_) #[sqT,sqT,sqT,sqT,sqT,sqT,sqT,sqT,sqT,sqT,sqT,sqT,sqT,sqT,sqT,sqT,sqT,sqT,sqT,sqT,sqT,sqT,sqT,sqT,sqT,sqT,sqT,sqT,sqT,sqT,sqT,sqT,sqT,sqT,sqT,sqT,sqT,sqF] rfl rfl (any_of HT_.out (by kernel_rfl)) (fun _ _ _ h => h) (Or.inl ⟨by rfl, ?_⟩) ?_ ?_
      rotate_left
      ·intro w'
       go_simp
       with_reducible rfl
      rotate_left
      ·simp only [Act.put, setIfInBounds_toArray,set_cons_zero,set_cons_succ, i64_w, i32_w]
       rfl
      refine pure_ (i := 37) (N := some 59) (v := ?_) (a' := ?_) #[sqT,sqT,sqT,sqT,sqT,sqT,sqT,sqT,sqT,sqT,sqT,sqT,sqT,sqT,sqT,sqT,sqT,sqT,sqT,sqT,sqT,sqT,sqT,sqT,sqT,sqT,sqT,sqT,sqT,sqT,sqT,sqT,sqT,sqT,sqT,sqT,sqT,sqT] rfl rfl (any_of HT_.out (by kernel_rfl)) (fun _ _ _ h => h) (Or.inl ⟨by rfl, ?_⟩) ?_ ?_
      rotate_left
      ·intro w'
       go_simp
       with_reducible rfl
      rotate_left
      ·simp only [Act.put, setIfInBounds_toArray,set_cons_zero,set_cons_succ, i64_w, i32_w]
       rfl
      refine done_ (done_of HT_.out (by kernel_rfl)) ?_
      try go_wp2
      go_meet
      case rel => exact ⟨_, (true), (by first | rfl | (simp; done) | (simp [*]; done)), H', ⟨by have := HK1.out; first | omega | exact Nat.le_refl _⟩, ⟨by (with_reducible repeat (first | refine blk_drewN ?_ _ | refine blk_drew ?_ | refine blk_alloc ?_ _)); exact BK341.out⟩, ⟨by repeat (first | (with_reducible first | exact HB.out | apply below_alloc | apply pw_below_drewN | apply below_drew1 | refine below_set ?_ GE341.out) | exact HB.out | exact Below.refl _ _)⟩⟩
     rw [if_neg c19] at H
     have c19b0 : (((rd_T32 l0 x9_1).f0) == 21) = false := beq_eq_false_iff_ne.mpr c19
     have c19b1 : (((rd_T32 l0 x9_1).f0) != 21) = true := bne_iff_ne.mpr c19
     by_cases c21 : ((rd_T32 l0 x9_1).f0) = 23
     rotate_left
     ·rw [if_neg c21] at H
      have c21b0 : (((rd_T32 l0 x9_1).f0) == 23) = false := beq_eq_false_iff_ne.mpr c21
      have c21b1 : (((rd_T32 l0 x9_1).f0) != 23) = true := bne_iff_ne.mpr c21
      have H' := Aside0.mk H
      clear H
      try go_wp2
      have n0_ := Aside0.mk (blk_drew BK341.out)
      have n1_ := Aside0.mk (below_drew1 HB.out)
      clear BK341
      clear HB
      have BK341 := n0_
      have HB := n1_
      clear n0_ n1_
      have p342 : 0 ≤ (x9_1 : Int) := of_decide_eq_true (by first | (with_reducible assumption) | assumption)
      have q342 : x9_1 < (l0.length : Int) := of_decide_eq_true (by first | (with_reducible assumption) | assumption)
      obtain ⟨ad342, e342, hx342_0, hx342_1, hx342_2⟩ := at_T32 HR0.out x9_1 p342 q342
      have hw342_2 := hx342_2
      have hw342_1 := hx342_1
      have hw342_0 := hx342_0
      obtain rfl : ad340 = ad342 := (by injection e342)
      replace hx342_0 := (HB.out.cell (World.block_lt_of_cell? w _ hx342_0)).trans hx342_0
      replace hx342_1 := (HB.out.cell (World.block_lt_of_cell? w _ hx342_1)).trans hx342_1
      replace hx342_2 := (HB.out.cell (World.block_lt_of_cell? w _ hx342_2)).trans hx342_2
      replace p342 := eq_true p342
      replace q342 := eq_true q342
      have p344 : 0 ≤ (x9_1 : Int) := of_decide_eq_true (by first | (with_reducible assumption) | assumption)
      have q344 : x9_1 < (l0.length : Int) := of_decide_eq_true (by first | (with_reducible assumption) | assumption)
      obtain ⟨ad344, e344, hx344_0, hx344_1, hx344_2⟩ := at_T32 HR0.out x9_1 p344 q344
      have hw344_2 := hx344_2
      have hw344_1 := hx344_1
      have hw344_0 := hx344_0
      obtain rfl : ad340 = ad344 := (by injection e344)
      replace hx344_0 := (HB.out.cell (World.block_lt_of_cell? w _ hx344_0)).trans hx344_0
      replace hx344_1 := (HB.out.cell (World.block_lt_of_cell? w _ hx344_1)).trans hx344_1
      replace hx344_2 := (HB.out.cell (World.block_lt_of_cell? w _ hx344_2)).trans hx344_2
      replace p344 := eq_true p344
      replace q344 := eq_true q344
      have p345 : 0 ≤ (x9_1 : Int) := of_decide_eq_true (by first | (with_reducible assumption) | assumption)
      have q345 : x9_1 < (l0.length : Int) := of_decide_eq_true (by first | (with_reducible assumption) | assumption)
      obtain ⟨ad345, e345, hx345_0, hx345_1, hx345_2⟩ := at_T32 HR0.out x9_1 p345 q345
      have hw345_2 := hx345_2
      have hw345_1 := hx345_1
      have hw345_0 := hx345_0
      obtain rfl : ad340 = ad345 := (by injection e345)
      replace hx345_0 := (HB.out.cell (World.block_lt_of_cell? w _ hx345_0)).trans hx345_0
      replace hx345_1 := (HB.out.cell (World.block_lt_of_cell? w _ hx345_1)).trans hx345_1
      replace hx345_2 := (HB.out.cell (World.block_lt_of_cell? w _ hx345_2)).trans hx345_2
      replace p345 := eq_true p345
      replace q345 := eq_true q345
      refine start_ (n := 38) (S := fun w' => w'.cell? (ad340.add ((x9_1).toNat * 3)) = some (.int .i64 ((rd_T32 l0 x9_1).f0)) ∧ w'.cell? ⟨(ad340.add ((x9_1).toNat * 3)).block, (ad340.add ((x9_1).toNat * 3)).off + 1, none⟩ = some (.int .i64 ((rd_T32 l0 x9_1).f1)) ∧ w'.cell? ⟨(ad340.add ((x9_1).toNat * 3)).block, (ad340.add ((x9_1).toNat * 3)).off + 2, none⟩ = some (.int .i64 ((rd_T32 l0 x9_1).f2)) ∧ w'.cell? (ad340.add ((x9_1).toNat * 3)) = some (.int .i64 ((rd_T32 l0 x9_1).f0)) ∧ w'.cell? ⟨(ad340.add ((x9_1).toNat * 3)).block, (ad340.add ((x9_1).toNat * 3)).off + 1, none⟩ = some (.int .i64 ((rd_T32 l0 x9_1).f1)) ∧ w'.cell? ⟨(ad340.add ((x9_1).toNat * 3)).block, (ad340.add ((x9_1).toNat * 3)).off + 2, none⟩ = some (.int .i64 ((rd_T32 l0 x9_1).f2)) ∧ w'.cell? (ad340.add ((x9_1).toNat * 3)) = some (.int .i64 ((rd_T32 l0 x9_1).f0)) ∧ w'.cell? ⟨(ad340.add ((x9_1).toNat * 3)).block, (ad340.add ((x9_1).toNat * 3)).off + 1, none⟩ = some (.int .i64 ((rd_T32 l0 x9_1).f1)) ∧ w'.cell? ⟨(ad340.add ((x9_1).toNat * 3)).block, (ad340.add ((x9_1).toNat * 3)).off + 2, none⟩ = some (.int .i64 ((rd_T32 l0 x9_1).f2))) (ds := []) #[sqF,sqF,sqF,sqF,sqF,sqF,sqF,sqF,sqF,sqF,sqF,sqF,sqF,sqF,sqF,sqF,sqF,sqF,sqF,sqF,sqF,sqF,sqF,sqF,sqF,sqF,sqF,sqF,sqF,sqF,sqF,sqF,sqF,sqF,sqF,sqF,sqF,sqF] (by kernel_rfl) rfl rfl ⟨((HB.out.cell (World.block_lt_of_cell? w _ hw342_0)).trans hw342_0), ((HB.out.cell (World.block_lt_of_cell? w _ hw342_1)).trans hw342_1), ((HB.out.cell (World.block_lt_of_cell? w _ hw342_2)).trans hw342_2), ((HB.out.cell (World.block_lt_of_cell? w _ hw344_0)).trans hw344_0), ((HB.out.cell (World.block_lt_of_cell? w _ hw344_1)).trans hw344_1), ((HB.out.cell (World.block_lt_of_cell? w _ hw344_2)).trans hw344_2), ((HB.out.cell (World.block_lt_of_cell? w _ hw345_0)).trans hw345_0), ((HB.out.cell (World.block_lt_of_cell? w _ hw345_1)).trans hw345_1), ((HB.out.cell (World.block_lt_of_cell? w _ hw345_2)).trans hw345_2)⟩ (fun hHeld => ?_); refine with_tabW camshaftref06_bad.tab7 camshaftref06_bad.bits7 (fun HT_ HW_ => ?_)
      generalize wr.drew = w23 at BK341 HB hx342_0 hx342_1 hx342_2 hx344_0 hx344_1 hx344_2 hx345_0 hx345_1 hx345_2 hHeld ⊢
      refine pure_ (i := 0) (N := some 22) (v := ?_) (a' := ?_) #[sqT,sqF,sqF,sqF,sqF,sqF,sqF,sqF,sqF,sqF,sqF,sqF,sqF,sqF,sqF,sqF,sqF,sqF,sqF,sqF,sqF,sqF,sqF,sqF,sqF,sqF,sqF,sqF,sqF,sqF,sqF,sqF,sqF,sqF,sqF,sqF,sqF,sqF] rfl rfl (any_of HT_.out (by kernel_rfl)) (fun _ _ _ h => h) (Or.inl ⟨by rfl, ?_⟩) ?_ ?_
      rotate_left
      ·intro w'
       go_simp
       with_reducible rfl
      rotate_left
      ·simp only [Act.put, setIfInBounds_toArray,set_cons_zero,set_cons_succ, i64_w, i32_w]
       rfl
      refine pure_ (i := 1) (N := some 23) (v := ?_) (a' := ?_) #[sqT,sqT,sqF,sqF,sqF,sqF,sqF,sqF,sqF,sqF,sqF,sqF,sqF,sqF,sqF,sqF,sqF,sqF,sqF,sqF,sqF,sqF,sqF,sqF,sqF,sqF,sqF,sqF,sqF,sqF,sqF,sqF,sqF,sqF,sqF,sqF,sqF,sqF] rfl rfl (any_of HT_.out (by kernel_rfl)) (fun _ _ _ h => h) (Or.inl ⟨by rfl, ?_⟩) ?_ ?_
      rotate_left
      ·intro w'
       go_simp
       with_reducible rfl
      rotate_left
      ·simp only [Act.put, setIfInBounds_toArray,set_cons_zero,set_cons_succ, i64_w, i32_w]
       rfl
      refine pure_ (i := 2) (N := some 24) (v := ?_) (a' := ?_) #[sqT,sqT,sqT,sqF,sqF,sqF,sqF,sqF,sqF,sqF,sqF,sqF,sqF,sqF,sqF,sqF,sqF,sqF,sqF,sqF,sqF,sqF,sqF,sqF,sqF,sqF,sqF,sqF,sqF,sqF,sqF,sqF,sqF,sqF,sqF,sqF,sqF,sqF] rfl rfl (any_of HT_.out (by kernel_rfl)) (fun _ _ _ h => h) (Or.inl ⟨by rfl, ?_⟩) ?_ ?_
      rotate_left
      ·intro w'
       go_simp
       with_reducible rfl
      rotate_left
      ·simp only [Act.put, setIfInBounds_toArray,set_cons_zero,set_cons_succ, i64_w, i32_w]
       rfl
      refine pure_ (i := 3) (N := some 25) (v := ?_) (a' := ?_) #[sqT,sqT,sqT,sqT,sqF,sqF,sqF,sqF,sqF,sqF,sqF,sqF,sqF,sqF,sqF,sqF,sqF,sqF,sqF,sqF,sqF,sqF,sqF,sqF,sqF,sqF,sqF,sqF,sqF,sqF,sqF,sqF,sqF,sqF,sqF,sqF,sqF,sqF] rfl rfl (any_of HT_.out (by kernel_rfl)) (fun _ _ _ h => h) (Or.inl ⟨by rfl, ?_⟩) ?_ ?_
      rotate_left
      ·intro w'
       go_simp
       with_reducible rfl
      rotate_left
      ·simp only [Act.put, setIfInBounds_toArray,set_cons_zero,set_cons_succ, i64_w, i32_w]
       rfl
      refine take_ (i := 4) (N := some 26) (v := ?_) (a' := ?_) #[sqT,sqT,sqT,sqT,sqT,sqF,sqF,sqF,sqF,sqF,sqF,sqF,sqF,sqF,sqF,sqF,sqF,sqF,sqF,sqF,sqF,sqF,sqF,sqF,sqF,sqF,sqF,sqF,sqF,sqF,sqF,sqF,sqF,sqF,sqF,sqF,sqF,sqF] rfl rfl (take_ofW HT_.out HW_.out (by kernel_rfl)) (fun _ _ _ h => h) (Or.inl ⟨by rfl, ?_⟩) hHeld ?_ ?_
      rotate_left
      ·rintro w' ⟨s0, s1, s2, s3, s4, s5, s6, s7, s8⟩
       go_simp
       with_reducible rfl
      rotate_left
      ·simp only [Act.put, setIfInBounds_toArray,set_cons_zero,set_cons_succ, i64_w, i32_w]
       rfl
      refine pure_ (i := 5) (N := some 27) (v := ?_) (a' := ?_) #[sqT,sqT,sqT,sqT,sqT,sqT,sqF,sqF,sqF,sqF,sqF,sqF,sqF,sqF,sqF,sqF,sqF,sqF,sqF,sqF,sqF,sqF,sqF,sqF,sqF,sqF,sqF,sqF,sqF,sqF,sqF,sqF,sqF,sqF,sqF,sqF,sqF,sqF] rfl rfl (any_of HT_.out (by kernel_rfl)) (fun _ _ _ h => h) (Or.inl ⟨by rfl, ?_⟩) ?_ ?_
      rotate_left
      ·intro w'
       go_simp
       with_reducible rfl
      rotate_left
      ·simp only [Act.put, setIfInBounds_toArray,set_cons_zero,set_cons_succ, i64_w, i32_w]
       rfl
      refine pure_ (i := 6) (N := some 28) (v := ?_) (a' := ?_) #[sqT,sqT,sqT,sqT,sqT,sqT,sqT,sqF,sqF,sqF,sqF,sqF,sqF,sqF,sqF,sqF,sqF,sqF,sqF,sqF,sqF,sqF,sqF,sqF,sqF,sqF,sqF,sqF,sqF,sqF,sqF,sqF,sqF,sqF,sqF,sqF,sqF,sqF] rfl rfl (any_of HT_.out (by kernel_rfl)) (fun _ _ _ h => h) (Or.inl ⟨by rfl, ?_⟩) ?_ ?_
      rotate_left
      ·intro w'
       go_simp
       with_reducible rfl
      rotate_left
      ·simp only [Act.put, setIfInBounds_toArray,set_cons_zero,set_cons_succ, i64_w, i32_w]
       rfl
      refine pure_ (i := 7) (N := some 29) (v := ?_) (a' := ?_) #[sqT,sqT,sqT,sqT,sqT,sqT,sqT,sqT,sqF,sqF,sqF,sqF,sqF,sqF,sqF,sqF,sqF,sqF,sqF,sqF,sqF,sqF,sqF,sqF,sqF,sqF,sqF,sqF,sqF,sqF,sqF,sqF,sqF,sqF,sqF,sqF,sqF,sqF] rfl rfl (any_of HT_.out (by kernel_rfl)) (fun _ _ _ h => h) (Or.inl ⟨by rfl, ?_⟩) ?_ ?_
      rotate_left
      ·intro w'
       go_simp
       with_reducible rfl
      rotate_left
      ·simp only [Act.put, setIfInBounds_toArray,set_cons_zero,set_cons_succ, i64_w, i32_w]
       rfl
      refine pure_ (i := 8) (N := some 30) (v := ?_) (a' := ?_) #[sqT,sqT,sqT,sqT,sqT,sqT,sqT,sqT,sqT,sqF,sqF,sqF,sqF,sqF,sqF,sqF,sqF,sqF,sqF,sqF,sqF,sqF,sqF,sqF,sqF,sqF,sqF,sqF,sqF,sqF,sqF,sqF,sqF,sqF,sqF,sqF,sqF,sqF] rfl rfl (any_of HT_.out (by kernel_rfl)) (fun _ _ _ h => h) (Or.inl ⟨by rfl, ?_⟩) ?_ ?_
      rotate_left
      ·intro w'
       go_simp
       with_reducible rfl
      rotate_left
      ·simp only [Act.put, setIfInBounds_toArray,set_cons_zero,set_cons_succ, i64_w, i32_w]
       rfl
      refine pure_ (i := 9) (N := some 31) (v := ?_) (a' := ?_) #[sqT,sqT,sqT,sqT,sqT,sqT,sqT,sqT,sqT,sqT,sqF,sqF,sqF,sqF,sqF,sqF,sqF,sqF,sqF,sqF,sqF,sqF,sqF,sqF,sqF,sqF,sqF,sqF,sqF,sqF,sqF,sqF,sqF,sqF,sqF,sqF,sqF,sqF] rfl rfl (any_of HT_.out (by kernel_rfl)) (fun _ _ _ h => h) (Or.inl ⟨by rfl, ?_⟩) ?_ ?_
      rotate_left
      ·intro w'
       go_simp
       with_reducible rfl
      rotate_left
      ·simp only [Act.put, setIfInBounds_toArray,set_cons_zero,set_cons_succ, i64_w, i32_w]
       rfl
      refine one_ (i := 10) (N := some 32) #[sqT,sqT,sqT,sqT,sqT,sqT,sqT,sqT,sqT,sqT,sqT,sqF,sqF,sqF,sqF,sqF,sqF,sqF,sqF,sqF,sqF,sqF,sqF,sqF,sqF,sqF,sqF,sqF,sqF,sqF,sqF,sqF,sqF,sqF,sqF,sqF,sqF,sqF] rfl rfl (one_of HT_.out (by kernel_rfl)) (by decide) (fun K hK => ?_)
      refine goes_ Try.func30 (by kernel_rfl) rfl #[.slice A1 l1.length c1, .int .i64 x9_1, .int .i64 a2] (by rfl) rfl rfl (by (try simp only [List.map_toArray, List.map_cons, List.map_nil]); first | done | rfl | (simp only [List.length_drop, List.length_take]; rfl)) ?_
      with_reducible refine (camshaftref06_within.calls _ _ l1 x9_1 a2 true _ ?side1 ?side2 A17.out).mono ?_
      (case side1 => repeat (first | exact (Kd.C_below HR1.out HB.out) | (with_reducible refine Kd.C_alloc ?_ _) | (with_reducible refine Kd.C_drewN ?_ _) | (with_reducible refine Kd.C_drew ?_)))
      (case side2 => exact HC1.out)
      rintro e w' ⟨rfl, ⟨nd, rfl⟩⟩
      refine ⟨_, rfl, ?_⟩
      refine hK.out _ _ ⟨((HB.out.cell (World.block_lt_of_cell? w _ hw342_0)).trans hw342_0), ((HB.out.cell (World.block_lt_of_cell? w _ hw342_1)).trans hw342_1), ((HB.out.cell (World.block_lt_of_cell? w _ hw342_2)).trans hw342_2), ((HB.out.cell (World.block_lt_of_cell? w _ hw344_0)).trans hw344_0), ((HB.out.cell (World.block_lt_of_cell? w _ hw344_1)).trans hw344_1), ((HB.out.cell (World.block_lt_of_cell? w _ hw344_2)).trans hw344_2), ((HB.out.cell (World.block_lt_of_cell? w _ hw345_0)).trans hw345_0), ((HB.out.cell (World.block_lt_of_cell? w _ hw345_1)).trans hw345_1), ((HB.out.cell (World.block_lt_of_cell? w _ hw345_2)).trans hw345_2)⟩ (fun hHeld => ?_)
      clear hK K
      refine norm_ (a' := ?_) ?_ ?_
      rotate_left
      ·show Act.put _ (some 32) _ = _
       simp only [Act.put, setIfInBounds_toArray,set_cons_zero,set_cons_succ, i64_w, i32_w]
       rfl
      refine pure_ (i := 11) (N := some 33) (v := ?_) (a' := ?_) #[sqT,sqT,sqT,sqT,sqT,sqT,sqT,sqT,sqT,sqT,sqT,sqT,sqF,sqF,sqF,sqF,sqF,sqF,sqF,sqF,sqF,sqF,sqF,sqF,sqF,sqF,sqF,sqF,sqF,sqF,sqF,sqF,sqF,sqF,sqF,sqF,sqF,sqF] rfl rfl (any_of HT_.out (by kernel_rfl)) (fun _ _ _ h => h) (Or.inl ⟨by rfl, ?_⟩) ?_ ?_
      rotate_left
      ·intro w'
       go_simp
       with_reducible rfl
      rotate_left
      ·simp only [Act.put, setIfInBounds_toArray,set_cons_zero,set_cons_succ, i64_w, i32_w]
       rfl
      refine pure_ (i := 12) (N := some 34) (v := ?_) (a' := ?_) #[sqT,sqT,sqT,sqT,sqT,sqT,sqT,sqT,sqT,sqT,sqT,sqT,sqT,sqF,sqF,sqF,sqF,sqF,sqF,sqF,sqF,sqF,sqF,sqF,sqF,sqF,sqF,sqF,sqF,sqF,sqF,sqF,sqF,sqF,sqF,sqF,sqF,sqF] rfl rfl (any_of HT_.out (by kernel_rfl)) (fun _ _ _ h => h) (Or.inl ⟨by rfl, ?_⟩) ?_ ?_
      rotate_left
      ·intro w'
       go_simp
       with_reducible rfl
      rotate_left
      ·simp only [Act.put, setIfInBounds_toArray,set_cons_zero,set_cons_succ, i64_w, i32_w]
       rfl
      refine pure_ (i := 13) (N := some 35) (v := ?_) (a' := ?_) #[sqT,sqT,sqT,sqT,sqT,sqT,sqT,sqT,sqT,sqT,sqT,sqT,sqT,sqT,sqF,sqF,sqF,sqF,sqF,sqF,sqF,sqF,sqF,sqF,sqF,sqF,sqF,sqF,sqF,sqF,sqF,sqF,sqF,sqF,sqF,sqF,sqF,sqF] rfl rfl (any_of HT_.out (by kernel_rfl)) (fun _ _ _ h => h) (Or.inl ⟨by rfl, ?_⟩) ?_ ?_
      rotate_left
      ·intro w'
       go_simp
       with_reducible rfl
      rotate_left
      ·simp only [Act.put, setIfInBounds_toArray,set_cons_zero,set_cons_succ, i64_w, i32_w]
       rfl
      refine pure_ (i := 14) (N := some 36) (v := ?_) (a' := ?_) #[sqT,sqT,sqT,sqT,sqT,sqT,sqT,sqT,sqT,sqT,sqT,sqT,sqT,sqT,sqT,sqF,sqF,sqF,sqF,sqF,sqF,sqF,sqF,sqF,sqF,sqF,sqF,sqF,sqF,sqF,sqF,sqF,sqF,sqF,sqF,sqF,sqF,sqF] rfl rfl (any_of HT_.out (by kernel_rfl)) (fun _ _ _ h => h) (Or.inl ⟨by rfl, ?_⟩) ?_ ?_
      rotate_left
      ·intro w'
       go_simp
       with_reducible rfl
      rotate_left
      ·simp only [Act.put, setIfInBounds_toArray,set_cons_zero,set_cons_succ, i64_w, i32_w]
       rfl
      refine pure_ (i := 15) (N := some 37) (v := ?_) (a' := ?_) #[sqT,sqT,sqT,sqT,sqT,sqT,sqT,sqT,sqT,sqT,sqT,sqT,sqT,sqT,sqT,sqT,sqF,sqF,sqF,sqF,sqF,sqF,sqF,sqF,sqF,sqF,sqF,sqF,sqF,sqF,sqF,sqF,sqF,sqF,sqF,sqF,sqF,sqF] rfl rfl (any_of HT_.out (by kernel_rfl)) (fun _ _ _ h => h) (Or.inl ⟨by rfl, ?_⟩) ?_ ?_
      rotate_left
      ·intro w'
       go_simp
       with_reducible rfl
      rotate_left
      ·simp only [Act.put, setIfInBounds_toArray,set_cons_zero,set_cons_succ, i64_w, i32_w]
       rfl
      refine take_ (i := 16) (N := some 38) (v := ?_) (a' := ?_) #[sqT,sqT,sqT,sqT,sqT,sqT,sqT,sqT,sqT,sqT,sqT,sqT,sqT,sqT,sqT,sqT,sqT,sqF,sqF,sqF,sqF,sqF,sqF,sqF,sqF,sqF,sqF,sqF,sqF,sqF,sqF,sqF,sqF,sqF,sqF,sqF,sqF,sqF] rfl rfl (take_ofW HT_.out HW_.out (by kernel_rfl)) (fun _ _ _ h => h) (Or.inl ⟨by rfl, ?_⟩) hHeld ?_ ?_
      rotate_left
      ·rintro w' ⟨s0, s1, s2, s3, s4, s5, s6, s7, s8⟩
       go_simp
       with_reducible rfl
      rotate_left
      ·simp only [Act.put, setIfInBounds_toArray,set_cons_zero,set_cons_succ, i64_w, i32_w]
       rfl
      refine pure_ (i := 17) (N := some 39) (v := ?_) (a' := ?_) #[sqT,sqT,sqT,sqT,sqT,sqT,sqT,sqT,sqT,sqT,sqT,sqT,sqT,sqT,sqT,sqT,sqT,sqT,sqF,sqF,sqF,sqF,sqF,sqF,sqF,sqF,sqF,sqF,sqF,sqF,sqF,sqF,sqF,sqF,sqF,sqF,sqF,sqF] rfl rfl (any_of HT_.out (by kernel_rfl)) (fun _ _ _ h => h) (Or.inl ⟨by rfl, ?_⟩) ?_ ?_
      rotate_left
      ·intro w'
       go_simp
       with_reducible rfl
      rotate_left
      ·simp only [Act.put, setIfInBounds_toArray,set_cons_zero,set_cons_succ, i64_w, i32_w]
       rfl
      refine pure_ (i := 18) (N := some 40) (v := ?_) (a' := ?_) #[sqT,sqT,sqT,sqT,sqT,sqT,sqT,sqT,sqT,sqT,sqT,sqT,sqT,sqT,sqT,sqT,sqT,sqT,sqT,sqF,sqF,sqF,sqF,sqF,sqF,sqF,sqF,sqF,sqF,sqF,sqF,sqF,sqF,sqF,sqF,sqF,sqF,sqF] rfl rfl (any_of HT_.out (by kernel_rfl)) (fun _ _ _ h => h) (Or.inl ⟨by rfl, ?_⟩) ?_ ?_
      rotate_left
      ·intro w'
       go_simp
       with_reducible rfl
      rotate_left
      ·simp only [Act.put, setIfInBounds_toArray,set_cons_zero,set_cons_succ, i64_w, i32_w]
       rfl
      refine pure_ (i := 19) (N := some 41) (v := ?_) (a' := ?_) #[sqT,sqT,sqT,sqT,sqT,sqT,sqT,sqT,sqT,sqT,sqT,sqT,sqT,sqT,sqT,sqT,sqT,sqT,sqT,sqT,sqF,sqF,sqF,sqF,sqF,sqF,sqF,sqF,sqF,sqF,sqF,sqF,sqF,sqF,sqF,sqF,sqF,sqF] rfl rfl (any_of HT_.out (by kernel_rfl)) (fun _ _ _ h => h) (Or.inl ⟨by rfl, ?_⟩) ?_ ?_
      rotate_left
      ·intro w'
       go_simp
       with_reducible rfl
      rotate_left
      ·simp only [Act.put, setIfInBounds_toArray,set_cons_zero,set_cons_succ, i64_w, i32_w]
       rfl
      refine pure_ (i := 20) (N := some 42) (v := ?_) (a' := ?_) #[sqT,sqT,sqT,sqT,sqT,sqT,sqT,sqT,sqT,sqT,sqT,sqT,sqT,sqT,sqT,sqT,sqT,sqT,sqT,sqT,sqT,sqF,sqF,sqF,sqF,sqF,sqF,sqF,sqF,sqF,sqF,sqF,sqF,sqF,sqF,sqF,sqF,sqF] rfl rfl (any_of HT_.out (by kernel_rfl)) (fun _ _ _ h => h) (Or.inl ⟨by rfl, ?_⟩) ?_ ?_
      rotate_left
      ·intro w'
       go_simp
       with_reducible rfl
      rotate_left
      ·simp only [Act.put, setIfInBounds_toArray,set_cons_zero,set_cons_succ, i64_w, i32_w]
       rfl
      refine pure_ (i := 21) (N := some 43) (v := ?_) (a' := ?_) #[sqT,sqT,sqT,sqT,sqT,sqT,sqT,sqT,sqT,sqT,sqT,sqT,sqT,sqT,sqT,sqT,sqT,sqT,sqT,sqT,sqT,sqT,sqF,sqF,sqF,sqF,sqF,sqF,sqF,sqF,sqF,sqF,sqF,sqF,sqF,sqF,sqF,sqF] rfl rfl (any_of HT_.out (by kernel_rfl)) (fun _ _ _ h => h) (Or.inl ⟨by rfl, ?_⟩) ?_ ?_
      rotate_left
      ·intro w'
       go_simp
       with_reducible rfl
      rotate_left
      ·simp only [Act.put, setIfInBounds_toArray,set_cons_zero,set_cons_succ, i64_w, i32_w]
       rfl
      refine pure_ (i := 22) (N := some 44) (v := ?_) (a' := ?_) #[sqT,sqT,sqT,sqT,sqT,sqT,sqT,sqT,sqT,sqT,sqT,sqT,sqT,sqT,sqT,sqT,sqT,sqT,sqT,sqT,sqT,sqT,sqT,sqF,sqF,sqF,sqF,sqF,sqF,sqF,sqF,sqF,sqF,sqF,sqF,sqF,sqF,sqF] rfl rfl (any_of HT_.out (by kernel_rfl)) (fun _ _ _ h => h) (Or.inl ⟨by rfl, ?_⟩) ?_ ?_
      rotate_left
      ·intro w'
       go_simp
       with_reducible rfl
      rotate_left
      ·simp only [Act.put, setIfInBounds_toArray,set_cons_zero,set_cons_succ, i64_w, i32_w]
       rfl
      refine take_ (i := 23) (N := some 45) (v := ?_) (a' := ?_) #[sqT,sqT,sqT,sqT,sqT,sqT,sqT,sqT,sqT,sqT,sqT,sqT,sqT,sqT,sqT,sqT,sqT,sqT,sqT,sqT,sqT,sqT,sqT,sqT,sqF,sqF,sqF,sqF,sqF,sqF,sqF,sqF,sqF,sqF,sqF,sqF,sqF,sqF] rfl rfl (take_ofW HT_.out HW_.out (by kernel_rfl)) (fun _ _ _ h => h) (Or.inl ⟨by rfl, ?_⟩) hHeld ?_ ?_
      rotate_left
      ·rintro w' ⟨s0, s1, s2, s3, s4, s5, s6, s7, s8⟩
       go_simp
       with_reducible rfl
      rotate_left
      ·simp only [Act.put, setIfInBounds_toArray,set_cons_zero,set_cons_succ, i64_w, i32_w]
       rfl
      refine pure_ (i := 24) (N := some 46) (v := ?_) (a' := ?_) #[sqT,sqT,sqT,sqT,sqT,sqT,sqT,sqT,sqT,sqT,sqT,sqT,sqT,sqT,sqT,sqT,sqT,sqT,sqT,sqT,sqT,sqT,sqT,sqT,sqT,sqF,sqF,sqF,sqF,sqF,sqF,sqF,sqF,sqF,sqF,sqF,sqF,sqF] rfl rfl (any_of HT_.out (by kernel_rfl)) (fun _ _ _ h => h) (Or.inl ⟨by rfl, ?_⟩) ?_ ?_
      rotate_left
      ·intro w'
       go_simp
       with_reducible rfl
      rotate_left
      ·simp only [Act.put, setIfInBounds_toArray,set_cons_zero,set_cons_succ, i64_w, i32_w]
       rfl
      refine pure_ (i := 25) (N := some 47) (v := ?_) (a' := ?_) #[sqT,sqT,sqT,sqT,sqT,sqT,sqT,sqT,sqT,sqT,sqT,sqT,sqT,sqT,sqT,sqT,sqT,sqT,sqT,sqT,sqT,sqT,sqT,sqT,sqT,sqT,sqF,sqF,sqF,sqF,sqF,sqF,sqF,sqF,sqF,sqF,sqF,sqF] rfl rfl (any_of HT_.out (by kernel_rfl)) (fun _ _ _ h => h) (Or.inl ⟨by rfl, ?_⟩) ?_ ?_
      rotate_left
      ·intro w'
       go_simp
       with_reducible rfl
      rotate_left
      ·simp only [Act.put, setIfInBounds_toArray,set_cons_zero,set_cons_succ, i64_w, i32_w]
       rfl
      refine pure_ (i := 26) (N := some 48) (v := undef) (a' := ?_) #[sqT,sqT,sqT,sqT,sqT,sqT,sqT,sqT,sqT,sqT,sqT,sqT,sqT,sqT,sqT,sqT,sqT,sqT,sqT,sqT,sqT,sqT,sqT,sqT,sqT,sqT,sqT,sqF,sqF,sqF,sqF,sqF,sqF,sqF,sqF,sqF,sqF,sqF] rfl rfl (any_of HT_.out (by kernel_rfl)) (fun _ _ _ h => h) (Or.inr ⟨by rfl, rfl⟩) ?_ ?_
      rotate_left
      ·simp only [Act.put, setIfInBounds_toArray,set_cons_zero,set_cons_succ, i64_w, i32_w]
       rfl
      refine pure_ (i := 27) (N := some 49) (v := undef) (a' := ?_) #[sqT,sqT,sqT,sqT,sqT,sqT,sqT,sqT,sqT,sqT,sqT,sqT,sqT,sqT,sqT,sqT,sqT,sqT,sqT,sqT,sqT,sqT,sqT,sqT,sqT,sqT,sqT,sqT,sqF,sqF,sqF,sqF,sqF,sqF,sqF,sqF,sqF,sqF] rfl rfl (any_of HT_.out (by kernel_rfl)) (fun _ _ _ h => h) (Or.inr ⟨by rfl, rfl⟩) ?_ ?_
      rotate_left
      ·simp only [Act.put, setIfInBounds_toArray,set_cons_zero,set_cons_succ, i64_w, i32_w]
       rfl
      refine pure_ (i := 28) (N := some 50) (v := undef) (a' := ?_) #[sqT,sqT,sqT,sqT,sqT,sqT,sqT,sqT,sqT,sqT,sqT,sqT,sqT,sqT,sqT,sqT,sqT,sqT,sqT,sqT,sqT,sqT,sqT,sqT,sqT,sqT,sqT,sqT,sqT,sqF,sqF,sqF,sqF,sqF,sqF,sqF,sqF,sqF] rfl rfl (any_of HT_.out (by kernel_rfl)) (fun _ _ _ h => h) (Or.inr ⟨by rfl, rfl⟩) ?_ ?_
      rotate_left
      ·simp only [Act.put, setIfInBounds_toArray,set_cons_zero,set_cons_succ, i64_w, i32_w]
       rfl
      refine pure_ (i := 29) (N := some 51) (v := undef) (a' := ?_) #[sqT,sqT,sqT,sqT,sqT,sqT,sqT,sqT,sqT,sqT,sqT,sqT,sqT,sqT,sqT,sqT,sqT,sqT,sqT,sqT,sqT,sqT,sqT,sqT,sqT,sqT,sqT,sqT,sqT,sqT,sqF,sqF,sqF,sqF,sqF,sqF,sqF,sqF] rfl rfl (any_of HT_.out (by kernel_rfl)) (fun _ _ _ h => h) (Or.inr ⟨by rfl, rfl⟩) ?_ ?_
      rotate_left
      ·simp only [Act.put, setIfInBounds_toArray,set_cons_zero,set_cons_succ, i64_w, i32_w]
       rfl
      refine pure_ (i := 30) (N := some 52) (v := undef) (a' := ?_) #[sqT,sqT,sqT,sqT,sqT,sqT,sqT,sqT,sqT,sqT,sqT,sqT,sqT,sqT,sqT,sqT,sqT,sqT,sqT,sqT,sqT,sqT,sqT,sqT,sqT,sqT,sqT,sqT,sqT,sqT,sqT,sqF,sqF,sqF,sqF,sqF,sqF,sqF] rfl rfl (any_of HT_.out (by kernel_rfl)) (fun _ _ _ h => h) (Or.inr ⟨by rfl, rfl⟩) ?_ ?_
      rotate_left
      ·simp only [Act.put, setIfInBounds_toArray,set_cons_zero,set_cons_succ, i64_w, i32_w]
       rfl
      refine pure_ (i := 31) (N := some 53) (v := undef) (a' := ?_) #[sqT,sqT,sqT,sqT,sqT,sqT,sqT,sqT,sqT,sqT,sqT,sqT,sqT,sqT,sqT,sqT,sqT,sqT,sqT,sqT,sqT,sqT,sqT,sqT,sqT,sqT,sqT,sqT,sqT,sqT,sqT,sqT,sqF,sqF,sqF,sqF,sqF,sqF] rfl rfl (any_of HT_.out (by kernel_rfl)) (fun _ _ _ h => h) (Or.inr ⟨by rfl, rfl⟩) ?_ ?_
      rotate_left
      ·simp only [Act.put, setIfInBounds_toArray,set_cons_zero,set_cons_succ, i64_w, i32_w]
       rfl
      refine pure_ (i := 32) (N := some 54) (v := undef) (a' := ?_) #[sqT,sqT,sqT,sqT,sqT,sqT,sqT,sqT,sqT,sqT,sqT,sqT,sqT,sqT,sqT,sqT,sqT,sqT,sqT,sqT,sqT,sqT,sqT,sqT,sqT,sqT,sqT,sqT,sqT,sqT,sqT,sqT,sqT,sqF,sqF,sqF,sqF,sqF] rfl rfl (any_of HT_.out (by kernel_rfl)) (fun _ _ _ h => h) (Or.inr ⟨by rfl, rfl⟩) ?_ ?_
      rotate_left
      ·simp only [Act.put, setIfInBounds_toArray,set_cons_zero,set_cons_succ, i64_w, i32_w]
       rfl
      refine pure_ (i := 33) (N := some 55) (v := undef) (a' := ?_) #[sqT,sqT,sqT,sqT,sqT,sqT,sqT,sqT,sqT,sqT,sqT,sqT,sqT,sqT,sqT,sqT,sqT,sqT,sqT,sqT,sqT,sqT,sqT,sqT,sqT,sqT,sqT,sqT,sqT,sqT,sqT,sqT,sqT,sqT,sqF,sqF,sqF,sqF] rfl rfl (any_of HT_.out (by kernel_rfl)) (fun _ _ _ h => h) (Or.inr ⟨by rfl, rfl⟩) ?_ ?_
      rotate_left
      ·simp only [Act.put, setIfInBounds_toArray,set_cons_zero,set_cons_succ, i64_w, i32_w]
       rfl
      refine pure_ (i := 34) (N := some 56) (v := ?_) (a' := ?_) #[sqT,sqT,sqT,sqT,sqT,sqT,sqT,sqT,sqT,sqT,sqT,sqT,sqT,sqT,sqT,sqT,sqT,sqT,sqT,sqT,sqT,sqT,sqT,sqT,sqT,sqT,sqT,sqT,sqT,sqT,sqT,sqT,sqT,sqT,sqT,sqF,sqF,sqF] rfl rfl (any_of HT_.out (by kernel_rfl)) (fun _ _ _ h => h) (Or.inl ⟨by rfl, ?_⟩) ?_ ?_
      rotate_left
      ·intro w'
       go_simp
       with_reducible rfl
      rotate_left
      ·simp only [Act.put, setIfInBounds_toArray,set_cons_zero,set_cons_succ, i64_w, i32_w]
       rfl
      refine pure_ (i := 35) (N := some 57) (v := ?_) (a' := ?_) #[sqT,sqT,sqT,sqT,sqT,sqT,sqT,sqT,sqT,sqT,sqT,sqT,sqT,sqT,sqT,sqT,sqT,sqT,sqT,sqT,sqT,sqT,sqT,sqT,sqT,sqT,sqT,sqT,sqT,sqT,sqT,sqT,sqT,sqT,sqT,sqT,sqF,sqF] rfl rfl (any_of HT_.out (by kernel_rfl)) (fun _ _ _ h => h) (Or.inl ⟨by rfl, ?_⟩) ?_ ?_
      rotate_left
      ·intro w'
       go_simp
       with_reducible rfl
      rotate_left
      ·simp only [Act.put, setIfInBounds_toArray,set_cons_zero,set_cons_succ, i64_w, i32_w]
       rfl
      refine pure_ (i := 36) (N := some 58) (v := ?_) (a' := ?_) #[sqT,sqT,sqT,sqT,sqT,sqT,sqT,sqT,sqT,sqT,sqT,sqT,sqT,sqT,sqT,sqT,sqT,sqT,sqT,sqT,sqT,sqT,sqT,sqT,sqT,sqT,sqT,sqT,sqT,sqT,sqT,sqT,sqT,sqT,sqT,sqT,sqT,sqF] rfl rfl (any_of HT_.out (by kernel_rfl)) (fun _ _ _ h => h) (Or.inl ⟨by rfl, ?_⟩) ?_ ?_
      rotate_left
      ·intro w'
       go_simp
       with_reducible rfl
      rotate_left
      ·simp only [Act.put, setIfInBounds_toArray,set_cons_zero,set_cons_succ, i64_w, i32_w]
       rfl
      refine pure_ (i := 37) (N := some 59) (v := ?_) (a' := ?_) #[sqT,sqT,sqT,sqT,sqT,sqT,sqT,sqT,sqT,sqT,sqT,sqT,sqT,sqT,sqT,sqT,sqT,sqT,sqT,sqT,sqT,sqT,sqT,sqT,sqT,sqT,sqT,sqT,sqT,sqT,sqT,sqT,sqT,sqT,sqT,sqT,sqT,sqT] rfl rfl (any_of HT_.out (by kernel_rfl)) (fun _ _ _ h => h) (Or.inl ⟨by rfl, ?_⟩) ?_ ?_
      rotate_left
      ·intro w'
       go_simp
       with_reducible rfl
      rotate_left
      ·simp only [Act.put, setIfInBounds_toArray,set_cons_zero,set_cons_succ, i64_w, i32_w]
       rfl
      refine done_ (done_of HT_.out (by kernel_rfl)) ?_
      try go_wp2
      go_meet
      case rel => exact ⟨_, (false), (by first | rfl | (simp; done) | (simp [*]; done)), H', ⟨by have := HK1.out; first | omega | exact Nat.le_refl _⟩, ⟨by (with_reducible repeat (first | refine blk_drewN ?_ _ | refine blk_drew ?_ | refine blk_alloc ?_ _)); exact BK341.out⟩, ⟨by repeat (first | (with_reducible first | exact HB.out | apply below_alloc | apply pw_below_drewN | apply below_drew1 | refine below_set ?_ GE341.out) | exact HB.out | exact Below.refl _ _)⟩⟩
     rw [if_pos c21] at H
     have c21b0 : (((rd_T32 l0 x9_1).f0) == 23) = true := beq_iff_eq.mpr c21
     have c21b1 : (((rd_T32 l0 x9_1).f0) != 23) = false := bne_eq_false_iff_eq.mpr c21
     clear c21
     have H' := Aside0.mk H
     clear H
     try go_wp2
     have n0_ := Aside0.mk (blk_drew BK341.out)
     have n1_ := Aside0.mk (below_drew1 HB.out)
     clear BK341
     clear HB
     have BK341 := n0_
     have HB := n1_
     clear n0_ n1_
     have p342 : 0 ≤ (x9_1 : Int) := of_decide_eq_true (by first | (with_reducible assumption) | assumption)
     have q342 : x9_1 < (l0.length : Int) := of_decide_eq_true (by first | (with_reducible assumption) | assumption)
     obtain ⟨ad342, e342, hx342_0, hx342_1, hx342_2⟩ := at_T32 HR0.out x9_1 p342 q342
     have hw342_2 := hx342_2
     have hw342_1 := hx342_1
     have hw342_0 := hx342_0
     obtain rfl : ad340 = ad342 := (by injection e342)
     replace hx342_0 := (HB.out.cell (World.block_lt_of_cell? w _ hx342_0)).trans hx342_0
     replace hx342_1 := (HB.out.cell (World.block_lt_of_cell? w _ hx342_1)).trans hx342_1
     replace hx342_2 := (HB.out.cell (World.block_lt_of_cell? w _ hx342_2)).trans hx342_2
     replace p342 := eq_true p342
     replace q342 := eq_true q342
     have p344 : 0 ≤ (x9_1 : Int) := of_decide_eq_true (by first | (with_reducible assumption) | assumption)
     have q344 : x9_1 < (l0.length : Int) := of_decide_eq_true (by first | (with_reducible assumption) | assumption)
     obtain ⟨ad344, e344, hx344_0, hx344_1, hx344_2⟩ := at_T32 HR0.out x9_1 p344 q344
     have hw344_2 := hx344_2
     have hw344_1 := hx344_1
     have hw344_0 := hx344_0
     obtain rfl : ad340 = ad344 := (by injection e344)
     replace hx344_0 := (HB.out.cell (World.block_lt_of_cell? w _ hx344_0)).trans hx344_0
     replace hx344_1 := (HB.out.cell (World.block_lt_of_cell? w _ hx344_1)).trans hx344_1
     replace hx344_2 := (HB.out.cell (World.block_lt_of_cell? w _ hx344_2)).trans hx344_2
     replace p344 := eq_true p344
     replace q344 := eq_true q344
     have p345 : 0 ≤ (x9_1 : Int) := of_decide_eq_true (by first | (with_reducible assumption) | assumption)
     have q345 : x9_1 < (l0.length : Int) := of_decide_eq_true (by first | (with_reducible assumption) | assumption)
     obtain ⟨ad345, e345, hx345_0, hx345_1, hx345_2⟩ := at_T32 HR0.out x9_1 p345 q345
     have hw345_2 := hx345_2
     have hw345_1 := hx345_1
     have hw345_0 := hx345_0
     obtain rfl : ad340 = ad345 := (by injection e345)
     replace hx345_0 := (HB.out.cell (World.block_lt_of_cell? w _ hx345_0)).trans hx345_0
     replace hx345_1 := (HB.out.cell (World.block_lt_of_cell? w _ hx345_1)).trans hx345_1
     replace hx345_2 := (HB.out.cell (World.block_lt_of_cell? w _ hx345_2)).trans hx345_2
     replace p345 := eq_true p345
     replace q345 := eq_true q345
     have p346 : 0 ≤ (x9_1 : Int) := of_decide_eq_true (by first | (with_reducible assumption) | assumption)
     have q346 : x9_1 < (l0.length : Int) := of_decide_eq_true (by first | (with_reducible assumption) | assumption)
     obtain ⟨ad346, e346, hx346_0, hx346_1, hx346_2⟩ := at_T32 HR0.out x9_1 p346 q346
     have hw346_2 := hx346_2
     have hw346_1 := hx346_1
     have hw346_0 := hx346_0
     obtain rfl : ad340 = ad346 := (by injection e346)
     replace hx346_0 := (HB.out.cell (World.block_lt_of_cell? w _ hx346_0)).trans hx346_0
     replace hx346_1 := (HB.out.cell (World.block_lt_of_cell? w _ hx346_1)).trans hx346_1
     replace hx346_2 := (HB.out.cell (World.block_lt_of_cell? w _ hx346_2)).trans hx346_2
     replace p346 := eq_true p346
     replace q346 := eq_true q346
     refine start_ (n := 38) (S := fun w' => w'.cell? ⟨gb341, 0, none⟩ = some (.int .i64 ((rd_T32 l0 a2).f0)) ∧ w'.cell? ⟨gb341, 1, none⟩ = some (.int .i64 ((rd_T32 l0 a2).f1)) ∧ w'.cell? ⟨gb341, 2, none⟩ = some (.int .i64 ((rd_T32 l0 a2).f2)) ∧ w'.cell? (ad340.add ((x9_1).toNat * 3)) = some (.int .i64 ((rd_T32 l0 x9_1).f0)) ∧ w'.cell? ⟨(ad340.add ((x9_1).toNat * 3)).block, (ad340.add ((x9_1).toNat * 3)).off + 1, none⟩ = some (.int .i64 ((rd_T32 l0 x9_1).f1)) ∧ w'.cell? ⟨(ad340.add ((x9_1).toNat * 3)).block, (ad340.add ((x9_1).toNat * 3)).off + 2, none⟩ = some (.int .i64 ((rd_T32 l0 x9_1).f2)) ∧ w'.cell? (ad340.add ((x9_1).toNat * 3)) = some (.int .i64 ((rd_T32 l0 x9_1).f0)) ∧ w'.cell? ⟨(ad340.add ((x9_1).toNat * 3)).block, (ad340.add ((x9_1).toNat * 3)).off + 1, none⟩ = some (.int .i64 ((rd_T32 l0 x9_1).f1)) ∧ w'.cell? ⟨(ad340.add ((x9_1).toNat * 3)).block, (ad340.add ((x9_1).toNat * 3)).off + 2, none⟩ = some (.int .i64 ((rd_T32 l0 x9_1).f2)) ∧ w'.cell? (ad340.add ((x9_1).toNat * 3)) = some (.int .i64 ((rd_T32 l0 x9_1).f0)) ∧ w'.cell? ⟨(ad340.add ((x9_1).toNat * 3)).block, (ad340.add ((x9_1).toNat * 3)).off + 1, none⟩ = some (.int .i64 ((rd_T32 l0 x9_1).f1)) ∧ w'.cell? ⟨(ad340.add ((x9_1).toNat * 3)).block, (ad340.add ((x9_1).toNat * 3)).off + 2, none⟩ = some (.int .i64 ((rd_T32 l0 x9_1).f2)) ∧ w'.cell? (ad340.add ((x9_1).toNat * 3)) = some (.int .i64 ((rd_T32 l0 x9_1).f0)) ∧ w'.cell? ⟨(ad340.add ((x9_1).toNat * 3)).block, (ad340.add ((x9_1).toNat * 3)).off + 1, none⟩ = some (.int .i64 ((rd_T32 l0 x9_1).f1)) ∧ w'.cell? ⟨(ad340.add ((x9_1).toNat * 3)).block, (ad340.add ((x9_1).toNat * 3)).off + 2, none⟩ = some (.int .i64 ((rd_T32 l0 x9_1).f2))) (ds := []) #[sqF,sqF,sqF,sqF,sqF,sqF,sqF,sqF,sqF,sqF,sqF,sqF,sqF,sqF,sqF,sqF,sqF,sqF,sqF,sqF,sqF,sqF,sqF,sqF,sqF,sqF,sqF,sqF,sqF,sqF,sqF,sqF,sqF,sqF,sqF,sqF,sqF,sqF] (by kernel_rfl) rfl rfl ⟨(blk_cell BK341.out 0).trans rfl, (blk_cell BK341.out 1).trans rfl, (blk_cell BK341.out 2).trans rfl, ((HB.out.cell (World.block_lt_of_cell? w _ hw342_0)).trans hw342_0), ((HB.out.cell (World.block_lt_of_cell? w _ hw342_1)).trans hw342_1), ((HB.out.cell (World.block_lt_of_cell? w _ hw342_2)).trans hw342_2), ((HB.out.cell (World.block_lt_of_cell? w _ hw344_0)).trans hw344_0), ((HB.out.cell (World.block_lt_of_cell? w _ hw344_1)).trans hw344_1), ((HB.out.cell (World.block_lt_of_cell? w _ hw344_2)).trans hw344_2), ((HB.out.cell (World.block_lt_of_cell? w _ hw345_0)).trans hw345_0), ((HB.out.cell (World.block_lt_of_cell? w _ hw345_1)).trans hw345_1), ((HB.out.cell (World.block_lt_of_cell? w _ hw345_2)).trans hw345_2), ((HB.out.cell (World.block_lt_of_cell? w _ hw346_0)).trans hw346_0), ((HB.out.cell (World.block_lt_of_cell? w _ hw346_1)).trans hw346_1), ((HB.out.cell (World.block_lt_of_cell? w _ hw346_2)).trans hw346_2)⟩ (fun hHeld => ?_); refine with_tabW camshaftref06_bad.tab7 camshaftref06_bad.bits7 (fun HT_ HW_ => ?_)
     generalize wr.drew = w22 at BK341 HB hx342_0 hx342_1 hx342_2 hx344_0 hx344_1 hx344_2 hx345_0 hx345_1 hx345_2 hx346_0 hx346_1 hx346_2 hHeld ⊢
     refine pure_ (i := 0) (N := some 22) (v := ?_) (a' := ?_) #[sqT,sqF,sqF,sqF,sqF,sqF,sqF,sqF,sqF,sqF,sqF,sqF,sqF,sqF,sqF,sqF,sqF,sqF,sqF,sqF,sqF,sqF,sqF,sqF,sqF,sqF,sqF,sqF,sqF,sqF,sqF,sqF,sqF,sqF,sqF,sqF,sqF,sqF] rfl rfl (any_of HT_.out (by kernel_rfl)) (fun _ _ _ h => h) (Or.inl ⟨by rfl, ?_⟩) ?_ ?_
     rotate_left
     ·intro w'
      go_simp
      with_reducible rfl
     rotate_left
     ·simp only [Act.put, setIfInBounds_toArray,set_cons_zero,set_cons_succ, i64_w, i32_w]
      rfl
     refine pure_ (i := 1) (N := some 23) (v := ?_) (a' := ?_) #[sqT,sqT,sqF,sqF,sqF,sqF,sqF,sqF,sqF,sqF,sqF,sqF,sqF,sqF,sqF,sqF,sqF,sqF,sqF,sqF,sqF,sqF,sqF,sqF,sqF,sqF,sqF,sqF,sqF,sqF,sqF,sqF,sqF,sqF,sqF,sqF,sqF,sqF] rfl rfl (any_of HT_.out (by kernel_rfl)) (fun _ _ _ h => h) (Or.inl ⟨by rfl, ?_⟩) ?_ ?_
     rotate_left
     ·intro w'
      go_simp
      with_reducible rfl
     rotate_left
     ·simp only [Act.put, setIfInBounds_toArray,set_cons_zero,set_cons_succ, i64_w, i32_w]
      rfl
     refine pure_ (i := 2) (N := some 24) (v := ?_) (a' := ?_) #[sqT,sqT,sqT,sqF,sqF,sqF,sqF,sqF,sqF,sqF,sqF,sqF,sqF,sqF,sqF,sqF,sqF,sqF,sqF,sqF,sqF,sqF,sqF,sqF,sqF,sqF,sqF,sqF,sqF,sqF,sqF,sqF,sqF,sqF,sqF,sqF,sqF,sqF] rfl rfl (any_of HT_.out (by kernel_rfl)) (fun _ _ _ h => h) (Or.inl ⟨by rfl, ?_⟩) ?_ ?_
     rotate_left
     ·intro w'
      go_simp
      with_reducible rfl
     rotate_left
     ·simp only [Act.put, setIfInBounds_toArray,set_cons_zero,set_cons_succ, i64_w, i32_w]
      rfl
     refine pure_ (i := 3) (N := some 25) (v := ?_) (a' := ?_) #[sqT,sqT,sqT,sqT,sqF,sqF,sqF,sqF,sqF,sqF,sqF,sqF,sqF,sqF,sqF,sqF,sqF,sqF,sqF,sqF,sqF,sqF,sqF,sqF,sqF,sqF,sqF,sqF,sqF,sqF,sqF,sqF,sqF,sqF,sqF,sqF,sqF,sqF] rfl rfl (any_of HT_.out (by kernel_rfl)) (fun _ _ _ h => h) (Or.inl ⟨by rfl, ?_⟩) ?_ ?_
     rotate_left
     ·intro w'
      go_simp
      with_reducible rfl
     rotate_left
     ·simp only [Act.put, setIfInBounds_toArray,set_cons_zero,set_cons_succ, i64_w, i32_w]
      rfl
     refine take_ (i := 4) (N := some 26) (v := ?_) (a' := ?_) #[sqT,sqT,sqT,sqT,sqT,sqF,sqF,sqF,sqF,sqF,sqF,sqF,sqF,sqF,sqF,sqF,sqF,sqF,sqF,sqF,sqF,sqF,sqF,sqF,sqF,sqF,sqF,sqF,sqF,sqF,sqF,sqF,sqF,sqF,sqF,sqF,sqF,sqF] rfl rfl (take_ofW HT_.out HW_.out (by kernel_rfl)) (fun _ _ _ h => h) (Or.inl ⟨by rfl, ?_⟩) hHeld ?_ ?_
     rotate_left
     ·rintro w' ⟨s0, s1, s2, s3, s4, s5, s6, s7, s8, s9, s10, s11, s12, s13, s14⟩
      go_simp
      with_reducible rfl
     rotate_left
     ·simp only [Act.put, setIfInBounds_toArray,set_cons_zero,set_cons_succ, i64_w, i32_w]
      rfl
     refine pure_ (i := 5) (N := some 27) (v := ?_) (a' := ?_) #[sqT,sqT,sqT,sqT,sqT,sqT,sqF,sqF,sqF,sqF,sqF,sqF,sqF,sqF,sqF,sqF,sqF,sqF,sqF,sqF,sqF,sqF,sqF,sqF,sqF,sqF,sqF,sqF,sqF,sqF,sqF,sqF,sqF,sqF,sqF,sqF,sqF,sqF] rfl rfl (any_of HT_.out (by kernel_rfl)) (fun _ _ _ h => h) (Or.inl ⟨by rfl, ?_⟩) ?_ ?_
     rotate_left
     ·intro w'
      go_simp
      with_reducible rfl
     rotate_left
     ·simp only [Act.put, setIfInBounds_toArray,set_cons_zero,set_cons_succ, i64_w, i32_w]
      rfl
     refine pure_ (i := 6) (N := some 28) (v := ?_) (a' := ?_) #[sqT,sqT,sqT,sqT,sqT,sqT,sqT,sqF,sqF,sqF,sqF,sqF,sqF,sqF,sqF,sqF,sqF,sqF,sqF,sqF,sqF,sqF,sqF,sqF,sqF,sqF,sqF,sqF,sqF,sqF,sqF,sqF,sqF,sqF,sqF,sqF,sqF,sqF] rfl rfl (any_of HT_.out (by kernel_rfl)) (fun _ _ _ h => h) (Or.inl ⟨by rfl, ?_⟩) ?_ ?_
     rotate_left
     ·intro w'
      go_simp
      with_reducible rfl
     rotate_left
     ·simp only [Act.put, setIfInBounds_toArray,set_cons_zero,set_cons_succ, i64_w, i32_w]
      rfl
     refine pure_ (i := 7) (N := some 29) (v := ?_) (a' := ?_) #[sqT,sqT,sqT,sqT,sqT,sqT,sqT,sqT,sqF,sqF,sqF,sqF,sqF,sqF,sqF,sqF,sqF,sqF,sqF,sqF,sqF,sqF,sqF,sqF,sqF,sqF,sqF,sqF,sqF,sqF,sqF,sqF,sqF,sqF,sqF,sqF,sqF,sqF] rfl rfl (any_of HT_.out (by kernel_rfl)) (fun _ _ _ h => h) (Or.inl ⟨by rfl, ?_⟩) ?_ ?_
     rotate_left
     ·intro w'
      go_simp
      with_reducible rfl
     rotate_left
     ·simp only [Act.put, setIfInBounds_toArray,set_cons_zero,set_cons_succ, i64_w, i32_w]
      rfl
     refine pure_ (i := 8) (N := some 30) (v := ?_) (a' := ?_) #[sqT,sqT,sqT,sqT,sqT,sqT,sqT,sqT,sqT,sqF,sqF,sqF,sqF,sqF,sqF,sqF,sqF,sqF,sqF,sqF,sqF,sqF,sqF,sqF,sqF,sqF,sqF,sqF,sqF,sqF,sqF,sqF,sqF,sqF,sqF,sqF,sqF,sqF] rfl rfl (any_of HT_.out (by kernel_rfl)) (fun _ _ _ h => h) (Or.inl ⟨by rfl, ?_⟩) ?_ ?_
     rotate_left
     ·intro w'
      go_simp
      with_reducible rfl
     rotate_left
     ·simp only [Act.put, setIfInBounds_toArray,set_cons_zero,set_cons_succ, i64_w, i32_w]
      rfl
     refine pure_ (i := 9) (N := some 31) (v := ?_) (a' := ?_) #[sqT,sqT,sqT,sqT,sqT,sqT,sqT,sqT,sqT,sqT,sqF,sqF,sqF,sqF,sqF,sqF,sqF,sqF,sqF,sqF,sqF,sqF,sqF,sqF,sqF,sqF,sqF,sqF,sqF,sqF,sqF,sqF,sqF,sqF,sqF,sqF,sqF,sqF] rfl rfl (any_of HT_.out (by kernel_rfl)) (fun _ _ _ h => h) (Or.inl ⟨by rfl, ?_⟩) ?_ ?_
     rotate_left
     ·intro w'
      go_simp
      with_reducible rfl
     rotate_left
     ·simp only [Act.put, setIfInBounds_toArray,set_cons_zero,set_cons_succ, i64_w, i32_w]
      rfl
     refine one_ (i := 10) (N := some 32) #[sqT,sqT,sqT,sqT,sqT,sqT,sqT,sqT,sqT,sqT,sqT,sqF,sqF,sqF,sqF,sqF,sqF,sqF,sqF,sqF,sqF,sqF,sqF,sqF,sqF,sqF,sqF,sqF,sqF,sqF,sqF,sqF,sqF,sqF,sqF,sqF,sqF,sqF] rfl rfl (one_of HT_.out (by kernel_rfl)) (by decide) (fun K hK => ?_)
     refine goes_ Try.func30 (by kernel_rfl) rfl #[.slice A1 l1.length c1, .int .i64 x9_1, .int .i64 a2] (by rfl) rfl rfl (by (try simp only [List.map_toArray, List.map_cons, List.map_nil]); first | done | rfl | (simp only [List.length_drop, List.length_take]; rfl)) ?_
     with_reducible refine (camshaftref06_within.calls _ _ l1 x9_1 a2 true _ ?side1 ?side2 A17.out).mono ?_
     (case side1 => repeat (first | exact (Kd.C_below HR1.out HB.out) | (with_reducible refine Kd.C_alloc ?_ _) | (with_reducible refine Kd.C_drewN ?_ _) | (with_reducible refine Kd.C_drew ?_)))
     (case side2 => exact HC1.out)
     rintro e w' ⟨rfl, ⟨nd, rfl⟩⟩
     refine ⟨_, rfl, ?_⟩
     refine hK.out _ _ ⟨(blk_cell BK341.out 0).trans rfl, (blk_cell BK341.out 1).trans rfl, (blk_cell BK341.out 2).trans rfl, ((HB.out.cell (World.block_lt_of_cell? w _ hw342_0)).trans hw342_0), ((HB.out.cell (World.block_lt_of_cell? w _ hw342_1)).trans hw342_1), ((HB.out.cell (World.block_lt_of_cell? w _ hw342_2)).trans hw342_2), ((HB.out.cell (World.block_lt_of_cell? w _ hw344_0)).trans hw344_0), ((HB.out.cell (World.block_lt_of_cell? w _ hw344_1)).trans hw344_1), ((HB.out.cell (World.block_lt_of_cell? w _ hw344_2)).trans hw344_2), ((HB.out.cell (World.block_lt_of_cell? w _ hw345_0)).trans hw345_0), ((HB.out.cell (World.block_lt_of_cell? w _ hw345_1)).trans hw345_1), ((HB.out.cell (World.block_lt_of_cell? w _ hw345_2)).trans hw345_2), ((HB.out.cell (World.block_lt_of_cell? w _ hw346_0)).trans hw346_0), ((HB.out.cell (World.block_lt_of_cell? w _ hw346_1)).trans hw346_1), ((HB.out.cell (World.block_lt_of_cell? w _ hw346_2)).trans hw346_2)⟩ (fun hHeld => ?_)
     clear hK K
     refine norm_ (a' := ?_) ?_ ?_
     rotate_left
     ·show Act.put _ (some 32) _ = _
      simp only [Act.put, setIfInBounds_toArray,set_cons_zero,set_cons_succ, i64_w, i32_w]
      rfl
     refine pure_ (i := 11) (N := some 33) (v := ?_) (a' := ?_) #[sqT,sqT,sqT,sqT,sqT,sqT,sqT,sqT,sqT,sqT,sqT,sqT,sqF,sqF,sqF,sqF,sqF,sqF,sqF,sqF,sqF,sqF,sqF,sqF,sqF,sqF,sqF,sqF,sqF,sqF,sqF,sqF,sqF,sqF,sqF,sqF,sqF,sqF] rfl rfl (any_of HT_.out (by kernel_rfl)) (fun _ _ _ h => h) (Or.inl ⟨by rfl, ?_⟩) ?_ ?_
     rotate_left
     ·intro w'
      go_simp
      with_reducible rfl
     rotate_left
     ·simp only [Act.put, setIfInBounds_toArray,set_cons_zero,set_cons_succ, i64_w, i32_w]
      rfl
     refine pure_ (i := 12) (N := some 34) (v := ?_) (a' := ?_) #[sqT,sqT,sqT,sqT,sqT,sqT,sqT,sqT,sqT,sqT,sqT,sqT,sqT,sqF,sqF,sqF,sqF,sqF,sqF,sqF,sqF,sqF,sqF,sqF,sqF,sqF,sqF,sqF,sqF,sqF,sqF,sqF,sqF,sqF,sqF,sqF,sqF,sqF] rfl rfl (any_of HT_.out (by kernel_rfl)) (fun _ _ _ h => h) (Or.inl ⟨by rfl, ?_⟩) ?_ ?_
     rotate_left
     ·intro w'
      go_simp
      with_reducible rfl
     rotate_left
     ·simp only [Act.put, setIfInBounds_toArray,set_cons_zero,set_cons_succ, i64_w, i32_w]
      rfl
     refine pure_ (i := 13) (N := some 35) (v := ?_) (a' := ?_) #[sqT,sqT,sqT,sqT,sqT,sqT,sqT,sqT,sqT,sqT,sqT,sqT,sqT,sqT,sqF,sqF,sqF,sqF,sqF,sqF,sqF,sqF,sqF,sqF,sqF,sqF,sqF,sqF,sqF,sqF,sqF,sqF,sqF,sqF,sqF,sqF,sqF,sqF] rfl rfl (any_of HT_.out (by kernel_rfl)) (fun _ _ _ h => h) (Or.inl ⟨by rfl, ?_⟩) ?_ ?_
     rotate_left
     ·intro w'
      go_simp
      with_reducible rfl
     rotate_left
     ·simp only [Act.put, setIfInBounds_toArray,set_cons_zero,set_cons_succ, i64_w, i32_w]
      rfl
     refine pure_ (i := 14) (N := some 36) (v := ?_) (a' := ?_) #[sqT,sqT,sqT,sqT,sqT,sqT,sqT,sqT,sqT,sqT,sqT,sqT,sqT,sqT,sqT,sqF,sqF,sqF,sqF,sqF,sqF,sqF,sqF,sqF,sqF,sqF,sqF,sqF,sqF,sqF,sqF,sqF,sqF,sqF,sqF,sqF,sqF,sqF] rfl rfl (any_of HT_.out (by kernel_rfl)) (fun _ _ _ h => h) (Or.inl ⟨by rfl, ?_⟩) ?_ ?_
     rotate_left
     ·intro w'
      go_simp
      with_reducible rfl
     rotate_left
     ·simp only [Act.put, setIfInBounds_toArray,set_cons_zero,set_cons_succ, i64_w, i32_w]
      rfl
     refine pure_ (i := 15) (N := some 37) (v := ?_) (a' := ?_) #[sqT,sqT,sqT,sqT,sqT,sqT,sqT,sqT,sqT,sqT,sqT,sqT,sqT,sqT,sqT,sqT,sqF,sqF,sqF,sqF,sqF,sqF,sqF,sqF,sqF,sqF,sqF,sqF,sqF,sqF,sqF,sqF,sqF,sqF,sqF,sqF,sqF,sqF] rfl rfl (any_of HT_.out (by kernel_rfl)) (fun _ _ _ h => h) (Or.inl ⟨by rfl, ?_⟩) ?_ ?_
     rotate_left
     ·intro w'
      go_simp
      with_reducible rfl
     rotate_left
     ·simp only [Act.put, setIfInBounds_toArray,set_cons_zero,set_cons_succ, i64_w, i32_w]
      rfl
     refine take_ (i := 16) (N := some 38) (v := ?_) (a' := ?_) #[sqT,sqT,sqT,sqT,sqT,sqT,sqT,sqT,sqT,sqT,sqT,sqT,sqT,sqT,sqT,sqT,sqT,sqF,sqF,sqF,sqF,sqF,sqF,sqF,sqF,sqF,sqF,sqF,sqF,sqF,sqF,sqF,sqF,sqF,sqF,sqF,sqF,sqF] rfl rfl (take_ofW HT_.out HW_.out (by kernel_rfl)) (fun _ _ _ h => h) (Or.inl ⟨by rfl, ?_⟩) hHeld ?_ ?_
     rotate_left
     ·rintro w' ⟨s0, s1, s2, s3, s4, s5, s6, s7, s8, s9, s10, s11, s12, s13, s14⟩
      go_simp
      with_reducible rfl
     rotate_left
     ·simp only [Act.put, setIfInBounds_toArray,set_cons_zero,set_cons_succ, i64_w, i32_w]
      rfl
     refine pure_ (i := 17) (N := some 39) (v := ?_) (a' := ?_) #[sqT,sqT,sqT,sqT,sqT,sqT,sqT,sqT,sqT,sqT,sqT,sqT,sqT,sqT,sqT,sqT,sqT,sqT,sqF,sqF,sqF,sqF,sqF,sqF,sqF,sqF,sqF,sqF,sqF,sqF,sqF,sqF,sqF,sqF,sqF,sqF,sqF,sqF] rfl rfl (any_of HT_.out (by kernel_rfl)) (fun _ _ _ h => h) (Or.inl ⟨by rfl, ?_⟩) ?_ ?_
     rotate_left
     ·intro w'
      go_simp
      with_reducible rfl
     rotate_left
     ·simp only [Act.put, setIfInBounds_toArray,set_cons_zero,set_cons_succ, i64_w, i32_w]
      rfl
     refine pure_ (i := 18) (N := some 40) (v := ?_) (a' := ?_) #[sqT,sqT,sqT,sqT,sqT,sqT,sqT,sqT,sqT,sqT,sqT,sqT,sqT,sqT,sqT,sqT,sqT,sqT,sqT,sqF,sqF,sqF,sqF,sqF,sqF,sqF,sqF,sqF,sqF,sqF,sqF,sqF,sqF,sqF,sqF,sqF,sqF,sqF] rfl rfl (any_of HT_.out (by kernel_rfl)) (fun _ _ _ h => h) (Or.inl ⟨by rfl, ?_⟩) ?_ ?_
     rotate_left
     ·intro w'
      go_simp
      with_reducible rfl
     rotate_left
     ·simp only [Act.put, setIfInBounds_toArray,set_cons_zero,set_cons_succ, i64_w, i32_w]
      rfl
     refine pure_ (i := 19) (N := some 41) (v := ?_) (a' := ?_) #[sqT,sqT,sqT,sqT,sqT,sqT,sqT,sqT,sqT,sqT,sqT,sqT,sqT,sqT,sqT,sqT,sqT,sqT,sqT,sqT,sqF,sqF,sqF,sqF,sqF,sqF,sqF,sqF,sqF,sqF,sqF,sqF,sqF,sqF,sqF,sqF,sqF,sqF] rfl rfl (any_of HT_.out (by kernel_rfl)) (fun _ _ _ h => h) (Or.inl ⟨by rfl, ?_⟩) ?_ ?_
     rotate_left
     ·intro w'
      go_simp
      with_reducible rfl
     rotate_left
     ·simp only [Act.put, setIfInBounds_toArray,set_cons_zero,set_cons_succ, i64_w, i32_w]
      rfl
     refine pure_ (i := 20) (N := some 42) (v := ?_) (a' := ?_) #[sqT,sqT,sqT,sqT,sqT,sqT,sqT,sqT,sqT,sqT,sqT,sqT,sqT,sqT,sqT,sqT,sqT,sqT,sqT,sqT,sqT,sqF,sqF,sqF,sqF,sqF,sqF,sqF,sqF,sqF,sqF,sqF,sqF,sqF,sqF,sqF,sqF,sqF] rfl rfl (any_of HT_.out (by kernel_rfl)) (fun _ _ _ h => h) (Or.inl ⟨by rfl, ?_⟩) ?_ ?_
     rotate_left
     ·intro w'
      go_simp
      with_reducible rfl
     rotate_left
     ·simp only [Act.put, setIfInBounds_toArray,set_cons_zero,set_cons_succ, i64_w, i32_w]
      rfl
     refine pure_ (i := 21) (N := some 43) (v := ?_) (a' := ?_) #[sqT,sqT,sqT,sqT,sqT,sqT,sqT,sqT,sqT,sqT,sqT,sqT,sqT,sqT,sqT,sqT,sqT,sqT,sqT,sqT,sqT,sqT,sqF,sqF,sqF,sqF,sqF,sqF,sqF,sqF,sqF,sqF,sqF,sqF,sqF,sqF,sqF,sqF] rfl rfl (any_of HT_.out (by kernel_rfl)) (fun _ _ _ h => h) (Or.inl ⟨by rfl, ?_⟩) ?_ ?_
     rotate_left
     ·intro w'
      go_simp
      with_reducible rfl
     rotate_left
     ·simp only [Act.put, setIfInBounds_toArray,set_cons_zero,set_cons_succ, i64_w, i32_w]
      rfl
     refine pure_ (i := 22) (N := some 44) (v := ?_) (a' := ?_) #[sqT,sqT,sqT,sqT,sqT,sqT,sqT,sqT,sqT,sqT,sqT,sqT,sqT,sqT,sqT,sqT,sqT,sqT,sqT,sqT,sqT,sqT,sqT,sqF,sqF,sqF,sqF,sqF,sqF,sqF,sqF,sqF,sqF,sqF,sqF,sqF,sqF,sqF] rfl rfl (any_of HT_.out (by kernel_rfl)) (fun _ _ _ h => h) (Or.inl ⟨by rfl, ?_⟩) ?_ ?_
     rotate_left
     ·intro w'
      go_simp
      with_reducible rfl
     rotate_left
     ·simp only [Act.put, setIfInBounds_toArray,set_cons_zero,set_cons_succ, i64_w, i32_w]
      rfl
     refine take_ (i := 23) (N := some 45) (v := ?_) (a' := ?_) #[sqT,sqT,sqT,sqT,sqT,sqT,sqT,sqT,sqT,sqT,sqT,sqT,sqT,sqT,sqT,sqT,sqT,sqT,sqT,sqT,sqT,sqT,sqT,sqT,sqF,sqF,sqF,sqF,sqF,sqF,sqF,sqF,sqF,sqF,sqF,sqF,sqF,sqF] rfl rfl (take_ofW HT_.out HW_.out (by kernel_rfl)) (fun _ _ _ h => h) (Or.inl ⟨by rfl, ?_⟩) hHeld ?_ ?_
     rotate_left
     ·rintro w' ⟨s0, s1, s2, s3, s4, s5, s6, s7, s8, s9, s10, s11, s12, s13, s14⟩
      go_simp
      with_reducible rfl
     rotate_left
     ·simp only [Act.put, setIfInBounds_toArray,set_cons_zero,set_cons_succ, i64_w, i32_w]
      rfl
     refine pure_ (i := 24) (N := some 46) (v := ?_) (a' := ?_) #[sqT,sqT,sqT,sqT,sqT,sqT,sqT,sqT,sqT,sqT,sqT,sqT,sqT,sqT,sqT,sqT,sqT,sqT,sqT,sqT,sqT,sqT,sqT,sqT,sqT,sqF,sqF,sqF,sqF,sqF,sqF,sqF,sqF,sqF,sqF,sqF,sqF,sqF] rfl rfl (any_of HT_.out (by kernel_rfl)) (fun _ _ _ h => h) (Or.inl ⟨by rfl, ?_⟩) ?_ ?_
     rotate_left
     ·intro w'
      go_simp
      with_reducible rfl
     rotate_left
     ·simp only [Act.put, setIfInBounds_toArray,set_cons_zero,set_cons_succ, i64_w, i32_w]
      rfl
     refine pure_ (i := 25) (N := some 47) (v := ?_) (a' := ?_) #[sqT,sqT,sqT,sqT,sqT,sqT,sqT,sqT,sqT,sqT,sqT,sqT,sqT,sqT,sqT,sqT,sqT,sqT,sqT,sqT,sqT,sqT,sqT,sqT,sqT,sqT,sqF,sqF,sqF,sqF,sqF,sqF,sqF,sqF,sqF,sqF,sqF,sqF] rfl rfl (any_of HT_.out (by kernel_rfl)) (fun _ _ _ h => h) (Or.inl ⟨by rfl, ?_⟩) ?_ ?_
     rotate_left
     ·intro w'
      go_simp
      with_reducible rfl
     rotate_left
     ·simp only [Act.put, setIfInBounds_toArray,set_cons_zero,set_cons_succ, i64_w, i32_w]
      rfl
     refine pure_ (i := 26) (N := some 48) (v := ?_) (a' := ?_) #[sqT,sqT,sqT,sqT,sqT,sqT,sqT,sqT,sqT,sqT,sqT,sqT,sqT,sqT,sqT,sqT,sqT,sqT,sqT,sqT,sqT,sqT,sqT,sqT,sqT,sqT,sqT,sqF,sqF,sqF,sqF,sqF,sqF,sqF,sqF,sqF,sqF,sqF] rfl rfl (any_of HT_.out (by kernel_rfl)) (fun _ _ _ h => h) (Or.inl ⟨by rfl, ?_⟩) ?_ ?_
     rotate_left
     ·intro w'
      go_simp
      with_reducible rfl
     rotate_left
     ·simp only [Act.put, setIfInBounds_toArray,set_cons_zero,set_cons_succ, i64_w, i32_w]
      rfl
     refine pure_ (i := 27) (N := some 49) (v := ?_) (a' := ?_) #[sqT,sqT,sqT,sqT,sqT,sqT,sqT,sqT,sqT,sqT,sqT,sqT,sqT,sqT,sqT,sqT,sqT,sqT,sqT,sqT,sqT,sqT,sqT,sqT,sqT,sqT,sqT,sqT,sqF,sqF,sqF,sqF,sqF,sqF,sqF,sqF,sqF,sqF] rfl rfl (any_of HT_.out (by kernel_rfl)) (fun _ _ _ h => h) (Or.inl ⟨by rfl, ?_⟩) ?_ ?_
     rotate_left
     ·intro w'
      go_simp
      with_reducible rfl
     rotate_left
     ·simp only [Act.put, setIfInBounds_toArray,set_cons_zero,set_cons_succ, i64_w, i32_w]
      rfl
     refine pure_ (i := 28) (N := some 50) (v := ?_) (a' := ?_) #[sqT,sqT,sqT,sqT,sqT,sqT,sqT,sqT,sqT,sqT,sqT,sqT,sqT,sqT,sqT,sqT,sqT,sqT,sqT,sqT,sqT,sqT,sqT,sqT,sqT,sqT,sqT,sqT,sqT,sqF,sqF,sqF,sqF,sqF,sqF,sqF,sqF,sqF] rfl rfl (any_of HT_.out (by kernel_rfl)) (fun _ _ _ h => h) (Or.inl ⟨by rfl, ?_⟩) ?_ ?_
     rotate_left
     ·intro w'
      go_simp
      with_reducible rfl
     rotate_left
     ·simp only [Act.put, setIfInBounds_toArray,set_cons_zero,set_cons_succ, i64_w, i32_w]
      rfl
     refine pure_ (i := 29) (N := some 51) (v := ?_) (a' := ?_) #[sqT,sqT,sqT,sqT,sqT,sqT,sqT,sqT,sqT,sqT,sqT,sqT,sqT,sqT,sqT,sqT,sqT,sqT,sqT,sqT,sqT,sqT,sqT,sqT,sqT,sqT,sqT,sqT,sqT,sqT,sqF,sqF,sqF,sqF,sqF,sqF,sqF,sqF] rfl rfl (any_of HT_.out (by kernel_rfl)) (fun _ _ _ h => h) (Or.inl ⟨by rfl, ?_⟩) ?_ ?_
     rotate_left
     ·intro w'
      go_simp
      with_reducible rfl
     rotate_left
     ·simp only [Act.put, setIfInBounds_toArray,set_cons_zero,set_cons_succ, i64_w, i32_w]
      rfl
     refine pure_ (i := 31) (N := some 53) (v := ?_) (a' := ?_) #[sqT,sqT,sqT,sqT,sqT,sqT,sqT,sqT,sqT,sqT,sqT,sqT,sqT,sqT,sqT,sqT,sqT,sqT,sqT,sqT,sqT,sqT,sqT,sqT,sqT,sqT,sqT,sqT,sqT,sqT,sqF,sqT,sqF,sqF,sqF,sqF,sqF,sqF] rfl rfl (any_of HT_.out (by kernel_rfl)) (fun _ _ _ h => h) (Or.inl ⟨by rfl, ?_⟩) ?_ ?_
     rotate_left
     ·intro w'
      go_simp
      with_reducible rfl
     rotate_left
     ·simp only [Act.put, setIfInBounds_toArray,set_cons_zero,set_cons_succ, i64_w, i32_w]
      rfl
     refine take_ (i := 30) (N := some 52) (v := ?_) (a' := ?_) #[sqT,sqT,sqT,sqT,sqT,sqT,sqT,sqT,sqT,sqT,sqT,sqT,sqT,sqT,sqT,sqT,sqT,sqT,sqT,sqT,sqT,sqT,sqT,sqT,sqT,sqT,sqT,sqT,sqT,sqT,sqT,sqT,sqF,sqF,sqF,sqF,sqF,sqF] rfl rfl (take_ofW HT_.out HW_.out (by kernel_rfl)) (fun _ _ _ h => h) (Or.inl ⟨by rfl, ?_⟩) hHeld ?_ ?_
     rotate_left
     ·rintro w' ⟨s0, s1, s2, s3, s4, s5, s6, s7, s8, s9, s10, s11, s12, s13, s14⟩
      go_simp
      with_reducible rfl
     rotate_left
     ·simp only [Act.put, setIfInBounds_toArray,set_cons_zero,set_cons_succ, i64_w, i32_w]
      rfl
     refine take_ (i := 32) (N := some 54) (v := ?_) (a' := ?_) #[sqT,sqT,sqT,sqT,sqT,sqT,sqT,sqT,sqT,sqT,sqT,sqT,sqT,sqT,sqT,sqT,sqT,sqT,sqT,sqT,sqT,sqT,sqT,sqT,sqT,sqT,sqT,sqT,sqT,sqT,sqT,sqT,sqT,sqF,sqF,sqF,sqF,sqF] rfl rfl (take_ofW HT_.out HW_.out (by kernel_rfl)) (fun _ _ _ h => h) (Or.inl ⟨by rfl, ?_⟩) hHeld ?_ ?_
     rotate_left
     ·rintro w' ⟨s0, s1, s2, s3, s4, s5, s6, s7, s8, s9, s10, s11, s12, s13, s14⟩
      go_simp
      with_reducible rfl
     rotate_left
     ·simp only [Act.put, setIfInBounds_toArray,set_cons_zero,set_cons_succ, i64_w, i32_w]
      rfl
     refine pure_ (i := 33) (N := some 55) (v := ?_) (a' := ?_) #[sqT,sqT,sqT,sqT,sqT,sqT,sqT,sqT,sqT,sqT,sqT,sqT,sqT,sqT,sqT,sqT,sqT,sqT,sqT,sqT,sqT,sqT,sqT,sqT,sqT,sqT,sqT,sqT,sqT,sqT,sqT,sqT,sqT,sqT,sqF,sqF,sqF,sqF] rfl rfl (any_of HT_.out (by kernel_rfl)) (fun _ _ _ h => h) (Or.inl ⟨by rfl, ?_⟩) ?_ ?_
     rotate_left
     ·intro w'
      go_simp
      with_reducible rfl
     rotate_left
     ·simp only [Act.put, setIfInBounds_toArray,set_cons_zero,set_cons_succ, i64_w, i32_w]
      rfl
     refine pure_ (i := 34) (N := some 56) (v := ?_) (a' := ?_) #[sqT,sqT,sqT,sqT,sqT,sqT,sqT,sqT,sqT,sqT,sqT,sqT,sqT,sqT,sqT,sqT,sqT,sqT,sqT,sqT,sqT,sqT,sqT,sqT,sqT,sqT,sqT,sqT,sqT,sqT,sqT,sqT,sqT,sqT,sqT,sqF,sqF,sqF] rfl rfl (any_of HT_.out (by kernel_rfl)) (fun _ _ _ h => h) (Or.inl ⟨by rfl, ?_⟩) ?_ ?_
     rotate_left
     ·intro w'
      go_simp
      with_reducible rfl
     rotate_left
     ·simp only [Act.put, setIfInBounds_toArray,set_cons_zero,set_cons_succ, i64_w, i32_w]
      rfl
     refine pure_ (i := 35) (N := some 57) (v := ?_) (a' := ?_) #[sqT,sqT,sqT,sqT,sqT,sqT,sqT,sqT,sqT,sqT,sqT,sqT,sqT,sqT,sqT,sqT,sqT,sqT,sqT,sqT,sqT,sqT,sqT,sqT,sqT,sqT,sqT,sqT,sqT,sqT,sqT,sqT,sqT,sqT,sqT,sqT,sqF,sqF] rfl rfl (any_of HT_.out (by kernel_rfl)) (fun _ _ _ h => h) (Or.inl ⟨by rfl, ?_⟩) ?_ ?_
     rotate_left
     ·intro w'
      go_simp
      with_reducible rfl
     rotate_left
     ·simp only [Act.put, setIfInBounds_toArray,set_cons_zero,set_cons_succ, i64_w, i32_w]
      rfl
     refine pure_ (i := 36) (N := some 58) (v := ?_) (a' := ?_) #[sqT,sqT,sqT,sqT,sqT,sqT,sqT,sqT,sqT,sqT,sqT,sqT,sqT,sqT,sqT,sqT,sqT,sqT,sqT,sqT,sqT,sqT,sqT,sqT,sqT,sqT,sqT,sqT,sqT,sqT,sqT,sqT,sqT,sqT,sqT,sqT,sqT,sqF] rfl rfl (any_of HT_.out (by kernel_rfl)) (fun _ _ _ h => h) (Or.inl ⟨by rfl, ?_⟩) ?_ ?_
     rotate_left
     ·intro w'
      go_simp
      with_reducible rfl
     rotate_left
     ·simp only [Act.put, setIfInBounds_toArray,set_cons_zero,set_cons_succ, i64_w, i32_w]
      rfl
     refine pure_ (i := 37) (N := some 59) (v := ?_) (a' := ?_) #[sqT,sqT,sqT,sqT,sqT,sqT,sqT,sqT,sqT,sqT,sqT,sqT,sqT,sqT,sqT,sqT,sqT,sqT,sqT,sqT,sqT,sqT,sqT,sqT,sqT,sqT,sqT,sqT,sqT,sqT,sqT,sqT,sqT,sqT,sqT,sqT,sqT,sqT] rfl rfl (any_of HT_.out (by kernel_rfl)) (fun _ _ _ h => h) (Or.inl ⟨by rfl, ?_⟩) ?_ ?_
     rotate_left
     ·intro w'
      go_simp
      with_reducible rfl
     rotate_left
     ·simp only [Act.put, setIfInBounds_toArray,set_cons_zero,set_cons_succ, i64_w, i32_w]
      rfl
     refine done_ (done_of HT_.out (by kernel_rfl)) ?_
     try go_wp2
     go_meet
     case rel => exact ⟨_, (decide (((rd_T32 l0 x9_1).f1) ≥ ((rd_T32 l0 a2).f1))), (by first | rfl | (simp; done) | (simp [*]; done)), H', ⟨by have := HK1.out; first | omega | exact Nat.le_refl _⟩, ⟨by (with_reducible repeat (first | refine blk_drewN ?_ _ | refine blk_drew ?_ | refine blk_alloc ?_ _)); exact BK341.out⟩, ⟨by repeat (first | (with_reducible first | exact HB.out | apply below_alloc | apply pw_below_drewN | apply below_drew1 | refine below_set ?_ GE341.out) | exact HB.out | exact Below.refl _ _)⟩⟩
    case rest =>
     clear HC12
     try clear c1
     try clear c2
     try clear p2
     try clear c3
     try clear p3
     try clear q3
     try clear hx3
     try clear c13
     try clear c14
     try clear c18
     try clear c21
     try clear c21b0
     try clear c21b1
     try clear hx342_0
     try clear hx342_1
     try clear hx342_2
     try clear hx344_0
     try clear hx344_1
     try clear hx344_2
     try clear hx345_0
     try clear hx345_1
     try clear hx345_2
     try clear p342
     try clear p344
     try clear p345
     try clear q342
     try clear q344
     try clear q345
     obtain ⟨kq, x59_11, rfl, HA, HJ11, BK341, HB⟩ := hcut
     cases kq with
     | zero => exact absurd HA.out (by simp [camshaftref06_bad.j1])
     | succ kj11 =>
      have H := HA.out
      clear HA
      simp only [camshaftref06_bad.j1] at H
      by_cases c25 : x59_11 = true
      ·subst c25
       have H1 : (some true) = some r := by rw [if_pos rfl] at H; exact H
       clear H
       have H := H1
       clear H1
       obtain rfl := Option.some.inj H
       go_wp2
       go_ret
       exact ⟨by first | rfl | (simp [errW_none, errW_some] <;> rfl) | (simp [*, errW_none, errW_some] <;> rfl), by repeat (first | (with_reducible first | exact HB.out | apply below_alloc | apply pw_below_drewN | apply below_drew1 | refine below_set ?_ GE341.out) | exact HB.out | exact Below.refl _ _)⟩
      replace c25 := Bool.eq_false_iff.mpr c25
      subst c25
      have H1 : (camshaftref06_bad.j2 kj11 l0 l1 a2 x8_1 x9_1 ((rd_T32 l0 a2).f0) ((rd_T32 l0 a2).f1) ((rd_T32 l0 a2).f2)) = some r := by rw [if_neg (show ¬ (false = true) by decide)] at H; exact H
      clear H
      have H := H1
      clear H1
      have H' := Aside0.mk H
      clear H
      go_wp2
      go_meet
      case rel => exact ⟨_, H', ⟨by have := HK1.out; have := HJ11.out; first | omega | exact Nat.le_refl _⟩, ⟨by (with_reducible repeat (first | refine blk_drewN ?_ _ | refine blk_drew ?_ | refine blk_alloc ?_ _)); exact BK341.out⟩, ⟨by repeat (first | (with_reducible first | exact HB.out | apply below_alloc | apply pw_below_drewN | apply below_drew1 | refine below_set ?_ GE341.out) | exact HB.out | exact Below.refl _ _)⟩⟩
   case rest =>
    clear HC9
    try clear c1
    try clear c2
    try clear p2
    try clear c3
    try clear p3
    try clear q3
    try clear hx3
    try clear c11
    try clear c11b0
    try clear c11b1
    try clear c13
    try clear c14
    try clear c18
    try clear c21
    try clear c21b0
    try clear c21b1
    try clear c25
    try clear hx342_0
    try clear hx342_1
    try clear hx342_2
    try clear hx344_0
    try clear hx344_1
    try clear hx344_2
    try clear hx345_0
    try clear hx345_1
    try clear hx345_2
    try clear p2
    try clear p3
    try clear p342
    try clear p344
    try clear p345
    try clear q3
    try clear q342
    try clear q344
    try clear q345
    obtain ⟨kq, HA, HJ8, BK341, HB⟩ := hcut
    cases kq with
    | zero => exact absurd HA.out (by simp [camshaftref06_bad.j2])
    | succ kj8 =>
     have H := HA.out
     clear HA
     simp only [camshaftref06_bad.j2] at H
     by_cases c26 : x8_1 = true
     ·subst c26
      have H1 : (camshaftref06_bad.l0 kj8 l0 l1 a2 true (wrap64 (x9_1 + 1)) ((rd_T32 l0 a2).f0) ((rd_T32 l0 a2).f1) ((rd_T32 l0 a2).f2)) = some r := by rw [if_pos rfl] at H; exact H
      clear H
      have H := H1
      clear H1
      have H' := Aside0.mk H
      clear H
      try go_wp2
      have n0_ := Aside0.mk (blk_drew BK341.out)
      have n1_ := Aside0.mk (below_drew1 HB.out)
      clear BK341
      clear HB
      have BK341 := n0_
      have HB := n1_
      clear n0_ n1_
      refine start_ (n := 26) (S := fun w' => True) (ds := []) #[sqF,sqF,sqF,sqF,sqF,sqF,sqF,sqF,sqF,sqF,sqF,sqF,sqF,sqF,sqF,sqF,sqF,sqF,sqF,sqF,sqF,sqF,sqF,sqF,sqF,sqF] (by kernel_rfl) rfl rfl trivial (fun hHeld => ?_); refine with_tabW camshaftref06_bad.tab9 camshaftref06_bad.bits9 (fun HT_ HW_ => ?_)
      generalize wc.drew = w27 at BK341 HB hHeld ⊢
      refine pure_ (i := 0) (N := some 60) (v := ?_) (a' := ?_) #[sqT,sqF,sqF,sqF,sqF,sqF,sqF,sqF,sqF,sqF,sqF,sqF,sqF,sqF,sqF,sqF,sqF,sqF,sqF,sqF,sqF,sqF,sqF,sqF,sqF,sqF] rfl rfl (any_of HT_.out (by kernel_rfl)) (fun _ _ _ h => h) (Or.inl ⟨by rfl, ?_⟩) ?_ ?_
      rotate_left
      ·intro w'
       go_simp
       with_reducible rfl
      rotate_left
      ·simp only [Act.put, setIfInBounds_toArray,set_cons_zero,set_cons_succ, i64_w, i32_w]
       rfl
      refine pure_ (i := 1) (N := some 61) (v := ?_) (a' := ?_) #[sqT,sqT,sqF,sqF,sqF,sqF,sqF,sqF,sqF,sqF,sqF,sqF,sqF,sqF,sqF,sqF,sqF,sqF,sqF,sqF,sqF,sqF,sqF,sqF,sqF,sqF] rfl rfl (any_of HT_.out (by kernel_rfl)) (fun _ _ _ h => h) (Or.inl ⟨by rfl, ?_⟩) ?_ ?_
      rotate_left
      ·intro w'
       go_simp
       with_reducible rfl
      rotate_left
      ·simp only [Act.put, setIfInBounds_toArray,set_cons_zero,set_cons_succ, i64_w, i32_w]
       rfl
      refine pure_ (i := 2) (N := some 62) (v := undef) (a' := ?_) #[sqT,sqT,sqT,sqF,sqF,sqF,sqF,sqF,sqF,sqF,sqF,sqF,sqF,sqF,sqF,sqF,sqF,sqF,sqF,sqF,sqF,sqF,sqF,sqF,sqF,sqF] rfl rfl (any_of HT_.out (by kernel_rfl)) (fun _ _ _ h => h) (Or.inr ⟨by rfl, rfl⟩) ?_ ?_
      rotate_left
      ·simp only [Act.put, setIfInBounds_toArray,set_cons_zero,set_cons_succ, i64_w, i32_w]
       rfl
      refine pure_ (i := 3) (N := some 63) (v := undef) (a' := ?_) #[sqT,sqT,sqT,sqT,sqF,sqF,sqF,sqF,sqF,sqF,sqF,sqF,sqF,sqF,sqF,sqF,sqF,sqF,sqF,sqF,sqF,sqF,sqF,sqF,sqF,sqF] rfl rfl (any_of HT_.out (by kernel_rfl)) (fun _ _ _ h => h) (Or.inr ⟨by rfl, rfl⟩) ?_ ?_
      rotate_left
      ·simp only [Act.put, setIfInBounds_toArray,set_cons_zero,set_cons_succ, i64_w, i32_w]
       rfl
      refine pure_ (i := 4) (N := some 64) (v := undef) (a' := ?_) #[sqT,sqT,sqT,sqT,sqT,sqF,sqF,sqF,sqF,sqF,sqF,sqF,sqF,sqF,sqF,sqF,sqF,sqF,sqF,sqF,sqF,sqF,sqF,sqF,sqF,sqF] rfl rfl (any_of HT_.out (by kernel_rfl)) (fun _ _ _ h => h) (Or.inr ⟨by rfl, rfl⟩) ?_ ?_
      rotate_left
      ·simp only [Act.put, setIfInBounds_toArray,set_cons_zero,set_cons_succ, i64_w, i32_w]
       rfl
      refine pure_ (i := 5) (N := some 65) (v := undef) (a' := ?_) #[sqT,sqT,sqT,sqT,sqT,sqT,sqF,sqF,sqF,sqF,sqF,sqF,sqF,sqF,sqF,sqF,sqF,sqF,sqF,sqF,sqF,sqF,sqF,sqF,sqF,sqF] rfl rfl (any_of HT_.out (by kernel_rfl)) (fun _ _ _ h => h) (Or.inr ⟨by rfl, rfl⟩) ?_ ?_
      rotate_left
      ·simp only [Act.put, setIfInBounds_toArray,set_cons_zero,set_cons_succ, i64_w, i32_w]
       rfl
      refine pure_ (i := 6) (N := some 66) (v := undef) (a' := ?_) #[sqT,sqT,sqT,sqT,sqT,sqT,sqT,sqF,sqF,sqF,sqF,sqF,sqF,sqF,sqF,sqF,sqF,sqF,sqF,sqF,sqF,sqF,sqF,sqF,sqF,sqF] rfl rfl (any_of HT_.out (by kernel_rfl)) (fun _ _ _ h => h) (Or.inr ⟨by rfl, rfl⟩) ?_ ?_
      rotate_left
      ·simp only [Act.put, setIfInBounds_toArray,set_cons_zero,set_cons_succ, i64_w, i32_w]
       rfl
      refine pure_ (i := 7) (N := some 67) (v := undef) (a' := ?_) #[sqT,sqT,sqT,sqT,sqT,sqT,sqT,sqT,sqF,sqF,sqF,sqF,sqF,sqF,sqF,sqF,sqF,sqF,sqF,sqF,sqF,sqF,sqF,sqF,sqF,sqF] rfl rfl (any_of HT_.out (by kernel_rfl)) (fun _ _ _ h => h) (Or.inr ⟨by rfl, rfl⟩) ?_ ?_
      rotate_left
      ·simp only [Act.put, setIfInBounds_toArray,set_cons_zero,set_cons_succ, i64_w, i32_w]
       rfl
      refine pure_ (i := 8) (N := some 68) (v := undef) (a' := ?_) #[sqT,sqT,sqT,sqT,sqT,sqT,sqT,sqT,sqT,sqF,sqF,sqF,sqF,sqF,sqF,sqF,sqF,sqF,sqF,sqF,sqF,sqF,sqF,sqF,sqF,sqF] rfl rfl (any_of HT_.out (by kernel_rfl)) (fun _ _ _ h => h) (Or.inr ⟨by rfl, rfl⟩) ?_ ?_
      rotate_left
      ·simp only [Act.put, setIfInBounds_toArray,set_cons_zero,set_cons_succ, i64_w, i32_w]
       rfl
      refine pure_ (i := 9) (N := some 69) (v := undef) (a' := ?_) #[sqT,sqT,sqT,sqT,sqT,sqT,sqT,sqT,sqT,sqT,sqF,sqF,sqF,sqF,sqF,sqF,sqF,sqF,sqF,sqF,sqF,sqF,sqF,sqF,sqF,sqF] rfl rfl (any_of HT_.out (by kernel_rfl)) (fun _ _ _ h => h) (Or.inr ⟨by rfl, rfl⟩) ?_ ?_
      rotate_left
      ·simp only [Act.put, setIfInBounds_toArray,set_cons_zero,set_cons_succ, i64_w, i32_w]
       rfl
      refine pure_ (i := 10) (N := some 70) (v := undef) (a' := ?_) #[sqT,sqT,sqT,sqT,sqT,sqT,sqT,sqT,sqT,sqT,sqT,sqF,sqF,sqF,sqF,sqF,sqF,sqF,sqF,sqF,sqF,sqF,sqF,sqF,sqF,sqF] rfl rfl (any_of HT_.out (by kernel_rfl)) (fun _ _ _ h => h) (Or.inr ⟨by rfl, rfl⟩) ?_ ?_
      rotate_left
      ·simp only [Act.put, setIfInBounds_toArray,set_cons_zero,set_cons_succ, i64_w, i32_w]
       rfl
      refine pure_ (i := 11) (N := some 71) (v := undef) (a' := ?_) #[sqT,sqT,sqT,sqT,sqT,sqT,sqT,sqT,sqT,sqT,sqT,sqT,sqF,sqF,sqF,sqF,sqF,sqF,sqF,sqF,sqF,sqF,sqF,sqF,sqF,sqF] rfl rfl (any_of HT_.out (by kernel_rfl)) (fun _ _ _ h => h) (Or.inr ⟨by rfl, rfl⟩) ?_ ?_
      rotate_left
      ·simp only [Act.put, setIfInBounds_toArray,set_cons_zero,set_cons_succ, i64_w, i32_w]
       rfl
      refine pure_ (i := 12) (N := some 72) (v := undef) (a' := ?_) #[sqT,sqT,sqT,sqT,sqT,sqT,sqT,sqT,sqT,sqT,sqT,sqT,sqT,sqF,sqF,sqF,sqF,sqF,sqF,sqF,sqF,sqF,sqF,sqF,sqF,sqF] rfl rfl (any_of HT_.out (by kernel_rfl)) (fun _ _ _ h => h) (Or.inr ⟨by rfl, rfl⟩) ?_ ?_
      rotate_left
      ·simp only [Act.put, setIfInBounds_toArray,set_cons_zero,set_cons_succ, i64_w, i32_w]
       rfl
      refine pure_ (i := 13) (N := some 73) (v := undef) (a' := ?_) #[sqT,sqT,sqT,sqT,sqT,sqT,sqT,sqT,sqT,sqT,sqT,sqT,sqT,sqT,sqF,sqF,sqF,sqF,sqF,sqF,sqF,sqF,sqF,sqF,sqF,sqF] rfl rfl (any_of HT_.out (by kernel_rfl)) (fun _ _ _ h => h) (Or.inr ⟨by rfl, rfl⟩) ?_ ?_
      rotate_left
      ·simp only [Act.put, setIfInBounds_toArray,set_cons_zero,set_cons_succ, i64_w, i32_w]
       rfl
      refine pure_ (i := 14) (N := some 74) (v := undef) (a' := ?_) #[sqT,sqT,sqT,sqT,sqT,sqT,sqT,sqT,sqT,sqT,sqT,sqT,sqT,sqT,sqT,sqF,sqF,sqF,sqF,sqF,sqF,sqF,sqF,sqF,sqF,sqF] rfl rfl (any_of HT_.out (by kernel_rfl)) (fun _ _ _ h => h) (Or.inr ⟨by rfl, rfl⟩) ?_ ?_
      rotate_left
      ·simp only [Act.put, setIfInBounds_toArray,set_cons_zero,set_cons_succ, i64_w, i32_w]
       rfl
      refine pure_ (i := 15) (N := some 75) (v := undef) (a' := ?_) #[sqT,sqT,sqT,sqT,sqT,sqT,sqT,sqT,sqT,sqT,sqT,sqT,sqT,sqT,sqT,sqT,sqF,sqF,sqF,sqF,sqF,sqF,sqF,sqF,sqF,sqF] rfl rfl (any_of HT_.out (by kernel_rfl)) (fun _ _ _ h => h) (Or.inr ⟨by rfl, rfl⟩) ?_ ?_
      rotate_left
      ·simp only [Act.put, setIfInBounds_toArray,set_cons_zero,set_cons_succ, i64_w, i32_w]
       rfl
      refine pure_ (i := 16) (N := some 76) (v := undef) (a' := ?_) #[sqT,sqT,sqT,sqT,sqT,sqT,sqT,sqT,sqT,sqT,sqT,sqT,sqT,sqT,sqT,sqT,sqT,sqF,sqF,sqF,sqF,sqF,sqF,sqF,sqF,sqF] rfl rfl (any_of HT_.out (by kernel_rfl)) (fun _ _ _ h => h) (Or.inr ⟨by rfl, rfl⟩) ?_ ?_
      rotate_left
      ·simp only [Act.put, setIfInBounds_toArray,set_cons_zero,set_cons_succ, i64_w, i32_w]
       rfl
      refine pure_ (i := 17) (N := some 77) (v := undef) (a' := ?_) #[sqT,sqT,sqT,sqT,sqT,sqT,sqT,sqT,sqT,sqT,sqT,sqT,sqT,sqT,sqT,sqT,sqT,sqT,sqF,sqF,sqF,sqF,sqF,sqF,sqF,sqF] rfl rfl (any_of HT_.out (by kernel_rfl)) (fun _ _ _ h => h) (Or.inr ⟨by rfl, rfl⟩) ?_ ?_
      rotate_left
      ·simp only [Act.put, setIfInBounds_toArray,set_cons_zero,set_cons_succ, i64_w, i32_w]
       rfl
      refine pure_ (i := 18) (N := some 78) (v := undef) (a' := ?_) #[sqT,sqT,sqT,sqT,sqT,sqT,sqT,sqT,sqT,sqT,sqT,sqT,sqT,sqT,sqT,sqT,sqT,sqT,sqT,sqF,sqF,sqF,sqF,sqF,sqF,sqF] rfl rfl (any_of HT_.out (by kernel_rfl)) (fun _ _ _ h => h) (Or.inr ⟨by rfl, rfl⟩) ?_ ?_
      rotate_left
      ·simp only [Act.put, setIfInBounds_toArray,set_cons_zero,set_cons_succ, i64_w, i32_w]
       rfl
      refine pure_ (i := 19) (N := some 79) (v := undef) (a' := ?_) #[sqT,sqT,sqT,sqT,sqT,sqT,sqT,sqT,sqT,sqT,sqT,sqT,sqT,sqT,sqT,sqT,sqT,sqT,sqT,sqT,sqF,sqF,sqF,sqF,sqF,sqF] rfl rfl (any_of HT_.out (by kernel_rfl)) (fun _ _ _ h => h) (Or.inr ⟨by rfl, rfl⟩) ?_ ?_
      rotate_left
      ·simp only [Act.put, setIfInBounds_toArray,set_cons_zero,set_cons_succ, i64_w, i32_w]
       rfl
      refine pure_ (i := 20) (N := some 80) (v := undef) (a' := ?_) #[sqT,sqT,sqT,sqT,sqT,sqT,sqT,sqT,sqT,sqT,sqT,sqT,sqT,sqT,sqT,sqT,sqT,sqT,sqT,sqT,sqT,sqF,sqF,sqF,sqF,sqF] rfl rfl (any_of HT_.out (by kernel_rfl)) (fun _ _ _ h => h) (Or.inr ⟨by rfl, rfl⟩) ?_ ?_
      rotate_left
      ·simp only [Act.put, setIfInBounds_toArray,set_cons_zero,set_cons_succ, i64_w, i32_w]
       rfl
      refine pure_ (i := 21) (N := some 81) (v := undef) (a' := ?_) #[sqT,sqT,sqT,sqT,sqT,sqT,sqT,sqT,sqT,sqT,sqT,sqT,sqT,sqT,sqT,sqT,sqT,sqT,sqT,sqT,sqT,sqT,sqF,sqF,sqF,sqF] rfl rfl (any_of HT_.out (by kernel_rfl)) (fun _ _ _ h => h) (Or.inr ⟨by rfl, rfl⟩) ?_ ?_
      rotate_left
      ·simp only [Act.put, setIfInBounds_toArray,set_cons_zero,set_cons_succ, i64_w, i32_w]
       rfl
      refine pure_ (i := 22) (N := some 82) (v := undef) (a' := ?_) #[sqT,sqT,sqT,sqT,sqT,sqT,sqT,sqT,sqT,sqT,sqT,sqT,sqT,sqT,sqT,sqT,sqT,sqT,sqT,sqT,sqT,sqT,sqT,sqF,sqF,sqF] rfl rfl (any_of HT_.out (by kernel_rfl)) (fun _ _ _ h => h) (Or.inr ⟨by rfl, rfl⟩) ?_ ?_
      rotate_left
      ·simp only [Act.put, setIfInBounds_toArray,set_cons_zero,set_cons_succ, i64_w, i32_w]
       rfl
      refine pure_ (i := 23) (N := some 83) (v := undef) (a' := ?_) #[sqT,sqT,sqT,sqT,sqT,sqT,sqT,sqT,sqT,sqT,sqT,sqT,sqT,sqT,sqT,sqT,sqT,sqT,sqT,sqT,sqT,sqT,sqT,sqT,sqF,sqF] rfl rfl (any_of HT_.out (by kernel_rfl)) (fun _ _ _ h => h) (Or.inr ⟨by rfl, rfl⟩) ?_ ?_
      rotate_left
      ·simp only [Act.put, setIfInBounds_toArray,set_cons_zero,set_cons_succ, i64_w, i32_w]
       rfl
      refine pure_ (i := 24) (N := some 84) (v := ?_) (a' := ?_) #[sqT,sqT,sqT,sqT,sqT,sqT,sqT,sqT,sqT,sqT,sqT,sqT,sqT,sqT,sqT,sqT,sqT,sqT,sqT,sqT,sqT,sqT,sqT,sqT,sqT,sqF] rfl rfl (any_of HT_.out (by kernel_rfl)) (fun _ _ _ h => h) (Or.inl ⟨by rfl, ?_⟩) ?_ ?_
      rotate_left
      ·intro w'
       go_simp
       with_reducible rfl
      rotate_left
      ·simp only [Act.put, setIfInBounds_toArray,set_cons_zero,set_cons_succ, i64_w, i32_w]
       rfl
      refine pure_ (i := 25) (N := some 8) (v := ?_) (a' := ?_) #[sqT,sqT,sqT,sqT,sqT,sqT,sqT,sqT,sqT,sqT,sqT,sqT,sqT,sqT,sqT,sqT,sqT,sqT,sqT,sqT,sqT,sqT,sqT,sqT,sqT,sqT] rfl rfl (any_of HT_.out (by kernel_rfl)) (fun _ _ _ h => h) (Or.inl ⟨by rfl, ?_⟩) ?_ ?_
      rotate_left
      ·intro w'
       go_simp
       with_reducible rfl
      rotate_left
      ·simp only [Act.put, setIfInBounds_toArray,set_cons_zero,set_cons_succ, i64_w, i32_w]
       rfl
      refine done_ (done_of HT_.out (by kernel_rfl)) ?_
      try go_wp2
      go_roundg kj8
      case measure => have := HK1.out; have := HJ8.out; omega
      case rel => exact ⟨(true), (wrap64 (x9_1 + 1)), (by first | rfl | (simp; done) | (simp [*]; done)), (by first | rfl | (simp; done) | (simp [*]; done)), H', ⟨by have := HK1.out; have := HJ8.out; omega⟩, ⟨by (with_reducible repeat (first | refine blk_drewN ?_ _ | refine blk_drew ?_ | refine blk_alloc ?_ _)); exact BK341.out⟩, ⟨by repeat (first | (with_reducible first | exact HB.out | apply below_alloc | apply pw_below_drewN | apply below_drew1 | refine below_set ?_ GE341.out) | exact HB.out | exact Below.refl _ _)⟩⟩
     replace c26 := Bool.eq_false_iff.mpr c26
     subst c26
     have H1 : (if 0 ≤ x9_1 then (if x9_1 < (l0.length : Int) then (if ((rd_T32 l0 x9_1).f0) = 23 then (if ((rd_T32 l0 x9_1).f1) = ((rd_T32 l0 a2).f1) then ((camshaftref06_within.f l1 x9_1 a2).bind fun t349 => (camshaftref06_bad.l0 kj8 l0 l1 a2 t349 (wrap64 (x9_1 + 1)) ((rd_T32 l0 a2).f0) ((rd_T32 l0 a2).f1) ((rd_T32 l0 a2).f2))) else (camshaftref06_bad.l0 kj8 l0 l1 a2 false (wrap64 (x9_1 + 1)) ((rd_T32 l0 a2).f0) ((rd_T32 l0 a2).f1) ((rd_T32 l0 a2).f2))) else (camshaftref06_bad.l0 kj8 l0 l1 a2 false (wrap64 (x9_1 + 1)) ((rd_T32 l0 a2).f0) ((rd_T32 l0 a2).f1) ((rd_T32 l0 a2).f2))) else (none)) else (none)) = some r := by rw [if_neg (show ¬ (false = true) by decide)] at H; exact H
     clear H
     have H := H1
     clear H1
     by_cases c28 : 0 ≤ x9_1
     rotate_left
     ·rw [if_neg c28] at H
      exact absurd H (by simp)
     rw [if_pos c28] at H
     have c28b0 : decide (0 ≤ x9_1) = true := decide_eq_true c28
     clear c28
     by_cases c29 : x9_1 < (l0.length : Int)
     rotate_left
     ·rw [if_neg c29] at H
      exact absurd H (by simp)
     rw [if_pos c29] at H
     have c29b0 : decide (x9_1 < (l0.length : Int)) = true := decide_eq_true c29
     clear c29
     by_cases c30 : ((rd_T32 l0 x9_1).f0) = 23
     rotate_left
     ·rw [if_neg c30] at H
      have c30b0 : (((rd_T32 l0 x9_1).f0) == 23) = false := beq_eq_false_iff_ne.mpr c30
      have c30b1 : (((rd_T32 l0 x9_1).f0) != 23) = true := bne_iff_ne.mpr c30
      have H' := Aside0.mk H
      clear H
      try go_wp2
      have n0_ := Aside0.mk (blk_drew BK341.out)
      have n1_ := Aside0.mk (below_drew1 HB.out)
      clear BK341
      clear HB
      have BK341 := n0_
      have HB := n1_
      clear n0_ n1_
      have p347 : 0 ≤ (x9_1 : Int) := of_decide_eq_true (by first | (with_reducible assumption) | assumption)
      have q347 : x9_1 < (l0.length : Int) := of_decide_eq_true (by first | (with_reducible assumption) | assumption)
      obtain ⟨ad347, e347, hx347_0, hx347_1, hx347_2⟩ := at_T32 HR0.out x9_1 p347 q347
      have hw347_2 := hx347_2
      have hw347_1 := hx347_1
      have hw347_0 := hx347_0
      obtain rfl : ad340 = ad347 := (by injection e347)
      replace hx347_0 := (HB.out.cell (World.block_lt_of_cell? w _ hx347_0)).trans hx347_0
      replace hx347_1 := (HB.out.cell (World.block_lt_of_cell? w _ hx347_1)).trans hx347_1
      replace hx347_2 := (HB.out.cell (World.block_lt_of_cell? w _ hx347_2)).trans hx347_2
      replace p347 := eq_true p347
      replace q347 := eq_true q347
      refine start_ (n := 26) (S := fun w' => w'.cell? (ad340.add ((x9_1).toNat * 3)) = some (.int .i64 ((rd_T32 l0 x9_1).f0)) ∧ w'.cell? ⟨(ad340.add ((x9_1).toNat * 3)).block, (ad340.add ((x9_1).toNat * 3)).off + 1, none⟩ = some (.int .i64 ((rd_T32 l0 x9_1).f1)) ∧ w'.cell? ⟨(ad340.add ((x9_1).toNat * 3)).block, (ad340.add ((x9_1).toNat * 3)).off + 2, none⟩ = some (.int .i64 ((rd_T32 l0 x9_1).f2))) (ds := []) #[sqF,sqF,sqF,sqF,sqF,sqF,sqF,sqF,sqF,sqF,sqF,sqF,sqF,sqF,sqF,sqF,sqF,sqF,sqF,sqF,sqF,sqF,sqF,sqF,sqF,sqF] (by kernel_rfl) rfl rfl ⟨((HB.out.cell (World.block_lt_of_cell? w _ hw347_0)).trans hw347_0), ((HB.out.cell (World.block_lt_of_cell? w _ hw347_1)).trans hw347_1), ((HB.out.cell (World.block_lt_of_cell? w _ hw347_2)).trans hw347_2)⟩ (fun hHeld => ?_); refine with_tabW camshaftref06_bad.tab9 camshaftref06_bad.bits9 (fun HT_ HW_ => ?_)
      generalize wc.drew = w35 at BK341 HB hx347_0 hx347_1 hx347_2 hHeld ⊢
      refine pure_ (i := 0) (N := some 60) (v := ?_) (a' := ?_) #[sqT,sqF,sqF,sqF,sqF,sqF,sqF,sqF,sqF,sqF,sqF,sqF,sqF,sqF,sqF,sqF,sqF,sqF,sqF,sqF,sqF,sqF,sqF,sqF,sqF,sqF] rfl rfl (any_of HT_.out (by kernel_rfl)) (fun _ _ _ h => h) (Or.inl ⟨by rfl, ?_⟩) ?_ ?_
      rotate_left
      ·intro w'
       go_simp
       with_reducible rfl
      rotate_left
      ·simp only [Act.put, setIfInBounds_toArray,set_cons_zero,set_cons_succ, i64_w, i32_w]
       rfl
      refine pure_ (i := 1) (N := some 61) (v := ?_) (a' := ?_) #[sqT,sqT,sqF,sqF,sqF,sqF,sqF,sqF,sqF,sqF,sqF,sqF,sqF,sqF,sqF,sqF,sqF,sqF,sqF,sqF,sqF,sqF,sqF,sqF,sqF,sqF] rfl rfl (any_of HT_.out (by kernel_rfl)) (fun _ _ _ h => h) (Or.inl ⟨by rfl, ?_⟩) ?_ ?_
      rotate_left
      ·intro w'
       go_simp
       with_reducible rfl
      rotate_left
      ·simp only [Act.put, setIfInBounds_toArray,set_cons_zero,set_cons_succ, i64_w, i32_w]
       rfl
      refine pure_ (i := 2) (N := some 62) (v := ?_) (a' := ?_) #[sqT,sqT,sqT,sqF,sqF,sqF,sqF,sqF,sqF,sqF,sqF,sqF,sqF,sqF,sqF,sqF,sqF,sqF,sqF,sqF,sqF,sqF,sqF,sqF,sqF,sqF] rfl rfl (any_of HT_.out (by kernel_rfl)) (fun _ _ _ h => h) (Or.inl ⟨by rfl, ?_⟩) ?_ ?_
      rotate_left
      ·intro w'
       go_simp
       with_reducible rfl
      rotate_left
      ·simp only [Act.put, setIfInBounds_toArray,set_cons_zero,set_cons_succ, i64_w, i32_w]
       rfl
      refine pure_ (i := 3) (N := some 63) (v := ?_) (a' := ?_) #[sqT,sqT,sqT,sqT,sqF,sqF,sqF,sqF,sqF,sqF,sqF,sqF,sqF,sqF,sqF,sqF,sqF,sqF,sqF,sqF,sqF,sqF,sqF,sqF,sqF,sqF] rfl rfl (any_of HT_.out (by kernel_rfl)) (fun _ _ _ h => h) (Or.inl ⟨by rfl, ?_⟩) ?_ ?_
      rotate_left
      ·intro w'
       go_simp
       with_reducible rfl
      rotate_left
      ·simp only [Act.put, setIfInBounds_toArray,set_cons_zero,set_cons_succ, i64_w, i32_w]
       rfl
      refine pure_ (i := 4) (N := some 64) (v := ?_) (a' := ?_) #[sqT,sqT,sqT,sqT,sqT,sqF,sqF,sqF,sqF,sqF,sqF,sqF,sqF,sqF,sqF,sqF,sqF,sqF,sqF,sqF,sqF,sqF,sqF,sqF,sqF,sqF] rfl rfl (any_of HT_.out (by kernel_rfl)) (fun _ _ _ h => h) (Or.inl ⟨by rfl, ?_⟩) ?_ ?_
      rotate_left
      ·intro w'
       go_simp
       with_reducible rfl
      rotate_left
      ·simp only [Act.put, setIfInBounds_toArray,set_cons_zero,set_cons_succ, i64_w, i32_w]
       rfl
      refine pure_ (i := 5) (N := some 65) (v := ?_) (a' := ?_) #[sqT,sqT,sqT,sqT,sqT,sqT,sqF,sqF,sqF,sqF,sqF,sqF,sqF,sqF,sqF,sqF,sqF,sqF,sqF,sqF,sqF,sqF,sqF,sqF,sqF,sqF] rfl rfl (any_of HT_.out (by kernel_rfl)) (fun _ _ _ h => h) (Or.inl ⟨by rfl, ?_⟩) ?_ ?_
      rotate_left
      ·intro w'
       go_simp
       with_reducible rfl
      rotate_left
      ·simp only [Act.put, setIfInBounds_toArray,set_cons_zero,set_cons_succ, i64_w, i32_w]
       rfl
      refine take_ (i := 6) (N := some 66) (v := ?_) (a' := ?_) #[sqT,sqT,sqT,sqT,sqT,sqT,sqT,sqF,sqF,sqF,sqF,sqF,sqF,sqF,sqF,sqF,sqF,sqF,sqF,sqF,sqF,sqF,sqF,sqF,sqF,sqF] rfl rfl (take_ofW HT_.out HW_.out (by kernel_rfl)) (fun _ _ _ h => h) (Or.inl ⟨by rfl, ?_⟩) hHeld ?_ ?_
      rotate_left
      ·rintro w' ⟨s0, s1, s2⟩
       go_simp
       with_reducible rfl
      rotate_left
      ·simp only [Act.put, setIfInBounds_toArray,set_cons_zero,set_cons_succ, i64_w, i32_w]
       rfl
      refine pure_ (i := 7) (N := some 67) (v := ?_) (a' := ?_) #[sqT,sqT,sqT,sqT,sqT,sqT,sqT,sqT,sqF,sqF,sqF,sqF,sqF,sqF,sqF,sqF,sqF,sqF,sqF,sqF,sqF,sqF,sqF,sqF,sqF,sqF] rfl rfl (any_of HT_.out (by kernel_rfl)) (fun _ _ _ h => h) (Or.inl ⟨by rfl, ?_⟩) ?_ ?_
      rotate_left
      ·intro w'
       go_simp
       with_reducible rfl
      rotate_left
      ·simp only [Act.put, setIfInBounds_toArray,set_cons_zero,set_cons_succ, i64_w, i32_w]
       rfl
      refine pure_ (i := 8) (N := some 68) (v := ?_) (a' := ?_) #[sqT,sqT,sqT,sqT,sqT,sqT,sqT,sqT,sqT,sqF,sqF,sqF,sqF,sqF,sqF,sqF,sqF,sqF,sqF,sqF,sqF,sqF,sqF,sqF,sqF,sqF] rfl rfl (any_of HT_.out (by kernel_rfl)) (fun _ _ _ h => h) (Or.inl ⟨by rfl, ?_⟩) ?_ ?_
      rotate_left
      ·intro w'
       go_simp
       with_reducible rfl
      rotate_left
      ·simp only [Act.put, setIfInBounds_toArray,set_cons_zero,set_cons_succ, i64_w, i32_w]
       rfl
      refine pure_ (i := 9) (N := some 69) (v := undef) (a' := ?_) #[sqT,sqT,sqT,sqT,sqT,sqT,sqT,sqT,sqT,sqT,sqF,sqF,sqF,sqF,sqF,sqF,sqF,sqF,sqF,sqF,sqF,sqF,sqF,sqF,sqF,sqF] rfl rfl (any_of HT_.out (by kernel_rfl)) (fun _ _ _ h => h) (Or.inr ⟨by rfl, rfl⟩) ?_ ?_
      rotate_left
      ·simp only [Act.put, setIfInBounds_toArray,set_cons_zero,set_cons_succ, i64_w, i32_w]
       rfl
      refine pure_ (i := 10) (N := some 70) (v := undef) (a' := ?_) #[sqT,sqT,sqT,sqT,sqT,sqT,sqT,sqT,sqT,sqT,sqT,sqF,sqF,sqF,sqF,sqF,sqF,sqF,sqF,sqF,sqF,sqF,sqF,sqF,sqF,sqF] rfl rfl (any_of HT_.out (by kernel_rfl)) (fun _ _ _ h => h) (Or.inr ⟨by rfl, rfl⟩) ?_ ?_
      rotate_left
      ·simp only [Act.put, setIfInBounds_toArray,set_cons_zero,set_cons_succ, i64_w, i32_w]
       rfl
      refine pure_ (i := 11) (N := some 71) (v := undef) (a' := ?_) #[sqT,sqT,sqT,sqT,sqT,sqT,sqT,sqT,sqT,sqT,sqT,sqT,sqF,sqF,sqF,sqF,sqF,sqF,sqF,sqF,sqF,sqF,sqF,sqF,sqF,sqF] rfl rfl (any_of HT_.out (by kernel_rfl)) (fun _ _ _ h => h) (Or.inr ⟨by rfl, rfl⟩) ?_ ?_
      rotate_left
      ·simp only [Act.put, setIfInBounds_toArray,set_cons_zero,set_cons_succ, i64_w, i32_w]
       rfl
      refine pure_ (i := 12) (N := some 72) (v := undef) (a' := ?_) #[sqT,sqT,sqT,sqT,sqT,sqT,sqT,sqT,sqT,sqT,sqT,sqT,sqT,sqF,sqF,sqF,sqF,sqF,sqF,sqF,sqF,sqF,sqF,sqF,sqF,sqF] rfl rfl (any_of HT_.out (by kernel_rfl)) (fun _ _ _ h => h) (Or.inr ⟨by rfl, rfl⟩) ?_ ?_
      rotate_left
      ·simp only [Act.put, setIfInBounds_toArray,set_cons_zero,set_cons_succ, i64_w, i32_w]
       rfl
      refine pure_ (i := 13) (N := some 73) (v := undef) (a' := ?_) #[sqT,sqT,sqT,sqT,sqT,sqT,sqT,sqT,sqT,sqT,sqT,sqT,sqT,sqT,sqF,sqF,sqF,sqF,sqF,sqF,sqF,sqF,sqF,sqF,sqF,sqF] rfl rfl (any_of HT_.out (by kernel_rfl)) (fun _ _ _ h => h) (Or.inr ⟨by rfl, rfl⟩) ?_ ?_
      rotate_left
      ·simp only [Act.put, setIfInBounds_toArray,set_cons_zero,set_cons_succ, i64_w, i32_w]
       rfl
      refine pure_ (i := 14) (N := some 74) (v := undef) (a' := ?_) #[sqT,sqT,sqT,sqT,sqT,sqT,sqT,sqT,sqT,sqT,sqT,sqT,sqT,sqT,sqT,sqF,sqF,sqF,sqF,sqF,sqF,sqF,sqF,sqF,sqF,sqF] rfl rfl (any_of HT_.out (by kernel_rfl)) (fun _ _ _ h => h) (Or.inr ⟨by rfl, rfl⟩) ?_ ?_
      rotate_left
      ·simp only [Act.put, setIfInBounds_toArray,set_cons_zero,set_cons_succ, i64_w, i32_w]
       rfl
      refine pure_ (i := 15) (N := some 75) (v := undef) (a' := ?_) #[sqT,sqT,sqT,sqT,sqT,sqT,sqT,sqT,sqT,sqT,sqT,sqT,sqT,sqT,sqT,sqT,sqF,sqF,sqF,sqF,sqF,sqF,sqF,sqF,sqF,sqF] rfl rfl (any_of HT_.out (by kernel_rfl)) (fun _ _ _ h => h) (Or.inr ⟨by rfl, rfl⟩) ?_ ?_
      rotate_left
      ·simp only [Act.put, setIfInBounds_toArray,set_cons_zero,set_cons_succ, i64_w, i32_w]
       rfl
      refine pure_ (i := 16) (N := some 76) (v := undef) (a' := ?_) #[sqT,sqT,sqT,sqT,sqT,sqT,sqT,sqT,sqT,sqT,sqT,sqT,sqT,sqT,sqT,sqT,sqT,sqF,sqF,sqF,sqF,sqF,sqF,sqF,sqF,sqF] rfl rfl (any_of HT_.out (by kernel_rfl)) (fun _ _ _ h => h) (Or.inr ⟨by rfl, rfl⟩) ?_ ?_
      rotate_left
      ·simp only [Act.put, setIfInBounds_toArray,set_cons_zero,set_cons_succ, i64_w, i32_w]
       rfl
      refine pure_ (i := 17) (N := some 77) (v := ?_) (a' := ?_) #[sqT,sqT,sqT,sqT,sqT,sqT,sqT,sqT,sqT,sqT,sqT,sqT,sqT,sqT,sqT,sqT,sqT,sqT,sqF,sqF,sqF,sqF,sqF,sqF,sqF,sqF] rfl rfl (any_of HT_.out (by kernel_rfl)) (fun _ _ _ h => h) (Or.inl ⟨by rfl, ?_⟩) ?_ ?_
      rotate_left
      ·intro w'
       go_simp
       with_reducible rfl
      rotate_left
      ·simp only [Act.put, setIfInBounds_toArray,set_cons_zero,set_cons_succ, i64_w, i32_w]
       rfl
      refine pure_ (i := 18) (N := some 78) (v := ?_) (a' := ?_) #[sqT,sqT,sqT,sqT,sqT,sqT,sqT,sqT,sqT,sqT,sqT,sqT,sqT,sqT,sqT,sqT,sqT,sqT,sqT,sqF,sqF,sqF,sqF,sqF,sqF,sqF] rfl rfl (any_of HT_.out (by kernel_rfl)) (fun _ _ _ h => h) (Or.inl ⟨by rfl, ?_⟩) ?_ ?_
      rotate_left
      ·intro w'
       go_simp
       with_reducible rfl
      rotate_left
      ·simp only [Act.put, setIfInBounds_toArray,set_cons_zero,set_cons_succ, i64_w, i32_w]
       rfl
      refine pure_ (i := 19) (N := some 79) (v := undef) (a' := ?_) #[sqT,sqT,sqT,sqT,sqT,sqT,sqT,sqT,sqT,sqT,sqT,sqT,sqT,sqT,sqT,sqT,sqT,sqT,sqT,sqT,sqF,sqF,sqF,sqF,sqF,sqF] rfl rfl (any_of HT_.out (by kernel_rfl)) (fun _ _ _ h => h) (Or.inr ⟨by rfl, rfl⟩) ?_ ?_
      rotate_left
      ·simp only [Act.put, setIfInBounds_toArray,set_cons_zero,set_cons_succ, i64_w, i32_w]
       rfl
      refine pure_ (i := 20) (N := some 80) (v := undef) (a' := ?_) #[sqT,sqT,sqT,sqT,sqT,sqT,sqT,sqT,sqT,sqT,sqT,sqT,sqT,sqT,sqT,sqT,sqT,sqT,sqT,sqT,sqT,sqF,sqF,sqF,sqF,sqF] rfl rfl (any_of HT_.out (by kernel_rfl)) (fun _ _ _ h => h) (Or.inr ⟨by rfl, rfl⟩) ?_ ?_
      rotate_left
      ·simp only [Act.put, setIfInBounds_toArray,set_cons_zero,set_cons_succ, i64_w, i32_w]
       rfl
      refine pure_ (i := 21) (N := some 81) (v := undef) (a' := ?_) #[sqT,sqT,sqT,sqT,sqT,sqT,sqT,sqT,sqT,sqT,sqT,sqT,sqT,sqT,sqT,sqT,sqT,sqT,sqT,sqT,sqT,sqT,sqF,sqF,sqF,sqF] rfl rfl (any_of HT_.out (by kernel_rfl)) (fun _ _ _ h => h) (Or.inr ⟨by rfl, rfl⟩) ?_ ?_
      rotate_left
      ·simp only [Act.put, setIfInBounds_toArray,set_cons_zero,set_cons_succ, i64_w, i32_w]
       rfl
      refine pure_ (i := 22) (N := some 82) (v := undef) (a' := ?_) #[sqT,sqT,sqT,sqT,sqT,sqT,sqT,sqT,sqT,sqT,sqT,sqT,sqT,sqT,sqT,sqT,sqT,sqT,sqT,sqT,sqT,sqT,sqT,sqF,sqF,sqF] rfl rfl (any_of HT_.out (by kernel_rfl)) (fun _ _ _ h => h) (Or.inr ⟨by rfl, rfl⟩) ?_ ?_
      rotate_left
      ·simp only [Act.put, setIfInBounds_toArray,set_cons_zero,set_cons_succ, i64_w, i32_w]
       rfl
      refine pure_ (i := 23) (N := some 83) (v := ?_) (a' := ?_) #[sqT,sqT,sqT,sqT,sqT,sqT,sqT,sqT,sqT,sqT,sqT,sqT,sqT,sqT,sqT,sqT,sqT,sqT,sqT,sqT,sqT,sqT,sqT,sqT,sqF,sqF] rfl rfl (any_of HT_.out (by kernel_rfl)) (fun _ _ _ h => h) (Or.inl ⟨by rfl, ?_⟩) ?_ ?_
      rotate_left
      ·intro w'
       go_simp
       with_reducible rfl
      rotate_left
      ·simp only [Act.put, setIfInBounds_toArray,set_cons_zero,set_cons_succ, i64_w, i32_w]
       rfl
      refine pure_ (i := 24) (N := some 84) (v := ?_) (a' := ?_) #[sqT,sqT,sqT,sqT,sqT,sqT,sqT,sqT,sqT,sqT,sqT,sqT,sqT,sqT,sqT,sqT,sqT,sqT,sqT,sqT,sqT,sqT,sqT,sqT,sqT,sqF] rfl rfl (any_of HT_.out (by kernel_rfl)) (fun _ _ _ h => h) (Or.inl ⟨by rfl, ?_⟩) ?_ ?_
      rotate_left
      ·intro w'
       go_simp
       with_reducible rfl
      rotate_left
      ·simp only [Act.put, setIfInBounds_toArray,set_cons_zero,set_cons_succ, i64_w, i32_w]
       rfl
      refine pure_ (i := 25) (N := some 8) (v := ?_) (a' := ?_) #[sqT,sqT,sqT,sqT,sqT,sqT,sqT,sqT,sqT,sqT,sqT,sqT,sqT,sqT,sqT,sqT,sqT,sqT,sqT,sqT,sqT,sqT,sqT,sqT,sqT,sqT] rfl rfl (any_of HT_.out (by kernel_rfl)) (fun _ _ _ h => h) (Or.inl ⟨by rfl, ?_⟩) ?_ ?_
      rotate_left
      ·intro w'
       go_simp
       with_reducible rfl
      rotate_left
      ·simp only [Act.put, setIfInBounds_toArray,set_cons_zero,set_cons_succ, i64_w, i32_w]
       rfl
      refine done_ (done_of HT_.out (by kernel_rfl)) ?_
      try go_wp2
      go_roundg kj8
      case measure => have := HK1.out; have := HJ8.out; omega
      case rel => exact ⟨(false), (wrap64 (x9_1 + 1)), (by first | rfl | (simp; done) | (simp [*]; done)), (by first | rfl | (simp; done) | (simp [*]; done)), H', ⟨by have := HK1.out; have := HJ8.out; omega⟩, ⟨by (with_reducible repeat (first | refine blk_drewN ?_ _ | refine blk_drew ?_ | refine blk_alloc ?_ _)); exact BK341.out⟩, ⟨by repeat (first | (with_reducible first | exact HB.out | apply below_alloc | apply pw_below_drewN | apply below_drew1 | refine below_set ?_ GE341.out) | exact HB.out | exact Below.refl _ _)⟩⟩
     rw [if_pos c30] at H
     have c30b0 : (((rd_T32 l0 x9_1).f0) == 23) = true := beq_iff_eq.mpr c30
     have c30b1 : (((rd_T32 l0 x9_1).f0) != 23) = false := bne_eq_false_iff_eq.mpr c30
     clear c30
     by_cases c31 : ((rd_T32 l0 x9_1).f1) = ((rd_T32 l0 a2).f1)
     rotate_left
     ·rw [if_neg c31] at H
      have c31b0 : (((rd_T32 l0 x9_1).f1) == ((rd_T32 l0 a2).f1)) = false := beq_eq_false_iff_ne.mpr c31
      have c31b1 : (((rd_T32 l0 x9_1).f1) != ((rd_T32 l0 a2).f1)) = true := bne_iff_ne.mpr c31
      have H' := Aside0.mk H
      clear H
      try go_wp2
      have n0_ := Aside0.mk (blk_drew BK341.out)
      have n1_ := Aside0.mk (below_drew1 HB.out)
      clear BK341
      clear HB
      have BK341 := n0_
      have HB := n1_
      clear n0_ n1_
      have p347 : 0 ≤ (x9_1 : Int) := of_decide_eq_true (by first | (with_reducible assumption) | assumption)
      have q347 : x9_1 < (l0.length : Int) := of_decide_eq_true (by first | (with_reducible assumption) | assumption)
      obtain ⟨ad347, e347, hx347_0, hx347_1, hx347_2⟩ := at_T32 HR0.out x9_1 p347 q347
      have hw347_2 := hx347_2
      have hw347_1 := hx347_1
      have hw347_0 := hx347_0
      obtain rfl : ad340 = ad347 := (by injection e347)
      replace hx347_0 := (HB.out.cell (World.block_lt_of_cell? w _ hx347_0)).trans hx347_0
      replace hx347_1 := (HB.out.cell (World.block_lt_of_cell? w _ hx347_1)).trans hx347_1
      replace hx347_2 := (HB.out.cell (World.block_lt_of_cell? w _ hx347_2)).trans hx347_2
      replace p347 := eq_true p347
      replace q347 := eq_true q347
      have p348 : 0 ≤ (x9_1 : Int) := of_decide_eq_true (by first | (with_reducible assumption) | assumption)
      have q348 : x9_1 < (l0.length : Int) := of_decide_eq_true (by first | (with_reducible assumption) | assumption)
      obtain ⟨ad348, e348, hx348_0, hx348_1, hx348_2⟩ := at_T32 HR0.out x9_1 p348 q348
      have hw348_2 := hx348_2
      have hw348_1 := hx348_1
      have hw348_0 := hx348_0
      obtain rfl : ad340 = ad348 := (by injection e348)
      replace hx348_0 := (HB.out.cell (World.block_lt_of_cell? w _ hx348_0)).trans hx348_0
      replace hx348_1 := (HB.out.cell (World.block_lt_of_cell? w _ hx348_1)).trans hx348_1
      replace hx348_2 := (HB.out.cell (World.block_lt_of_cell? w _ hx348_2)).trans hx348_2
      replace p348 := eq_true p348
      replace q348 := eq_true q348
      refine start_ (n := 26) (S := fun w' => w'.cell? ⟨gb341, 0, none⟩ = some (.int .i64 ((rd_T32 l0 a2).f0)) ∧ w'.cell? ⟨gb341, 1, none⟩ = some (.int .i64 ((rd_T32 l0 a2).f1)) ∧ w'.cell? ⟨gb341, 2, none⟩ = some (.int .i64 ((rd_T32 l0 a2).f2)) ∧ w'.cell? (ad340.add ((x9_1).toNat * 3)) = some (.int .i64 ((rd_T32 l0 x9_1).f0)) ∧ w'.cell? ⟨(ad340.add ((x9_1).toNat * 3)).block, (ad340.add ((x9_1).toNat * 3)).off + 1, none⟩ = some (.int .i64 ((rd_T32 l0 x9_1).f1)) ∧ w'.cell? ⟨(ad340.add ((x9_1).toNat * 3)).block, (ad340.add ((x9_1).toNat * 3)).off + 2, none⟩ = some (.int .i64 ((rd_T32 l0 x9_1).f2)) ∧ w'.cell? (ad340.add ((x9_1).toNat * 3)) = some (.int .i64 ((rd_T32 l0 x9_1).f0)) ∧ w'.cell? ⟨(ad340.add ((x9_1).toNat * 3)).block, (ad340.add ((x9_1).toNat * 3)).off + 1, none⟩ = some (.int .i64 ((rd_T32 l0 x9_1).f1)) ∧ w'.cell? ⟨(ad340.add ((x9_1).toNat * 3)).block, (ad340.add ((x9_1).toNat * 3)).off + 2, none⟩ = some (.int .i64 ((rd_T32 l0 x9_1).f2))) (ds := []) #[sqF,sqF,sqF,sqF,sqF,sqF,sqF,sqF,sqF,sqF,sqF,sqF,sqF,sqF,sqF,sqF,sqF,sqF,sqF,sqF,sqF,sqF,sqF,sqF,sqF,sqF] (by kernel_rfl) rfl rfl ⟨(blk_cell BK341.out 0).trans rfl, (blk_cell BK341.out 1).trans rfl, (blk_cell BK341.out 2).trans rfl, ((HB.out.cell (World.block_lt_of_cell? w _ hw347_0)).trans hw347_0), ((HB.out.cell (World.block_lt_of_cell? w _ hw347_1)).trans hw347_1), ((HB.out.cell (World.block_lt_of_cell? w _ hw347_2)).trans hw347_2), ((HB.out.cell (World.block_lt_of_cell? w _ hw348_0)).trans hw348_0), ((HB.out.cell (World.block_lt_of_cell? w _ hw348_1)).trans hw348_1), ((HB.out.cell (World.block_lt_of_cell? w _ hw348_2)).trans hw348_2)⟩ (fun hHeld => ?_); refine with_tabW camshaftref06_bad.tab9 camshaftref06_bad.bits9 (fun HT_ HW_ => ?_)
      generalize wc.drew = w34 at BK341 HB hx347_0 hx347_1 hx347_2 hx348_0 hx348_1 hx348_2 hHeld ⊢
      refine pure_ (i := 0) (N := some 60) (v := ?_) (a' := ?_) #[sqT,sqF,sqF,sqF,sqF,sqF,sqF,sqF,sqF,sqF,sqF,sqF,sqF,sqF,sqF,sqF,sqF,sqF,sqF,sqF,sqF,sqF,sqF,sqF,sqF,sqF] rfl rfl (any_of HT_.out (by kernel_rfl)) (fun _ _ _ h => h) (Or.inl ⟨by rfl, ?_⟩) ?_ ?_
      rotate_left
      ·intro w'
       go_simp
       with_reducible rfl
      rotate_left
      ·simp only [Act.put, setIfInBounds_toArray,set_cons_zero,set_cons_succ, i64_w, i32_w]
       rfl
      refine pure_ (i := 1) (N := some 61) (v := ?_) (a' := ?_) #[sqT,sqT,sqF,sqF,sqF,sqF,sqF,sqF,sqF,sqF,sqF,sqF,sqF,sqF,sqF,sqF,sqF,sqF,sqF,sqF,sqF,sqF,sqF,sqF,sqF,sqF] rfl rfl (any_of HT_.out (by kernel_rfl)) (fun _ _ _ h => h) (Or.inl ⟨by rfl, ?_⟩) ?_ ?_
      rotate_left
      ·intro w'
       go_simp
       with_reducible rfl
      rotate_left
      ·simp only [Act.put, setIfInBounds_toArray,set_cons_zero,set_cons_succ, i64_w, i32_w]
       rfl
      refine pure_ (i := 2) (N := some 62) (v := ?_) (a' := ?_) #[sqT,sqT,sqT,sqF,sqF,sqF,sqF,sqF,sqF,sqF,sqF,sqF,sqF,sqF,sqF,sqF,sqF,sqF,sqF,sqF,sqF,sqF,sqF,sqF,sqF,sqF] rfl rfl (any_of HT_.out (by kernel_rfl)) (fun _ _ _ h => h) (Or.inl ⟨by rfl, ?_⟩) ?_ ?_
      rotate_left
      ·intro w'
       go_simp
       with_reducible rfl
      rotate_left
      ·simp only [Act.put, setIfInBounds_toArray,set_cons_zero,set_cons_succ, i64_w, i32_w]
       rfl
      refine pure_ (i := 3) (N := some 63) (v := ?_) (a' := ?_) #[sqT,sqT,sqT,sqT,sqF,sqF,sqF,sqF,sqF,sqF,sqF,sqF,sqF,sqF,sqF,sqF,sqF,sqF,sqF,sqF,sqF,sqF,sqF,sqF,sqF,sqF] rfl rfl (any_of HT_.out (by kernel_rfl)) (fun _ _ _ h => h) (Or.inl ⟨by rfl, ?_⟩) ?_ ?_
      rotate_left
      ·intro w'
       go_simp
       with_reducible rfl
      rotate_left
      ·simp only [Act.put, setIfInBounds_toArray,set_cons_zero,set_cons_succ, i64_w, i32_w]
       rfl
      refine pure_ (i := 4) (N := some 64) (v := ?_) (a' := ?_) #[sqT,sqT,sqT,sqT,sqT,sqF,sqF,sqF,sqF,sqF,sqF,sqF,sqF,sqF,sqF,sqF,sqF,sqF,sqF,sqF,sqF,sqF,sqF,sqF,sqF,sqF] rfl rfl (any_of HT_.out (by kernel_rfl)) (fun _ _ _ h => h) (Or.inl ⟨by rfl, ?_⟩) ?_ ?_
      rotate_left
      ·intro w'
       go_simp
       with_reducible rfl
      rotate_left
      ·simp only [Act.put, setIfInBounds_toArray,set_cons_zero,set_cons_succ, i64_w, i32_w]
       rfl
      refine pure_ (i := 5) (N := some 65) (v := ?_) (a' := ?_) #[sqT,sqT,sqT,sqT,sqT,sqT,sqF,sqF,sqF,sqF,sqF,sqF,sqF,sqF,sqF,sqF,sqF,sqF,sqF,sqF,sqF,sqF,sqF,sqF,sqF,sqF] rfl rfl (any_of HT_.out (by kernel_rfl)) (fun _ _ _ h => h) (Or.inl ⟨by rfl, ?_⟩) ?_ ?_
      rotate_left
      ·intro w'
       go_simp
       with_reducible rfl
      rotate_left
      ·simp only [Act.put, setIfInBounds_toArray,set_cons_zero,set_cons_succ, i64_w, i32_w]
       rfl
      refine take_ (i := 6) (N := some 66) (v := ?_) (a' := ?_) #[sqT,sqT,sqT,sqT,sqT,sqT,sqT,sqF,sqF,sqF,sqF,sqF,sqF,sqF,sqF,sqF,sqF,sqF,sqF,sqF,sqF,sqF,sqF,sqF,sqF,sqF] rfl rfl (take_ofW HT_.out HW_.out (by kernel_rfl)) (fun _ _ _ h => h) (Or.inl ⟨by rfl, ?_⟩) hHeld ?_ ?_
      rotate_left
      ·rintro w' ⟨s0, s1, s2, s3, s4, s5, s6, s7, s8⟩
       go_simp
       with_reducible rfl
      rotate_left
      ·simp only [Act.put, setIfInBounds_toArray,set_cons_zero,set_cons_succ, i64_w, i32_w]
       rfl
      refine pure_ (i := 7) (N := some 67) (v := ?_) (a' := ?_) #[sqT,sqT,sqT,sqT,sqT,sqT,sqT,sqT,sqF,sqF,sqF,sqF,sqF,sqF,sqF,sqF,sqF,sqF,sqF,sqF,sqF,sqF,sqF,sqF,sqF,sqF] rfl rfl (any_of HT_.out (by kernel_rfl)) (fun _ _ _ h => h) (Or.inl ⟨by rfl, ?_⟩) ?_ ?_
      rotate_left
      ·intro w'
       go_simp
       with_reducible rfl
      rotate_left
      ·simp only [Act.put, setIfInBounds_toArray,set_cons_zero,set_cons_succ, i64_w, i32_w]
       rfl
      refine pure_ (i := 8) (N := some 68) (v := ?_) (a' := ?_) #[sqT,sqT,sqT,sqT,sqT,sqT,sqT,sqT,sqT,sqF,sqF,sqF,sqF,sqF,sqF,sqF,sqF,sqF,sqF,sqF,sqF,sqF,sqF,sqF,sqF,sqF] rfl rfl (any_of HT_.out (by kernel_rfl)) (fun _ _ _ h => h) (Or.inl ⟨by rfl, ?_⟩) ?_ ?_
      rotate_left
      ·intro w'
       go_simp
       with_reducible rfl
      rotate_left
      ·simp only [Act.put, setIfInBounds_toArray,set_cons_zero,set_cons_succ, i64_w, i32_w]
       rfl
      refine pure_ (i := 9) (N := some 69) (v := ?_) (a' := ?_) #[sqT,sqT,sqT,sqT,sqT,sqT,sqT,sqT,sqT,sqT,sqF,sqF,sqF,sqF,sqF,sqF,sqF,sqF,sqF,sqF,sqF,sqF,sqF,sqF,sqF,sqF] rfl rfl (any_of HT_.out (by kernel_rfl)) (fun _ _ _ h => h) (Or.inl ⟨by rfl, ?_⟩) ?_ ?_
      rotate_left
      ·intro w'
       go_simp
       with_reducible rfl
      rotate_left
      ·simp only [Act.put, setIfInBounds_toArray,set_cons_zero,set_cons_succ, i64_w, i32_w]
       rfl
      refine pure_ (i := 10) (N := some 70) (v := ?_) (a' := ?_) #[sqT,sqT,sqT,sqT,sqT,sqT,sqT,sqT,sqT,sqT,sqT,sqF,sqF,sqF,sqF,sqF,sqF,sqF,sqF,sqF,sqF,sqF,sqF,sqF,sqF,sqF] rfl rfl (any_of HT_.out (by kernel_rfl)) (fun _ _ _ h => h) (Or.inl ⟨by rfl, ?_⟩) ?_ ?_
      rotate_left
      ·intro w'
       go_simp
       with_reducible rfl
      rotate_left
      ·simp only [Act.put, setIfInBounds_toArray,set_cons_zero,set_cons_succ, i64_w, i32_w]
       rfl
      refine pure_ (i := 11) (N := some 71) (v := ?_) (a' := ?_) #[sqT,sqT,sqT,sqT,sqT,sqT,sqT,sqT,sqT,sqT,sqT,sqT,sqF,sqF,sqF,sqF,sqF,sqF,sqF,sqF,sqF,sqF,sqF,sqF,sqF,sqF] rfl rfl (any_of HT_.out (by kernel_rfl)) (fun _ _ _ h => h) (Or.inl ⟨by rfl, ?_⟩) ?_ ?_
      rotate_left
      ·intro w'
       go_simp
       with_reducible rfl
      rotate_left
      ·simp only [Act.put, setIfInBounds_toArray,set_cons_zero,set_cons_succ, i64_w, i32_w]
       rfl
      refine pure_ (i := 12) (N := some 72) (v := ?_) (a' := ?_) #[sqT,sqT,sqT,sqT,sqT,sqT,sqT,sqT,sqT,sqT,sqT,sqT,sqT,sqF,sqF,sqF,sqF,sqF,sqF,sqF,sqF,sqF,sqF,sqF,sqF,sqF] rfl rfl (any_of HT_.out (by kernel_rfl)) (fun _ _ _ h => h) (Or.inl ⟨by rfl, ?_⟩) ?_ ?_
      rotate_left
      ·intro w'
       go_simp
       with_reducible rfl
      rotate_left
      ·simp only [Act.put, setIfInBounds_toArray,set_cons_zero,set_cons_succ, i64_w, i32_w]
       rfl
      refine pure_ (i := 14) (N := some 74) (v := ?_) (a' := ?_) #[sqT,sqT,sqT,sqT,sqT,sqT,sqT,sqT,sqT,sqT,sqT,sqT,sqT,sqF,sqT,sqF,sqF,sqF,sqF,sqF,sqF,sqF,sqF,sqF,sqF,sqF] rfl rfl (any_of HT_.out (by kernel_rfl)) (fun _ _ _ h => h) (Or.inl ⟨by rfl, ?_⟩) ?_ ?_
      rotate_left
      ·intro w'
       go_simp
       with_reducible rfl
      rotate_left
      ·simp only [Act.put, setIfInBounds_toArray,set_cons_zero,set_cons_succ, i64_w, i32_w]
       rfl
      refine take_ (i := 13) (N := some 73) (v := ?_) (a' := ?_) #[sqT,sqT,sqT,sqT,sqT,sqT,sqT,sqT,sqT,sqT,sqT,sqT,sqT,sqT,sqT,sqF,sqF,sqF,sqF,sqF,sqF,sqF,sqF,sqF,sqF,sqF] rfl rfl (take_ofW HT_.out HW_.out (by kernel_rfl)) (fun _ _ _ h => h) (Or.inl ⟨by rfl, ?_⟩) hHeld ?_ ?_
      rotate_left
      ·rintro w' ⟨s0, s1, s2, s3, s4, s5, s6, s7, s8⟩
       go_simp
       with_reducible rfl
      rotate_left
      ·simp only [Act.put, setIfInBounds_toArray,set_cons_zero,set_cons_succ, i64_w, i32_w]
       rfl
      refine take_ (i := 15) (N := some 75) (v := ?_) (a' := ?_) #[sqT,sqT,sqT,sqT,sqT,sqT,sqT,sqT,sqT,sqT,sqT,sqT,sqT,sqT,sqT,sqT,sqF,sqF,sqF,sqF,sqF,sqF,sqF,sqF,sqF,sqF] rfl rfl (take_ofW HT_.out HW_.out (by kernel_rfl)) (fun _ _ _ h => h) (Or.inl ⟨by rfl, ?_⟩) hHeld ?_ ?_
      rotate_left
      ·rintro w' ⟨s0, s1, s2, s3, s4, s5, s6, s7, s8⟩
       go_simp
       with_reducible rfl
      rotate_left
      ·simp only [Act.put, setIfInBounds_toArray,set_cons_zero,set_cons_succ, i64_w, i32_w]
       rfl
      refine pure_ (i := 16) (N := some 76) (v := ?_) (a' := ?_) #[sqT,sqT,sqT,sqT,sqT,sqT,sqT,sqT,sqT,sqT,sqT,sqT,sqT,sqT,sqT,sqT,sqT,sqF,sqF,sqF,sqF,sqF,sqF,sqF,sqF,sqF] rfl rfl (any_of HT_.out (by kernel_rfl)) (fun _ _ _ h => h) (Or.inl ⟨by rfl, ?_⟩) ?_ ?_
      rotate_left
      ·intro w'
       go_simp
       with_reducible rfl
      rotate_left
      ·simp only [Act.put, setIfInBounds_toArray,set_cons_zero,set_cons_succ, i64_w, i32_w]
       rfl
      refine pure_ (i := 17) (N := some 77) (v := ?_) (a' := ?_) #[sqT,sqT,sqT,sqT,sqT,sqT,sqT,sqT,sqT,sqT,sqT,sqT,sqT,sqT,sqT,sqT,sqT,sqT,sqF,sqF,sqF,sqF,sqF,sqF,sqF,sqF] rfl rfl (any_of HT_.out (by kernel_rfl)) (fun _ _ _ h => h) (Or.inl ⟨by rfl, ?_⟩) ?_ ?_
      rotate_left
      ·intro w'
       go_simp
       with_reducible rfl
      rotate_left
      ·simp only [Act.put, setIfInBounds_toArray,set_cons_zero,set_cons_succ, i64_w, i32_w]
       rfl
      refine pure_ (i := 18) (N := some 78) (v := ?_) (a' := ?_) #[sqT,sqT,sqT,sqT,sqT,sqT,sqT,sqT,sqT,sqT,sqT,sqT,sqT,sqT,sqT,sqT,sqT,sqT,sqT,sqF,sqF,sqF,sqF,sqF,sqF,sqF] rfl rfl (any_of HT_.out (by kernel_rfl)) (fun _ _ _ h => h) (Or.inl ⟨by rfl, ?_⟩) ?_ ?_
      rotate_left
      ·intro w'
       go_simp
       with_reducible rfl
      rotate_left
      ·simp only [Act.put, setIfInBounds_toArray,set_cons_zero,set_cons_succ, i64_w, i32_w]
       rfl
      refine pure_ (i := 19) (N := some 79) (v := undef) (a' := ?_) #[sqT,sqT,sqT,sqT,sqT,sqT,sqT,sqT,sqT,sqT,sqT,sqT,sqT,sqT,sqT,sqT,sqT,sqT,sqT,sqT,sqF,sqF,sqF,sqF,sqF,sqF] rfl rfl (any_of HT_.out (by kernel_rfl)) (fun _ _ _ h => h) (Or.inr ⟨by rfl, rfl⟩) ?_ ?_
      rotate_left
      ·simp only [Act.put, setIfInBounds_toArray,set_cons_zero,set_cons_succ, i64_w, i32_w]
       rfl
      refine pure_ (i := 20) (N := some 80) (v := undef) (a' := ?_) #[sqT,sqT,sqT,sqT,sqT,sqT,sqT,sqT,sqT,sqT,sqT,sqT,sqT,sqT,sqT,sqT,sqT,sqT,sqT,sqT,sqT,sqF,sqF,sqF,sqF,sqF] rfl rfl (any_of HT_.out (by kernel_rfl)) (fun _ _ _ h => h) (Or.inr ⟨by rfl, rfl⟩) ?_ ?_
      rotate_left
      ·simp only [Act.put, setIfInBounds_toArray,set_cons_zero,set_cons_succ, i64_w, i32_w]
       rfl
      refine pure_ (i := 21) (N := some 81) (v := undef) (a' := ?_) #[sqT,sqT,sqT,sqT,sqT,sqT,sqT,sqT,sqT,sqT,sqT,sqT,sqT,sqT,sqT,sqT,sqT,sqT,sqT,sqT,sqT,sqT,sqF,sqF,sqF,sqF] rfl rfl (any_of HT_.out (by kernel_rfl)) (fun _ _ _ h => h) (Or.inr ⟨by rfl, rfl⟩) ?_ ?_
      rotate_left
      ·simp only [Act.put, setIfInBounds_toArray,set_cons_zero,set_cons_succ, i64_w, i32_w]
       rfl
      refine pure_ (i := 22) (N := some 82) (v := undef) (a' := ?_) #[sqT,sqT,sqT,sqT,sqT,sqT,sqT,sqT,sqT,sqT,sqT,sqT,sqT,sqT,sqT,sqT,sqT,sqT,sqT,sqT,sqT,sqT,sqT,sqF,sqF,sqF] rfl rfl (any_of HT_.out (by kernel_rfl)) (fun _ _ _ h => h) (Or.inr ⟨by rfl, rfl⟩) ?_ ?_
      rotate_left
      ·simp only [Act.put, setIfInBounds_toArray,set_cons_zero,set_cons_succ, i64_w, i32_w]
       rfl
      refine pure_ (i := 23) (N := some 83) (v := ?_) (a' := ?_) #[sqT,sqT,sqT,sqT,sqT,sqT,sqT,sqT,sqT,sqT,sqT,sqT,sqT,sqT,sqT,sqT,sqT,sqT,sqT,sqT,sqT,sqT,sqT,sqT,sqF,sqF] rfl rfl (any_of HT_.out (by kernel_rfl)) (fun _ _ _ h => h) (Or.inl ⟨by rfl, ?_⟩) ?_ ?_
      rotate_left
      ·intro w'
       go_simp
       with_reducible rfl
      rotate_left
      ·simp only [Act.put, setIfInBounds_toArray,set_cons_zero,set_cons_succ, i64_w, i32_w]
       rfl
      refine pure_ (i := 24) (N := some 84) (v := ?_) (a' := ?_) #[sqT,sqT,sqT,sqT,sqT,sqT,sqT,sqT,sqT,sqT,sqT,sqT,sqT,sqT,sqT,sqT,sqT,sqT,sqT,sqT,sqT,sqT,sqT,sqT,sqT,sqF] rfl rfl (any_of HT_.out (by kernel_rfl)) (fun _ _ _ h => h) (Or.inl ⟨by rfl, ?_⟩) ?_ ?_
      rotate_left
      ·intro w'
       go_simp
       with_reducible rfl
      rotate_left
      ·simp only [Act.put, setIfInBounds_toArray,set_cons_zero,set_cons_succ, i64_w, i32_w]
       rfl
      refine pure_ (i := 25) (N := some 8) (v := ?_) (a' := ?_) #[sqT,sqT,sqT,sqT,sqT,sqT,sqT,sqT,sqT,sqT,sqT,sqT,sqT,sqT,sqT,sqT,sqT,sqT,sqT,sqT,sqT,sqT,sqT,sqT,sqT,sqT] rfl rfl (any_of HT_.out (by kernel_rfl)) (fun _ _ _ h => h) (Or.inl ⟨by rfl, ?_⟩) ?_ ?_
      rotate_left
      ·intro w'
       go_simp
       with_reducible rfl
      rotate_left
      ·simp only [Act.put, setIfInBounds_toArray,set_cons_zero,set_cons_succ, i64_w, i32_w]
       rfl
      refine done_ (done_of HT_.out (by kernel_rfl)) ?_
      try go_wp2
      go_roundg kj8
      case measure => have := HK1.out; have := HJ8.out; omega
      case rel => exact ⟨(false), (wrap64 (x9_1 + 1)), (by first | rfl | (simp; done) | (simp [*]; done)), (by first | rfl | (simp; done) | (simp [*]; done)), H', ⟨by have := HK1.out; have := HJ8.out; omega⟩, ⟨by (with_reducible repeat (first | refine blk_drewN ?_ _ | refine blk_drew ?_ | refine blk_alloc ?_ _)); exact BK341.out⟩, ⟨by repeat (first | (with_reducible first | exact HB.out | apply below_alloc | apply pw_below_drewN | apply below_drew1 | refine below_set ?_ GE341.out) | exact HB.out | exact Below.refl _ _)⟩⟩
     rw [if_pos c31] at H
     have c31b0 : (((rd_T32 l0 x9_1).f1) == ((rd_T32 l0 a2).f1)) = true := beq_iff_eq.mpr c31
     have c31b1 : (((rd_T32 l0 x9_1).f1) != ((rd_T32 l0 a2).f1)) = false := bne_eq_false_iff_eq.mpr c31
     clear c31
     replace H := Option.bind_eq_some_iff.mp H
     obtain ⟨t349, A320, H⟩ := H
     replace H : (camshaftref06_bad.l0 kj8 l0 l1 a2 t349 (wrap64 (x9_1 + 1)) ((rd_T32 l0 a2).f0) ((rd_T32 l0 a2).f1) ((rd_T32 l0 a2).f2)) = some r := H
     have A32 := Aside0.mk A320
     clear A320
     have H' := Aside0.mk H
     clear H
     try go_wp2
     have n0_ := Aside0.mk (blk_drew BK341.out)
     have n1_ := Aside0.mk (below_drew1 HB.out)
     clear BK341
     clear HB
     have BK341 := n0_
     have HB := n1_
     clear n0_ n1_
     have p347 : 0 ≤ (x9_1 : Int) := of_decide_eq_true (by first | (with_reducible assumption) | assumption)
     have q347 : x9_1 < (l0.length : Int) := of_decide_eq_true (by first | (with_reducible assumption) | assumption)
     obtain ⟨ad347, e347, hx347_0, hx347_1, hx347_2⟩ := at_T32 HR0.out x9_1 p347 q347
     have hw347_2 := hx347_2
     have hw347_1 := hx347_1
     have hw347_0 := hx347_0
     obtain rfl : ad340 = ad347 := (by injection e347)
     replace hx347_0 := (HB.out.cell (World.block_lt_of_cell? w _ hx347_0)).trans hx347_0
     replace hx347_1 := (HB.out.cell (World.block_lt_of_cell? w _ hx347_1)).trans hx347_1
     replace hx347_2 := (HB.out.cell (World.block_lt_of_cell? w _ hx347_2)).trans hx347_2
     replace p347 := eq_true p347
     replace q347 := eq_true q347
     have p348 : 0 ≤ (x9_1 : Int) := of_decide_eq_true (by first | (with_reducible assumption) | assumption)
     have q348 : x9_1 < (l0.length : Int) := of_decide_eq_true (by first | (with_reducible assumption) | assumption)
     obtain ⟨ad348, e348, hx348_0, hx348_1, hx348_2⟩ := at_T32 HR0.out x9_1 p348 q348
     have hw348_2 := hx348_2
     have hw348_1 := hx348_1
     have hw348_0 := hx348_0
     obtain rfl : ad340 = ad348 := (by injection e348)
     replace hx348_0 := (HB.out.cell (World.block_lt_of_cell? w _ hx348_0)).trans hx348_0
     replace hx348_1 := (HB.out.cell (World.block_lt_of_cell? w _ hx348_1)).trans hx348_1
     replace hx348_2 := (HB.out.cell (World.block_lt_of_cell? w _ hx348_2)).trans hx348_2
     replace p348 := eq_true p348
     replace q348 := eq_true q348
     refine start_ (n := 26) (S := fun w' => w'.cell? ⟨gb341, 0, none⟩ = some (.int .i64 ((rd_T32 l0 a2).f0)) ∧ w'.cell? ⟨gb341, 1, none⟩ = some (.int .i64 ((rd_T32 l0 a2).f1)) ∧ w'.cell? ⟨gb341, 2, none⟩ = some (.int .i64 ((rd_T32 l0 a2).f2)) ∧ w'.cell? (ad340.add ((x9_1).toNat * 3)) = some (.int .i64 ((rd_T32 l0 x9_1).f0)) ∧ w'.cell? ⟨(ad340.add ((x9_1).toNat * 3)).block, (ad340.add ((x9_1).toNat * 3)).off + 1, none⟩ = some (.int .i64 ((rd_T32 l0 x9_1).f1)) ∧ w'.cell? ⟨(ad340.add ((x9_1).toNat * 3)).block, (ad340.add ((x9_1).toNat * 3)).off + 2, none⟩ = some (.int .i64 ((rd_T32 l0 x9_1).f2)) ∧ w'.cell? (ad340.add ((x9_1).toNat * 3)) = some (.int .i64 ((rd_T32 l0 x9_1).f0)) ∧ w'.cell? ⟨(ad340.add ((x9_1).toNat * 3)).block, (ad340.add ((x9_1).toNat * 3)).off + 1, none⟩ = some (.int .i64 ((rd_T32 l0 x9_1).f1)) ∧ w'.cell? ⟨(ad340.add ((x9_1).toNat * 3)).block, (ad340.add ((x9_1).toNat * 3)).off + 2, none⟩ = some (.int .i64 ((rd_T32 l0 x9_1).f2))) (ds := []) #[sqF,sqF,sqF,sqF,sqF,sqF,sqF,sqF,sqF,sqF,sqF,sqF,sqF,sqF,sqF,sqF,sqF,sqF,sqF,sqF,sqF,sqF,sqF,sqF,sqF,sqF] (by kernel_rfl) rfl rfl ⟨(blk_cell BK341.out 0).trans rfl, (blk_cell BK341.out 1).trans rfl, (blk_cell BK341.out 2).trans rfl, ((HB.out.cell (World.block_lt_of_cell? w _ hw347_0)).trans hw347_0), ((HB.out.cell (World.block_lt_of_cell? w _ hw347_1)).trans hw347_1), ((HB.out.cell (World.block_lt_of_cell? w _ hw347_2)).trans hw347_2), ((HB.out.cell (World.block_lt_of_cell? w _ hw348_0)).trans hw348_0), ((HB.out.cell (World.block_lt_of_cell? w _ hw348_1)).trans hw348_1), ((HB.out.cell (World.block_lt_of_cell? w _ hw348_2)).trans hw348_2)⟩ (fun hHeld => ?_); refine with_tabW camshaftref06_bad.tab9 camshaftref06_bad.bits9 (fun HT_ HW_ => ?_)
     generalize wc.drew = w33 at BK341 HB hx347_0 hx347_1 hx347_2 hx348_0 hx348_1 hx348_2 hHeld ⊢
     refine pure_ (i := 0) (N := some 60) (v := ?_) (a' := ?_) #[sqT,sqF,sqF,sqF,sqF,sqF,sqF,sqF,sqF,sqF,sqF,sqF,sqF,sqF,sqF,sqF,sqF,sqF,sqF,sqF,sqF,sqF,sqF,sqF,sqF,sqF] rfl rfl (any_of HT_.out (by kernel_rfl)) (fun _ _ _ h => h) (Or.inl ⟨by rfl, ?_⟩) ?_ ?_
     rotate_left
     ·intro w'
      go_simp
      with_reducible rfl
     rotate_left
     ·simp only [Act.put, setIfInBounds_toArray,set_cons_zero,set_cons_succ, i64_w, i32_w]
      rfl
     refine pure_ (i := 1) (N := some 61) (v := ?_) (a' := ?_) #[sqT,sqT,sqF,sqF,sqF,sqF,sqF,sqF,sqF,sqF,sqF,sqF,sqF,sqF,sqF,sqF,sqF,sqF,sqF,sqF,sqF,sqF,sqF,sqF,sqF,sqF] rfl rfl (any_of HT_.out (by kernel_rfl)) (fun _ _ _ h => h) (Or.inl ⟨by rfl, ?_⟩) ?_ ?_
     rotate_left
     ·intro w'
      go_simp
      with_reducible rfl
     rotate_left
     ·simp only [Act.put, setIfInBounds_toArray,set_cons_zero,set_cons_succ, i64_w, i32_w]
      rfl
     refine pure_ (i := 2) (N := some 62) (v := ?_) (a' := ?_) #[sqT,sqT,sqT,sqF,sqF,sqF,sqF,sqF,sqF,sqF,sqF,sqF,sqF,sqF,sqF,sqF,sqF,sqF,sqF,sqF,sqF,sqF,sqF,sqF,sqF,sqF] rfl rfl (any_of HT_.out (by kernel_rfl)) (fun _ _ _ h => h) (Or.inl ⟨by rfl, ?_⟩) ?_ ?_
     rotate_left
     ·intro w'
      go_simp
      with_reducible rfl
     rotate_left
     ·simp only [Act.put, setIfInBounds_toArray,set_cons_zero,set_cons_succ, i64_w, i32_w]
      rfl
     refine pure_ (i := 3) (N := some 63) (v := ?_) (a' := ?_) #[sqT,sqT,sqT,sqT,sqF,sqF,sqF,sqF,sqF,sqF,sqF,sqF,sqF,sqF,sqF,sqF,sqF,sqF,sqF,sqF,sqF,sqF,sqF,sqF,sqF,sqF] rfl rfl (any_of HT_.out (by kernel_rfl)) (fun _ _ _ h => h) (Or.inl ⟨by rfl, ?_⟩) ?_ ?_
     rotate_left
     ·intro w'
      go_simp
      with_reducible rfl
     rotate_left
     ·simp only [Act.put, setIfInBounds_toArray,set_cons_zero,set_cons_succ, i64_w, i32_w]
      rfl
     refine pure_ (i := 4) (N := some 64) (v := ?_) (a' := ?_) #[sqT,sqT,sqT,sqT,sqT,sqF,sqF,sqF,sqF,sqF,sqF,sqF,sqF,sqF,sqF,sqF,sqF,sqF,sqF,sqF,sqF,sqF,sqF,sqF,sqF,sqF] rfl rfl (any_of HT_.out (by kernel_rfl)) (fun _ _ _ h => h) (Or.inl ⟨by rfl, ?_⟩) ?_ ?_
     rotate_left
     ·intro w'
      go_simp
      with_reducible rfl
     rotate_left
     ·simp only [Act.put, setIfInBounds_toArray,set_cons_zero,set_cons_succ, i64_w, i32_w]
      rfl
     refine pure_ (i := 5) (N := some 65) (v := ?_) (a' := ?_) #[sqT,sqT,sqT,sqT,sqT,sqT,sqF,sqF,sqF,sqF,sqF,sqF,sqF,sqF,sqF,sqF,sqF,sqF,sqF,sqF,sqF,sqF,sqF,sqF,sqF,sqF] rfl rfl (any_of HT_.out (by kernel_rfl)) (fun _ _ _ h => h) (Or.inl ⟨by rfl, ?_⟩) ?_ ?_
     rotate_left
     ·intro w'
      go_simp
      with_reducible rfl
     rotate_left
     ·simp only [Act.put, setIfInBounds_toArray,set_cons_zero,set_cons_succ, i64_w, i32_w]
      rfl
     refine take_ (i := 6) (N := some 66) (v := ?_) (a' := ?_) #[sqT,sqT,sqT,sqT,sqT,sqT,sqT,sqF,sqF,sqF,sqF,sqF,sqF,sqF,sqF,sqF,sqF,sqF,sqF,sqF,sqF,sqF,sqF,sqF,sqF,sqF] rfl rfl (take_ofW HT_.out HW_.out (by kernel_rfl)) (fun _ _ _ h => h) (Or.inl ⟨by rfl, ?_⟩) hHeld ?_ ?_
     rotate_left
     ·rintro w' ⟨s0, s1, s2, s3, s4, s5, s6, s7, s8⟩
      go_simp
      with_reducible rfl
     rotate_left
     ·simp only [Act.put, setIfInBounds_toArray,set_cons_zero,set_cons_succ, i64_w, i32_w]
      rfl
     refine pure_ (i := 7) (N := some 67) (v := ?_) (a' := ?_) #[sqT,sqT,sqT,sqT,sqT,sqT,sqT,sqT,sqF,sqF,sqF,sqF,sqF,sqF,sqF,sqF,sqF,sqF,sqF,sqF,sqF,sqF,sqF,sqF,sqF,sqF] rfl rfl (any_of HT_.out (by kernel_rfl)) (fun _ _ _ h => h) (Or.inl ⟨by rfl, ?_⟩) ?_ ?_
     rotate_left
     ·intro w'
      go_simp
      with_reducible rfl
     rotate_left
     ·simp only [Act.put, setIfInBounds_toArray,set_cons_zero,set_cons_succ, i64_w, i32_w]
      rfl
     refine pure_ (i := 8) (N := some 68) (v := ?_) (a' := ?_) #[sqT,sqT,sqT,sqT,sqT,sqT,sqT,sqT,sqT,sqF,sqF,sqF,sqF,sqF,sqF,sqF,sqF,sqF,sqF,sqF,sqF,sqF,sqF,sqF,sqF,sqF] rfl rfl (any_of HT_.out (by kernel_rfl)) (fun _ _ _ h => h) (Or.inl ⟨by rfl, ?_⟩) ?_ ?_
     rotate_left
     ·intro w'
      go_simp
      with_reducible rfl
     rotate_left
     ·simp only [Act.put, setIfInBounds_toArray,set_cons_zero,set_cons_succ, i64_w, i32_w]
      rfl
     refine pure_ (i := 9) (N := some 69) (v := ?_) (a' := ?_) #[sqT,sqT,sqT,sqT,sqT,sqT,sqT,sqT,sqT,sqT,sqF,sqF,sqF,sqF,sqF,sqF,sqF,sqF,sqF,sqF,sqF,sqF,sqF,sqF,sqF,sqF] rfl rfl (any_of HT_.out (by kernel_rfl)) (fun _ _ _ h => h) (Or.inl ⟨by rfl, ?_⟩) ?_ ?_
     rotate_left
     ·intro w'
      go_simp
      with_reducible rfl
     rotate_left
     ·simp only [Act.put, setIfInBounds_toArray,set_cons_zero,set_cons_succ, i64_w, i32_w]
      rfl
     refine pure_ (i := 10) (N := some 70) (v := ?_) (a' := ?_) #[sqT,sqT,sqT,sqT,sqT,sqT,sqT,sqT,sqT,sqT,sqT,sqF,sqF,sqF,sqF,sqF,sqF,sqF,sqF,sqF,sqF,sqF,sqF,sqF,sqF,sqF] rfl rfl (any_of HT_.out (by kernel_rfl)) (fun _ _ _ h => h) (Or.inl ⟨by rfl, ?_⟩) ?_ ?_
     rotate_left
     ·intro w'
      go_simp
      with_reducible rfl
     rotate_left
     ·simp only [Act.put, setIfInBounds_toArray,set_cons_zero,set_cons_succ, i64_w, i32_w]
      rfl
     refine pure_ (i := 11) (N := some 71) (v := ?_) (a' := ?_) #[sqT,sqT,sqT,sqT,sqT,sqT,sqT,sqT,sqT,sqT,sqT,sqT,sqF,sqF,sqF,sqF,sqF,sqF,sqF,sqF,sqF,sqF,sqF,sqF,sqF,sqF] rfl rfl (any_of HT_.out (by kernel_rfl)) (fun _ _ _ h => h) (Or.inl ⟨by rfl, ?_⟩) ?_ ?_
     rotate_left
     ·intro w'
      go_simp
      with_reducible rfl
     rotate_left
     ·simp only [Act.put, setIfInBounds_toArray,set_cons_zero,set_cons_succ, i64_w, i32_w]
      rfl
     refine pure_ (i := 12) (N := some 72) (v := ?_) (a' := ?_) #[sqT,sqT,sqT,sqT,sqT,sqT,sqT,sqT,sqT,sqT,sqT,sqT,sqT,sqF,sqF,sqF,sqF,sqF,sqF,sqF,sqF,sqF,sqF,sqF,sqF,sqF] rfl rfl (any_of HT_.out (by kernel_rfl)) (fun _ _ _ h => h) (Or.inl ⟨by rfl, ?_⟩) ?_ ?_
     rotate_left
     ·intro w'
      go_simp
      with_reducible rfl
     rotate_left
     ·simp only [Act.put, setIfInBounds_toArray,set_cons_zero,set_cons_succ, i64_w, i32_w]
      rfl
     refine pure_ (i := 14) (N := some 74) (v := ?_) (a' := ?_) #[sqT,sqT,sqT,sqT,sqT,sqT,sqT,sqT,sqT,sqT,sqT,sqT,sqT,sqF,sqT,sqF,sqF,sqF,sqF,sqF,sqF,sqF,sqF,sqF,sqF,sqF] rfl rfl (any_of HT_.out (by kernel_rfl)) (fun _ _ _ h => h) (Or.inl ⟨by rfl, ?_⟩) ?_ ?_
     rotate_left
     ·intro w'
      go_simp
      with_reducible rfl
     rotate_left
     ·simp only [Act.put, setIfInBounds_toArray,set_cons_zero,set_cons_succ, i64_w, i32_w]
      rfl
     refine take_ (i := 13) (N := some 73) (v := ?_) (a' := ?_) #[sqT,sqT,sqT,sqT,sqT,sqT,sqT,sqT,sqT,sqT,sqT,sqT,sqT,sqT,sqT,sqF,sqF,sqF,sqF,sqF,sqF,sqF,sqF,sqF,sqF,sqF] rfl rfl (take_ofW HT_.out HW_.out (by kernel_rfl)) (fun _ _ _ h => h) (Or.inl ⟨by rfl, ?_⟩) hHeld ?_ ?_
     rotate_left
     ·rintro w' ⟨s0, s1, s2, s3, s4, s5, s6, s7, s8⟩
      go_simp
      with_reducible rfl
     rotate_left
     ·simp only [Act.put, setIfInBounds_toArray,set_cons_zero,set_cons_succ, i64_w, i32_w]
      rfl
     refine take_ (i := 15) (N := some 75) (v := ?_) (a' := ?_) #[sqT,sqT,sqT,sqT,sqT,sqT,sqT,sqT,sqT,sqT,sqT,sqT,sqT,sqT,sqT,sqT,sqF,sqF,sqF,sqF,sqF,sqF,sqF,sqF,sqF,sqF] rfl rfl (take_ofW HT_.out HW_.out (by kernel_rfl)) (fun _ _ _ h => h) (Or.inl ⟨by rfl, ?_⟩) hHeld ?_ ?_
     rotate_left
     ·rintro w' ⟨s0, s1, s2, s3, s4, s5, s6, s7, s8⟩
      go_simp
      with_reducible rfl
     rotate_left
     ·simp only [Act.put, setIfInBounds_toArray,set_cons_zero,set_cons_succ, i64_w, i32_w]
      rfl
     refine pure_ (i := 16) (N := some 76) (v := ?_) (a' := ?_) #[sqT,sqT,sqT,sqT,sqT,sqT,sqT,sqT,sqT,sqT,sqT,sqT,sqT,sqT,sqT,sqT,sqT,sqF,sqF,sqF,sqF,sqF,sqF,sqF,sqF,sqF] rfl rfl (any_of HT_.out (by kernel_rfl)) (fun _ _ _ h => h) (Or.inl ⟨by rfl, ?_⟩) ?_ ?_
     rotate_left
     ·intro w'
      go_simp
      with_reducible rfl
     rotate_left
     ·simp only [Act.put, setIfInBounds_toArray,set_cons_zero,set_cons_succ, i64_w, i32_w]
      rfl
     refine pure_ (i := 17) (N := some 77) (v := ?_) (a' := ?_) #[sqT,sqT,sqT,sqT,sqT,sqT,sqT,sqT,sqT,sqT,sqT,sqT,sqT,sqT,sqT,sqT,sqT,sqT,sqF,sqF,sqF,sqF,sqF,sqF,sqF,sqF] rfl rfl (any_of HT_.out (by kernel_rfl)) (fun _ _ _ h => h) (Or.inl ⟨by rfl, ?_⟩) ?_ ?_
     rotate_left
     ·intro w'
      go_simp
      with_reducible rfl
     rotate_left
     ·simp only [Act.put, setIfInBounds_toArray,set_cons_zero,set_cons_succ, i64_w, i32_w]
      rfl
     refine pure_ (i := 18) (N := some 78) (v := ?_) (a' := ?_) #[sqT,sqT,sqT,sqT,sqT,sqT,sqT,sqT,sqT,sqT,sqT,sqT,sqT,sqT,sqT,sqT,sqT,sqT,sqT,sqF,sqF,sqF,sqF,sqF,sqF,sqF] rfl rfl (any_of HT_.out (by kernel_rfl)) (fun _ _ _ h => h) (Or.inl ⟨by rfl, ?_⟩) ?_ ?_
     rotate_left
     ·intro w'
      go_simp
      with_reducible rfl
     rotate_left
     ·simp only [Act.put, setIfInBounds_toArray,set_cons_zero,set_cons_succ, i64_w, i32_w]
      rfl
     refine pure_ (i := 19) (N := some 79) (v := ?_) (a' := ?_) #[sqT,sqT,sqT,sqT,sqT,sqT,sqT,sqT,sqT,sqT,sqT,sqT,sqT,sqT,sqT,sqT,sqT,sqT,sqT,sqT,sqF,sqF,sqF,sqF,sqF,sqF] rfl rfl (any_of HT_.out (by kernel_rfl)) (fun _ _ _ h => h) (Or.inl ⟨by rfl, ?_⟩) ?_ ?_
     rotate_left
     ·intro w'
      go_simp
      with_reducible rfl
     rotate_left
     ·simp only [Act.put, setIfInBounds_toArray,set_cons_zero,set_cons_succ, i64_w, i32_w]
      rfl
     refine pure_ (i := 20) (N := some 80) (v := ?_) (a' := ?_) #[sqT,sqT,sqT,sqT,sqT,sqT,sqT,sqT,sqT,sqT,sqT,sqT,sqT,sqT,sqT,sqT,sqT,sqT,sqT,sqT,sqT,sqF,sqF,sqF,sqF,sqF] rfl rfl (any_of HT_.out (by kernel_rfl)) (fun _ _ _ h => h) (Or.inl ⟨by rfl, ?_⟩) ?_ ?_
     rotate_left
     ·intro w'
      go_simp
      with_reducible rfl
     rotate_left
     ·simp only [Act.put, setIfInBounds_toArray,set_cons_zero,set_cons_succ, i64_w, i32_w]
      rfl
     refine pure_ (i := 21) (N := some 81) (v := ?_) (a' := ?_) #[sqT,sqT,sqT,sqT,sqT,sqT,sqT,sqT,sqT,sqT,sqT,sqT,sqT,sqT,sqT,sqT,sqT,sqT,sqT,sqT,sqT,sqT,sqF,sqF,sqF,sqF] rfl rfl (any_of HT_.out (by kernel_rfl)) (fun _ _ _ h => h) (Or.inl ⟨by rfl, ?_⟩) ?_ ?_
     rotate_left
     ·intro w'
      go_simp
      with_reducible rfl
     rotate_left
     ·simp only [Act.put, setIfInBounds_toArray,set_cons_zero,set_cons_succ, i64_w, i32_w]
      rfl
     refine one_ (i := 22) (N := some 82) #[sqT,sqT,sqT,sqT,sqT,sqT,sqT,sqT,sqT,sqT,sqT,sqT,sqT,sqT,sqT,sqT,sqT,sqT,sqT,sqT,sqT,sqT,sqT,sqF,sqF,sqF] rfl rfl (one_of HT_.out (by kernel_rfl)) (by decide) (fun K hK => ?_)
     refine goes_ Try.func30 (by kernel_rfl) rfl #[.slice A1 l1.length c1, .int .i64 x9_1, .int .i64 a2] (by rfl) rfl rfl (by (try simp only [List.map_toArray, List.map_cons, List.map_nil]); first | done | rfl | (simp only [List.length_drop, List.length_take]; rfl)) ?_
     with_reducible refine (camshaftref06_within.calls _ _ l1 x9_1 a2 t349 _ ?side1 ?side2 A32.out).mono ?_
     (case side1 => repeat (first | exact (Kd.C_below HR1.out HB.out) | (with_reducible refine Kd.C_alloc ?_ _) | (with_reducible refine Kd.C_drewN ?_ _) | (with_reducible refine Kd.C_drew ?_)))
     (case side2 => exact HC1.out)
     rintro e w' ⟨rfl, ⟨nd, rfl⟩⟩
     refine ⟨_, rfl, ?_⟩
     refine hK.out _ _ ⟨(blk_cell BK341.out 0).trans rfl, (blk_cell BK341.out 1).trans rfl, (blk_cell BK341.out 2).trans rfl, ((HB.out.cell (World.block_lt_of_cell? w _ hw347_0)).trans hw347_0), ((HB.out.cell (World.block_lt_of_cell? w _ hw347_1)).trans hw347_1), ((HB.out.cell (World.block_lt_of_cell? w _ hw347_2)).trans hw347_2), ((HB.out.cell (World.block_lt_of_cell? w _ hw348_0)).trans hw348_0), ((HB.out.cell (World.block_lt_of_cell? w _ hw348_1)).trans hw348_1), ((HB.out.cell (World.block_lt_of_cell? w _ hw348_2)).trans hw348_2)⟩ (fun hHeld => ?_)
     clear hK K
     refine norm_ (a' := ?_) ?_ ?_
     rotate_left
     ·show Act.put _ (some 82) _ = _
      simp only [Act.put, setIfInBounds_toArray,set_cons_zero,set_cons_succ, i64_w, i32_w]
      rfl
     refine pure_ (i := 23) (N := some 83) (v := ?_) (a' := ?_) #[sqT,sqT,sqT,sqT,sqT,sqT,sqT,sqT,sqT,sqT,sqT,sqT,sqT,sqT,sqT,sqT,sqT,sqT,sqT,sqT,sqT,sqT,sqT,sqT,sqF,sqF] rfl rfl (any_of HT_.out (by kernel_rfl)) (fun _ _ _ h => h) (Or.inl ⟨by rfl, ?_⟩) ?_ ?_
     rotate_left
     ·intro w'
      go_simp
      with_reducible rfl
     rotate_left
     ·simp only [Act.put, setIfInBounds_toArray,set_cons_zero,set_cons_succ, i64_w, i32_w]
      rfl
     refine pure_ (i := 24) (N := some 84) (v := ?_) (a' := ?_) #[sqT,sqT,sqT,sqT,sqT,sqT,sqT,sqT,sqT,sqT,sqT,sqT,sqT,sqT,sqT,sqT,sqT,sqT,sqT,sqT,sqT,sqT,sqT,sqT,sqT,sqF] rfl rfl (any_of HT_.out (by kernel_rfl)) (fun _ _ _ h => h) (Or.inl ⟨by rfl, ?_⟩) ?_ ?_
     rotate_left
     ·intro w'
      go_simp
      with_reducible rfl
     rotate_left
     ·simp only [Act.put, setIfInBounds_toArray,set_cons_zero,set_cons_succ, i64_w, i32_w]
      rfl
     refine pure_ (i := 25) (N := some 8) (v := ?_) (a' := ?_) #[sqT,sqT,sqT,sqT,sqT,sqT,sqT,sqT,sqT,sqT,sqT,sqT,sqT,sqT,sqT,sqT,sqT,sqT,sqT,sqT,sqT,sqT,sqT,sqT,sqT,sqT] rfl rfl (any_of HT_.out (by kernel_rfl)) (fun _ _ _ h => h) (Or.inl ⟨by rfl, ?_⟩) ?_ ?_
     rotate_left
     ·intro w'
      go_simp
      with_reducible rfl
     rotate_left
     ·simp only [Act.put, setIfInBounds_toArray,set_cons_zero,set_cons_succ, i64_w, i32_w]
      rfl
     refine done_ (done_of HT_.out (by kernel_rfl)) ?_
     try go_wp2
     go_roundg kj8
     case measure => have := HK1.out; have := HJ8.out; omega
     case rel => exact ⟨(t349), (wrap64 (x9_1 + 1)), (by first | rfl | (simp; done) | (simp [*]; done)), (by first | rfl | (simp; done) | (simp [*]; done)), H', ⟨by have := HK1.out; have := HJ8.out; omega⟩, ⟨by (with_reducible repeat (first | refine blk_drewN ?_ _ | refine blk_drew ?_ | refine blk_alloc ?_ _)); exact BK341.out⟩, ⟨by repeat (first | (with_reducible first | exact HB.out | apply below_alloc | apply pw_below_drewN | apply below_drew1 | refine below_set ?_ GE341.out) | exact HB.out | exact Below.refl _ _)⟩⟩

end Go.Proofs.Ytljgllcllddcdaa.P
