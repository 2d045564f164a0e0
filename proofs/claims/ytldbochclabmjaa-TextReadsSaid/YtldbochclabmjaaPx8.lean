-- Written by a program of this session (wip/tools: patched print) for this claim. Not trusted: Lean checks it.
import Derived.Test.YtldbochclabmjaaPx0
import Derived.Test.YtldbochclabmjaaPx3
import Derived.Test.YtldbochclabmjaaPx4
import Derived.Test.YtldbochclabmjaaPx7
namespace Go.Proofs.Ytldbochclabmjaa.P
open Go.RowKit Go.Proofs.Ytldbochclabmjaa.C Go.Proofs.YtldbochclabmjaaW.PrintWords Go.Proofs.YtldbochclabmjaaW.PrintLast Go.Proofs.YtldbochclabmjaaW.PrintMore
attribute [local go_sem] max2_int min2_int max_two min_two max_three min_three max_four min_four   -- for this text's walks alone
set_option linter.unusedVariables false
set_option linter.unusedSimpArgs false

/-! ### camshaftref05_one: function 32 -/
mutual
def camshaftref05_one.l0 : Nat → List ByteArray → Int → Int → Int → Int → Option (Int × Int × Int × Int)
  | 0, _, _, _, _, _ => none
  | k + 1, x0, x5, x182000, x182001, x182002 => if x5 ≤ 25 then ((camshaftref04_Name.f x5).bind fun t182 => (if 0 < (x0.length : Int) then (if t182.toList = (rdOf ByteArray.empty x0 0).toList then (camshaftref05_one.l0 k x0 (wrap64 (x5 + 1)) x5 x182001 x182002) else (camshaftref05_one.l0 k x0 (wrap64 (x5 + 1)) x182000 x182001 x182002)) else (none))) else (if x182000 = 0 then (camshaftref05_one.j1 k x0 true x182000 x182001 x182002) else ((camshaftref04_Args.f x182000).bind fun t184 => (camshaftref05_one.j1 k x0 ((x0.length : Int) != (wrap64 (t184 + 1))) x182000 x182001 x182002)))
def camshaftref05_one.j1 : Nat → List ByteArray → Bool → Int → Int → Int → Option (Int × Int × Int × Int)
  | 0, _, _, _, _, _ => none
  | k + 1, x0, x33, x182000, x182001, x182002 => if x33 = true then (some (0, 0, 0, 3)) else (camshaftref05_one.l1 k x0 1 x182000 x182001 x182002)
def camshaftref05_one.l1 : Nat → List ByteArray → Int → Int → Int → Int → Option (Int × Int × Int × Int)
  | 0, _, _, _, _, _ => none
  | k + 1, x0, x6, x182000, x182001, x182002 => if x6 < (x0.length : Int) then (if 0 ≤ x6 then ((camshaftref05_Number.f k (rdOf ByteArray.empty x0 x6)).bind fun bt187 => (if bt187.2 = 0 then (if x6 = 1 then (camshaftref05_one.l1 k x0 (wrap64 (x6 + 1)) x182000 bt187.1 x182002) else (camshaftref05_one.l1 k x0 (wrap64 (x6 + 1)) x182000 x182001 bt187.1)) else (some (0, 0, 0, bt187.2)))) else (none)) else ((camshaftref04_Right.f k x182000 x182001 x182002).bind fun t185 => (if t185 = true then (some (x182000, x182001, x182002, 0)) else (some (0, 0, 0, 6))))
end
def camshaftref05_one.f (k : Nat) (l0 : List ByteArray) : Option (Int × Int × Int × Int) := camshaftref05_one.l0 k l0 1 0 0 0
theorem camshaftref05_one.mono_l : ∀ k, (∀ y0 y1 y2 y3 y4, LeO (camshaftref05_one.l0 k y0 y1 y2 y3 y4) (camshaftref05_one.l0 (k + 1) y0 y1 y2 y3 y4)) ∧ (∀ y0 y1 y2 y3 y4, LeO (camshaftref05_one.j1 k y0 y1 y2 y3 y4) (camshaftref05_one.j1 (k + 1) y0 y1 y2 y3 y4)) ∧ (∀ y0 y1 y2 y3 y4, LeO (camshaftref05_one.l1 k y0 y1 y2 y3 y4) (camshaftref05_one.l1 (k + 1) y0 y1 y2 y3 y4))
  | 0 => ⟨fun _ _ _ _ _ r h => by simp [camshaftref05_one.l0] at h, fun _ _ _ _ _ r h => by simp [camshaftref05_one.j1] at h, fun _ _ _ _ _ r h => by simp [camshaftref05_one.l1] at h⟩
  | k + 1 => by
    obtain ⟨ih0, ih1, ih2⟩ := camshaftref05_one.mono_l k
    refine ⟨?_, ?_, ?_⟩
    · intro y0 y1 y2 y3 y4
      unfold camshaftref05_one.l0
      repeat' first
      | (with_reducible exact ih0 _ _ _ _ _)
      | (with_reducible exact ih1 _ _ _ _ _)
      | (with_reducible exact ih2 _ _ _ _ _)
      | (with_reducible exact camshaftref04_Right.mono _ _ _ _)
      | (with_reducible exact camshaftref05_Number.mono _ _)
      | (with_reducible exact LeO.refl _)
      | (with_reducible exact LeO.none _)
      | (with_reducible refine LeO.ite ?_ ?_)
      | (with_reducible refine LeO.bind ?_ (fun _ => ?_))
      | exact ih0 _ _ _ _ _
      | exact ih1 _ _ _ _ _
      | exact ih2 _ _ _ _ _
      | exact camshaftref04_Right.mono _ _ _ _
      | exact camshaftref05_Number.mono _ _
      | exact LeO.none _
      | refine LeO.ite ?_ ?_
      | refine LeO.bind ?_ (fun _ => ?_)
    · intro y0 y1 y2 y3 y4
      unfold camshaftref05_one.j1
      repeat' first
      | (with_reducible exact ih0 _ _ _ _ _)
      | (with_reducible exact ih1 _ _ _ _ _)
      | (with_reducible exact ih2 _ _ _ _ _)
      | (with_reducible exact camshaftref04_Right.mono _ _ _ _)
      | (with_reducible exact camshaftref05_Number.mono _ _)
      | (with_reducible exact LeO.refl _)
      | (with_reducible exact LeO.none _)
      | (with_reducible refine LeO.ite ?_ ?_)
      | (with_reducible refine LeO.bind ?_ (fun _ => ?_))
      | exact ih0 _ _ _ _ _
      | exact ih1 _ _ _ _ _
      | exact ih2 _ _ _ _ _
      | exact camshaftref04_Right.mono _ _ _ _
      | exact camshaftref05_Number.mono _ _
      | exact LeO.none _
      | refine LeO.ite ?_ ?_
      | refine LeO.bind ?_ (fun _ => ?_)
    · intro y0 y1 y2 y3 y4
      unfold camshaftref05_one.l1
      repeat' first
      | (with_reducible exact ih0 _ _ _ _ _)
      | (with_reducible exact ih1 _ _ _ _ _)
      | (with_reducible exact ih2 _ _ _ _ _)
      | (with_reducible exact camshaftref04_Right.mono _ _ _ _)
      | (with_reducible exact camshaftref05_Number.mono _ _)
      | (with_reducible exact LeO.refl _)
      | (with_reducible exact LeO.none _)
      | (with_reducible refine LeO.ite ?_ ?_)
      | (with_reducible refine LeO.bind ?_ (fun _ => ?_))
      | exact ih0 _ _ _ _ _
      | exact ih1 _ _ _ _ _
      | exact ih2 _ _ _ _ _
      | exact camshaftref04_Right.mono _ _ _ _
      | exact camshaftref05_Number.mono _ _
      | exact LeO.none _
      | refine LeO.ite ?_ ?_
      | refine LeO.bind ?_ (fun _ => ?_)
theorem camshaftref05_one.mono : ∀ a0 k, LeO (camshaftref05_one.f k a0) (camshaftref05_one.f (k + 1) a0) := by
  intro a0 k
  obtain ⟨ih0, ih1, ih2⟩ := camshaftref05_one.mono_l k
  unfold camshaftref05_one.f
  repeat' first
      | (with_reducible exact ih0 _ _ _ _ _)
      | (with_reducible exact ih1 _ _ _ _ _)
      | (with_reducible exact ih2 _ _ _ _ _)
      | (with_reducible exact camshaftref04_Right.mono _ _ _ _)
      | (with_reducible exact camshaftref05_Number.mono _ _)
      | (with_reducible exact LeO.refl _)
      | (with_reducible exact LeO.none _)
      | (with_reducible refine LeO.ite ?_ ?_)
      | (with_reducible refine LeO.bind ?_ (fun _ => ?_))
      | exact ih0 _ _ _ _ _
      | exact ih1 _ _ _ _ _
      | exact ih2 _ _ _ _ _
      | exact camshaftref04_Right.mono _ _ _ _
      | exact camshaftref05_Number.mono _ _
      | exact LeO.none _
      | refine LeO.ite ?_ ?_
      | refine LeO.bind ?_ (fun _ => ?_)
set_option maxHeartbeats 8000000 in
set_option maxRecDepth 100000 in
theorem camshaftref05_one.calls (k : Nat) (A0 : Option Addr) (c0 : Nat) (l0 : List ByteArray) (r1 : Int) (r2 : Int) (r3 : Int) (r4 : Int) (w : World) (hr0 : Kd.C Kd.string w A0 l0.length l0) (hc0 : l0.length ≤ c0) (h : camshaftref05_one.f k l0 = some (r1, r2, r3, r4)) :
    Calls Try.prog 32 #[.slice A0 l0.length c0] w fun e w' => e = .returned (.tuple #[.agg #[.int .i64 r1, .int .i64 r2, .int .i64 r3], .int .i64 r4]) ∧ Below w.heap.size w w' := by
  have hu24 := Try.underlying24
  have HR0 := Aside0.mk hr0
  have HC0 := Aside0.mk hc0
  clear hr0 hc0
  have HB := Aside0.mk (Below.refl w.heap.size w)
  have H : (camshaftref05_one.l0 k l0 1 0 0 0) = some (r1, r2, r3, r4) := h
  clear h
  have H' := Aside0.mk H
  clear H
  go_enter Try.func32, Try.ntmps32
  go_wp2_with (first | ((with_reducible refine gate_dst (N := 2) rfl ?_); (try (refine gate_guard (by rfl) ?_; dsimp only)); refine box_event ?hg (N := 2) ?hd (cs := #[.int .i64 0, .int .i64 0, .int .i64 0]) (t := 24) ?hr ?_; (case hd => rfl); (case hg => rfl); (case hr => first | (go_simp; done) | (go_simp; rfl)); intro gb180 hg w2 hbox hb; have n0_ := Aside0.mk (below_step (by repeat (first | (with_reducible first | exact HB.out | apply below_alloc | apply pw_below_drewN | apply below_drew1) | exact HB.out)) hb); have n1_ := Aside0.mk (hbox); have n2_ := Aside0.mk ((by rw [hg]; exact (below_size (by repeat (first | (with_reducible first | exact HB.out | apply below_alloc | apply pw_below_drewN | apply below_drew1) | exact HB.out))) : w.heap.size ≤ gb180)); have n3_ := Aside0.mk ((by rw [hg]; exact (below_size (by repeat (first | (with_reducible first | exact HB.out | apply below_alloc | apply pw_below_drewN | apply below_drew1) | exact HB.out))) : w.heap.size ≤ gb180)); clear HB; have HB := n0_; have BK180 := n1_; have GW180 := n2_; have GE180 := n3_; clear n0_ n1_ n2_ n3_; clear hb hbox hg) | ((with_reducible refine gate_dst (N := 4) rfl ?_); (try (refine gate_guard (by rfl) ?_; dsimp only)); refine box_event ?hg (N := 4) ?hd (cs := #[.int .i64 0, .int .i64 0, .int .i64 0]) (t := 24) ?hr ?_; (case hd => rfl); (case hg => rfl); (case hr => first | (go_simp; done) | (go_simp; rfl)); intro gb181 hg w3 hbox hb; have n0_ := Aside0.mk (blk_below (g := gb180) (o := .cells #[.int .i64 0, .int .i64 0, .int .i64 0] 24 (0, 0)) (by (with_reducible repeat (first | refine blk_drewN ?_ _ | refine blk_drew ?_ | refine blk_alloc ?_ _)); exact BK180.out) hb); have n1_ := Aside0.mk (below_step (by repeat (first | (with_reducible first | exact HB.out | apply below_alloc | apply pw_below_drewN | apply below_drew1 | refine below_set ?_ GE180.out) | exact HB.out)) hb); have n2_ := Aside0.mk (hbox); have n3_ := Aside0.mk ((by rw [hg]; exact (below_size (by repeat (first | (with_reducible first | exact HB.out | apply below_alloc | apply pw_below_drewN | apply below_drew1 | refine below_set ?_ GE180.out) | exact HB.out))) : w.heap.size ≤ gb181)); have n4_ := Aside0.mk ((by rw [hg]; exact (below_size (by repeat (first | (with_reducible first | exact HB.out | apply below_alloc | apply pw_below_drewN | apply below_drew1 | refine below_set ?_ GE180.out) | exact HB.out))) : w.heap.size ≤ gb181)); have n5_ := Aside0.mk ((by rw [hg]; exact Nat.ne_of_lt (blk_lt (g := gb180) (o := .cells #[.int .i64 0, .int .i64 0, .int .i64 0] 24 (0, 0)) (by (with_reducible repeat (first | refine blk_drewN ?_ _ | refine blk_drew ?_ | refine blk_alloc ?_ _)); exact BK180.out)) : gb180 ≠ gb181)); have n6_ := Aside0.mk ((by rw [hg]; exact Nat.ne_of_gt (blk_lt (g := gb180) (o := .cells #[.int .i64 0, .int .i64 0, .int .i64 0] 24 (0, 0)) (by (with_reducible repeat (first | refine blk_drewN ?_ _ | refine blk_drew ?_ | refine blk_alloc ?_ _)); exact BK180.out)) : gb181 ≠ gb180)); clear BK180; clear HB; have BK180 := n0_; have HB := n1_; have BK181 := n2_; have GW181 := n3_; have GE181 := n4_; have NB180_181 := n5_; have NB181_180 := n6_; clear n0_ n1_ n2_ n3_ n4_ n5_ n6_; clear hb hbox hg; have hnb4 := NB181_180.out; have hnc4 := NB180_181.out; have hcz5_0 : w3.cell? ⟨gb181, 0, none⟩ = some (.int .i64 0) := (blk_cell BK181.out 0).trans rfl; have hcz5_1 : w3.cell? ⟨gb181, 1, none⟩ = some (.int .i64 0) := (blk_cell BK181.out 1).trans rfl; have hcz5_2 : w3.cell? ⟨gb181, 2, none⟩ = some (.int .i64 0) := (blk_cell BK181.out 2).trans rfl; have hfz5_0 := blk_frozen BK181.out 0; have hfz5_1 := blk_frozen BK181.out 1; have hfz5_2 := blk_frozen BK181.out 2))
  go_loopg [5] k (fun kq v5 w' => ∃ (x5_1 : Int) (x182000_1 : Int), v5 = .int .i64 x5_1 ∧ Aside0 (camshaftref05_one.l0 kq l0 x5_1 x182000_1 0 0 = some (r1, r2, r3, r4)) ∧ Aside0 (kq ≤ k) ∧ Aside0 (w'.heap[gb180]? = some (.cells #[.int .i64 0, .int .i64 0, .int .i64 0] 24 (0, 0))) ∧ Aside0 (w'.heap[gb181]? = some (.cells #[.int .i64 x182000_1, .int .i64 0, .int .i64 0] 24 (0, 0))) ∧ Aside0 (Below w.heap.size w w'))
  case atStart => exact ⟨(1), (0), (by first | rfl | (simp; done) | (simp [*]; done)), H', ⟨Nat.le_refl _⟩, ⟨by (with_reducible repeat (first | refine blk_drewN ?_ _ | refine blk_drew ?_ | refine blk_alloc ?_ _)); refine blk_far ?_ NB180_181.out _; (with_reducible repeat (first | refine blk_drewN ?_ _ | refine blk_drew ?_ | refine blk_alloc ?_ _)); refine blk_far ?_ NB180_181.out _; (with_reducible repeat (first | refine blk_drewN ?_ _ | refine blk_drew ?_ | refine blk_alloc ?_ _)); refine blk_far ?_ NB180_181.out _; (with_reducible repeat (first | refine blk_drewN ?_ _ | refine blk_drew ?_ | refine blk_alloc ?_ _)); exact BK180.out⟩, ⟨by (with_reducible repeat (first | refine blk_drewN ?_ _ | refine blk_drew ?_ | refine blk_alloc ?_ _)); refine blk_put (cs := #[.int .i64 0, .int .i64 0, .int .i64 0]) ?_ 2 _ rfl; (with_reducible repeat (first | refine blk_drewN ?_ _ | refine blk_drew ?_ | refine blk_alloc ?_ _)); refine blk_put (cs := #[.int .i64 0, .int .i64 0, .int .i64 0]) ?_ 1 _ rfl; (with_reducible repeat (first | refine blk_drewN ?_ _ | refine blk_drew ?_ | refine blk_alloc ?_ _)); refine blk_put (cs := #[.int .i64 0, .int .i64 0, .int .i64 0]) ?_ 0 _ rfl; (with_reducible repeat (first | refine blk_drewN ?_ _ | refine blk_drew ?_ | refine blk_alloc ?_ _)); exact BK181.out⟩, ⟨by repeat (first | (with_reducible first | exact HB.out | apply below_alloc | apply pw_below_drewN | apply below_drew1 | refine below_set ?_ GE180.out | refine below_set ?_ GE181.out) | exact HB.out)⟩⟩
  case round =>
    clear H'
    try clear p2
    try clear c3
    try clear c4
    try clear hcz5_0
    try clear hcz5_1
    try clear hcz5_2
    try clear hfz5_0
    try clear hfz5_1
    try clear hfz5_2
    obtain ⟨x5_1, x182000_1, rfl, HA, HK1, BK180, BK181, HB⟩ := hrel
    cases gk with
    | zero => exact absurd HA.out (by simp [camshaftref05_one.l0])
    | succ k1 =>
      have H := HA.out
      clear HA
      simp only [camshaftref05_one.l0] at H
      by_cases c6 : x5_1 ≤ 25
      · rw [if_pos c6] at H
        have c6b0 : decide (x5_1 ≤ 25) = true := decide_eq_true c6
        clear c6
        replace H := Option.bind_eq_some_iff.mp H
        obtain ⟨t182, A70, H⟩ := H
        replace H : (if 0 < (l0.length : Int) then (if t182.toList = (rdOf ByteArray.empty l0 0).toList then (camshaftref05_one.l0 k1 l0 (wrap64 (x5_1 + 1)) x5_1 0 0) else (camshaftref05_one.l0 k1 l0 (wrap64 (x5_1 + 1)) x182000_1 0 0)) else (none)) = some (r1, r2, r3, r4) := H
        have A7 := Aside0.mk A70
        clear A70
        by_cases c8 : 0 < (l0.length : Int)
        · rw [if_pos c8] at H
          have c8b0 : decide (0 < (l0.length : Int)) = true := decide_eq_true c8
          have c8b1 : decide (0 < l0.length) = true := decide_eq_true (by omega)
          clear c8
          by_cases c9 : t182.toList = (rdOf ByteArray.empty l0 0).toList
          · rw [if_pos c9] at H
            have c9b0 : (t182.toList == (rdOf ByteArray.empty l0 0).toList) = true := beq_iff_eq.mpr c9
            have c9b1 : (t182.toList != (rdOf ByteArray.empty l0 0).toList) = false := bne_eq_false_iff_eq.mpr c9
            clear c9
            have H' := Aside0.mk H
            clear H
            try go_wp2
            have n0_ := Aside0.mk (blk_drew BK180.out)
            have n1_ := Aside0.mk (blk_drew BK181.out)
            have n2_ := Aside0.mk (below_drew1 HB.out)
            clear BK180
            clear BK181
            clear HB
            have BK180 := n0_
            have BK181 := n1_
            have HB := n2_
            clear n0_ n1_ n2_
            have p183 : 0 ≤ (0 : Int) := (by omega)
            have q183 : 0 < (l0.length : Int) := of_decide_eq_true (by first | (with_reducible assumption) | assumption)
            obtain ⟨ad183, e183, hx183_0⟩ := Kd.at_string HR0.out 0 p183 q183
            have hw183_0 := hx183_0
            (try rw [show ((0 : Int)).toNat = 0 from rfl] at hw183_0)
            (try rw [show 0 * 1 = 0 from rfl] at hw183_0)
            (try rw [Addr.add_zero'] at hw183_0)
            cases e183
            have qi183 : (0 < l0.length) = True := eq_true (by omega)
            (try rw [show ((0 : Int)).toNat = 0 from rfl] at hx183_0)
            (try rw [Addr.add_zero'] at hx183_0)
            replace hx183_0 := (HB.out.cell (World.block_lt_of_cell? w _ hx183_0)).trans hx183_0
            replace p183 := eq_true p183
            replace q183 := eq_true q183
            refine start_ (n := 6) (S := fun w' => w'.cell? ad183 = some (.string (rdOf ByteArray.empty l0 0))) (ds := []) #[false, false, false, false, false, false] (by kernel_rfl) rfl rfl (((HB.out.cell (World.block_lt_of_cell? w _ hw183_0)).trans hw183_0)) (fun hHeld => ?_)
            generalize wr.drew = w10 at BK180 BK181 HB hx183_0 hHeld ⊢
            refine pure_ (i := 0) (N := some 14) (v := ?_) (a' := ?_) #[true, false, false, false, false, false] rfl rfl (by kernel_rfl) (fun _ _ _ h => h) (Or.inl ⟨by rfl, ?_⟩) ?_ ?_
            rotate_left
            · intro w'
              go_simp
              with_reducible rfl
            rotate_left
            · simp only [Act.put, List.setIfInBounds_toArray, List.set_cons_zero, List.set_cons_succ, i64_w, i32_w]
              rfl
            refine pure_ (i := 2) (N := some 16) (v := ?_) (a' := ?_) #[true, false, true, false, false, false] rfl rfl (by kernel_rfl) (fun _ _ _ h => h) (Or.inl ⟨by rfl, ?_⟩) ?_ ?_
            rotate_left
            · intro w'
              go_simp
              with_reducible rfl
            rotate_left
            · simp only [Act.put, List.setIfInBounds_toArray, List.set_cons_zero, List.set_cons_succ, i64_w, i32_w]
              rfl
            refine pure_ (i := 3) (N := some 17) (v := ?_) (a' := ?_) #[true, false, true, true, false, false] rfl rfl (by kernel_rfl) (fun _ _ _ h => h) (Or.inl ⟨by rfl, ?_⟩) ?_ ?_
            rotate_left
            · intro w'
              go_simp
              with_reducible rfl
            rotate_left
            · simp only [Act.put, List.setIfInBounds_toArray, List.set_cons_zero, List.set_cons_succ, i64_w, i32_w]
              rfl
            refine take_ (i := 4) (N := some 18) (v := ?_) (a' := ?_) #[true, false, true, true, true, false] rfl rfl (by kernel_rfl) (fun _ _ _ h => h) (Or.inl ⟨by rfl, ?_⟩) hHeld ?_ ?_
            rotate_left
            · intro w' s0
              go_simp
              with_reducible rfl
            rotate_left
            · simp only [Act.put, List.setIfInBounds_toArray, List.set_cons_zero, List.set_cons_succ, i64_w, i32_w]
              rfl
            refine one_ (i := 1) (N := some 15) #[true, true, true, true, true, false] rfl rfl (by kernel_rfl) (by decide) (fun K hK => ?_)
            refine goes_ Try.func26 (by kernel_rfl) rfl #[.int .i64 x5_1] (by rfl) rfl rfl (by (try simp only [List.map_toArray, List.map_cons, List.map_nil]); first | done | rfl | (simp only [List.length_drop, List.length_take]; rfl)) ?_
            with_reducible refine (camshaftref04_Name.calls x5_1 t182 _ A7.out).mono ?_
            rintro e w11 ⟨rfl, hb⟩
            refine ⟨_, rfl, ?_⟩
            have n0_ := Aside0.mk (blk_below (g := gb180) (o := .cells #[.int .i64 0, .int .i64 0, .int .i64 0] 24 (0, 0)) (by (with_reducible repeat (first | refine blk_drewN ?_ _ | refine blk_drew ?_ | refine blk_alloc ?_ _)); exact BK180.out) hb)
            have n1_ := Aside0.mk (blk_below (g := gb181) (o := .cells #[.int .i64 x182000_1, .int .i64 0, .int .i64 0] 24 (0, 0)) (by (with_reducible repeat (first | refine blk_drewN ?_ _ | refine blk_drew ?_ | refine blk_alloc ?_ _)); exact BK181.out) hb)
            first | (have n2_ := Aside0.mk (below_step (Below.refl w.heap.size w) hb)) | (have n2_ := Aside0.mk (below_step (below_drew (pw_below_drewN (Below.refl w.heap.size w) _)) hb)) | (have n2_ := Aside0.mk (below_step (pw_below_drewN (Below.refl w.heap.size w) _) hb)) | (have n2_ := Aside0.mk (below_step (by repeat (first | (with_reducible first | exact HB.out | apply below_alloc | apply pw_below_drewN | apply below_drew1 | refine below_set ?_ GE180.out | refine below_set ?_ GE181.out) | exact HB.out)) hb))
            clear BK180
            clear BK181
            clear HB
            have BK180 := n0_
            have BK181 := n1_
            have HB := n2_
            clear n0_ n1_ n2_
            (try clear hb)
            (try clear hb2)
            (try clear hk)
            (try clear hi)
            refine hK.out _ _ (((HB.out.cell (World.block_lt_of_cell? w _ hw183_0)).trans hw183_0)) (fun hHeld => ?_)
            clear hK K
            refine norm_ (a' := ?_) ?_ ?_
            rotate_left
            · show Act.put _ (some 15) _ = _
              simp only [Act.put, List.setIfInBounds_toArray, List.set_cons_zero, List.set_cons_succ, i64_w, i32_w]
              rfl
            refine pure_ (i := 5) (N := some 19) (v := ?_) (a' := ?_) #[true, true, true, true, true, true] rfl rfl (by kernel_rfl) (fun _ _ _ h => h) (Or.inl ⟨by rfl, ?_⟩) ?_ ?_
            rotate_left
            · intro w'
              go_simp
              with_reducible rfl
            rotate_left
            · simp only [Act.put, List.setIfInBounds_toArray, List.set_cons_zero, List.set_cons_succ, i64_w, i32_w]
              rfl
            refine done_ (by kernel_rfl) ?_
            have hnb12 := NB181_180.out
            have hnc12 := NB180_181.out
            have hcz13_0 : w11.cell? ⟨gb181, 0, none⟩ = some (.int .i64 x182000_1) := (blk_cell BK181.out 0).trans rfl
            have hcz13_1 : w11.cell? ⟨gb181, 1, none⟩ = some (.int .i64 0) := (blk_cell BK181.out 1).trans rfl
            have hcz13_2 : w11.cell? ⟨gb181, 2, none⟩ = some (.int .i64 0) := (blk_cell BK181.out 2).trans rfl
            have hfz13_0 := blk_frozen BK181.out 0
            have hfz13_1 := blk_frozen BK181.out 1
            have hfz13_2 := blk_frozen BK181.out 2
            try go_wp2
            go_roundg k1
            case measure => have := HK1.out; omega
            case rel => exact ⟨(wrap64 (x5_1 + 1)), (x5_1), (by first | rfl | (simp; done) | (simp [*]; done)), H', ⟨by have := HK1.out; omega⟩, ⟨by (with_reducible repeat (first | refine blk_drewN ?_ _ | refine blk_drew ?_ | refine blk_alloc ?_ _)); refine blk_far ?_ NB180_181.out _; (with_reducible repeat (first | refine blk_drewN ?_ _ | refine blk_drew ?_ | refine blk_alloc ?_ _)); exact BK180.out⟩, ⟨by (with_reducible repeat (first | refine blk_drewN ?_ _ | refine blk_drew ?_ | refine blk_alloc ?_ _)); refine blk_put (cs := #[.int .i64 x182000_1, .int .i64 0, .int .i64 0]) ?_ 0 _ rfl; (with_reducible repeat (first | refine blk_drewN ?_ _ | refine blk_drew ?_ | refine blk_alloc ?_ _)); exact BK181.out⟩, ⟨by repeat (first | (with_reducible first | exact HB.out | apply below_alloc | apply pw_below_drewN | apply below_drew1 | refine below_set ?_ GE180.out | refine below_set ?_ GE181.out) | exact HB.out | exact Below.refl _ _)⟩⟩
          · rw [if_neg c9] at H
            have c9b0 : (t182.toList == (rdOf ByteArray.empty l0 0).toList) = false := beq_eq_false_iff_ne.mpr c9
            have c9b1 : (t182.toList != (rdOf ByteArray.empty l0 0).toList) = true := bne_iff_ne.mpr c9
            have H' := Aside0.mk H
            clear H
            try go_wp2
            have n0_ := Aside0.mk (blk_drew BK180.out)
            have n1_ := Aside0.mk (blk_drew BK181.out)
            have n2_ := Aside0.mk (below_drew1 HB.out)
            clear BK180
            clear BK181
            clear HB
            have BK180 := n0_
            have BK181 := n1_
            have HB := n2_
            clear n0_ n1_ n2_
            have p183 : 0 ≤ (0 : Int) := (by omega)
            have q183 : 0 < (l0.length : Int) := of_decide_eq_true (by first | (with_reducible assumption) | assumption)
            obtain ⟨ad183, e183, hx183_0⟩ := Kd.at_string HR0.out 0 p183 q183
            have hw183_0 := hx183_0
            (try rw [show ((0 : Int)).toNat = 0 from rfl] at hw183_0)
            (try rw [show 0 * 1 = 0 from rfl] at hw183_0)
            (try rw [Addr.add_zero'] at hw183_0)
            cases e183
            have qi183 : (0 < l0.length) = True := eq_true (by omega)
            (try rw [show ((0 : Int)).toNat = 0 from rfl] at hx183_0)
            (try rw [Addr.add_zero'] at hx183_0)
            replace hx183_0 := (HB.out.cell (World.block_lt_of_cell? w _ hx183_0)).trans hx183_0
            replace p183 := eq_true p183
            replace q183 := eq_true q183
            refine start_ (n := 6) (S := fun w' => w'.cell? ad183 = some (.string (rdOf ByteArray.empty l0 0))) (ds := []) #[false, false, false, false, false, false] (by kernel_rfl) rfl rfl (((HB.out.cell (World.block_lt_of_cell? w _ hw183_0)).trans hw183_0)) (fun hHeld => ?_)
            generalize wr.drew = w14 at BK180 BK181 HB hx183_0 hHeld ⊢
            refine pure_ (i := 0) (N := some 14) (v := ?_) (a' := ?_) #[true, false, false, false, false, false] rfl rfl (by kernel_rfl) (fun _ _ _ h => h) (Or.inl ⟨by rfl, ?_⟩) ?_ ?_
            rotate_left
            · intro w'
              go_simp
              with_reducible rfl
            rotate_left
            · simp only [Act.put, List.setIfInBounds_toArray, List.set_cons_zero, List.set_cons_succ, i64_w, i32_w]
              rfl
            refine pure_ (i := 2) (N := some 16) (v := ?_) (a' := ?_) #[true, false, true, false, false, false] rfl rfl (by kernel_rfl) (fun _ _ _ h => h) (Or.inl ⟨by rfl, ?_⟩) ?_ ?_
            rotate_left
            · intro w'
              go_simp
              with_reducible rfl
            rotate_left
            · simp only [Act.put, List.setIfInBounds_toArray, List.set_cons_zero, List.set_cons_succ, i64_w, i32_w]
              rfl
            refine pure_ (i := 3) (N := some 17) (v := ?_) (a' := ?_) #[true, false, true, true, false, false] rfl rfl (by kernel_rfl) (fun _ _ _ h => h) (Or.inl ⟨by rfl, ?_⟩) ?_ ?_
            rotate_left
            · intro w'
              go_simp
              with_reducible rfl
            rotate_left
            · simp only [Act.put, List.setIfInBounds_toArray, List.set_cons_zero, List.set_cons_succ, i64_w, i32_w]
              rfl
            refine take_ (i := 4) (N := some 18) (v := ?_) (a' := ?_) #[true, false, true, true, true, false] rfl rfl (by kernel_rfl) (fun _ _ _ h => h) (Or.inl ⟨by rfl, ?_⟩) hHeld ?_ ?_
            rotate_left
            · intro w' s0
              go_simp
              with_reducible rfl
            rotate_left
            · simp only [Act.put, List.setIfInBounds_toArray, List.set_cons_zero, List.set_cons_succ, i64_w, i32_w]
              rfl
            refine one_ (i := 1) (N := some 15) #[true, true, true, true, true, false] rfl rfl (by kernel_rfl) (by decide) (fun K hK => ?_)
            refine goes_ Try.func26 (by kernel_rfl) rfl #[.int .i64 x5_1] (by rfl) rfl rfl (by (try simp only [List.map_toArray, List.map_cons, List.map_nil]); first | done | rfl | (simp only [List.length_drop, List.length_take]; rfl)) ?_
            with_reducible refine (camshaftref04_Name.calls x5_1 t182 _ A7.out).mono ?_
            rintro e w15 ⟨rfl, hb⟩
            refine ⟨_, rfl, ?_⟩
            have n0_ := Aside0.mk (blk_below (g := gb180) (o := .cells #[.int .i64 0, .int .i64 0, .int .i64 0] 24 (0, 0)) (by (with_reducible repeat (first | refine blk_drewN ?_ _ | refine blk_drew ?_ | refine blk_alloc ?_ _)); exact BK180.out) hb)
            have n1_ := Aside0.mk (blk_below (g := gb181) (o := .cells #[.int .i64 x182000_1, .int .i64 0, .int .i64 0] 24 (0, 0)) (by (with_reducible repeat (first | refine blk_drewN ?_ _ | refine blk_drew ?_ | refine blk_alloc ?_ _)); exact BK181.out) hb)
            first | (have n2_ := Aside0.mk (below_step (Below.refl w.heap.size w) hb)) | (have n2_ := Aside0.mk (below_step (below_drew (pw_below_drewN (Below.refl w.heap.size w) _)) hb)) | (have n2_ := Aside0.mk (below_step (pw_below_drewN (Below.refl w.heap.size w) _) hb)) | (have n2_ := Aside0.mk (below_step (by repeat (first | (with_reducible first | exact HB.out | apply below_alloc | apply pw_below_drewN | apply below_drew1 | refine below_set ?_ GE180.out | refine below_set ?_ GE181.out) | exact HB.out)) hb))
            clear BK180
            clear BK181
            clear HB
            have BK180 := n0_
            have BK181 := n1_
            have HB := n2_
            clear n0_ n1_ n2_
            (try clear hb)
            (try clear hb2)
            (try clear hk)
            (try clear hi)
            refine hK.out _ _ (((HB.out.cell (World.block_lt_of_cell? w _ hw183_0)).trans hw183_0)) (fun hHeld => ?_)
            clear hK K
            refine norm_ (a' := ?_) ?_ ?_
            rotate_left
            · show Act.put _ (some 15) _ = _
              simp only [Act.put, List.setIfInBounds_toArray, List.set_cons_zero, List.set_cons_succ, i64_w, i32_w]
              rfl
            refine pure_ (i := 5) (N := some 19) (v := ?_) (a' := ?_) #[true, true, true, true, true, true] rfl rfl (by kernel_rfl) (fun _ _ _ h => h) (Or.inl ⟨by rfl, ?_⟩) ?_ ?_
            rotate_left
            · intro w'
              go_simp
              with_reducible rfl
            rotate_left
            · simp only [Act.put, List.setIfInBounds_toArray, List.set_cons_zero, List.set_cons_succ, i64_w, i32_w]
              rfl
            refine done_ (by kernel_rfl) ?_
            try go_wp2
            go_roundg k1
            case measure => have := HK1.out; omega
            case rel => exact ⟨(wrap64 (x5_1 + 1)), (x182000_1), (by first | rfl | (simp; done) | (simp [*]; done)), H', ⟨by have := HK1.out; omega⟩, ⟨by (with_reducible repeat (first | refine blk_drewN ?_ _ | refine blk_drew ?_ | refine blk_alloc ?_ _)); exact BK180.out⟩, ⟨by (with_reducible repeat (first | refine blk_drewN ?_ _ | refine blk_drew ?_ | refine blk_alloc ?_ _)); exact BK181.out⟩, ⟨by repeat (first | (with_reducible first | exact HB.out | apply below_alloc | apply pw_below_drewN | apply below_drew1 | refine below_set ?_ GE180.out | refine below_set ?_ GE181.out) | exact HB.out | exact Below.refl _ _)⟩⟩
        · rw [if_neg c8] at H
          exact absurd H (by simp)
      · rw [if_neg c6] at H
        have c6b0 : decide (x5_1 ≤ 25) = false := decide_eq_false c6
        clear c6
        have HC16 := Aside0.mk H
        clear H
        go_upto_region 7 with (fail)
        go_cut [33] (fun v33 wc => ∃ (kq : Nat) (x33_15 : Bool), v33 = .bool x33_15 ∧ Aside0 (camshaftref05_one.j1 kq l0 x33_15 x182000_1 0 0 = some (r1, r2, r3, r4)) ∧ Aside0 (kq ≤ k1) ∧ Aside0 (wc.heap[gb180]? = some (.cells #[.int .i64 0, .int .i64 0, .int .i64 0] 24 (0, 0))) ∧ Aside0 (wc.heap[gb181]? = some (.cells #[.int .i64 x182000_1, .int .i64 0, .int .i64 0] 24 (0, 0))) ∧ Aside0 (Below w.heap.size w wc))
        case first =>
          have H := HC16.out
          clear HC16
          by_cases c17 : x182000_1 = 0
          · rw [if_pos c17] at H
            have c17b0 : (x182000_1 == 0) = true := beq_iff_eq.mpr c17
            have c17b1 : (x182000_1 != 0) = false := bne_eq_false_iff_eq.mpr c17
            clear c17
            (first | rw [c17b0] | (simp only [i64_w, i32_w]; rw [c17b0]) | rw [c17b1] | skip)
            have H' := Aside0.mk H
            clear H
            have hnb18 := NB181_180.out
            have hnc18 := NB180_181.out
            have hcz19_0 : wr.cell? ⟨gb181, 0, none⟩ = some (.int .i64 x182000_1) := (blk_cell BK181.out 0).trans rfl
            have hcz19_1 : wr.cell? ⟨gb181, 1, none⟩ = some (.int .i64 0) := (blk_cell BK181.out 1).trans rfl
            have hcz19_2 : wr.cell? ⟨gb181, 2, none⟩ = some (.int .i64 0) := (blk_cell BK181.out 2).trans rfl
            have hfz19_0 := blk_frozen BK181.out 0
            have hfz19_1 := blk_frozen BK181.out 1
            have hfz19_2 := blk_frozen BK181.out 2
            go_wp2
            go_meet
            case rel => exact ⟨_, (true), (by first | rfl | (simp; done) | (simp [*]; done)), H', ⟨by have := HK1.out; first | omega | exact Nat.le_refl _⟩, ⟨by (with_reducible repeat (first | refine blk_drewN ?_ _ | refine blk_drew ?_ | refine blk_alloc ?_ _)); exact BK180.out⟩, ⟨by (with_reducible repeat (first | refine blk_drewN ?_ _ | refine blk_drew ?_ | refine blk_alloc ?_ _)); exact BK181.out⟩, ⟨by repeat (first | (with_reducible first | exact HB.out | apply below_alloc | apply pw_below_drewN | apply below_drew1 | refine below_set ?_ GE180.out | refine below_set ?_ GE181.out) | exact HB.out | exact Below.refl _ _)⟩⟩
          · rw [if_neg c17] at H
            have c17b0 : (x182000_1 == 0) = false := beq_eq_false_iff_ne.mpr c17
            have c17b1 : (x182000_1 != 0) = true := bne_iff_ne.mpr c17
            (first | rw [c17b0] | (simp only [i64_w, i32_w]; rw [c17b0]) | rw [c17b1] | skip)
            replace H := Option.bind_eq_some_iff.mp H
            obtain ⟨t184, A200, H⟩ := H
            replace H : (camshaftref05_one.j1 k1 l0 ((l0.length : Int) != (wrap64 (t184 + 1))) x182000_1 0 0) = some (r1, r2, r3, r4) := H
            have A20 := Aside0.mk A200
            clear A200
            have H' := Aside0.mk H
            clear H
            have hnb21 := NB181_180.out
            have hnc21 := NB180_181.out
            have hcz22_0 : wr.cell? ⟨gb181, 0, none⟩ = some (.int .i64 x182000_1) := (blk_cell BK181.out 0).trans rfl
            have hcz22_1 : wr.cell? ⟨gb181, 1, none⟩ = some (.int .i64 0) := (blk_cell BK181.out 1).trans rfl
            have hcz22_2 : wr.cell? ⟨gb181, 2, none⟩ = some (.int .i64 0) := (blk_cell BK181.out 2).trans rfl
            have hfz22_0 := blk_frozen BK181.out 0
            have hfz22_1 := blk_frozen BK181.out 1
            have hfz22_2 := blk_frozen BK181.out 2
            go_wp2_with (first | (go_at_call 27; (with_reducible refine (camshaftref04_Args.calls x182000_1 t184 _ A20.out).mono ?_); rintro e w23 ⟨rfl, hb⟩; have n0_ := Aside0.mk (blk_below (g := gb180) (o := .cells #[.int .i64 0, .int .i64 0, .int .i64 0] 24 (0, 0)) (by (with_reducible repeat (first | refine blk_drewN ?_ _ | refine blk_drew ?_ | refine blk_alloc ?_ _)); exact BK180.out) hb); have n1_ := Aside0.mk (blk_below (g := gb181) (o := .cells #[.int .i64 x182000_1, .int .i64 0, .int .i64 0] 24 (0, 0)) (by (with_reducible repeat (first | refine blk_drewN ?_ _ | refine blk_drew ?_ | refine blk_alloc ?_ _)); exact BK181.out) hb); have n2_ := Aside0.mk (below_step (by repeat (first | (with_reducible first | exact HB.out | apply below_alloc | apply pw_below_drewN | apply below_drew1 | refine below_set ?_ GE180.out | refine below_set ?_ GE181.out) | exact HB.out)) hb); clear BK180; clear BK181; clear HB; have BK180 := n0_; have BK181 := n1_; have HB := n2_; clear n0_ n1_ n2_; (try clear hb); (try clear hb2); (try clear hk); (try clear hi)))
            go_meet
            case rel => exact ⟨_, (((l0.length : Int) != (wrap64 (t184 + 1)))), (by first | rfl | (simp; done) | (simp [*]; done)), H', ⟨by have := HK1.out; first | omega | exact Nat.le_refl _⟩, ⟨by (with_reducible repeat (first | refine blk_drewN ?_ _ | refine blk_drew ?_ | refine blk_alloc ?_ _)); exact BK180.out⟩, ⟨by (with_reducible repeat (first | refine blk_drewN ?_ _ | refine blk_drew ?_ | refine blk_alloc ?_ _)); exact BK181.out⟩, ⟨by repeat (first | (with_reducible first | exact HB.out | apply below_alloc | apply pw_below_drewN | apply below_drew1 | refine below_set ?_ GE180.out | refine below_set ?_ GE181.out) | exact HB.out | exact Below.refl _ _)⟩⟩
        case rest =>
          clear HC16
          try clear c1
          try clear p1
          try clear q1
          try clear hx1
          try clear qi1
          try clear c2
          try clear p2
          try clear c3
          try clear c4
          try clear c6
          try clear c6b0
          try clear p6
          try clear c8
          try clear c8b0
          try clear c8b1
          try clear c9
          try clear c9b0
          try clear c9b1
          try clear c12
          try clear c17
          try clear c17b0
          try clear c17b1
          try clear c18
          try clear p18
          try clear q18
          try clear hx18
          try clear qi18
          try clear c21
          try clear hcz13_0
          try clear hcz13_1
          try clear hcz13_2
          try clear hcz19_0
          try clear hcz19_1
          try clear hcz19_2
          try clear hcz22_0
          try clear hcz22_1
          try clear hcz22_2
          try clear hcz5_0
          try clear hcz5_1
          try clear hcz5_2
          try clear hfz13_0
          try clear hfz13_1
          try clear hfz13_2
          try clear hfz19_0
          try clear hfz19_1
          try clear hfz19_2
          try clear hfz22_0
          try clear hfz22_1
          try clear hfz22_2
          try clear hfz5_0
          try clear hfz5_1
          try clear hfz5_2
          try clear hx183_0
          try clear p183
          try clear p2
          try clear q183
          obtain ⟨kq, x33_15, rfl, HA, HJ15, BK180, BK181, HB⟩ := hcut
          cases kq with
          | zero => exact absurd HA.out (by simp [camshaftref05_one.j1])
          | succ kj15 =>
            have H := HA.out
            clear HA
            simp only [camshaftref05_one.j1] at H
            by_cases c24 : x33_15 = true
            · subst c24
              have H1 : (some (0, 0, 0, 3)) = some (r1, r2, r3, r4) := by rw [if_pos rfl] at H; exact H
              clear H
              have H := H1
              clear H1
              simp only [Option.some.injEq, Prod.mk.injEq] at H
              obtain ⟨rfl, rfl, rfl, rfl⟩ := H
              have hnb25 := NB180_181.out
              have hnc25 := NB181_180.out
              have hcz26_0 : wc.cell? ⟨gb180, 0, none⟩ = some (.int .i64 0) := (blk_cell BK180.out 0).trans rfl
              have hcz26_1 : wc.cell? ⟨gb180, 1, none⟩ = some (.int .i64 0) := (blk_cell BK180.out 1).trans rfl
              have hcz26_2 : wc.cell? ⟨gb180, 2, none⟩ = some (.int .i64 0) := (blk_cell BK180.out 2).trans rfl
              have hfz26_0 := blk_frozen BK180.out 0
              have hfz26_1 := blk_frozen BK180.out 1
              have hfz26_2 := blk_frozen BK180.out 2
              go_wp2
              refine bodyPost_ret (results_ct rfl _ _ gb180 24 #[.int .i64 0, .int .i64 0, .int .i64 0] (0, 0) _ rfl (by (with_reducible repeat (first | refine blk_drewN ?_ _ | refine blk_drew ?_ | refine blk_alloc ?_ _)); refine blk_put (cs := #[.int .i64 0, .int .i64 0, .int .i64 0]) ?_ 2 _ rfl; (with_reducible repeat (first | refine blk_drewN ?_ _ | refine blk_drew ?_ | refine blk_alloc ?_ _)); refine blk_put (cs := #[.int .i64 0, .int .i64 0, .int .i64 0]) ?_ 1 _ rfl; (with_reducible repeat (first | refine blk_drewN ?_ _ | refine blk_drew ?_ | refine blk_alloc ?_ _)); refine blk_put (cs := #[.int .i64 0, .int .i64 0, .int .i64 0]) ?_ 0 _ rfl; (with_reducible repeat (first | refine blk_drewN ?_ _ | refine blk_drew ?_ | refine blk_alloc ?_ _)); exact BK180.out) Try.underlying24 rfl (by kernel_rfl)) rfl ?_
              exact ⟨by first | rfl | (rw [bne_nil_eq]; rfl) | (simp [bne_nil_eq]; done) | (simp [errW_none, errW_some] <;> rfl) | (simp [*, errW_none, errW_some] <;> rfl), by repeat (first | (with_reducible first | exact HB.out | apply below_alloc | apply pw_below_drewN | apply below_drew1 | refine below_set ?_ GE180.out | refine below_set ?_ GE181.out) | exact HB.out | exact Below.refl _ _)⟩
            · replace c24 := Bool.eq_false_iff.mpr c24
              subst c24
              have H1 : (camshaftref05_one.l1 kj15 l0 1 x182000_1 0 0) = some (r1, r2, r3, r4) := by rw [if_neg (show ¬ (false = true) by decide)] at H; exact H
              clear H
              have H := H1
              clear H1
              have H' := Aside0.mk H
              clear H
              go_wp2
              go_loopg [6] kj15 (fun kq v6 w' => ∃ (x6_3 : Int) (x181000_3 : Int) (x181001_3 : Int) (x181002_3 : Int) (x182001_3 : Int) (x182002_3 : Int), v6 = .int .i64 x6_3 ∧ Aside0 (camshaftref05_one.l1 kq l0 x6_3 x182000_1 x182001_3 x182002_3 = some (r1, r2, r3, r4)) ∧ Aside0 (kq ≤ kj15) ∧ Aside0 (w'.heap[gb180]? = some (.cells #[.int .i64 x181000_3, .int .i64 x181001_3, .int .i64 x181002_3] 24 (0, 0))) ∧ Aside0 (w'.heap[gb181]? = some (.cells #[.int .i64 x182000_1, .int .i64 x182001_3, .int .i64 x182002_3] 24 (0, 0))) ∧ Aside0 (Below w.heap.size w w'))
              case atStart => exact ⟨(1), (0), (0), (0), (0), (0), (by first | rfl | (simp; done) | (simp [*]; done)), H', ⟨Nat.le_refl _⟩, ⟨by (with_reducible repeat (first | refine blk_drewN ?_ _ | refine blk_drew ?_ | refine blk_alloc ?_ _)); exact BK180.out⟩, ⟨by (with_reducible repeat (first | refine blk_drewN ?_ _ | refine blk_drew ?_ | refine blk_alloc ?_ _)); exact BK181.out⟩, ⟨by repeat (first | (with_reducible first | exact HB.out | apply below_alloc | apply pw_below_drewN | apply below_drew1 | refine below_set ?_ GE180.out | refine below_set ?_ GE181.out) | exact HB.out)⟩⟩
              case round =>
                clear H'
                try clear c1
                try clear p1
                try clear q1
                try clear hx1
                try clear qi1
                try clear c2
                try clear p2
                try clear c3
                try clear c4
                try clear c6
                try clear c6b0
                try clear p6
                try clear c8
                try clear c8b0
                try clear c8b1
                try clear c9
                try clear c9b0
                try clear c9b1
                try clear c12
                try clear c17
                try clear c17b0
                try clear c17b1
                try clear c18
                try clear p18
                try clear q18
                try clear hx18
                try clear qi18
                try clear c21
                try clear c24
                try clear c25
                try clear c26
                try clear hcz13_0
                try clear hcz13_1
                try clear hcz13_2
                try clear hcz19_0
                try clear hcz19_1
                try clear hcz19_2
                try clear hcz22_0
                try clear hcz22_1
                try clear hcz22_2
                try clear hcz26_0
                try clear hcz26_1
                try clear hcz26_2
                try clear hcz5_0
                try clear hcz5_1
                try clear hcz5_2
                try clear hfz13_0
                try clear hfz13_1
                try clear hfz13_2
                try clear hfz19_0
                try clear hfz19_1
                try clear hfz19_2
                try clear hfz22_0
                try clear hfz22_1
                try clear hfz22_2
                try clear hfz26_0
                try clear hfz26_1
                try clear hfz26_2
                try clear hfz5_0
                try clear hfz5_1
                try clear hfz5_2
                try clear hx183_0
                try clear p1
                try clear p18
                try clear p183
                try clear p2
                try clear p6
                try clear q1
                try clear q18
                try clear q183
                obtain ⟨x6_3, x181000_3, x181001_3, x181002_3, x182001_3, x182002_3, rfl, HA, HK3, BK180, BK181, HB⟩ := hrel
                cases gk with
                | zero => exact absurd HA.out (by simp [camshaftref05_one.l1])
                | succ k3 =>
                  have H := HA.out
                  clear HA
                  simp only [camshaftref05_one.l1] at H
                  by_cases c27 : x6_3 < (l0.length : Int)
                  · rw [if_pos c27] at H
                    have c27b0 : decide (x6_3 < (l0.length : Int)) = true := decide_eq_true c27
                    clear c27
                    by_cases c28 : 0 ≤ x6_3
                    · rw [if_pos c28] at H
                      have c28b0 : decide (0 ≤ x6_3) = true := decide_eq_true c28
                      clear c28
                      replace H := Option.bind_eq_some_iff.mp H
                      obtain ⟨⟨t187, t188⟩, A290, H⟩ := H
                      replace H : (if t188 = 0 then (if x6_3 = 1 then (camshaftref05_one.l1 k3 l0 (wrap64 (x6_3 + 1)) x182000_1 t187 x182002_3) else (camshaftref05_one.l1 k3 l0 (wrap64 (x6_3 + 1)) x182000_1 x182001_3 t187)) else (some (0, 0, 0, t188))) = some (r1, r2, r3, r4) := H
                      have A29 := Aside0.mk A290
                      clear A290
                      by_cases c30 : t188 = 0
                      · rw [if_pos c30] at H
                        have c30b0 : (t188 == 0) = true := beq_iff_eq.mpr c30
                        have c30b1 : (t188 != 0) = false := bne_eq_false_iff_eq.mpr c30
                        clear c30
                        by_cases c31 : x6_3 = 1
                        · rw [if_pos c31] at H
                          have c31b0 : (x6_3 == 1) = true := beq_iff_eq.mpr c31
                          have c31b1 : (x6_3 != 1) = false := bne_eq_false_iff_eq.mpr c31
                          clear c31
                          have H' := Aside0.mk H
                          clear H
                          have p186 : 0 ≤ (x6_3 : Int) := of_decide_eq_true (by first | (with_reducible assumption) | assumption)
                          have q186 : x6_3 < (l0.length : Int) := of_decide_eq_true (by first | (with_reducible assumption) | assumption)
                          obtain ⟨ad186, e186, hx186_0⟩ := Kd.at_string HR0.out x6_3 p186 q186
                          cases e186
                          replace hx186_0 := (HB.out.cell (World.block_lt_of_cell? w _ hx186_0)).trans hx186_0
                          replace p186 := eq_true p186
                          replace q186 := eq_true q186
                          go_wp2_with (first | ((with_reducible refine gate_callee (f := 18) rfl ?_); refine goesL_ (some 46) rfl rfl Try.func18 (by kernel_rfl) rfl #[.string (rdOf ByteArray.empty l0 x6_3)] rfl (by (try simp only [List.map_toArray, List.map_cons, List.map_nil]); first | done | rfl | (simp only [List.length_drop, List.length_take]; rfl)) ?_; (with_reducible refine (camshaftref05_Number.calls k3 (rdOf ByteArray.empty l0 x6_3) t187 t188 _ A29.out).mono ?_); rintro e w32 ⟨rfl, hb⟩; refine ⟨_, rfl, ?_⟩; have n0_ := Aside0.mk (blk_below (g := gb180) (o := .cells #[.int .i64 x181000_3, .int .i64 x181001_3, .int .i64 x181002_3] 24 (0, 0)) (by (with_reducible repeat (first | refine blk_drewN ?_ _ | refine blk_drew ?_ | refine blk_alloc ?_ _)); exact BK180.out) hb); have n1_ := Aside0.mk (blk_below (g := gb181) (o := .cells #[.int .i64 x182000_1, .int .i64 x182001_3, .int .i64 x182002_3] 24 (0, 0)) (by (with_reducible repeat (first | refine blk_drewN ?_ _ | refine blk_drew ?_ | refine blk_alloc ?_ _)); exact BK181.out) hb); have n2_ := Aside0.mk (below_step (by repeat (first | (with_reducible first | exact HB.out | apply below_alloc | apply pw_below_drewN | apply below_drew1 | refine below_set ?_ GE180.out | refine below_set ?_ GE181.out) | exact HB.out)) hb); clear BK180; clear BK181; clear HB; have BK180 := n0_; have BK181 := n1_; have HB := n2_; clear n0_ n1_ n2_; (try clear hb); (try clear hb2); (try clear hk); (try clear hi); have hnb33 := NB181_180.out; have hnc33 := NB180_181.out; have hcz34_0 : w32.cell? ⟨gb181, 0, none⟩ = some (.int .i64 x182000_1) := (blk_cell BK181.out 0).trans rfl; have hcz34_1 : w32.cell? ⟨gb181, 1, none⟩ = some (.int .i64 x182001_3) := (blk_cell BK181.out 1).trans rfl; have hcz34_2 : w32.cell? ⟨gb181, 2, none⟩ = some (.int .i64 x182002_3) := (blk_cell BK181.out 2).trans rfl; have hfz34_0 := blk_frozen BK181.out 0; have hfz34_1 := blk_frozen BK181.out 1; have hfz34_2 := blk_frozen BK181.out 2))
                          go_roundg k3
                          case measure => have := HK1.out; have := HJ15.out; have := HK3.out; omega
                          case rel => exact ⟨(wrap64 (x6_3 + 1)), (x181000_3), (x181001_3), (x181002_3), (t187), (x182002_3), (by first | rfl | (simp; done) | (simp [*]; done)), H', ⟨by have := HK1.out; have := HJ15.out; have := HK3.out; omega⟩, ⟨by (with_reducible repeat (first | refine blk_drewN ?_ _ | refine blk_drew ?_ | refine blk_alloc ?_ _)); refine blk_far ?_ NB180_181.out _; (with_reducible repeat (first | refine blk_drewN ?_ _ | refine blk_drew ?_ | refine blk_alloc ?_ _)); exact BK180.out⟩, ⟨by (with_reducible repeat (first | refine blk_drewN ?_ _ | refine blk_drew ?_ | refine blk_alloc ?_ _)); refine blk_put (cs := #[.int .i64 x182000_1, .int .i64 x182001_3, .int .i64 x182002_3]) ?_ 1 _ rfl; (with_reducible repeat (first | refine blk_drewN ?_ _ | refine blk_drew ?_ | refine blk_alloc ?_ _)); exact BK181.out⟩, ⟨by repeat (first | (with_reducible first | exact HB.out | apply below_alloc | apply pw_below_drewN | apply below_drew1 | refine below_set ?_ GE180.out | refine below_set ?_ GE181.out) | exact HB.out | exact Below.refl _ _)⟩⟩
                        · rw [if_neg c31] at H
                          have c31b0 : (x6_3 == 1) = false := beq_eq_false_iff_ne.mpr c31
                          have c31b1 : (x6_3 != 1) = true := bne_iff_ne.mpr c31
                          have H' := Aside0.mk H
                          clear H
                          have p186 : 0 ≤ (x6_3 : Int) := of_decide_eq_true (by first | (with_reducible assumption) | assumption)
                          have q186 : x6_3 < (l0.length : Int) := of_decide_eq_true (by first | (with_reducible assumption) | assumption)
                          obtain ⟨ad186, e186, hx186_0⟩ := Kd.at_string HR0.out x6_3 p186 q186
                          cases e186
                          replace hx186_0 := (HB.out.cell (World.block_lt_of_cell? w _ hx186_0)).trans hx186_0
                          replace p186 := eq_true p186
                          replace q186 := eq_true q186
                          go_wp2_with (first | ((with_reducible refine gate_callee (f := 18) rfl ?_); refine goesL_ (some 46) rfl rfl Try.func18 (by kernel_rfl) rfl #[.string (rdOf ByteArray.empty l0 x6_3)] rfl (by (try simp only [List.map_toArray, List.map_cons, List.map_nil]); first | done | rfl | (simp only [List.length_drop, List.length_take]; rfl)) ?_; (with_reducible refine (camshaftref05_Number.calls k3 (rdOf ByteArray.empty l0 x6_3) t187 t188 _ A29.out).mono ?_); rintro e w35 ⟨rfl, hb⟩; refine ⟨_, rfl, ?_⟩; have n0_ := Aside0.mk (blk_below (g := gb180) (o := .cells #[.int .i64 x181000_3, .int .i64 x181001_3, .int .i64 x181002_3] 24 (0, 0)) (by (with_reducible repeat (first | refine blk_drewN ?_ _ | refine blk_drew ?_ | refine blk_alloc ?_ _)); exact BK180.out) hb); have n1_ := Aside0.mk (blk_below (g := gb181) (o := .cells #[.int .i64 x182000_1, .int .i64 x182001_3, .int .i64 x182002_3] 24 (0, 0)) (by (with_reducible repeat (first | refine blk_drewN ?_ _ | refine blk_drew ?_ | refine blk_alloc ?_ _)); exact BK181.out) hb); have n2_ := Aside0.mk (below_step (by repeat (first | (with_reducible first | exact HB.out | apply below_alloc | apply pw_below_drewN | apply below_drew1 | refine below_set ?_ GE180.out | refine below_set ?_ GE181.out) | exact HB.out)) hb); clear BK180; clear BK181; clear HB; have BK180 := n0_; have BK181 := n1_; have HB := n2_; clear n0_ n1_ n2_; (try clear hb); (try clear hb2); (try clear hk); (try clear hi); have hnb36 := NB181_180.out; have hnc36 := NB180_181.out; have hcz37_0 : w35.cell? ⟨gb181, 0, none⟩ = some (.int .i64 x182000_1) := (blk_cell BK181.out 0).trans rfl; have hcz37_1 : w35.cell? ⟨gb181, 1, none⟩ = some (.int .i64 x182001_3) := (blk_cell BK181.out 1).trans rfl; have hcz37_2 : w35.cell? ⟨gb181, 2, none⟩ = some (.int .i64 x182002_3) := (blk_cell BK181.out 2).trans rfl; have hfz37_0 := blk_frozen BK181.out 0; have hfz37_1 := blk_frozen BK181.out 1; have hfz37_2 := blk_frozen BK181.out 2))
                          go_roundg k3
                          case measure => have := HK1.out; have := HJ15.out; have := HK3.out; omega
                          case rel => exact ⟨(wrap64 (x6_3 + 1)), (x181000_3), (x181001_3), (x181002_3), (x182001_3), (t187), (by first | rfl | (simp; done) | (simp [*]; done)), H', ⟨by have := HK1.out; have := HJ15.out; have := HK3.out; omega⟩, ⟨by (with_reducible repeat (first | refine blk_drewN ?_ _ | refine blk_drew ?_ | refine blk_alloc ?_ _)); refine blk_far ?_ NB180_181.out _; (with_reducible repeat (first | refine blk_drewN ?_ _ | refine blk_drew ?_ | refine blk_alloc ?_ _)); exact BK180.out⟩, ⟨by (with_reducible repeat (first | refine blk_drewN ?_ _ | refine blk_drew ?_ | refine blk_alloc ?_ _)); refine blk_put (cs := #[.int .i64 x182000_1, .int .i64 x182001_3, .int .i64 x182002_3]) ?_ 2 _ rfl; (with_reducible repeat (first | refine blk_drewN ?_ _ | refine blk_drew ?_ | refine blk_alloc ?_ _)); exact BK181.out⟩, ⟨by repeat (first | (with_reducible first | exact HB.out | apply below_alloc | apply pw_below_drewN | apply below_drew1 | refine below_set ?_ GE180.out | refine below_set ?_ GE181.out) | exact HB.out | exact Below.refl _ _)⟩⟩
                      · rw [if_neg c30] at H
                        have c30b0 : (t188 == 0) = false := beq_eq_false_iff_ne.mpr c30
                        have c30b1 : (t188 != 0) = true := bne_iff_ne.mpr c30
                        simp only [Option.some.injEq, Prod.mk.injEq] at H
                        obtain ⟨rfl, rfl, rfl, rfl⟩ := H
                        have p186 : 0 ≤ (x6_3 : Int) := of_decide_eq_true (by first | (with_reducible assumption) | assumption)
                        have q186 : x6_3 < (l0.length : Int) := of_decide_eq_true (by first | (with_reducible assumption) | assumption)
                        obtain ⟨ad186, e186, hx186_0⟩ := Kd.at_string HR0.out x6_3 p186 q186
                        cases e186
                        replace hx186_0 := (HB.out.cell (World.block_lt_of_cell? w _ hx186_0)).trans hx186_0
                        replace p186 := eq_true p186
                        replace q186 := eq_true q186
                        go_wp2_with (first | ((with_reducible refine gate_callee (f := 18) rfl ?_); refine goesL_ (some 46) rfl rfl Try.func18 (by kernel_rfl) rfl #[.string (rdOf ByteArray.empty l0 x6_3)] rfl (by (try simp only [List.map_toArray, List.map_cons, List.map_nil]); first | done | rfl | (simp only [List.length_drop, List.length_take]; rfl)) ?_; (with_reducible refine (camshaftref05_Number.calls k3 (rdOf ByteArray.empty l0 x6_3) t187 t188 _ A29.out).mono ?_); rintro e w38 ⟨rfl, hb⟩; refine ⟨_, rfl, ?_⟩; have n0_ := Aside0.mk (blk_below (g := gb180) (o := .cells #[.int .i64 x181000_3, .int .i64 x181001_3, .int .i64 x181002_3] 24 (0, 0)) (by (with_reducible repeat (first | refine blk_drewN ?_ _ | refine blk_drew ?_ | refine blk_alloc ?_ _)); exact BK180.out) hb); have n1_ := Aside0.mk (blk_below (g := gb181) (o := .cells #[.int .i64 x182000_1, .int .i64 x182001_3, .int .i64 x182002_3] 24 (0, 0)) (by (with_reducible repeat (first | refine blk_drewN ?_ _ | refine blk_drew ?_ | refine blk_alloc ?_ _)); exact BK181.out) hb); have n2_ := Aside0.mk (below_step (by repeat (first | (with_reducible first | exact HB.out | apply below_alloc | apply pw_below_drewN | apply below_drew1 | refine below_set ?_ GE180.out | refine below_set ?_ GE181.out) | exact HB.out)) hb); clear BK180; clear BK181; clear HB; have BK180 := n0_; have BK181 := n1_; have HB := n2_; clear n0_ n1_ n2_; (try clear hb); (try clear hb2); (try clear hk); (try clear hi); have hnb39 := NB180_181.out; have hnc39 := NB181_180.out; have hcz40_0 : w38.cell? ⟨gb180, 0, none⟩ = some (.int .i64 x181000_3) := (blk_cell BK180.out 0).trans rfl; have hcz40_1 : w38.cell? ⟨gb180, 1, none⟩ = some (.int .i64 x181001_3) := (blk_cell BK180.out 1).trans rfl; have hcz40_2 : w38.cell? ⟨gb180, 2, none⟩ = some (.int .i64 x181002_3) := (blk_cell BK180.out 2).trans rfl; have hfz40_0 := blk_frozen BK180.out 0; have hfz40_1 := blk_frozen BK180.out 1; have hfz40_2 := blk_frozen BK180.out 2))
                        refine bodyPost_ret (results_ct rfl _ _ gb180 24 #[.int .i64 0, .int .i64 0, .int .i64 0] (0, 0) _ rfl (by (with_reducible repeat (first | refine blk_drewN ?_ _ | refine blk_drew ?_ | refine blk_alloc ?_ _)); refine blk_put (cs := #[.int .i64 0, .int .i64 0, .int .i64 x181002_3]) ?_ 2 _ rfl; (with_reducible repeat (first | refine blk_drewN ?_ _ | refine blk_drew ?_ | refine blk_alloc ?_ _)); refine blk_put (cs := #[.int .i64 0, .int .i64 x181001_3, .int .i64 x181002_3]) ?_ 1 _ rfl; (with_reducible repeat (first | refine blk_drewN ?_ _ | refine blk_drew ?_ | refine blk_alloc ?_ _)); refine blk_put (cs := #[.int .i64 x181000_3, .int .i64 x181001_3, .int .i64 x181002_3]) ?_ 0 _ rfl; (with_reducible repeat (first | refine blk_drewN ?_ _ | refine blk_drew ?_ | refine blk_alloc ?_ _)); exact BK180.out) Try.underlying24 rfl (by kernel_rfl)) rfl ?_
                        exact ⟨by first | rfl | (rw [bne_nil_eq]; rfl) | (simp [bne_nil_eq]; done) | (simp [errW_none, errW_some] <;> rfl) | (simp [*, errW_none, errW_some] <;> rfl), by repeat (first | (with_reducible first | exact HB.out | apply below_alloc | apply pw_below_drewN | apply below_drew1 | refine below_set ?_ GE180.out | refine below_set ?_ GE181.out) | exact HB.out | exact Below.refl _ _)⟩
                    · rw [if_neg c28] at H
                      exact absurd H (by simp)
                  · rw [if_neg c27] at H
                    have c27b0 : decide (x6_3 < (l0.length : Int)) = false := decide_eq_false c27
                    clear c27
                    replace H := Option.bind_eq_some_iff.mp H
                    obtain ⟨t185, A410, H⟩ := H
                    replace H : (if t185 = true then (some (x182000_1, x182001_3, x182002_3, 0)) else (some (0, 0, 0, 6))) = some (r1, r2, r3, r4) := H
                    have A41 := Aside0.mk A410
                    clear A410
                    by_cases c42 : t185 = true
                    · subst c42
                      have H1 : (some (x182000_1, x182001_3, x182002_3, 0)) = some (r1, r2, r3, r4) := by rw [if_pos rfl] at H; exact H
                      clear H
                      have H := H1
                      clear H1
                      simp only [Option.some.injEq, Prod.mk.injEq] at H
                      obtain ⟨rfl, rfl, rfl, rfl⟩ := H
                      have hnb43 := NB181_180.out
                      have hnc43 := NB180_181.out
                      have hcz44_0 : wr.cell? ⟨gb181, 0, none⟩ = some (.int .i64 x182000_1) := (blk_cell BK181.out 0).trans rfl
                      have hcz44_1 : wr.cell? ⟨gb181, 1, none⟩ = some (.int .i64 x182001_3) := (blk_cell BK181.out 1).trans rfl
                      have hcz44_2 : wr.cell? ⟨gb181, 2, none⟩ = some (.int .i64 x182002_3) := (blk_cell BK181.out 2).trans rfl
                      have hfz44_0 := blk_frozen BK181.out 0
                      have hfz44_1 := blk_frozen BK181.out 1
                      have hfz44_2 := blk_frozen BK181.out 2
                      go_wp2_with (first | ((with_reducible refine gate_callee (f := 25) rfl ?_); refine goesL_ (some 60) rfl rfl Try.func25 (by kernel_rfl) rfl #[.agg #[.int .i64 x182000_1, .int .i64 x182001_3, .int .i64 x182002_3]] rfl (by (try simp only [List.map_toArray, List.map_cons, List.map_nil]); first | done | rfl | (simp only [List.length_drop, List.length_take]; rfl)) ?_; (with_reducible refine (camshaftref04_Right.calls k3 x182000_1 x182001_3 x182002_3 true _ A41.out).mono ?_); rintro e w45 ⟨rfl, hb⟩; refine ⟨_, rfl, ?_⟩; have n0_ := Aside0.mk (blk_below (g := gb180) (o := .cells #[.int .i64 x181000_3, .int .i64 x181001_3, .int .i64 x181002_3] 24 (0, 0)) (by (with_reducible repeat (first | refine blk_drewN ?_ _ | refine blk_drew ?_ | refine blk_alloc ?_ _)); exact BK180.out) hb); have n1_ := Aside0.mk (blk_below (g := gb181) (o := .cells #[.int .i64 x182000_1, .int .i64 x182001_3, .int .i64 x182002_3] 24 (0, 0)) (by (with_reducible repeat (first | refine blk_drewN ?_ _ | refine blk_drew ?_ | refine blk_alloc ?_ _)); exact BK181.out) hb); have n2_ := Aside0.mk (below_step (by repeat (first | (with_reducible first | exact HB.out | apply below_alloc | apply pw_below_drewN | apply below_drew1 | refine below_set ?_ GE180.out | refine below_set ?_ GE181.out) | exact HB.out)) hb); clear BK180; clear BK181; clear HB; have BK180 := n0_; have BK181 := n1_; have HB := n2_; clear n0_ n1_ n2_; (try clear hb); (try clear hb2); (try clear hk); (try clear hi); have hcz46_0 : w45.cell? ⟨gb181, 0, none⟩ = some (.int .i64 x182000_1) := (blk_cell BK181.out 0).trans rfl; have hcz46_1 : w45.cell? ⟨gb181, 1, none⟩ = some (.int .i64 x182001_3) := (blk_cell BK181.out 1).trans rfl; have hcz46_2 : w45.cell? ⟨gb181, 2, none⟩ = some (.int .i64 x182002_3) := (blk_cell BK181.out 2).trans rfl; have hfz46_0 := blk_frozen BK181.out 0; have hfz46_1 := blk_frozen BK181.out 1; have hfz46_2 := blk_frozen BK181.out 2; have hcz47_0 : w45.cell? ⟨gb180, 0, none⟩ = some (.int .i64 x181000_3) := (blk_cell BK180.out 0).trans rfl; have hcz47_1 : w45.cell? ⟨gb180, 1, none⟩ = some (.int .i64 x181001_3) := (blk_cell BK180.out 1).trans rfl; have hcz47_2 : w45.cell? ⟨gb180, 2, none⟩ = some (.int .i64 x181002_3) := (blk_cell BK180.out 2).trans rfl; have hfz47_0 := blk_frozen BK180.out 0; have hfz47_1 := blk_frozen BK180.out 1; have hfz47_2 := blk_frozen BK180.out 2))
                      refine bodyPost_ret (results_ct rfl _ _ gb180 24 #[.int .i64 x182000_1, .int .i64 x182001_3, .int .i64 x182002_3] (0, 0) _ rfl (by (with_reducible repeat (first | refine blk_drewN ?_ _ | refine blk_drew ?_ | refine blk_alloc ?_ _)); refine blk_put (cs := #[.int .i64 x182000_1, .int .i64 x182001_3, .int .i64 x181002_3]) ?_ 2 _ rfl; (with_reducible repeat (first | refine blk_drewN ?_ _ | refine blk_drew ?_ | refine blk_alloc ?_ _)); refine blk_put (cs := #[.int .i64 x182000_1, .int .i64 x181001_3, .int .i64 x181002_3]) ?_ 1 _ rfl; (with_reducible repeat (first | refine blk_drewN ?_ _ | refine blk_drew ?_ | refine blk_alloc ?_ _)); refine blk_put (cs := #[.int .i64 x181000_3, .int .i64 x181001_3, .int .i64 x181002_3]) ?_ 0 _ rfl; (with_reducible repeat (first | refine blk_drewN ?_ _ | refine blk_drew ?_ | refine blk_alloc ?_ _)); exact BK180.out) Try.underlying24 rfl (by kernel_rfl)) rfl ?_
                      exact ⟨by first | rfl | (rw [bne_nil_eq]; rfl) | (simp [bne_nil_eq]; done) | (simp [errW_none, errW_some] <;> rfl) | (simp [*, errW_none, errW_some] <;> rfl), by repeat (first | (with_reducible first | exact HB.out | apply below_alloc | apply pw_below_drewN | apply below_drew1 | refine below_set ?_ GE180.out | refine below_set ?_ GE181.out) | exact HB.out | exact Below.refl _ _)⟩
                    · replace c42 := Bool.eq_false_iff.mpr c42
                      subst c42
                      have H1 : (some (0, 0, 0, 6)) = some (r1, r2, r3, r4) := by rw [if_neg (show ¬ (false = true) by decide)] at H; exact H
                      clear H
                      have H := H1
                      clear H1
                      simp only [Option.some.injEq, Prod.mk.injEq] at H
                      obtain ⟨rfl, rfl, rfl, rfl⟩ := H
                      have hnb48 := NB181_180.out
                      have hnc48 := NB180_181.out
                      have hcz49_0 : wr.cell? ⟨gb181, 0, none⟩ = some (.int .i64 x182000_1) := (blk_cell BK181.out 0).trans rfl
                      have hcz49_1 : wr.cell? ⟨gb181, 1, none⟩ = some (.int .i64 x182001_3) := (blk_cell BK181.out 1).trans rfl
                      have hcz49_2 : wr.cell? ⟨gb181, 2, none⟩ = some (.int .i64 x182002_3) := (blk_cell BK181.out 2).trans rfl
                      have hfz49_0 := blk_frozen BK181.out 0
                      have hfz49_1 := blk_frozen BK181.out 1
                      have hfz49_2 := blk_frozen BK181.out 2
                      go_wp2_with (first | ((with_reducible refine gate_callee (f := 25) rfl ?_); refine goesL_ (some 60) rfl rfl Try.func25 (by kernel_rfl) rfl #[.agg #[.int .i64 x182000_1, .int .i64 x182001_3, .int .i64 x182002_3]] rfl (by (try simp only [List.map_toArray, List.map_cons, List.map_nil]); first | done | rfl | (simp only [List.length_drop, List.length_take]; rfl)) ?_; (with_reducible refine (camshaftref04_Right.calls k3 x182000_1 x182001_3 x182002_3 false _ A41.out).mono ?_); rintro e w50 ⟨rfl, hb⟩; refine ⟨_, rfl, ?_⟩; have n0_ := Aside0.mk (blk_below (g := gb180) (o := .cells #[.int .i64 x181000_3, .int .i64 x181001_3, .int .i64 x181002_3] 24 (0, 0)) (by (with_reducible repeat (first | refine blk_drewN ?_ _ | refine blk_drew ?_ | refine blk_alloc ?_ _)); exact BK180.out) hb); have n1_ := Aside0.mk (blk_below (g := gb181) (o := .cells #[.int .i64 x182000_1, .int .i64 x182001_3, .int .i64 x182002_3] 24 (0, 0)) (by (with_reducible repeat (first | refine blk_drewN ?_ _ | refine blk_drew ?_ | refine blk_alloc ?_ _)); exact BK181.out) hb); have n2_ := Aside0.mk (below_step (by repeat (first | (with_reducible first | exact HB.out | apply below_alloc | apply pw_below_drewN | apply below_drew1 | refine below_set ?_ GE180.out | refine below_set ?_ GE181.out) | exact HB.out)) hb); clear BK180; clear BK181; clear HB; have BK180 := n0_; have BK181 := n1_; have HB := n2_; clear n0_ n1_ n2_; (try clear hb); (try clear hb2); (try clear hk); (try clear hi); have hcz51_0 : w50.cell? ⟨gb180, 0, none⟩ = some (.int .i64 x181000_3) := (blk_cell BK180.out 0).trans rfl; have hcz51_1 : w50.cell? ⟨gb180, 1, none⟩ = some (.int .i64 x181001_3) := (blk_cell BK180.out 1).trans rfl; have hcz51_2 : w50.cell? ⟨gb180, 2, none⟩ = some (.int .i64 x181002_3) := (blk_cell BK180.out 2).trans rfl; have hfz51_0 := blk_frozen BK180.out 0; have hfz51_1 := blk_frozen BK180.out 1; have hfz51_2 := blk_frozen BK180.out 2))
                      refine bodyPost_ret (results_ct rfl _ _ gb180 24 #[.int .i64 0, .int .i64 0, .int .i64 0] (0, 0) _ rfl (by (with_reducible repeat (first | refine blk_drewN ?_ _ | refine blk_drew ?_ | refine blk_alloc ?_ _)); refine blk_put (cs := #[.int .i64 0, .int .i64 0, .int .i64 x181002_3]) ?_ 2 _ rfl; (with_reducible repeat (first | refine blk_drewN ?_ _ | refine blk_drew ?_ | refine blk_alloc ?_ _)); refine blk_put (cs := #[.int .i64 0, .int .i64 x181001_3, .int .i64 x181002_3]) ?_ 1 _ rfl; (with_reducible repeat (first | refine blk_drewN ?_ _ | refine blk_drew ?_ | refine blk_alloc ?_ _)); refine blk_put (cs := #[.int .i64 x181000_3, .int .i64 x181001_3, .int .i64 x181002_3]) ?_ 0 _ rfl; (with_reducible repeat (first | refine blk_drewN ?_ _ | refine blk_drew ?_ | refine blk_alloc ?_ _)); exact BK180.out) Try.underlying24 rfl (by kernel_rfl)) rfl ?_
                      exact ⟨by first | rfl | (rw [bne_nil_eq]; rfl) | (simp [bne_nil_eq]; done) | (simp [errW_none, errW_some] <;> rfl) | (simp [*, errW_none, errW_some] <;> rfl), by repeat (first | (with_reducible first | exact HB.out | apply below_alloc | apply pw_below_drewN | apply below_drew1 | refine below_set ?_ GE180.out | refine below_set ?_ GE181.out) | exact HB.out | exact Below.refl _ _)⟩

end Go.Proofs.Ytldbochclabmjaa.P
