-- Written by a program of this session (wip/tools: patched print) for this claim. Not trusted: Lean checks it.
import Derived.Test.YtldbochclabmjaaPx0
import Derived.Test.YtldbochclabmjaaPx1
namespace Go.Proofs.Ytldbochclabmjaa.P
open Go.RowKit Go.Proofs.Ytldbochclabmjaa.C Go.Proofs.YtldbochclabmjaaW.PrintWords Go.Proofs.YtldbochclabmjaaW.PrintLast Go.Proofs.YtldbochclabmjaaW.PrintMore
attribute [local go_sem] max2_int min2_int max_two min_two max_three min_three max_four min_four   -- for this text's walks alone
set_option linter.unusedVariables false
set_option linter.unusedSimpArgs false

attribute [local go_sem high] eqA24
/-! ### text_Show: function 13 -/
def text_Show.l0 : Nat → ByteArray → List (S24) → Int → Int → Option (ByteArray)
  | 0, _, _, _, _ => none
  | k + 1, x3, x10, x11, x12 => if x12 < x11 then (if 0 ≤ x12 then (if x12 < (x10.length : Int) then ((text_Line.f ((rd_T24 x10 x12).f0) ((rd_T24 x10 x12).f1) ((rd_T24 x10 x12).f2)).bind fun t103 => (if t103.toList = ([] : List UInt8) then (some (⟨#[]⟩ : ByteArray)) else (if x3.size + t103.size ≤ 9223372036854775807 then (text_Show.l0 k (x3 ++ t103) x10 x11 (wrap64 (x12 + 1))) else (none)))) else (none)) else (none)) else (some x3)
def text_Show.f (k : Nat) (l0 : List (S24)) : Option (ByteArray) := if (l0.length : Int) > 200 then (some (⟨#[]⟩ : ByteArray)) else (text_Show.l0 k (⟨#[]⟩ : ByteArray) l0 (l0.length : Int) 0)
theorem text_Show.mono_l : ∀ k, (∀ y0 y1 y2 y3, LeO (text_Show.l0 k y0 y1 y2 y3) (text_Show.l0 (k + 1) y0 y1 y2 y3))
  | 0 => fun _ _ _ _ r h => by simp [text_Show.l0] at h
  | k + 1 => by
    have ih0 := text_Show.mono_l k
    · intro y0 y1 y2 y3
      unfold text_Show.l0
      repeat' first
      | (with_reducible exact ih0 _ _ _ _)
      | (with_reducible exact LeO.refl _)
      | (with_reducible exact LeO.none _)
      | (with_reducible refine LeO.ite ?_ ?_)
      | (with_reducible refine LeO.bind ?_ (fun _ => ?_))
      | exact ih0 _ _ _ _
      | exact LeO.none _
      | refine LeO.ite ?_ ?_
      | refine LeO.bind ?_ (fun _ => ?_)
theorem text_Show.mono : ∀ a0 k, LeO (text_Show.f k a0) (text_Show.f (k + 1) a0) := by
  intro a0 k
  have ih0 := text_Show.mono_l k
  unfold text_Show.f
  repeat' first
      | (with_reducible exact ih0 _ _ _ _)
      | (with_reducible exact LeO.refl _)
      | (with_reducible exact LeO.none _)
      | (with_reducible refine LeO.ite ?_ ?_)
      | (with_reducible refine LeO.bind ?_ (fun _ => ?_))
      | exact ih0 _ _ _ _
      | exact LeO.none _
      | refine LeO.ite ?_ ?_
      | refine LeO.bind ?_ (fun _ => ?_)
set_option maxHeartbeats 8000000 in
set_option maxRecDepth 100000 in
theorem text_Show.calls (k : Nat) (A0 : Option Addr) (c0 : Nat) (l0 : List (S24)) (r : ByteArray) (w : World) (hr0 : Kd.C k24 w A0 l0.length l0) (hc0 : l0.length ≤ c0) (h : text_Show.f k l0 = some r) :
    Calls Try.prog 13 #[.slice A0 l0.length c0] w fun e w' => e = .returned (.string r) ∧ Below w.heap.size w w' := by
  have hu24 := Try.underlying24
  have HR0 := Aside0.mk hr0
  have HC0 := Aside0.mk hc0
  clear hr0 hc0
  have HB := Aside0.mk (Below.refl w.heap.size w)
  have H : (if (l0.length : Int) > 200 then (some (⟨#[]⟩ : ByteArray)) else (text_Show.l0 k (⟨#[]⟩ : ByteArray) l0 (l0.length : Int) 0)) = some r := h
  clear h
  by_cases c2 : (l0.length : Int) > 200
  · rw [if_pos c2] at H
    have c2b0 : decide (200 < (l0.length : Int)) = true := decide_eq_true c2
    have c2b1 : decide (200 < l0.length) = true := decide_eq_true (by omega)
    clear c2
    obtain rfl := Option.some.inj H
    go_enter Try.func13, Try.ntmps13
    go_wp2
    go_ret
    exact ⟨by first | rfl | (rw [bne_nil_eq]; rfl) | (simp [bne_nil_eq]; done) | (simp [errW_none, errW_some] <;> rfl) | (simp [*, errW_none, errW_some] <;> rfl), by repeat (first | (with_reducible first | exact HB.out | apply below_alloc | apply pw_below_drewN | apply below_drew1) | exact HB.out | exact Below.refl _ _)⟩
  · rw [if_neg c2] at H
    have c2b0 : decide (200 < (l0.length : Int)) = false := decide_eq_false c2
    have c2b1 : decide (200 < l0.length) = false := decide_eq_false (by omega)
    clear c2
    have H' := Aside0.mk H
    clear H
    go_enter Try.func13, Try.ntmps13
    go_wp2
    go_loopg [3, 12] k (fun kq v3 v12 w' => ∃ (x3_1 : ByteArray) (x12_1 : Int), v3 = .string x3_1 ∧ v12 = .int .i64 x12_1 ∧ Aside0 (text_Show.l0 kq x3_1 l0 (l0.length : Int) x12_1 = some r) ∧ Aside0 (kq ≤ k) ∧ Aside0 (Below w.heap.size w w'))
    case atStart => exact ⟨((⟨#[]⟩ : ByteArray)), (0), (by first | rfl | (simp; done) | (simp [*]; done)), (by first | rfl | (simp; done) | (simp [*]; done)), H', ⟨Nat.le_refl _⟩, ⟨by repeat (first | (with_reducible first | exact HB.out | apply below_alloc | apply pw_below_drewN | apply below_drew1) | exact HB.out)⟩⟩
    case round =>
      clear H'
      try clear c1
      try clear c2
      try clear c2b0
      try clear c2b1
      try clear p2
      obtain ⟨x3_1, x12_1, rfl, rfl, HA, HK1, HB⟩ := hrel
      cases gk with
      | zero => exact absurd HA.out (by simp [text_Show.l0])
      | succ k1 =>
        have H := HA.out
        clear HA
        simp only [text_Show.l0] at H
        by_cases c3 : x12_1 < (l0.length : Int)
        · rw [if_pos c3] at H
          have c3b0 : decide (x12_1 < (l0.length : Int)) = true := decide_eq_true c3
          clear c3
          by_cases c4 : 0 ≤ x12_1
          · rw [if_pos c4] at H
            have c4b0 : decide (0 ≤ x12_1) = true := decide_eq_true c4
            clear c4
            by_cases c5 : x12_1 < (l0.length : Int)
            · rw [if_pos c5] at H
              have c5b0 : decide (x12_1 < (l0.length : Int)) = true := decide_eq_true c5
              clear c5
              replace H := Option.bind_eq_some_iff.mp H
              obtain ⟨t103, A60, H⟩ := H
              replace H : (if t103.toList = ([] : List UInt8) then (some (⟨#[]⟩ : ByteArray)) else (if x3_1.size + t103.size ≤ 9223372036854775807 then (text_Show.l0 k1 (x3_1 ++ t103) l0 (l0.length : Int) (wrap64 (x12_1 + 1))) else (none))) = some r := H
              have A6 := Aside0.mk A60
              clear A60
              by_cases c7 : t103.toList = ([] : List UInt8)
              · rw [if_pos c7] at H
                have c7b0 : (t103.toList == ([] : List UInt8)) = true := beq_iff_eq.mpr c7
                have c7b1 : (t103.toList != ([] : List UInt8)) = false := bne_eq_false_iff_eq.mpr c7
                clear c7
                obtain rfl := Option.some.inj H
                have p101 : 0 ≤ (x12_1 : Int) := of_decide_eq_true (by first | (with_reducible assumption) | assumption)
                have q101 : x12_1 < (l0.length : Int) := of_decide_eq_true (by first | (with_reducible assumption) | assumption)
                obtain ⟨ad101, e101, hx101_0, hx101_1, hx101_2⟩ := at_T24 HR0.out x12_1 p101 q101
                cases e101
                replace hx101_0 := (HB.out.cell (World.block_lt_of_cell? w _ hx101_0)).trans hx101_0
                replace hx101_1 := (HB.out.cell (World.block_lt_of_cell? w _ hx101_1)).trans hx101_1
                replace hx101_2 := (HB.out.cell (World.block_lt_of_cell? w _ hx101_2)).trans hx101_2
                replace p101 := eq_true p101
                replace q101 := eq_true q101
                go_wp2_with (first | ((with_reducible refine gate_dst (N := 5) rfl ?_); refine box_event ?hg (N := 5) ?hd (cs := #[.int .i64 0, .int .i64 0, .int .i64 0]) (t := 24) ?hr ?_; (case hd => rfl); (case hg => rfl); (case hr => first | (go_simp; done) | (go_simp; rfl)); intro gb102 hg w8 hbox hb; have n0_ := Aside0.mk (below_step (by repeat (first | (with_reducible first | exact HB.out | apply below_alloc | apply pw_below_drewN | apply below_drew1) | exact HB.out)) hb); have n1_ := Aside0.mk (hbox); have n2_ := Aside0.mk ((by rw [hg]; exact (below_size (by repeat (first | (with_reducible first | exact HB.out | apply below_alloc | apply pw_below_drewN | apply below_drew1) | exact HB.out))) : w.heap.size ≤ gb102)); have n3_ := Aside0.mk ((by rw [hg]; exact (below_size (by repeat (first | (with_reducible first | exact HB.out | apply below_alloc | apply pw_below_drewN | apply below_drew1) | exact HB.out))) : w.heap.size ≤ gb102)); clear HB; have HB := n0_; have BK102 := n1_; have GW102 := n2_; have GE102 := n3_; clear n0_ n1_ n2_ n3_; clear hb hbox hg; have hcz9_0 : w8.cell? ⟨gb102, 0, none⟩ = some (.int .i64 0) := (blk_cell BK102.out 0).trans rfl; have hcz9_1 : w8.cell? ⟨gb102, 1, none⟩ = some (.int .i64 0) := (blk_cell BK102.out 1).trans rfl; have hcz9_2 : w8.cell? ⟨gb102, 2, none⟩ = some (.int .i64 0) := (blk_cell BK102.out 2).trans rfl; have hfz9_0 := blk_frozen BK102.out 0; have hfz9_1 := blk_frozen BK102.out 1; have hfz9_2 := blk_frozen BK102.out 2) | ((with_reducible refine gate_callee (f := 11) rfl ?_); refine goesL_ (some 17) rfl rfl Try.func11 (by kernel_rfl) rfl #[.agg #[.int .i64 ((rd_T24 l0 x12_1).f0), .int .i64 ((rd_T24 l0 x12_1).f1), .int .i64 ((rd_T24 l0 x12_1).f2)]] rfl (by (try simp only [List.map_toArray, List.map_cons, List.map_nil]); first | done | rfl | (simp only [List.length_drop, List.length_take]; rfl)) ?_; (with_reducible refine (text_Line.calls ((rd_T24 l0 x12_1).f0) ((rd_T24 l0 x12_1).f1) ((rd_T24 l0 x12_1).f2) t103 _ A6.out).mono ?_); rintro e w10 ⟨rfl, hb⟩; refine ⟨_, rfl, ?_⟩; have n0_ := Aside0.mk (blk_below (g := gb102) (o := .cells #[.int .i64 ((rd_T24 l0 x12_1).f0), .int .i64 ((rd_T24 l0 x12_1).f1), .int .i64 ((rd_T24 l0 x12_1).f2)] 24 (0, 0)) (by (with_reducible repeat (first | refine blk_drewN ?_ _ | refine blk_drew ?_ | refine blk_alloc ?_ _)); refine blk_put (cs := #[.int .i64 ((rd_T24 l0 x12_1).f0), .int .i64 ((rd_T24 l0 x12_1).f1), .int .i64 0]) ?_ 2 _ rfl; (with_reducible repeat (first | refine blk_drewN ?_ _ | refine blk_drew ?_ | refine blk_alloc ?_ _)); refine blk_put (cs := #[.int .i64 ((rd_T24 l0 x12_1).f0), .int .i64 0, .int .i64 0]) ?_ 1 _ rfl; (with_reducible repeat (first | refine blk_drewN ?_ _ | refine blk_drew ?_ | refine blk_alloc ?_ _)); refine blk_put (cs := #[.int .i64 0, .int .i64 0, .int .i64 0]) ?_ 0 _ rfl; (with_reducible repeat (first | refine blk_drewN ?_ _ | refine blk_drew ?_ | refine blk_alloc ?_ _)); exact BK102.out) hb); have n1_ := Aside0.mk (below_step (by repeat (first | (with_reducible first | exact HB.out | apply below_alloc | apply pw_below_drewN | apply below_drew1 | refine below_set ?_ GE102.out) | exact HB.out)) hb); clear BK102; clear HB; have BK102 := n0_; have HB := n1_; clear n0_ n1_; (try clear hb); (try clear hb2); (try clear hk); (try clear hi)))
                go_ret
                exact ⟨by first | rfl | (rw [bne_nil_eq]; rfl) | (simp [bne_nil_eq]; done) | (simp [errW_none, errW_some] <;> rfl) | (simp [*, errW_none, errW_some] <;> rfl), by repeat (first | (with_reducible first | exact HB.out | apply below_alloc | apply pw_below_drewN | apply below_drew1 | refine below_set ?_ GE102.out) | exact HB.out | exact Below.refl _ _)⟩
              · rw [if_neg c7] at H
                have c7b0 : (t103.toList == ([] : List UInt8)) = false := beq_eq_false_iff_ne.mpr c7
                have c7b1 : (t103.toList != ([] : List UInt8)) = true := bne_iff_ne.mpr c7
                by_cases c11 : x3_1.size + t103.size ≤ 9223372036854775807
                · rw [if_pos c11] at H
                  have c11b0 := eq_true c11
                  have c11b1 : decide (x3_1.size + t103.size ≤ 9223372036854775807) = true := decide_eq_true c11
                  try have c11b2 : (9223372036854775807 < x3_1.size + t103.size) = False := eq_false (Nat.not_lt.2 c11)
                  have H' := Aside0.mk H
                  clear H
                  have p101 : 0 ≤ (x12_1 : Int) := of_decide_eq_true (by first | (with_reducible assumption) | assumption)
                  have q101 : x12_1 < (l0.length : Int) := of_decide_eq_true (by first | (with_reducible assumption) | assumption)
                  obtain ⟨ad101, e101, hx101_0, hx101_1, hx101_2⟩ := at_T24 HR0.out x12_1 p101 q101
                  cases e101
                  replace hx101_0 := (HB.out.cell (World.block_lt_of_cell? w _ hx101_0)).trans hx101_0
                  replace hx101_1 := (HB.out.cell (World.block_lt_of_cell? w _ hx101_1)).trans hx101_1
                  replace hx101_2 := (HB.out.cell (World.block_lt_of_cell? w _ hx101_2)).trans hx101_2
                  replace p101 := eq_true p101
                  replace q101 := eq_true q101
                  go_wp2_with (first | ((with_reducible refine gate_dst (N := 5) rfl ?_); refine box_event ?hg (N := 5) ?hd (cs := #[.int .i64 0, .int .i64 0, .int .i64 0]) (t := 24) ?hr ?_; (case hd => rfl); (case hg => rfl); (case hr => first | (go_simp; done) | (go_simp; rfl)); intro gb102 hg w12 hbox hb; have n0_ := Aside0.mk (below_step (by repeat (first | (with_reducible first | exact HB.out | apply below_alloc | apply pw_below_drewN | apply below_drew1) | exact HB.out)) hb); have n1_ := Aside0.mk (hbox); have n2_ := Aside0.mk ((by rw [hg]; exact (below_size (by repeat (first | (with_reducible first | exact HB.out | apply below_alloc | apply pw_below_drewN | apply below_drew1) | exact HB.out))) : w.heap.size ≤ gb102)); have n3_ := Aside0.mk ((by rw [hg]; exact (below_size (by repeat (first | (with_reducible first | exact HB.out | apply below_alloc | apply pw_below_drewN | apply below_drew1) | exact HB.out))) : w.heap.size ≤ gb102)); clear HB; have HB := n0_; have BK102 := n1_; have GW102 := n2_; have GE102 := n3_; clear n0_ n1_ n2_ n3_; clear hb hbox hg; have hcz13_0 : w12.cell? ⟨gb102, 0, none⟩ = some (.int .i64 0) := (blk_cell BK102.out 0).trans rfl; have hcz13_1 : w12.cell? ⟨gb102, 1, none⟩ = some (.int .i64 0) := (blk_cell BK102.out 1).trans rfl; have hcz13_2 : w12.cell? ⟨gb102, 2, none⟩ = some (.int .i64 0) := (blk_cell BK102.out 2).trans rfl; have hfz13_0 := blk_frozen BK102.out 0; have hfz13_1 := blk_frozen BK102.out 1; have hfz13_2 := blk_frozen BK102.out 2) | ((with_reducible refine gate_callee (f := 11) rfl ?_); refine goesL_ (some 17) rfl rfl Try.func11 (by kernel_rfl) rfl #[.agg #[.int .i64 ((rd_T24 l0 x12_1).f0), .int .i64 ((rd_T24 l0 x12_1).f1), .int .i64 ((rd_T24 l0 x12_1).f2)]] rfl (by (try simp only [List.map_toArray, List.map_cons, List.map_nil]); first | done | rfl | (simp only [List.length_drop, List.length_take]; rfl)) ?_; (with_reducible refine (text_Line.calls ((rd_T24 l0 x12_1).f0) ((rd_T24 l0 x12_1).f1) ((rd_T24 l0 x12_1).f2) t103 _ A6.out).mono ?_); rintro e w14 ⟨rfl, hb⟩; refine ⟨_, rfl, ?_⟩; have n0_ := Aside0.mk (blk_below (g := gb102) (o := .cells #[.int .i64 ((rd_T24 l0 x12_1).f0), .int .i64 ((rd_T24 l0 x12_1).f1), .int .i64 ((rd_T24 l0 x12_1).f2)] 24 (0, 0)) (by (with_reducible repeat (first | refine blk_drewN ?_ _ | refine blk_drew ?_ | refine blk_alloc ?_ _)); refine blk_put (cs := #[.int .i64 ((rd_T24 l0 x12_1).f0), .int .i64 ((rd_T24 l0 x12_1).f1), .int .i64 0]) ?_ 2 _ rfl; (with_reducible repeat (first | refine blk_drewN ?_ _ | refine blk_drew ?_ | refine blk_alloc ?_ _)); refine blk_put (cs := #[.int .i64 ((rd_T24 l0 x12_1).f0), .int .i64 0, .int .i64 0]) ?_ 1 _ rfl; (with_reducible repeat (first | refine blk_drewN ?_ _ | refine blk_drew ?_ | refine blk_alloc ?_ _)); refine blk_put (cs := #[.int .i64 0, .int .i64 0, .int .i64 0]) ?_ 0 _ rfl; (with_reducible repeat (first | refine blk_drewN ?_ _ | refine blk_drew ?_ | refine blk_alloc ?_ _)); exact BK102.out) hb); have n1_ := Aside0.mk (below_step (by repeat (first | (with_reducible first | exact HB.out | apply below_alloc | apply pw_below_drewN | apply below_drew1 | refine below_set ?_ GE102.out) | exact HB.out)) hb); clear BK102; clear HB; have BK102 := n0_; have HB := n1_; clear n0_ n1_; (try clear hb); (try clear hb2); (try clear hk); (try clear hi)))
                  go_roundg k1
                  case measure => have := HK1.out; omega
                  case rel => exact ⟨(x3_1 ++ t103), (wrap64 (x12_1 + 1)), (by first | rfl | (simp; done) | (simp [*]; done)), (by first | rfl | (simp; done) | (simp [*]; done)), H', ⟨by have := HK1.out; omega⟩, ⟨by repeat (first | (with_reducible first | exact HB.out | apply below_alloc | apply pw_below_drewN | apply below_drew1 | refine below_set ?_ GE102.out) | exact HB.out | exact Below.refl _ _)⟩⟩
                · rw [if_neg c11] at H
                  exact absurd H (by simp)
            · rw [if_neg c5] at H
              exact absurd H (by simp)
          · rw [if_neg c4] at H
            exact absurd H (by simp)
        · rw [if_neg c3] at H
          have c3b0 : decide (x12_1 < (l0.length : Int)) = false := decide_eq_false c3
          clear c3
          obtain rfl := Option.some.inj H
          go_wp2
          go_ret
          exact ⟨by first | rfl | (rw [bne_nil_eq]; rfl) | (simp [bne_nil_eq]; done) | (simp [errW_none, errW_some] <;> rfl) | (simp [*, errW_none, errW_some] <;> rfl), by repeat (first | (with_reducible first | exact HB.out | apply below_alloc | apply pw_below_drewN | apply below_drew1) | exact HB.out | exact Below.refl _ _)⟩

/-! ### camshaftref04_Same: function 19 -/
def camshaftref04_Same.l0 : Nat → List (S24) → List (S24) → Int → Option (Bool)
  | 0, _, _, _ => none
  | k + 1, x0, x1, x5 => if x5 < (x0.length : Int) then (if 0 ≤ x5 then (if x5 < (x1.length : Int) then (if (!(((rd_T24 x0 x5).f0) == ((rd_T24 x1 x5).f0)) || (!(((rd_T24 x0 x5).f1) == ((rd_T24 x1 x5).f1)) || (!(((rd_T24 x0 x5).f2) == ((rd_T24 x1 x5).f2))))) = true then (some false) else (camshaftref04_Same.l0 k x0 x1 (wrap64 (x5 + 1)))) else (none)) else (none)) else (some true)
def camshaftref04_Same.f (k : Nat) (l0 : List (S24)) (l1 : List (S24)) : Option (Bool) := if (l0.length : Int) = (l1.length : Int) then (camshaftref04_Same.l0 k l0 l1 0) else (some false)
theorem camshaftref04_Same.mono_l : ∀ k, (∀ y0 y1 y2, LeO (camshaftref04_Same.l0 k y0 y1 y2) (camshaftref04_Same.l0 (k + 1) y0 y1 y2))
  | 0 => fun _ _ _ r h => by simp [camshaftref04_Same.l0] at h
  | k + 1 => by
    have ih0 := camshaftref04_Same.mono_l k
    · intro y0 y1 y2
      unfold camshaftref04_Same.l0
      repeat' first
      | (with_reducible exact ih0 _ _ _)
      | (with_reducible exact LeO.refl _)
      | (with_reducible exact LeO.none _)
      | (with_reducible refine LeO.ite ?_ ?_)
      | (with_reducible refine LeO.bind ?_ (fun _ => ?_))
      | exact ih0 _ _ _
      | exact LeO.none _
      | refine LeO.ite ?_ ?_
      | refine LeO.bind ?_ (fun _ => ?_)
theorem camshaftref04_Same.mono : ∀ a0 a1 k, LeO (camshaftref04_Same.f k a0 a1) (camshaftref04_Same.f (k + 1) a0 a1) := by
  intro a0 a1 k
  have ih0 := camshaftref04_Same.mono_l k
  unfold camshaftref04_Same.f
  repeat' first
      | (with_reducible exact ih0 _ _ _)
      | (with_reducible exact LeO.refl _)
      | (with_reducible exact LeO.none _)
      | (with_reducible refine LeO.ite ?_ ?_)
      | (with_reducible refine LeO.bind ?_ (fun _ => ?_))
      | exact ih0 _ _ _
      | exact LeO.none _
      | refine LeO.ite ?_ ?_
      | refine LeO.bind ?_ (fun _ => ?_)
set_option maxHeartbeats 8000000 in
set_option maxRecDepth 100000 in
theorem camshaftref04_Same.calls (k : Nat) (A0 : Option Addr) (c0 : Nat) (l0 : List (S24)) (A1 : Option Addr) (c1 : Nat) (l1 : List (S24)) (r : Bool) (w : World) (hr0 : Kd.C k24 w A0 l0.length l0) (hc0 : l0.length ≤ c0) (hr1 : Kd.C k24 w A1 l1.length l1) (hc1 : l1.length ≤ c1) (h : camshaftref04_Same.f k l0 l1 = some r) :
    Calls Try.prog 19 #[.slice A0 l0.length c0, .slice A1 l1.length c1] w fun e w' => e = .returned (.bool r) ∧ Drawn0 w w' := by
  have hu24 := Try.underlying24
  have HR0 := Aside0.mk hr0
  have HC0 := Aside0.mk hc0
  clear hr0 hc0
  have HR1 := Aside0.mk hr1
  have HC1 := Aside0.mk hc1
  clear hr1 hc1
  have H : (if (l0.length : Int) = (l1.length : Int) then (camshaftref04_Same.l0 k l0 l1 0) else (some false)) = some r := h
  clear h
  by_cases c3 : (l0.length : Int) = (l1.length : Int)
  · rw [if_pos c3] at H
    have c3b0 : ((l0.length : Int) == (l1.length : Int)) = true := beq_iff_eq.mpr c3
    have c3b1 : ((l0.length : Int) != (l1.length : Int)) = false := bne_eq_false_iff_eq.mpr c3
    have c3b2 : (l0.length == l1.length) = true := by first | simpa using c3 | (simp at c3 ⊢; omega)
    clear c3
    have H' := Aside0.mk H
    clear H
    go_enter Try.func19, Try.ntmps19
    go_wp2
    repeat (go_quiet (fail); try go_wp2)
    go_loopg [5] k (fun kq v5 w' => ∃ (x5_1 : Int), v5 = .int .i64 x5_1 ∧ Aside0 (camshaftref04_Same.l0 kq l0 l1 x5_1 = some r) ∧ Aside0 (kq ≤ k) ∧ Drawn0 w w')
    case atStart => exact ⟨(0), (by first | rfl | (simp; done) | (simp [*]; done)), H', ⟨Nat.le_refl _⟩, by repeat (first | exact Drawn0.refl _ | apply Drawn0.step)⟩
    case round =>
      clear H'
      try clear c1
      try clear p2
      try clear c3
      try clear c3b0
      try clear c3b1
      try clear c3b2
      obtain ⟨x5_1, rfl, HA, HK1, ⟨m1, rfl⟩⟩ := hrel
      cases gk with
      | zero => exact absurd HA.out (by simp [camshaftref04_Same.l0])
      | succ k1 =>
        have H := HA.out
        clear HA
        simp only [camshaftref04_Same.l0] at H
        by_cases c4 : x5_1 < (l0.length : Int)
        · rw [if_pos c4] at H
          have c4b0 : decide (x5_1 < (l0.length : Int)) = true := decide_eq_true c4
          clear c4
          by_cases c5 : 0 ≤ x5_1
          · rw [if_pos c5] at H
            have c5b0 : decide (0 ≤ x5_1) = true := decide_eq_true c5
            clear c5
            by_cases c6 : x5_1 < (l1.length : Int)
            · rw [if_pos c6] at H
              have c6b0 : decide (x5_1 < (l1.length : Int)) = true := decide_eq_true c6
              clear c6
              by_cases c7 : (!(((rd_T24 l0 x5_1).f0) == ((rd_T24 l1 x5_1).f0)) || (!(((rd_T24 l0 x5_1).f1) == ((rd_T24 l1 x5_1).f1)) || (!(((rd_T24 l0 x5_1).f2) == ((rd_T24 l1 x5_1).f2))))) = true
              · rw [if_pos c7] at H
                have c7b0 : (!(((rd_T24 l0 x5_1).f0) == ((rd_T24 l1 x5_1).f0)) || (!(((rd_T24 l0 x5_1).f1) == ((rd_T24 l1 x5_1).f1)) || (!(((rd_T24 l0 x5_1).f2) == ((rd_T24 l1 x5_1).f2))))) = true := c7
                clear c7
                obtain rfl := Option.some.inj H
                have p104 : 0 ≤ (x5_1 : Int) := of_decide_eq_true (by first | (with_reducible assumption) | assumption)
                have q104 : x5_1 < (l0.length : Int) := of_decide_eq_true (by first | (with_reducible assumption) | assumption)
                obtain ⟨ad104, e104, hx104_0, hx104_1, hx104_2⟩ := at_T24 HR0.out x5_1 p104 q104
                cases e104
                replace p104 := eq_true p104
                replace q104 := eq_true q104
                have p105 : 0 ≤ (x5_1 : Int) := of_decide_eq_true (by first | (with_reducible assumption) | assumption)
                have q105 : x5_1 < (l1.length : Int) := of_decide_eq_true (by first | (with_reducible assumption) | assumption)
                obtain ⟨ad105, e105, hx105_0, hx105_1, hx105_2⟩ := at_T24 HR1.out x5_1 p105 q105
                cases e105
                replace p105 := eq_true p105
                replace q105 := eq_true q105
                go_wp2
                repeat (go_quiet (fail); try go_wp2)
                go_ret
                exact ⟨by first | rfl | (simp; done) | (simp [*]; done), by repeat (first | exact Drawn0.refl _ | apply Drawn0.step)⟩
              · rw [if_neg c7] at H
                have c7b0 : (!(((rd_T24 l0 x5_1).f0) == ((rd_T24 l1 x5_1).f0)) || (!(((rd_T24 l0 x5_1).f1) == ((rd_T24 l1 x5_1).f1)) || (!(((rd_T24 l0 x5_1).f2) == ((rd_T24 l1 x5_1).f2))))) = false := by simpa using c7
                clear c7
                have H' := Aside0.mk H
                clear H
                have p104 : 0 ≤ (x5_1 : Int) := of_decide_eq_true (by first | (with_reducible assumption) | assumption)
                have q104 : x5_1 < (l0.length : Int) := of_decide_eq_true (by first | (with_reducible assumption) | assumption)
                obtain ⟨ad104, e104, hx104_0, hx104_1, hx104_2⟩ := at_T24 HR0.out x5_1 p104 q104
                cases e104
                replace p104 := eq_true p104
                replace q104 := eq_true q104
                have p105 : 0 ≤ (x5_1 : Int) := of_decide_eq_true (by first | (with_reducible assumption) | assumption)
                have q105 : x5_1 < (l1.length : Int) := of_decide_eq_true (by first | (with_reducible assumption) | assumption)
                obtain ⟨ad105, e105, hx105_0, hx105_1, hx105_2⟩ := at_T24 HR1.out x5_1 p105 q105
                cases e105
                replace p105 := eq_true p105
                replace q105 := eq_true q105
                go_wp2
                repeat (go_quiet (fail); try go_wp2)
                go_roundg k1
                case measure => have := HK1.out; omega
                case rel => exact ⟨(wrap64 (x5_1 + 1)), (by first | rfl | (simp; done) | (simp [*]; done)), H', ⟨by have := HK1.out; omega⟩, by repeat (first | exact Drawn0.refl _ | apply Drawn0.step)⟩
            · rw [if_neg c6] at H
              exact absurd H (by simp)
          · rw [if_neg c5] at H
            exact absurd H (by simp)
        · rw [if_neg c4] at H
          have c4b0 : decide (x5_1 < (l0.length : Int)) = false := decide_eq_false c4
          clear c4
          obtain rfl := Option.some.inj H
          go_wp2
          repeat (go_quiet (fail); try go_wp2)
          go_ret
          exact ⟨by first | rfl | (simp; done) | (simp [*]; done), by repeat (first | exact Drawn0.refl _ | apply Drawn0.step)⟩
  · rw [if_neg c3] at H
    have c3b0 : ((l0.length : Int) == (l1.length : Int)) = false := beq_eq_false_iff_ne.mpr c3
    have c3b1 : ((l0.length : Int) != (l1.length : Int)) = true := bne_iff_ne.mpr c3
    have c3b2 : (l0.length == l1.length) = false := by first | simpa using c3 | (simp at c3 ⊢; omega)
    obtain rfl := Option.some.inj H
    go_enter Try.func19, Try.ntmps19
    go_wp2
    repeat (go_quiet (fail); try go_wp2)
    go_ret
    exact ⟨by first | rfl | (simp; done) | (simp [*]; done), by repeat (first | exact Drawn0.refl _ | apply Drawn0.step)⟩

/-! ### camshaftlaw05_known: function 10 -/
def camshaftlaw05_known.f (k : Nat)  : Option (Bool) := (text_Show.f k (([(⟨1, (-5), 0⟩ : S24), (⟨17, 1, 2⟩ : S24), (⟨25, 0, 0⟩ : S24)] : List (S24)))).bind fun t109 => ((text_Parse.f (⟨#[80, 85, 83, 72, 32, 45, 53, 10, 69, 78, 68, 10]⟩ : ByteArray)).bind fun bt110 => ((text_Parse.f (⟨#[80, 85, 83, 72, 10]⟩ : ByteArray)).bind fun bt114 => ((text_Parse.f (⟨#[76, 79, 79, 80, 32, 48, 10]⟩ : ByteArray)).bind fun bt118 => ((text_Parse.f (⟨#[69, 78, 68]⟩ : ByteArray)).bind fun bt122 => ((text_Number.f (⟨#[45, 49, 50, 48]⟩ : ByteArray)).bind fun bt126 => ((text_Number.f (⟨#[45, 48]⟩ : ByteArray)).bind fun bt128 => (if t109.toList = ([80, 85, 83, 72, 32, 45, 53, 10, 71, 69, 84, 32, 49, 32, 50, 10, 69, 78, 68, 10] : List UInt8) then ((camshaftref04_Same.f k bt110.1 (([(⟨1, (-5), 0⟩ : S24), (⟨25, 0, 0⟩ : S24)] : List (S24)))).bind fun t133 => (if t133 = true then (if bt110.2 = 0 then (if bt114.2 = 3 then (if bt118.2 = 6 then (if bt122.2 = 3 then (if bt126.1 = (-120) then (if bt126.2 = 0 then (if bt128.2 = 3 then ((text_Line.f 3 0 0).bind fun t134 => (if t134.toList = ([68, 85, 80, 10] : List UInt8) then ((text_Line.f 0 0 0).bind fun t135 => (some (t135.toList == ([] : List UInt8)))) else (some false))) else (some false)) else (some false)) else (some false)) else (some false)) else (some false)) else (some false)) else (some false)) else (some false))) else (some false))))))))
theorem camshaftlaw05_known.mono : ∀ k, LeO (camshaftlaw05_known.f k ) (camshaftlaw05_known.f (k + 1) ) := by
  intro  k
  unfold camshaftlaw05_known.f
  repeat' first
      | (with_reducible exact camshaftref04_Same.mono _ _ _)
      | (with_reducible exact text_Show.mono _ _)
      | (with_reducible exact LeO.refl _)
      | (with_reducible exact LeO.none _)
      | (with_reducible refine LeO.ite ?_ ?_)
      | (with_reducible refine LeO.bind ?_ (fun _ => ?_))
      | exact camshaftref04_Same.mono _ _ _
      | exact text_Show.mono _ _
      | exact LeO.none _
      | refine LeO.ite ?_ ?_
      | refine LeO.bind ?_ (fun _ => ?_)
theorem camshaftlaw05_known.run : camshaftlaw05_known.f 60 = some true := by kernel_rfl
theorem camshaftlaw05_known.only (k : Nat) (r : Bool) (h : camshaftlaw05_known.f k = some r) : r = true := by
  have a := at_rounds camshaftlaw05_known.mono (Nat.le_max_left k 60) h
  have b := at_rounds camshaftlaw05_known.mono (Nat.le_max_right k 60) camshaftlaw05_known.run
  exact Option.some.inj (a.symm.trans b)
set_option maxHeartbeats 8000000 in
set_option maxRecDepth 100000 in
theorem camshaftlaw05_known.calls (k : Nat)  (r : Bool) (w : World) (h : camshaftlaw05_known.f k  = some r) :
    Calls Try.prog 10 #[] w fun e w' => e = .returned (.bool r) ∧ Below w.heap.size w w' := by
  have hu24 := Try.underlying24
  have HT := Aside0.mk (camshaftlaw05_known.only k r h)
  have HB := Aside0.mk (Below.refl w.heap.size w)
  have H : ((text_Show.f k (([(⟨1, (-5), 0⟩ : S24), (⟨17, 1, 2⟩ : S24), (⟨25, 0, 0⟩ : S24)] : List (S24)))).bind fun t109 => ((text_Parse.f (⟨#[80, 85, 83, 72, 32, 45, 53, 10, 69, 78, 68, 10]⟩ : ByteArray)).bind fun bt110 => ((text_Parse.f (⟨#[80, 85, 83, 72, 10]⟩ : ByteArray)).bind fun bt114 => ((text_Parse.f (⟨#[76, 79, 79, 80, 32, 48, 10]⟩ : ByteArray)).bind fun bt118 => ((text_Parse.f (⟨#[69, 78, 68]⟩ : ByteArray)).bind fun bt122 => ((text_Number.f (⟨#[45, 49, 50, 48]⟩ : ByteArray)).bind fun bt126 => ((text_Number.f (⟨#[45, 48]⟩ : ByteArray)).bind fun bt128 => (if t109.toList = ([80, 85, 83, 72, 32, 45, 53, 10, 71, 69, 84, 32, 49, 32, 50, 10, 69, 78, 68, 10] : List UInt8) then ((camshaftref04_Same.f k bt110.1 (([(⟨1, (-5), 0⟩ : S24), (⟨25, 0, 0⟩ : S24)] : List (S24)))).bind fun t133 => (if t133 = true then (if bt110.2 = 0 then (if bt114.2 = 3 then (if bt118.2 = 6 then (if bt122.2 = 3 then (if bt126.1 = (-120) then (if bt126.2 = 0 then (if bt128.2 = 3 then ((text_Line.f 3 0 0).bind fun t134 => (if t134.toList = ([68, 85, 80, 10] : List UInt8) then ((text_Line.f 0 0 0).bind fun t135 => (some (t135.toList == ([] : List UInt8)))) else (some false))) else (some false)) else (some false)) else (some false)) else (some false)) else (some false)) else (some false)) else (some false)) else (some false))) else (some false))))))))) = some r := h
  clear h
  obtain ⟨y106, hy106⟩ : ∃ y_ : List (S24), y_ = (([(⟨1, (-5), 0⟩ : S24), (⟨17, 1, 2⟩ : S24), (⟨25, 0, 0⟩ : S24)] : List (S24))) := ⟨_, rfl⟩
  replace H : ((text_Show.f k y106).bind fun t109 => ((text_Parse.f (⟨#[80, 85, 83, 72, 32, 45, 53, 10, 69, 78, 68, 10]⟩ : ByteArray)).bind fun bt110 => ((text_Parse.f (⟨#[80, 85, 83, 72, 10]⟩ : ByteArray)).bind fun bt114 => ((text_Parse.f (⟨#[76, 79, 79, 80, 32, 48, 10]⟩ : ByteArray)).bind fun bt118 => ((text_Parse.f (⟨#[69, 78, 68]⟩ : ByteArray)).bind fun bt122 => ((text_Number.f (⟨#[45, 49, 50, 48]⟩ : ByteArray)).bind fun bt126 => ((text_Number.f (⟨#[45, 48]⟩ : ByteArray)).bind fun bt128 => (if t109.toList = ([80, 85, 83, 72, 32, 45, 53, 10, 71, 69, 84, 32, 49, 32, 50, 10, 69, 78, 68, 10] : List UInt8) then ((camshaftref04_Same.f k bt110.1 (([(⟨1, (-5), 0⟩ : S24), (⟨25, 0, 0⟩ : S24)] : List (S24)))).bind fun t133 => (if t133 = true then (if bt110.2 = 0 then (if bt114.2 = 3 then (if bt118.2 = 6 then (if bt122.2 = 3 then (if bt126.1 = (-120) then (if bt126.2 = 0 then (if bt128.2 = 3 then ((text_Line.f 3 0 0).bind fun t134 => (if t134.toList = ([68, 85, 80, 10] : List UInt8) then ((text_Line.f 0 0 0).bind fun t135 => (some (t135.toList == ([] : List UInt8)))) else (some false))) else (some false)) else (some false)) else (some false)) else (some false)) else (some false)) else (some false)) else (some false)) else (some false))) else (some false))))))))) = some r := by first | (rw [hy106]; with_reducible exact H) | (have H2_ := (Option.bind_some _ _).symm.trans H; rw [hy106]; with_reducible exact H2_) | (have H2_ := (Option.bind_some _ _).symm.trans H; with_reducible exact H2_) | with_reducible exact H | (rw [hy106]; exact H) | exact H
  have Ny106 := Aside0.mk hy106
  clear hy106
  replace H := Option.bind_eq_some_iff.mp H
  obtain ⟨t109, A10, H⟩ := H
  replace H : ((text_Parse.f (⟨#[80, 85, 83, 72, 32, 45, 53, 10, 69, 78, 68, 10]⟩ : ByteArray)).bind fun bt110 => ((text_Parse.f (⟨#[80, 85, 83, 72, 10]⟩ : ByteArray)).bind fun bt114 => ((text_Parse.f (⟨#[76, 79, 79, 80, 32, 48, 10]⟩ : ByteArray)).bind fun bt118 => ((text_Parse.f (⟨#[69, 78, 68]⟩ : ByteArray)).bind fun bt122 => ((text_Number.f (⟨#[45, 49, 50, 48]⟩ : ByteArray)).bind fun bt126 => ((text_Number.f (⟨#[45, 48]⟩ : ByteArray)).bind fun bt128 => (if t109.toList = ([80, 85, 83, 72, 32, 45, 53, 10, 71, 69, 84, 32, 49, 32, 50, 10, 69, 78, 68, 10] : List UInt8) then ((camshaftref04_Same.f k bt110.1 (([(⟨1, (-5), 0⟩ : S24), (⟨25, 0, 0⟩ : S24)] : List (S24)))).bind fun t133 => (if t133 = true then (if bt110.2 = 0 then (if bt114.2 = 3 then (if bt118.2 = 6 then (if bt122.2 = 3 then (if bt126.1 = (-120) then (if bt126.2 = 0 then (if bt128.2 = 3 then ((text_Line.f 3 0 0).bind fun t134 => (if t134.toList = ([68, 85, 80, 10] : List UInt8) then ((text_Line.f 0 0 0).bind fun t135 => (some (t135.toList == ([] : List UInt8)))) else (some false))) else (some false)) else (some false)) else (some false)) else (some false)) else (some false)) else (some false)) else (some false)) else (some false))) else (some false)))))))) = some r := H
  have A1 := Aside0.mk A10
  clear A10
  replace H := Option.bind_eq_some_iff.mp H
  obtain ⟨⟨t110, t111⟩, A20, H⟩ := H
  replace H : ((text_Parse.f (⟨#[80, 85, 83, 72, 10]⟩ : ByteArray)).bind fun bt114 => ((text_Parse.f (⟨#[76, 79, 79, 80, 32, 48, 10]⟩ : ByteArray)).bind fun bt118 => ((text_Parse.f (⟨#[69, 78, 68]⟩ : ByteArray)).bind fun bt122 => ((text_Number.f (⟨#[45, 49, 50, 48]⟩ : ByteArray)).bind fun bt126 => ((text_Number.f (⟨#[45, 48]⟩ : ByteArray)).bind fun bt128 => (if t109.toList = ([80, 85, 83, 72, 32, 45, 53, 10, 71, 69, 84, 32, 49, 32, 50, 10, 69, 78, 68, 10] : List UInt8) then ((camshaftref04_Same.f k t110 (([(⟨1, (-5), 0⟩ : S24), (⟨25, 0, 0⟩ : S24)] : List (S24)))).bind fun t133 => (if t133 = true then (if t111 = 0 then (if bt114.2 = 3 then (if bt118.2 = 6 then (if bt122.2 = 3 then (if bt126.1 = (-120) then (if bt126.2 = 0 then (if bt128.2 = 3 then ((text_Line.f 3 0 0).bind fun t134 => (if t134.toList = ([68, 85, 80, 10] : List UInt8) then ((text_Line.f 0 0 0).bind fun t135 => (some (t135.toList == ([] : List UInt8)))) else (some false))) else (some false)) else (some false)) else (some false)) else (some false)) else (some false)) else (some false)) else (some false)) else (some false))) else (some false))))))) = some r := H
  have A2 := Aside0.mk A20
  clear A20
  replace H := Option.bind_eq_some_iff.mp H
  obtain ⟨⟨t114, t115⟩, A30, H⟩ := H
  replace H : ((text_Parse.f (⟨#[76, 79, 79, 80, 32, 48, 10]⟩ : ByteArray)).bind fun bt118 => ((text_Parse.f (⟨#[69, 78, 68]⟩ : ByteArray)).bind fun bt122 => ((text_Number.f (⟨#[45, 49, 50, 48]⟩ : ByteArray)).bind fun bt126 => ((text_Number.f (⟨#[45, 48]⟩ : ByteArray)).bind fun bt128 => (if t109.toList = ([80, 85, 83, 72, 32, 45, 53, 10, 71, 69, 84, 32, 49, 32, 50, 10, 69, 78, 68, 10] : List UInt8) then ((camshaftref04_Same.f k t110 (([(⟨1, (-5), 0⟩ : S24), (⟨25, 0, 0⟩ : S24)] : List (S24)))).bind fun t133 => (if t133 = true then (if t111 = 0 then (if t115 = 3 then (if bt118.2 = 6 then (if bt122.2 = 3 then (if bt126.1 = (-120) then (if bt126.2 = 0 then (if bt128.2 = 3 then ((text_Line.f 3 0 0).bind fun t134 => (if t134.toList = ([68, 85, 80, 10] : List UInt8) then ((text_Line.f 0 0 0).bind fun t135 => (some (t135.toList == ([] : List UInt8)))) else (some false))) else (some false)) else (some false)) else (some false)) else (some false)) else (some false)) else (some false)) else (some false)) else (some false))) else (some false)))))) = some r := H
  have A3 := Aside0.mk A30
  clear A30
  replace H := Option.bind_eq_some_iff.mp H
  obtain ⟨⟨t118, t119⟩, A40, H⟩ := H
  replace H : ((text_Parse.f (⟨#[69, 78, 68]⟩ : ByteArray)).bind fun bt122 => ((text_Number.f (⟨#[45, 49, 50, 48]⟩ : ByteArray)).bind fun bt126 => ((text_Number.f (⟨#[45, 48]⟩ : ByteArray)).bind fun bt128 => (if t109.toList = ([80, 85, 83, 72, 32, 45, 53, 10, 71, 69, 84, 32, 49, 32, 50, 10, 69, 78, 68, 10] : List UInt8) then ((camshaftref04_Same.f k t110 (([(⟨1, (-5), 0⟩ : S24), (⟨25, 0, 0⟩ : S24)] : List (S24)))).bind fun t133 => (if t133 = true then (if t111 = 0 then (if t115 = 3 then (if t119 = 6 then (if bt122.2 = 3 then (if bt126.1 = (-120) then (if bt126.2 = 0 then (if bt128.2 = 3 then ((text_Line.f 3 0 0).bind fun t134 => (if t134.toList = ([68, 85, 80, 10] : List UInt8) then ((text_Line.f 0 0 0).bind fun t135 => (some (t135.toList == ([] : List UInt8)))) else (some false))) else (some false)) else (some false)) else (some false)) else (some false)) else (some false)) else (some false)) else (some false)) else (some false))) else (some false))))) = some r := H
  have A4 := Aside0.mk A40
  clear A40
  replace H := Option.bind_eq_some_iff.mp H
  obtain ⟨⟨t122, t123⟩, A50, H⟩ := H
  replace H : ((text_Number.f (⟨#[45, 49, 50, 48]⟩ : ByteArray)).bind fun bt126 => ((text_Number.f (⟨#[45, 48]⟩ : ByteArray)).bind fun bt128 => (if t109.toList = ([80, 85, 83, 72, 32, 45, 53, 10, 71, 69, 84, 32, 49, 32, 50, 10, 69, 78, 68, 10] : List UInt8) then ((camshaftref04_Same.f k t110 (([(⟨1, (-5), 0⟩ : S24), (⟨25, 0, 0⟩ : S24)] : List (S24)))).bind fun t133 => (if t133 = true then (if t111 = 0 then (if t115 = 3 then (if t119 = 6 then (if t123 = 3 then (if bt126.1 = (-120) then (if bt126.2 = 0 then (if bt128.2 = 3 then ((text_Line.f 3 0 0).bind fun t134 => (if t134.toList = ([68, 85, 80, 10] : List UInt8) then ((text_Line.f 0 0 0).bind fun t135 => (some (t135.toList == ([] : List UInt8)))) else (some false))) else (some false)) else (some false)) else (some false)) else (some false)) else (some false)) else (some false)) else (some false)) else (some false))) else (some false)))) = some r := H
  have A5 := Aside0.mk A50
  clear A50
  replace H := Option.bind_eq_some_iff.mp H
  obtain ⟨⟨t126, t127⟩, A60, H⟩ := H
  replace H : ((text_Number.f (⟨#[45, 48]⟩ : ByteArray)).bind fun bt128 => (if t109.toList = ([80, 85, 83, 72, 32, 45, 53, 10, 71, 69, 84, 32, 49, 32, 50, 10, 69, 78, 68, 10] : List UInt8) then ((camshaftref04_Same.f k t110 (([(⟨1, (-5), 0⟩ : S24), (⟨25, 0, 0⟩ : S24)] : List (S24)))).bind fun t133 => (if t133 = true then (if t111 = 0 then (if t115 = 3 then (if t119 = 6 then (if t123 = 3 then (if t126 = (-120) then (if t127 = 0 then (if bt128.2 = 3 then ((text_Line.f 3 0 0).bind fun t134 => (if t134.toList = ([68, 85, 80, 10] : List UInt8) then ((text_Line.f 0 0 0).bind fun t135 => (some (t135.toList == ([] : List UInt8)))) else (some false))) else (some false)) else (some false)) else (some false)) else (some false)) else (some false)) else (some false)) else (some false)) else (some false))) else (some false))) = some r := H
  have A6 := Aside0.mk A60
  clear A60
  replace H := Option.bind_eq_some_iff.mp H
  obtain ⟨⟨t128, t129⟩, A70, H⟩ := H
  replace H : (if t109.toList = ([80, 85, 83, 72, 32, 45, 53, 10, 71, 69, 84, 32, 49, 32, 50, 10, 69, 78, 68, 10] : List UInt8) then ((camshaftref04_Same.f k t110 (([(⟨1, (-5), 0⟩ : S24), (⟨25, 0, 0⟩ : S24)] : List (S24)))).bind fun t133 => (if t133 = true then (if t111 = 0 then (if t115 = 3 then (if t119 = 6 then (if t123 = 3 then (if t126 = (-120) then (if t127 = 0 then (if t129 = 3 then ((text_Line.f 3 0 0).bind fun t134 => (if t134.toList = ([68, 85, 80, 10] : List UInt8) then ((text_Line.f 0 0 0).bind fun t135 => (some (t135.toList == ([] : List UInt8)))) else (some false))) else (some false)) else (some false)) else (some false)) else (some false)) else (some false)) else (some false)) else (some false)) else (some false))) else (some false)) = some r := H
  have A7 := Aside0.mk A70
  clear A70
  by_cases c8 : t109.toList = ([80, 85, 83, 72, 32, 45, 53, 10, 71, 69, 84, 32, 49, 32, 50, 10, 69, 78, 68, 10] : List UInt8)
  · rw [if_pos c8] at H
    have c8b0 : (t109.toList == ([80, 85, 83, 72, 32, 45, 53, 10, 71, 69, 84, 32, 49, 32, 50, 10, 69, 78, 68, 10] : List UInt8)) = true := beq_iff_eq.mpr c8
    have c8b1 : (t109.toList != ([80, 85, 83, 72, 32, 45, 53, 10, 71, 69, 84, 32, 49, 32, 50, 10, 69, 78, 68, 10] : List UInt8)) = false := bne_eq_false_iff_eq.mpr c8
    clear c8
    obtain ⟨y130, hy130⟩ : ∃ y_ : List (S24), y_ = (([(⟨1, (-5), 0⟩ : S24), (⟨25, 0, 0⟩ : S24)] : List (S24))) := ⟨_, rfl⟩
    replace H : ((camshaftref04_Same.f k t110 y130).bind fun t133 => (if t133 = true then (if t111 = 0 then (if t115 = 3 then (if t119 = 6 then (if t123 = 3 then (if t126 = (-120) then (if t127 = 0 then (if t129 = 3 then ((text_Line.f 3 0 0).bind fun t134 => (if t134.toList = ([68, 85, 80, 10] : List UInt8) then ((text_Line.f 0 0 0).bind fun t135 => (some (t135.toList == ([] : List UInt8)))) else (some false))) else (some false)) else (some false)) else (some false)) else (some false)) else (some false)) else (some false)) else (some false)) else (some false))) = some r := by first | (rw [hy130]; with_reducible exact H) | (have H2_ := (Option.bind_some _ _).symm.trans H; rw [hy130]; with_reducible exact H2_) | (have H2_ := (Option.bind_some _ _).symm.trans H; with_reducible exact H2_) | with_reducible exact H | (rw [hy130]; exact H) | exact H
    have Ny130 := Aside0.mk hy130
    clear hy130
    replace H := Option.bind_eq_some_iff.mp H
    obtain ⟨t133, A90, H⟩ := H
    replace H : (if t133 = true then (if t111 = 0 then (if t115 = 3 then (if t119 = 6 then (if t123 = 3 then (if t126 = (-120) then (if t127 = 0 then (if t129 = 3 then ((text_Line.f 3 0 0).bind fun t134 => (if t134.toList = ([68, 85, 80, 10] : List UInt8) then ((text_Line.f 0 0 0).bind fun t135 => (some (t135.toList == ([] : List UInt8)))) else (some false))) else (some false)) else (some false)) else (some false)) else (some false)) else (some false)) else (some false)) else (some false)) else (some false)) = some r := H
    have A9 := Aside0.mk A90
    clear A90
    by_cases c10 : t133 = true
    · subst c10
      have H1 : (if t111 = 0 then (if t115 = 3 then (if t119 = 6 then (if t123 = 3 then (if t126 = (-120) then (if t127 = 0 then (if t129 = 3 then ((text_Line.f 3 0 0).bind fun t134 => (if t134.toList = ([68, 85, 80, 10] : List UInt8) then ((text_Line.f 0 0 0).bind fun t135 => (some (t135.toList == ([] : List UInt8)))) else (some false))) else (some false)) else (some false)) else (some false)) else (some false)) else (some false)) else (some false)) else (some false)) = some r := by rw [if_pos rfl] at H; exact H
      clear H
      have H := H1
      clear H1
      by_cases c11 : t111 = 0
      · rw [if_pos c11] at H
        have c11b0 : (t111 == 0) = true := beq_iff_eq.mpr c11
        have c11b1 : (t111 != 0) = false := bne_eq_false_iff_eq.mpr c11
        clear c11
        by_cases c12 : t115 = 3
        · rw [if_pos c12] at H
          have c12b0 : (t115 == 3) = true := beq_iff_eq.mpr c12
          have c12b1 : (t115 != 3) = false := bne_eq_false_iff_eq.mpr c12
          clear c12
          by_cases c13 : t119 = 6
          · rw [if_pos c13] at H
            have c13b0 : (t119 == 6) = true := beq_iff_eq.mpr c13
            have c13b1 : (t119 != 6) = false := bne_eq_false_iff_eq.mpr c13
            clear c13
            by_cases c14 : t123 = 3
            · rw [if_pos c14] at H
              have c14b0 : (t123 == 3) = true := beq_iff_eq.mpr c14
              have c14b1 : (t123 != 3) = false := bne_eq_false_iff_eq.mpr c14
              clear c14
              by_cases c15 : t126 = (-120)
              · rw [if_pos c15] at H
                have c15b0 : (t126 == (-120)) = true := beq_iff_eq.mpr c15
                have c15b1 : (t126 != (-120)) = false := bne_eq_false_iff_eq.mpr c15
                clear c15
                by_cases c16 : t127 = 0
                · rw [if_pos c16] at H
                  have c16b0 : (t127 == 0) = true := beq_iff_eq.mpr c16
                  have c16b1 : (t127 != 0) = false := bne_eq_false_iff_eq.mpr c16
                  clear c16
                  by_cases c17 : t129 = 3
                  · rw [if_pos c17] at H
                    have c17b0 : (t129 == 3) = true := beq_iff_eq.mpr c17
                    have c17b1 : (t129 != 3) = false := bne_eq_false_iff_eq.mpr c17
                    clear c17
                    replace H := Option.bind_eq_some_iff.mp H
                    obtain ⟨t134, A180, H⟩ := H
                    replace H : (if t134.toList = ([68, 85, 80, 10] : List UInt8) then ((text_Line.f 0 0 0).bind fun t135 => (some (t135.toList == ([] : List UInt8)))) else (some false)) = some r := H
                    have A18 := Aside0.mk A180
                    clear A180
                    by_cases c19 : t134.toList = ([68, 85, 80, 10] : List UInt8)
                    · rw [if_pos c19] at H
                      have c19b0 : (t134.toList == ([68, 85, 80, 10] : List UInt8)) = true := beq_iff_eq.mpr c19
                      have c19b1 : (t134.toList != ([68, 85, 80, 10] : List UInt8)) = false := bne_eq_false_iff_eq.mpr c19
                      clear c19
                      replace H := Option.bind_eq_some_iff.mp H
                      obtain ⟨t135, A200, H⟩ := H
                      replace H : (some (t135.toList == ([] : List UInt8))) = some r := H
                      have A20 := Aside0.mk A200
                      clear A200
                      obtain rfl := Option.some.inj H
                      go_enter Try.func10, Try.ntmps10
                      go_wp2_with (first | ((with_reducible refine gate_dst (N := 17) rfl ?_); (try (refine gate_guard (by rfl) ?_; dsimp only)); refine Kd.R_lit k24 _ 24 ?hg (N := 17) ?hd (xs := ([(⟨1, (-5), 0⟩ : S24), (⟨17, 1, 2⟩ : S24), (⟨25, 0, 0⟩ : S24)] : List (S24))) (inner := [.int .i64 1, .int .i64 (-5), .int .i64 0, .int .i64 17, .int .i64 1, .int .i64 2, .int .i64 25, .int .i64 0, .int .i64 0]) (ok := fun _ => True) (okp := fun _ => True) ?hr ?hp (fun _ hk => hk) trivial (Below.refl _ _) (Nat.le_refl _) (by simp) ?_; (case hd => rfl); (case hg => rfl); (case hr => first | (go_simp; done) | (go_simp; rfl)); (case hp => exact (Reps.c3 (show Kd.M k24 _ _ _ (⟨1, (-5), 0⟩ : S24) [.int .i64 1, .int .i64 (-5), .int .i64 0] from (k24_mkM _ _ _ (⟨1, (-5), 0⟩ : S24) )) (Reps.c3 (show Kd.M k24 _ _ _ (⟨17, 1, 2⟩ : S24) [.int .i64 17, .int .i64 1, .int .i64 2] from (k24_mkM _ _ _ (⟨17, 1, 2⟩ : S24) )) (Reps.c3 (show Kd.M k24 _ _ _ (⟨25, 0, 0⟩ : S24) [.int .i64 25, .int .i64 0, .int .i64 0] from (k24_mkM _ _ _ (⟨25, 0, 0⟩ : S24) )) (Reps.none _ _))))); intro v107 w21 ho22 hb hg_ hnew_; clear hg_ hnew_; (first | rw [← Ny106.out] at ho22 | (simp only [Int.reduceToNat] at ho22; rw [← Ny106.out] at ho22)); have n0_ := Aside0.mk (Kd.R_lower ho22 (below_size (by repeat (first | (with_reducible first | exact HB.out | apply below_alloc | apply pw_below_drewN | apply below_drew1) | exact HB.out)))); have n1_ := Aside0.mk (below_step (by repeat (first | (with_reducible first | exact HB.out | apply below_alloc | apply pw_below_drewN | apply below_drew1) | exact HB.out)) hb); clear HB; have HO108 := n0_; have HB := n1_; clear n0_ n1_; clear hb ho22; obtain ⟨Ao23, co23, eo23⟩ := Kd.R_slice HO108.out; subst eo23) | ((with_reducible refine gate_callee (f := 13) rfl ?_); refine goesL_ (some 18) rfl rfl Try.func13 (by kernel_rfl) rfl #[.slice Ao23 y106.length co23] rfl (by (try simp only [List.map_toArray, List.map_cons, List.map_nil]); first | done | rfl | (simp only [List.length_drop, List.length_take]; rfl)) ?_; (with_reducible refine (text_Show.calls k _ _ y106 t109 _ ?side1 ?side2 A1.out).mono ?_); (case side1 => repeat (first | exact (Kd.R_reads' HO108.out).2.2 | (with_reducible refine Kd.C_alloc ?_ _) | (with_reducible refine Kd.C_drewN ?_ _) | (with_reducible refine Kd.C_drew ?_))); (case side2 => exact (Kd.R_reads' HO108.out).2.1); rintro e w24 ⟨rfl, hb⟩; refine ⟨_, rfl, ?_⟩; have n0_ := Aside0.mk (Kd.R_below (by (with_reducible repeat (first | apply Kd.R_alloc | apply Kd.R_drewN | apply Kd.R_drew)); exact HO108.out) hb); have n1_ := Aside0.mk (below_step (by repeat (first | (with_reducible first | exact HB.out | apply below_alloc | apply pw_below_drewN | apply below_drew1) | exact HB.out)) hb); clear HO108; clear HB; have HO108 := n0_; have HB := n1_; clear n0_ n1_; (try clear hb); (try clear hb2); (try clear hk); (try clear hi)) | ((with_reducible refine gate_callee (f := 15) rfl ?_); refine goesL_ (some 20) rfl rfl Try.func15 (by kernel_rfl) rfl #[.string (⟨#[80, 85, 83, 72, 32, 45, 53, 10, 69, 78, 68, 10]⟩ : ByteArray)] rfl (by (try simp only [List.map_toArray, List.map_cons, List.map_nil]); first | done | rfl | (simp only [List.length_drop, List.length_take]; rfl)) ?_; (with_reducible refine (text_Parse.calls (⟨#[80, 85, 83, 72, 32, 45, 53, 10, 69, 78, 68, 10]⟩ : ByteArray) t110 t111 _ A2.out).mono ?_); rintro e w25 ⟨v112, rfl, ho0, hb⟩; refine ⟨_, rfl, ?_⟩; have n0_ := Aside0.mk (Kd.R_elder' (by (with_reducible repeat (first | apply Kd.R_alloc | apply Kd.R_drewN | apply Kd.R_drew)); exact HO108.out) (Kd.R_base ho0) hb); have n1_ := Aside0.mk (Kd.R_lower (Kd.R_new' ho0 (Kd.R_lt (by (with_reducible repeat (first | apply Kd.R_alloc | apply Kd.R_drewN | apply Kd.R_drew)); exact HO108.out))) (below_size (by repeat (first | (with_reducible first | exact HB.out | apply below_alloc | apply pw_below_drewN | apply below_drew1) | exact HB.out)))); have n2_ := Aside0.mk (below_step (by repeat (first | (with_reducible first | exact HB.out | apply below_alloc | apply pw_below_drewN | apply below_drew1) | exact HB.out)) hb); clear HO108; clear HB; have HO108 := n0_; have HO113 := n1_; have HB := n2_; clear n0_ n1_ n2_; (try clear hb); (try clear hb2); (try clear hk); (try clear hi); (try clear ho0)) | ((with_reducible refine gate_callee (f := 15) rfl ?_); refine goesL_ (some 24) rfl rfl Try.func15 (by kernel_rfl) rfl #[.string (⟨#[80, 85, 83, 72, 10]⟩ : ByteArray)] rfl (by (try simp only [List.map_toArray, List.map_cons, List.map_nil]); first | done | rfl | (simp only [List.length_drop, List.length_take]; rfl)) ?_; (with_reducible refine (text_Parse.calls (⟨#[80, 85, 83, 72, 10]⟩ : ByteArray) t114 t115 _ A3.out).mono ?_); rintro e w26 ⟨v116, rfl, ho0, hb⟩; refine ⟨_, rfl, ?_⟩; have n0_ := Aside0.mk (Kd.R_elder' (by (with_reducible repeat (first | apply Kd.R_alloc | apply Kd.R_drewN | apply Kd.R_drew)); exact HO108.out) (Kd.R_base ho0) hb); have n1_ := Aside0.mk (Kd.R_elder' (by (with_reducible repeat (first | apply Kd.R_alloc | apply Kd.R_drewN | apply Kd.R_drew)); exact HO113.out) (Kd.R_base ho0) hb); have n2_ := Aside0.mk (Kd.R_lower (Kd.R_new' (Kd.R_new' ho0 (Kd.R_lt (by (with_reducible repeat (first | apply Kd.R_alloc | apply Kd.R_drewN | apply Kd.R_drew)); exact HO108.out))) (Kd.R_lt (by (with_reducible repeat (first | apply Kd.R_alloc | apply Kd.R_drewN | apply Kd.R_drew)); exact HO113.out))) (below_size (by repeat (first | (with_reducible first | exact HB.out | apply below_alloc | apply pw_below_drewN | apply below_drew1) | exact HB.out)))); have n3_ := Aside0.mk (below_step (by repeat (first | (with_reducible first | exact HB.out | apply below_alloc | apply pw_below_drewN | apply below_drew1) | exact HB.out)) hb); clear HO108; clear HO113; clear HB; have HO108 := n0_; have HO113 := n1_; have HO117 := n2_; have HB := n3_; clear n0_ n1_ n2_ n3_; (try clear hb); (try clear hb2); (try clear hk); (try clear hi); (try clear ho0)) | ((with_reducible refine gate_callee (f := 15) rfl ?_); refine goesL_ (some 28) rfl rfl Try.func15 (by kernel_rfl) rfl #[.string (⟨#[76, 79, 79, 80, 32, 48, 10]⟩ : ByteArray)] rfl (by (try simp only [List.map_toArray, List.map_cons, List.map_nil]); first | done | rfl | (simp only [List.length_drop, List.length_take]; rfl)) ?_; (with_reducible refine (text_Parse.calls (⟨#[76, 79, 79, 80, 32, 48, 10]⟩ : ByteArray) t118 t119 _ A4.out).mono ?_); rintro e w27 ⟨v120, rfl, ho0, hb⟩; refine ⟨_, rfl, ?_⟩; have n0_ := Aside0.mk (Kd.R_elder' (by (with_reducible repeat (first | apply Kd.R_alloc | apply Kd.R_drewN | apply Kd.R_drew)); exact HO108.out) (Kd.R_base ho0) hb); have n1_ := Aside0.mk (Kd.R_elder' (by (with_reducible repeat (first | apply Kd.R_alloc | apply Kd.R_drewN | apply Kd.R_drew)); exact HO113.out) (Kd.R_base ho0) hb); have n2_ := Aside0.mk (Kd.R_elder' (by (with_reducible repeat (first | apply Kd.R_alloc | apply Kd.R_drewN | apply Kd.R_drew)); exact HO117.out) (Kd.R_base ho0) hb); have n3_ := Aside0.mk (Kd.R_lower (Kd.R_new' (Kd.R_new' (Kd.R_new' ho0 (Kd.R_lt (by (with_reducible repeat (first | apply Kd.R_alloc | apply Kd.R_drewN | apply Kd.R_drew)); exact HO108.out))) (Kd.R_lt (by (with_reducible repeat (first | apply Kd.R_alloc | apply Kd.R_drewN | apply Kd.R_drew)); exact HO113.out))) (Kd.R_lt (by (with_reducible repeat (first | apply Kd.R_alloc | apply Kd.R_drewN | apply Kd.R_drew)); exact HO117.out))) (below_size (by repeat (first | (with_reducible first | exact HB.out | apply below_alloc | apply pw_below_drewN | apply below_drew1) | exact HB.out)))); have n4_ := Aside0.mk (below_step (by repeat (first | (with_reducible first | exact HB.out | apply below_alloc | apply pw_below_drewN | apply below_drew1) | exact HB.out)) hb); clear HO108; clear HO113; clear HO117; clear HB; have HO108 := n0_; have HO113 := n1_; have HO117 := n2_; have HO121 := n3_; have HB := n4_; clear n0_ n1_ n2_ n3_ n4_; (try clear hb); (try clear hb2); (try clear hk); (try clear hi); (try clear ho0)) | ((with_reducible refine gate_callee (f := 15) rfl ?_); refine goesL_ (some 32) rfl rfl Try.func15 (by kernel_rfl) rfl #[.string (⟨#[69, 78, 68]⟩ : ByteArray)] rfl (by (try simp only [List.map_toArray, List.map_cons, List.map_nil]); first | done | rfl | (simp only [List.length_drop, List.length_take]; rfl)) ?_; (with_reducible refine (text_Parse.calls (⟨#[69, 78, 68]⟩ : ByteArray) t122 t123 _ A5.out).mono ?_); rintro e w28 ⟨v124, rfl, ho0, hb⟩; refine ⟨_, rfl, ?_⟩; have n0_ := Aside0.mk (Kd.R_elder' (by (with_reducible repeat (first | apply Kd.R_alloc | apply Kd.R_drewN | apply Kd.R_drew)); exact HO108.out) (Kd.R_base ho0) hb); have n1_ := Aside0.mk (Kd.R_elder' (by (with_reducible repeat (first | apply Kd.R_alloc | apply Kd.R_drewN | apply Kd.R_drew)); exact HO113.out) (Kd.R_base ho0) hb); have n2_ := Aside0.mk (Kd.R_elder' (by (with_reducible repeat (first | apply Kd.R_alloc | apply Kd.R_drewN | apply Kd.R_drew)); exact HO117.out) (Kd.R_base ho0) hb); have n3_ := Aside0.mk (Kd.R_elder' (by (with_reducible repeat (first | apply Kd.R_alloc | apply Kd.R_drewN | apply Kd.R_drew)); exact HO121.out) (Kd.R_base ho0) hb); have n4_ := Aside0.mk (Kd.R_lower (Kd.R_new' (Kd.R_new' (Kd.R_new' (Kd.R_new' ho0 (Kd.R_lt (by (with_reducible repeat (first | apply Kd.R_alloc | apply Kd.R_drewN | apply Kd.R_drew)); exact HO108.out))) (Kd.R_lt (by (with_reducible repeat (first | apply Kd.R_alloc | apply Kd.R_drewN | apply Kd.R_drew)); exact HO113.out))) (Kd.R_lt (by (with_reducible repeat (first | apply Kd.R_alloc | apply Kd.R_drewN | apply Kd.R_drew)); exact HO117.out))) (Kd.R_lt (by (with_reducible repeat (first | apply Kd.R_alloc | apply Kd.R_drewN | apply Kd.R_drew)); exact HO121.out))) (below_size (by repeat (first | (with_reducible first | exact HB.out | apply below_alloc | apply pw_below_drewN | apply below_drew1) | exact HB.out)))); have n5_ := Aside0.mk (below_step (by repeat (first | (with_reducible first | exact HB.out | apply below_alloc | apply pw_below_drewN | apply below_drew1) | exact HB.out)) hb); clear HO108; clear HO113; clear HO117; clear HO121; clear HB; have HO108 := n0_; have HO113 := n1_; have HO117 := n2_; have HO121 := n3_; have HO125 := n4_; have HB := n5_; clear n0_ n1_ n2_ n3_ n4_ n5_; (try clear hb); (try clear hb2); (try clear hk); (try clear hi); (try clear ho0)) | ((with_reducible refine gate_callee (f := 17) rfl ?_); refine goesL_ (some 36) rfl rfl Try.func17 (by kernel_rfl) rfl #[.string (⟨#[45, 49, 50, 48]⟩ : ByteArray)] rfl (by (try simp only [List.map_toArray, List.map_cons, List.map_nil]); first | done | rfl | (simp only [List.length_drop, List.length_take]; rfl)) ?_; (with_reducible refine (text_Number.calls (⟨#[45, 49, 50, 48]⟩ : ByteArray) t126 t127 _ A6.out).mono ?_); rintro e w29 ⟨rfl, hb⟩; refine ⟨_, rfl, ?_⟩; have n0_ := Aside0.mk (Kd.R_below (by (with_reducible repeat (first | apply Kd.R_alloc | apply Kd.R_drewN | apply Kd.R_drew)); exact HO108.out) hb); have n1_ := Aside0.mk (Kd.R_below (by (with_reducible repeat (first | apply Kd.R_alloc | apply Kd.R_drewN | apply Kd.R_drew)); exact HO113.out) hb); have n2_ := Aside0.mk (Kd.R_below (by (with_reducible repeat (first | apply Kd.R_alloc | apply Kd.R_drewN | apply Kd.R_drew)); exact HO117.out) hb); have n3_ := Aside0.mk (Kd.R_below (by (with_reducible repeat (first | apply Kd.R_alloc | apply Kd.R_drewN | apply Kd.R_drew)); exact HO121.out) hb); have n4_ := Aside0.mk (Kd.R_below (by (with_reducible repeat (first | apply Kd.R_alloc | apply Kd.R_drewN | apply Kd.R_drew)); exact HO125.out) hb); have n5_ := Aside0.mk (below_step (by repeat (first | (with_reducible first | exact HB.out | apply below_alloc | apply pw_below_drewN | apply below_drew1) | exact HB.out)) hb); clear HO108; clear HO113; clear HO117; clear HO121; clear HO125; clear HB; have HO108 := n0_; have HO113 := n1_; have HO117 := n2_; have HO121 := n3_; have HO125 := n4_; have HB := n5_; clear n0_ n1_ n2_ n3_ n4_ n5_; (try clear hb); (try clear hb2); (try clear hk); (try clear hi)) | ((with_reducible refine gate_callee (f := 17) rfl ?_); refine goesL_ (some 40) rfl rfl Try.func17 (by kernel_rfl) rfl #[.string (⟨#[45, 48]⟩ : ByteArray)] rfl (by (try simp only [List.map_toArray, List.map_cons, List.map_nil]); first | done | rfl | (simp only [List.length_drop, List.length_take]; rfl)) ?_; (with_reducible refine (text_Number.calls (⟨#[45, 48]⟩ : ByteArray) t128 t129 _ A7.out).mono ?_); rintro e w30 ⟨rfl, hb⟩; refine ⟨_, rfl, ?_⟩; have n0_ := Aside0.mk (Kd.R_below (by (with_reducible repeat (first | apply Kd.R_alloc | apply Kd.R_drewN | apply Kd.R_drew)); exact HO108.out) hb); have n1_ := Aside0.mk (Kd.R_below (by (with_reducible repeat (first | apply Kd.R_alloc | apply Kd.R_drewN | apply Kd.R_drew)); exact HO113.out) hb); have n2_ := Aside0.mk (Kd.R_below (by (with_reducible repeat (first | apply Kd.R_alloc | apply Kd.R_drewN | apply Kd.R_drew)); exact HO117.out) hb); have n3_ := Aside0.mk (Kd.R_below (by (with_reducible repeat (first | apply Kd.R_alloc | apply Kd.R_drewN | apply Kd.R_drew)); exact HO121.out) hb); have n4_ := Aside0.mk (Kd.R_below (by (with_reducible repeat (first | apply Kd.R_alloc | apply Kd.R_drewN | apply Kd.R_drew)); exact HO125.out) hb); have n5_ := Aside0.mk (below_step (by repeat (first | (with_reducible first | exact HB.out | apply below_alloc | apply pw_below_drewN | apply below_drew1) | exact HB.out)) hb); clear HO108; clear HO113; clear HO117; clear HO121; clear HO125; clear HB; have HO108 := n0_; have HO113 := n1_; have HO117 := n2_; have HO121 := n3_; have HO125 := n4_; have HB := n5_; clear n0_ n1_ n2_ n3_ n4_ n5_; (try clear hb); (try clear hb2); (try clear hk); (try clear hi)) | ((with_reducible refine gate_dst (N := 49) rfl ?_); (try (refine gate_guard (by rfl) ?_; dsimp only)); refine Kd.R_lit k24 _ 24 ?hg (N := 49) ?hd (xs := ([(⟨1, (-5), 0⟩ : S24), (⟨25, 0, 0⟩ : S24)] : List (S24))) (inner := [.int .i64 1, .int .i64 (-5), .int .i64 0, .int .i64 25, .int .i64 0, .int .i64 0]) (ok := fun _ => True) (okp := fun _ => True) ?hr ?hp (fun _ hk => hk) trivial (Below.refl _ _) (Nat.le_refl _) (by simp) ?_; (case hd => rfl); (case hg => rfl); (case hr => first | (go_simp; done) | (go_simp; rfl)); (case hp => exact (Reps.c3 (show Kd.M k24 _ _ _ (⟨1, (-5), 0⟩ : S24) [.int .i64 1, .int .i64 (-5), .int .i64 0] from (k24_mkM _ _ _ (⟨1, (-5), 0⟩ : S24) )) (Reps.c3 (show Kd.M k24 _ _ _ (⟨25, 0, 0⟩ : S24) [.int .i64 25, .int .i64 0, .int .i64 0] from (k24_mkM _ _ _ (⟨25, 0, 0⟩ : S24) )) (Reps.none _ _)))); intro v131 w31 ho32 hb hg_ hnew_; clear hg_ hnew_; (first | rw [← Ny130.out] at ho32 | (simp only [Int.reduceToNat] at ho32; rw [← Ny130.out] at ho32)); have n0_ := Aside0.mk (Kd.R_elder' (by (with_reducible repeat (first | apply Kd.R_alloc | apply Kd.R_drewN | apply Kd.R_drew)); exact HO108.out) (Kd.R_base ho32) hb); have n1_ := Aside0.mk (Kd.R_elder' (by (with_reducible repeat (first | apply Kd.R_alloc | apply Kd.R_drewN | apply Kd.R_drew)); exact HO113.out) (Kd.R_base ho32) hb); have n2_ := Aside0.mk (Kd.R_elder' (by (with_reducible repeat (first | apply Kd.R_alloc | apply Kd.R_drewN | apply Kd.R_drew)); exact HO117.out) (Kd.R_base ho32) hb); have n3_ := Aside0.mk (Kd.R_elder' (by (with_reducible repeat (first | apply Kd.R_alloc | apply Kd.R_drewN | apply Kd.R_drew)); exact HO121.out) (Kd.R_base ho32) hb); have n4_ := Aside0.mk (Kd.R_elder' (by (with_reducible repeat (first | apply Kd.R_alloc | apply Kd.R_drewN | apply Kd.R_drew)); exact HO125.out) (Kd.R_base ho32) hb); have n5_ := Aside0.mk (Kd.R_lower (Kd.R_new' (Kd.R_new' (Kd.R_new' (Kd.R_new' (Kd.R_new' ho32 (Kd.R_lt (by (with_reducible repeat (first | apply Kd.R_alloc | apply Kd.R_drewN | apply Kd.R_drew)); exact HO108.out))) (Kd.R_lt (by (with_reducible repeat (first | apply Kd.R_alloc | apply Kd.R_drewN | apply Kd.R_drew)); exact HO113.out))) (Kd.R_lt (by (with_reducible repeat (first | apply Kd.R_alloc | apply Kd.R_drewN | apply Kd.R_drew)); exact HO117.out))) (Kd.R_lt (by (with_reducible repeat (first | apply Kd.R_alloc | apply Kd.R_drewN | apply Kd.R_drew)); exact HO121.out))) (Kd.R_lt (by (with_reducible repeat (first | apply Kd.R_alloc | apply Kd.R_drewN | apply Kd.R_drew)); exact HO125.out))) (below_size (by repeat (first | (with_reducible first | exact HB.out | apply below_alloc | apply pw_below_drewN | apply below_drew1) | exact HB.out)))); have n6_ := Aside0.mk (below_step (by repeat (first | (with_reducible first | exact HB.out | apply below_alloc | apply pw_below_drewN | apply below_drew1) | exact HB.out)) hb); clear HO108; clear HO113; clear HO117; clear HO121; clear HO125; clear HB; have HO108 := n0_; have HO113 := n1_; have HO117 := n2_; have HO121 := n3_; have HO125 := n4_; have HO132 := n5_; have HB := n6_; clear n0_ n1_ n2_ n3_ n4_ n5_ n6_; clear hb ho32; obtain ⟨Ao33, co33, eo33⟩ := Kd.R_slice HO113.out; subst eo33; obtain ⟨Ao34, co34, eo34⟩ := Kd.R_slice HO132.out; subst eo34) | (go_at_call 19; (with_reducible refine (camshaftref04_Same.calls k _ _ t110 _ _ y130 true _ ?side1 ?side2 ?side3 ?side4 A9.out).mono ?_); (case side1 => repeat (first | exact (Kd.R_reads' HO113.out).2.2 | (with_reducible refine Kd.C_alloc ?_ _) | (with_reducible refine Kd.C_drewN ?_ _) | (with_reducible refine Kd.C_drew ?_))); (case side2 => exact (Kd.R_reads' HO113.out).2.1); (case side3 => repeat (first | exact (Kd.R_reads' HO132.out).2.2 | (with_reducible refine Kd.C_alloc ?_ _) | (with_reducible refine Kd.C_drewN ?_ _) | (with_reducible refine Kd.C_drew ?_))); (case side4 => exact (Kd.R_reads' HO132.out).2.1); rintro e w' ⟨rfl, ⟨nd, rfl⟩⟩) | (go_at_call 11; (with_reducible refine (text_Line.calls 3 0 0 t134 _ A18.out).mono ?_); rintro e w35 ⟨rfl, hb⟩; have n0_ := Aside0.mk (Kd.R_below (by (with_reducible repeat (first | apply Kd.R_alloc | apply Kd.R_drewN | apply Kd.R_drew)); exact HO108.out) hb); have n1_ := Aside0.mk (Kd.R_below (by (with_reducible repeat (first | apply Kd.R_alloc | apply Kd.R_drewN | apply Kd.R_drew)); exact HO113.out) hb); have n2_ := Aside0.mk (Kd.R_below (by (with_reducible repeat (first | apply Kd.R_alloc | apply Kd.R_drewN | apply Kd.R_drew)); exact HO117.out) hb); have n3_ := Aside0.mk (Kd.R_below (by (with_reducible repeat (first | apply Kd.R_alloc | apply Kd.R_drewN | apply Kd.R_drew)); exact HO121.out) hb); have n4_ := Aside0.mk (Kd.R_below (by (with_reducible repeat (first | apply Kd.R_alloc | apply Kd.R_drewN | apply Kd.R_drew)); exact HO125.out) hb); have n5_ := Aside0.mk (Kd.R_below (by (with_reducible repeat (first | apply Kd.R_alloc | apply Kd.R_drewN | apply Kd.R_drew)); exact HO132.out) hb); have n6_ := Aside0.mk (below_step (by repeat (first | (with_reducible first | exact HB.out | apply below_alloc | apply pw_below_drewN | apply below_drew1) | exact HB.out)) hb); clear HO108; clear HO113; clear HO117; clear HO121; clear HO125; clear HO132; clear HB; have HO108 := n0_; have HO113 := n1_; have HO117 := n2_; have HO121 := n3_; have HO125 := n4_; have HO132 := n5_; have HB := n6_; clear n0_ n1_ n2_ n3_ n4_ n5_ n6_; (try clear hb); (try clear hb2); (try clear hk); (try clear hi)) | (go_at_call 11; (with_reducible refine (text_Line.calls 0 0 0 t135 _ A20.out).mono ?_); rintro e w36 ⟨rfl, hb⟩; have n0_ := Aside0.mk (Kd.R_below (by (with_reducible repeat (first | apply Kd.R_alloc | apply Kd.R_drewN | apply Kd.R_drew)); exact HO108.out) hb); have n1_ := Aside0.mk (Kd.R_below (by (with_reducible repeat (first | apply Kd.R_alloc | apply Kd.R_drewN | apply Kd.R_drew)); exact HO113.out) hb); have n2_ := Aside0.mk (Kd.R_below (by (with_reducible repeat (first | apply Kd.R_alloc | apply Kd.R_drewN | apply Kd.R_drew)); exact HO117.out) hb); have n3_ := Aside0.mk (Kd.R_below (by (with_reducible repeat (first | apply Kd.R_alloc | apply Kd.R_drewN | apply Kd.R_drew)); exact HO121.out) hb); have n4_ := Aside0.mk (Kd.R_below (by (with_reducible repeat (first | apply Kd.R_alloc | apply Kd.R_drewN | apply Kd.R_drew)); exact HO125.out) hb); have n5_ := Aside0.mk (Kd.R_below (by (with_reducible repeat (first | apply Kd.R_alloc | apply Kd.R_drewN | apply Kd.R_drew)); exact HO132.out) hb); have n6_ := Aside0.mk (below_step (by repeat (first | (with_reducible first | exact HB.out | apply below_alloc | apply pw_below_drewN | apply below_drew1) | exact HB.out)) hb); clear HO108; clear HO113; clear HO117; clear HO121; clear HO125; clear HO132; clear HB; have HO108 := n0_; have HO113 := n1_; have HO117 := n2_; have HO121 := n3_; have HO125 := n4_; have HO132 := n5_; have HB := n6_; clear n0_ n1_ n2_ n3_ n4_ n5_ n6_; (try clear hb); (try clear hb2); (try clear hk); (try clear hi)))
                      go_ret
                      exact ⟨by first | rfl | (rw [bne_nil_eq]; rfl) | (simp [bne_nil_eq]; done) | (simp [errW_none, errW_some] <;> rfl) | (simp [*, errW_none, errW_some] <;> rfl), by repeat (first | (with_reducible first | exact HB.out | apply below_alloc | apply pw_below_drewN | apply below_drew1) | exact HB.out | exact Below.refl _ _)⟩
                    · rw [if_neg c19] at H
                      have c19b0 : (t134.toList == ([68, 85, 80, 10] : List UInt8)) = false := beq_eq_false_iff_ne.mpr c19
                      have c19b1 : (t134.toList != ([68, 85, 80, 10] : List UInt8)) = true := bne_iff_ne.mpr c19
                      exact absurd ((Option.some.inj H).trans HT.out) (by decide)
                  · rw [if_neg c17] at H
                    have c17b0 : (t129 == 3) = false := beq_eq_false_iff_ne.mpr c17
                    have c17b1 : (t129 != 3) = true := bne_iff_ne.mpr c17
                    exact absurd ((Option.some.inj H).trans HT.out) (by decide)
                · rw [if_neg c16] at H
                  have c16b0 : (t127 == 0) = false := beq_eq_false_iff_ne.mpr c16
                  have c16b1 : (t127 != 0) = true := bne_iff_ne.mpr c16
                  exact absurd ((Option.some.inj H).trans HT.out) (by decide)
              · rw [if_neg c15] at H
                have c15b0 : (t126 == (-120)) = false := beq_eq_false_iff_ne.mpr c15
                have c15b1 : (t126 != (-120)) = true := bne_iff_ne.mpr c15
                exact absurd ((Option.some.inj H).trans HT.out) (by decide)
            · rw [if_neg c14] at H
              have c14b0 : (t123 == 3) = false := beq_eq_false_iff_ne.mpr c14
              have c14b1 : (t123 != 3) = true := bne_iff_ne.mpr c14
              exact absurd ((Option.some.inj H).trans HT.out) (by decide)
          · rw [if_neg c13] at H
            have c13b0 : (t119 == 6) = false := beq_eq_false_iff_ne.mpr c13
            have c13b1 : (t119 != 6) = true := bne_iff_ne.mpr c13
            exact absurd ((Option.some.inj H).trans HT.out) (by decide)
        · rw [if_neg c12] at H
          have c12b0 : (t115 == 3) = false := beq_eq_false_iff_ne.mpr c12
          have c12b1 : (t115 != 3) = true := bne_iff_ne.mpr c12
          exact absurd ((Option.some.inj H).trans HT.out) (by decide)
      · rw [if_neg c11] at H
        have c11b0 : (t111 == 0) = false := beq_eq_false_iff_ne.mpr c11
        have c11b1 : (t111 != 0) = true := bne_iff_ne.mpr c11
        exact absurd ((Option.some.inj H).trans HT.out) (by decide)
    · replace c10 := Bool.eq_false_iff.mpr c10
      subst c10
      have H1 : (some false) = some r := by rw [if_neg (show ¬ (false = true) by decide)] at H; exact H
      clear H
      have H := H1
      clear H1
      exact absurd ((Option.some.inj H).trans HT.out) (by decide)
  · rw [if_neg c8] at H
    have c8b0 : (t109.toList == ([80, 85, 83, 72, 32, 45, 53, 10, 71, 69, 84, 32, 49, 32, 50, 10, 69, 78, 68, 10] : List UInt8)) = false := beq_eq_false_iff_ne.mpr c8
    have c8b1 : (t109.toList != ([80, 85, 83, 72, 32, 45, 53, 10, 71, 69, 84, 32, 49, 32, 50, 10, 69, 78, 68, 10] : List UInt8)) = true := bne_iff_ne.mpr c8
    exact absurd ((Option.some.inj H).trans HT.out) (by decide)

end Go.Proofs.Ytldbochclabmjaa.P
