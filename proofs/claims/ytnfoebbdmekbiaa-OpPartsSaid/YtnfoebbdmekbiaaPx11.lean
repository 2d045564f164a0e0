-- Written by a program of this session (wip/tools: patched print) for this claim. Not trusted: Lean checks it.
import Derived.Test.YtnfoebbdmekbiaaPx0
import Derived.Test.YtnfoebbdmekbiaaPx1
import Derived.Test.YtnfoebbdmekbiaaPx5
import Derived.Test.YtnfoebbdmekbiaaPx6
namespace Go.Proofs.Ytnfoebbdmekbiaa.P
open Go.RowKit Go.Proofs.Ytnfoebbdmekbiaa.C Go.Proofs.YtnfoebbdmekbiaaW.PrintWords Go.Proofs.YtnfoebbdmekbiaaW.PrintLast Go.Proofs.YtnfoebbdmekbiaaW.PrintMore
attribute [local go_sem] max2_int min2_int max_two min_two max_three min_three max_four min_four   -- for this text's walks alone
set_option linter.unusedVariables false
set_option linter.unusedSimpArgs false

attribute [local go_sem high] eqA23
/-! ### camshaftlaw04_OpParts: function 6 -/
mutual
def camshaftlaw04_OpParts.l0 : Nat → List (S23) → List (S23) → Int → Option (Bool)
  | 0, _, _, _ => none
  | k + 1, x0, x3, x4 => if x4 < (x0.length : Int) then (camshaftlaw04_OpParts.j1 k x0 x3 x4 (decide (x4 < 100))) else (camshaftlaw04_OpParts.j1 k x0 x3 x4 false)
def camshaftlaw04_OpParts.j1 : Nat → List (S23) → List (S23) → Int → Bool → Option (Bool)
  | 0, _, _, _, _ => none
  | k + 1, x0, x3, x4, x18 => if x18 = true then (if 0 ≤ x4 then (if x4 < (x0.length : Int) then ((op_Right.f ((rd_T23 x0 x4).f0) ((rd_T23 x0 x4).f1) ((rd_T23 x0 x4).f2)).bind fun t259 => (if t259 = true then (if x3.length < 5864062014805 then (camshaftlaw04_OpParts.l0 k x0 (x3 ++ [(⟨(rd_T23 x0 x4).f0, (rd_T23 x0 x4).f1, (rd_T23 x0 x4).f2⟩ : S23)]) (wrap64 (x4 + 1))) else (none)) else (camshaftlaw04_OpParts.l0 k x0 x3 (wrap64 (x4 + 1))))) else (none)) else (none)) else ((op_Code.f k x3).bind fun t264 => (camshaftlaw04_OpParts.l1 k x3 t264 0 0))
def camshaftlaw04_OpParts.l1 : Nat → List (S23) → ByteArray → Int → Int → Option (Bool)
  | 0, _, _, _, _ => none
  | k + 1, x3, x5, x6, x7 => if x7 < (x3.length : Int) then ((op_Decode.f k x5 x6).bind fun bt266 => (if bt266.2.2.2.2 = 0 then (if 0 ≤ x7 then (if (!(bt266.1 == ((rd_T23 x3 x7).f0)) || (!(bt266.2.1 == ((rd_T23 x3 x7).f1)) || (!(bt266.2.2.1 == ((rd_T23 x3 x7).f2))))) = true then (some false) else ((op_Encode.f k ((rd_T23 x3 x7).f0) ((rd_T23 x3 x7).f1) ((rd_T23 x3 x7).f2)).bind fun t274 => (if bt266.2.2.2.1 = (wrap64 (x6 + (t274.size : Int))) then (if bt266.2.2.2.1 > (x5.size : Int) then (some false) else (if 0 ≤ x6 then (if x6 ≤ bt266.2.2.2.1 then (if bt266.2.2.2.1 ≤ (x5.size : Int) then ((op_Encode.f k ((rd_T23 x3 x7).f0) ((rd_T23 x3 x7).f1) ((rd_T23 x3 x7).f2)).bind fun t276 => (if (x5.extract (x6 : Int).toNat (bt266.2.2.2.1 : Int).toNat).toList = t276.toList then (camshaftlaw04_OpParts.l1 k x3 x5 bt266.2.2.2.1 (wrap64 (x7 + 1))) else (some false))) else (none)) else (none)) else (none))) else (some false)))) else (none)) else (some false))) else (if x6 = (x5.size : Int) then ((camshaftlaw04_known.f k).bind fun t265 => (some t265)) else (some false))
end
def camshaftlaw04_OpParts.f (k : Nat) (l0 : List (S23)) : Option (Bool) := camshaftlaw04_OpParts.l0 k l0 ([] : List (S23)) 0
theorem camshaftlaw04_OpParts.mono_l : ∀ k, (∀ y0 y1 y2, LeO (camshaftlaw04_OpParts.l0 k y0 y1 y2) (camshaftlaw04_OpParts.l0 (k + 1) y0 y1 y2)) ∧ (∀ y0 y1 y2 y3, LeO (camshaftlaw04_OpParts.j1 k y0 y1 y2 y3) (camshaftlaw04_OpParts.j1 (k + 1) y0 y1 y2 y3)) ∧ (∀ y0 y1 y2 y3, LeO (camshaftlaw04_OpParts.l1 k y0 y1 y2 y3) (camshaftlaw04_OpParts.l1 (k + 1) y0 y1 y2 y3))
  | 0 => ⟨fun _ _ _ r h => by simp [camshaftlaw04_OpParts.l0] at h, fun _ _ _ _ r h => by simp [camshaftlaw04_OpParts.j1] at h, fun _ _ _ _ r h => by simp [camshaftlaw04_OpParts.l1] at h⟩
  | k + 1 => by
    obtain ⟨ih0, ih1, ih2⟩ := camshaftlaw04_OpParts.mono_l k
    refine ⟨?_, ?_, ?_⟩
    · intro y0 y1 y2
      unfold camshaftlaw04_OpParts.l0
      repeat' first
      | (with_reducible exact ih0 _ _ _)
      | (with_reducible exact ih1 _ _ _ _)
      | (with_reducible exact ih2 _ _ _ _)
      | (with_reducible exact camshaftlaw04_known.mono _)
      | (with_reducible exact op_Code.mono _ _)
      | (with_reducible exact op_Decode.mono _ _ _)
      | (with_reducible exact op_Encode.mono _ _ _ _)
      | (with_reducible exact LeO.refl _)
      | (with_reducible exact LeO.none _)
      | (with_reducible refine LeO.ite ?_ ?_)
      | (with_reducible refine LeO.bind ?_ (fun _ => ?_))
      | exact ih0 _ _ _
      | exact ih1 _ _ _ _
      | exact ih2 _ _ _ _
      | exact camshaftlaw04_known.mono _
      | exact op_Code.mono _ _
      | exact op_Decode.mono _ _ _
      | exact op_Encode.mono _ _ _ _
      | exact LeO.none _
      | refine LeO.ite ?_ ?_
      | refine LeO.bind ?_ (fun _ => ?_)
    · intro y0 y1 y2 y3
      unfold camshaftlaw04_OpParts.j1
      repeat' first
      | (with_reducible exact ih0 _ _ _)
      | (with_reducible exact ih1 _ _ _ _)
      | (with_reducible exact ih2 _ _ _ _)
      | (with_reducible exact camshaftlaw04_known.mono _)
      | (with_reducible exact op_Code.mono _ _)
      | (with_reducible exact op_Decode.mono _ _ _)
      | (with_reducible exact op_Encode.mono _ _ _ _)
      | (with_reducible exact LeO.refl _)
      | (with_reducible exact LeO.none _)
      | (with_reducible refine LeO.ite ?_ ?_)
      | (with_reducible refine LeO.bind ?_ (fun _ => ?_))
      | exact ih0 _ _ _
      | exact ih1 _ _ _ _
      | exact ih2 _ _ _ _
      | exact camshaftlaw04_known.mono _
      | exact op_Code.mono _ _
      | exact op_Decode.mono _ _ _
      | exact op_Encode.mono _ _ _ _
      | exact LeO.none _
      | refine LeO.ite ?_ ?_
      | refine LeO.bind ?_ (fun _ => ?_)
    · intro y0 y1 y2 y3
      unfold camshaftlaw04_OpParts.l1
      repeat' first
      | (with_reducible exact ih0 _ _ _)
      | (with_reducible exact ih1 _ _ _ _)
      | (with_reducible exact ih2 _ _ _ _)
      | (with_reducible exact camshaftlaw04_known.mono _)
      | (with_reducible exact op_Code.mono _ _)
      | (with_reducible exact op_Decode.mono _ _ _)
      | (with_reducible exact op_Encode.mono _ _ _ _)
      | (with_reducible exact LeO.refl _)
      | (with_reducible exact LeO.none _)
      | (with_reducible refine LeO.ite ?_ ?_)
      | (with_reducible refine LeO.bind ?_ (fun _ => ?_))
      | exact ih0 _ _ _
      | exact ih1 _ _ _ _
      | exact ih2 _ _ _ _
      | exact camshaftlaw04_known.mono _
      | exact op_Code.mono _ _
      | exact op_Decode.mono _ _ _
      | exact op_Encode.mono _ _ _ _
      | exact LeO.none _
      | refine LeO.ite ?_ ?_
      | refine LeO.bind ?_ (fun _ => ?_)
theorem camshaftlaw04_OpParts.mono : ∀ a0 k, LeO (camshaftlaw04_OpParts.f k a0) (camshaftlaw04_OpParts.f (k + 1) a0) := by
  intro a0 k
  obtain ⟨ih0, ih1, ih2⟩ := camshaftlaw04_OpParts.mono_l k
  unfold camshaftlaw04_OpParts.f
  repeat' first
      | (with_reducible exact ih0 _ _ _)
      | (with_reducible exact ih1 _ _ _ _)
      | (with_reducible exact ih2 _ _ _ _)
      | (with_reducible exact camshaftlaw04_known.mono _)
      | (with_reducible exact op_Code.mono _ _)
      | (with_reducible exact op_Decode.mono _ _ _)
      | (with_reducible exact op_Encode.mono _ _ _ _)
      | (with_reducible exact LeO.refl _)
      | (with_reducible exact LeO.none _)
      | (with_reducible refine LeO.ite ?_ ?_)
      | (with_reducible refine LeO.bind ?_ (fun _ => ?_))
      | exact ih0 _ _ _
      | exact ih1 _ _ _ _
      | exact ih2 _ _ _ _
      | exact camshaftlaw04_known.mono _
      | exact op_Code.mono _ _
      | exact op_Decode.mono _ _ _
      | exact op_Encode.mono _ _ _ _
      | exact LeO.none _
      | refine LeO.ite ?_ ?_
      | refine LeO.bind ?_ (fun _ => ?_)
def camshaftlaw04_OpParts.T13 : Bool × List (List Nat × List Nat) := (true, [([], []), ([0], [0]), ([1], [1]), ([2], [2]), ([2], [2]), ([2], [2]), ([4, 5, 2], [2, 4, 5]), ([6, 2], [2, 6]), ([3, 7, 2], [2, 3, 7]), ([2, 8], [2, 8]), ([9, 2], [9]), ([10], [10]), ([10], [10]), ([10], [10]), ([10], [10]), ([13, 14, 10], [10, 13, 14]), ([15, 10], [10, 15]), ([16, 10, 10], [10, 16]), ([17, 10], [10, 17]), ([12, 18, 10], [10, 12, 18]), ([11, 19, 10], [10, 11, 19]), ([10, 20], [10, 20]), ([21, 17], [21]), ([22], [22]), ([22], [22]), ([24, 22], [22, 24]), ([23, 25, 22], [22, 23, 25]), ([22, 26], [22, 26]), ([27, 22], [27]), ([28], [28]), ([28], [28]), ([28], [28]), ([29, 30, 31, 28], [28, 29, 30, 31]), ([28], [28]), ([28], [28]), ([33, 34, 28], [28, 33, 34]), ([35, 28], [28, 35]), ([36, 28, 28], [28, 36]), ([32, 37, 28], [28, 32, 37]), ([28, 38], [28, 38])])
def camshaftlaw04_OpParts.B13 : List Nat := [0, 1, 3, 7, 7, 7, 55, 119, 255, 511, 1023, 2047, 2047, 2047, 2047, 26623, 59391, 124927, 255999, 522239, 1048575, 2097151, 4194303, 8388607, 8388607, 25165823, 67108863, 134217727, 268435455, 536870911, 536870911, 536870911, 4294967295, 536870911, 536870911, 26306674687, 60666413055, 129385889791, 274877906943, 549755813887]
theorem camshaftlaw04_OpParts.tab13 : rtab .any (opsOf Try.f6 13) = camshaftlaw04_OpParts.T13 := by kernel_rfl
theorem camshaftlaw04_OpParts.bits13 : waitsOk camshaftlaw04_OpParts.T13.2 camshaftlaw04_OpParts.B13 = true := by kernel_rfl
set_option maxHeartbeats 8000000 in
set_option maxRecDepth 100000 in
theorem camshaftlaw04_OpParts.calls (k : Nat) (A0 : Option Addr) (c0 : Nat) (l0 : List (S23)) (r : Bool) (w : World) (hr0 : Kd.C k23 w A0 l0.length l0) (hc0 : l0.length ≤ c0) (h : camshaftlaw04_OpParts.f k l0 = some r) (ht : r = true) :
    Calls Try.prog 6 #[.slice A0 l0.length c0] w fun e w' => e = .returned (.bool r) ∧ Below w.heap.size w w' := by
  have hu23 := Try.underlying23
  have HT := Aside0.mk ht
  clear ht
  have HR0 := Aside0.mk hr0
  have HC0 := Aside0.mk hc0
  clear hr0 hc0
  have HB := Aside0.mk (Below.refl w.heap.size w)
  have H : (camshaftlaw04_OpParts.l0 k l0 ([] : List (S23)) 0) = some r := h
  clear h
  have H' := Aside0.mk H
  clear H
  go_enter Try.func6, Try.ntmps6
  go_wp2
  go_loopg [3, 4] k (fun kq v3 v4 w' => ∃ (x3_1 : List (S23)) (x4_1 : Int), v4 = .int .i64 x4_1 ∧ Aside0 (camshaftlaw04_OpParts.l0 kq l0 x3_1 x4_1 = some r) ∧ Aside0 (kq ≤ k) ∧ Aside0 (Kd.R k23 23 w' w.heap.size (fun _ => True) v3 x3_1) ∧ Aside0 (Below w.heap.size w w'))
  case atStart => exact ⟨(([] : List (S23))), (0), (by first | rfl | (simp; done) | (simp [*]; done)), H', ⟨Nat.le_refl _⟩, ⟨by first | exact Kd.R_nil _ _ _ _ _ | exact Kd.N_nil _ _ _ _ _ | exact Kd.V_nil _ _ _ _ _ | exact Kd.Q_nil _ _ _ _ _ | exact Kd.S_nil _ _ _ _ _⟩, ⟨by repeat (first | (with_reducible first | exact HB.out | apply below_alloc | apply pw_below_drewN | apply below_drew1) | exact HB.out)⟩⟩
  case round =>
    clear H'
    obtain ⟨x3_1, x4_1, rfl, HA, HK1, HO_3, HB⟩ := hrel
    cases gk with
    | zero => exact absurd HA.out (by simp [camshaftlaw04_OpParts.l0])
    | succ k1 =>
      have H := HA.out
      clear HA
      simp only [camshaftlaw04_OpParts.l0] at H
      have HC2 := Aside0.mk H
      clear H
      go_upto_region 3 with (fail)
      go_cut [18] (fun v18 wc => ∃ (kq : Nat) (x18_1 : Bool), v18 = .bool x18_1 ∧ Aside0 (camshaftlaw04_OpParts.j1 kq l0 x3_1 x4_1 x18_1 = some r) ∧ Aside0 (kq ≤ k1) ∧ Aside0 (Kd.R k23 23 wc w.heap.size (fun _ => True) u3 x3_1) ∧ Aside0 (Below w.heap.size w wc))
      case first =>
        have H := HC2.out
        clear HC2
        by_cases c3 : x4_1 < (l0.length : Int)
        · rw [if_pos c3] at H
          have c3b0 : decide (x4_1 < (l0.length : Int)) = true := decide_eq_true c3
          clear c3
          (first | rw [c3b0] | (simp only [i64_w, i32_w]; rw [c3b0]) | skip)
          have H' := Aside0.mk H
          clear H
          go_wp2
          go_meet
          case rel => exact ⟨_, (decide (x4_1 < 100)), (by first | rfl | (simp; done) | (simp [*]; done)), H', ⟨by have := HK1.out; first | omega | exact Nat.le_refl _⟩, ⟨by (with_reducible repeat (first | apply Kd.R_alloc | apply Kd.R_drewN | apply Kd.R_drew)); exact HO_3.out⟩, ⟨by repeat (first | (with_reducible first | exact HB.out | apply below_alloc | apply pw_below_drewN | apply below_drew1) | exact HB.out | exact Below.refl _ _)⟩⟩
        · rw [if_neg c3] at H
          have c3b0 : decide (x4_1 < (l0.length : Int)) = false := decide_eq_false c3
          clear c3
          (first | rw [c3b0] | (simp only [i64_w, i32_w]; rw [c3b0]) | skip)
          have H' := Aside0.mk H
          clear H
          go_wp2
          go_meet
          case rel => exact ⟨_, (false), (by first | rfl | (simp; done) | (simp [*]; done)), H', ⟨by have := HK1.out; first | omega | exact Nat.le_refl _⟩, ⟨by (with_reducible repeat (first | apply Kd.R_alloc | apply Kd.R_drewN | apply Kd.R_drew)); exact HO_3.out⟩, ⟨by repeat (first | (with_reducible first | exact HB.out | apply below_alloc | apply pw_below_drewN | apply below_drew1) | exact HB.out | exact Below.refl _ _)⟩⟩
      case rest =>
        clear HC2
        try clear p2
        try clear c3
        try clear c3b0
        obtain ⟨kq, x18_1, rfl, HA, HJ1, HO_3, HB⟩ := hcut
        cases kq with
        | zero => exact absurd HA.out (by simp [camshaftlaw04_OpParts.j1])
        | succ kj1 =>
          have H := HA.out
          clear HA
          simp only [camshaftlaw04_OpParts.j1] at H
          by_cases c4 : x18_1 = true
          · subst c4
            have H1 : (if 0 ≤ x4_1 then (if x4_1 < (l0.length : Int) then ((op_Right.f ((rd_T23 l0 x4_1).f0) ((rd_T23 l0 x4_1).f1) ((rd_T23 l0 x4_1).f2)).bind fun t259 => (if t259 = true then (if x3_1.length < 5864062014805 then (camshaftlaw04_OpParts.l0 kj1 l0 (x3_1 ++ [(⟨(rd_T23 l0 x4_1).f0, (rd_T23 l0 x4_1).f1, (rd_T23 l0 x4_1).f2⟩ : S23)]) (wrap64 (x4_1 + 1))) else (none)) else (camshaftlaw04_OpParts.l0 kj1 l0 x3_1 (wrap64 (x4_1 + 1))))) else (none)) else (none)) = some r := by rw [if_pos rfl] at H; exact H
            clear H
            have H := H1
            clear H1
            by_cases c5 : 0 ≤ x4_1
            · rw [if_pos c5] at H
              have c5b0 : decide (0 ≤ x4_1) = true := decide_eq_true c5
              clear c5
              by_cases c6 : x4_1 < (l0.length : Int)
              · rw [if_pos c6] at H
                have c6b0 : decide (x4_1 < (l0.length : Int)) = true := decide_eq_true c6
                clear c6
                replace H := Option.bind_eq_some_iff.mp H
                obtain ⟨t259, A70, H⟩ := H
                replace H : (if t259 = true then (if x3_1.length < 5864062014805 then (camshaftlaw04_OpParts.l0 kj1 l0 (x3_1 ++ [(⟨(rd_T23 l0 x4_1).f0, (rd_T23 l0 x4_1).f1, (rd_T23 l0 x4_1).f2⟩ : S23)]) (wrap64 (x4_1 + 1))) else (none)) else (camshaftlaw04_OpParts.l0 kj1 l0 x3_1 (wrap64 (x4_1 + 1)))) = some r := H
                have A7 := Aside0.mk A70
                clear A70
                by_cases c8 : t259 = true
                · subst c8
                  have H1 : (if x3_1.length < 5864062014805 then (camshaftlaw04_OpParts.l0 kj1 l0 (x3_1 ++ [(⟨(rd_T23 l0 x4_1).f0, (rd_T23 l0 x4_1).f1, (rd_T23 l0 x4_1).f2⟩ : S23)]) (wrap64 (x4_1 + 1))) else (none)) = some r := by rw [if_pos rfl] at H; exact H
                  clear H
                  have H := H1
                  clear H1
                  by_cases c9 : x3_1.length < 5864062014805
                  · rw [if_pos c9] at H
                    have LMc9 := Aside0.mk c9
                    clear c9
                    obtain ⟨y261, hy261⟩ : ∃ y_ : List (S23), y_ = (x3_1 ++ [(⟨(rd_T23 l0 x4_1).f0, (rd_T23 l0 x4_1).f1, (rd_T23 l0 x4_1).f2⟩ : S23)]) := ⟨_, rfl⟩
                    replace H : (camshaftlaw04_OpParts.l0 kj1 l0 y261 (wrap64 (x4_1 + 1))) = some r := by first | (rw [hy261]; with_reducible exact H) | (have H2_ := (Option.bind_some _ _).symm.trans H; rw [hy261]; with_reducible exact H2_) | (have H2_ := (Option.bind_some _ _).symm.trans H; with_reducible exact H2_) | with_reducible exact H | (rw [hy261]; exact H) | exact H
                    have Ny261 := Aside0.mk hy261
                    clear hy261
                    have H' := Aside0.mk H
                    clear H
                    have p258 : 0 ≤ (x4_1 : Int) := of_decide_eq_true (by first | (with_reducible assumption) | assumption)
                    have q258 : x4_1 < (l0.length : Int) := of_decide_eq_true (by first | (with_reducible assumption) | assumption)
                    obtain ⟨ad258, e258, hx258_0, hx258_1, hx258_2⟩ := at_T23 HR0.out x4_1 p258 q258
                    cases e258
                    replace hx258_0 := (HB.out.cell (World.block_lt_of_cell? w _ hx258_0)).trans hx258_0
                    replace hx258_1 := (HB.out.cell (World.block_lt_of_cell? w _ hx258_1)).trans hx258_1
                    replace hx258_2 := (HB.out.cell (World.block_lt_of_cell? w _ hx258_2)).trans hx258_2
                    replace p258 := eq_true p258
                    replace q258 := eq_true q258
                    go_wp2_with (first | ((with_reducible refine gate_callee (f := 10) rfl ?_); refine goesL_ (some 25) rfl rfl Try.func10 (by kernel_rfl) rfl #[.agg #[.int .i64 ((rd_T23 l0 x4_1).f0), .int .i64 ((rd_T23 l0 x4_1).f1), .int .i64 ((rd_T23 l0 x4_1).f2)]] rfl (by (try simp only [List.map_toArray, List.map_cons, List.map_nil]); first | done | rfl | (simp only [List.length_drop, List.length_take]; rfl)) ?_; (with_reducible refine (op_Right.calls ((rd_T23 l0 x4_1).f0) ((rd_T23 l0 x4_1).f1) ((rd_T23 l0 x4_1).f2) true _ A7.out).mono ?_); rintro e w10 ⟨rfl, hb⟩; refine ⟨_, rfl, ?_⟩; have n0_ := Aside0.mk (Kd.R_below (by (with_reducible repeat (first | apply Kd.R_alloc | apply Kd.R_drewN | apply Kd.R_drew)); exact HO_3.out) hb); have n1_ := Aside0.mk (below_step (by repeat (first | (with_reducible first | exact HB.out | apply below_alloc | apply pw_below_drewN | apply below_drew1) | exact HB.out)) hb); clear HO_3; clear HB; have HO_3 := n0_; have HB := n1_; clear n0_ n1_; (try clear hb); (try clear hb2); (try clear hk); (try clear hi); have p260 : 0 ≤ (x4_1 : Int) := of_decide_eq_true (by first | (with_reducible assumption) | assumption); have q260 : x4_1 < (l0.length : Int) := of_decide_eq_true (by first | (with_reducible assumption) | assumption); obtain ⟨ad260, e260, hx260_0, hx260_1, hx260_2⟩ := at_T23 HR0.out x4_1 p260 q260; obtain rfl : ad258 = ad260 := (by injection e260); replace hx260_0 := (HB.out.cell (World.block_lt_of_cell? w _ hx260_0)).trans hx260_0; replace hx260_1 := (HB.out.cell (World.block_lt_of_cell? w _ hx260_1)).trans hx260_1; replace hx260_2 := (HB.out.cell (World.block_lt_of_cell? w _ hx260_2)).trans hx260_2; replace p260 := eq_true p260; replace q260 := eq_true q260) | ((with_reducible refine gate_builtin (b := .append) (xs := #[.tmp 26, .tmp 31]) rfl ?_); (try (refine gate_guard (by rfl) ?_; dsimp only)); at_builtin; refine Kd.R_append k23 (w0 := w) w.heap.size rfl (.tmp 26) (.tmp 31) 32 23 (.agg #[(.int .i64 0), (.int .i64 0), (.int .i64 0)]) 24 rfl Try.underlying32 info23 rfl (by decide) (by omega) u3 x3_1 (⟨(rd_T23 l0 x4_1).f0, (rd_T23 l0 x4_1).f1, (rd_T23 l0 x4_1).f2⟩ : S23) [.int .i64 ((rd_T23 l0 x4_1).f0), .int .i64 ((rd_T23 l0 x4_1).f1), .int .i64 ((rd_T23 l0 x4_1).f2)] (fun _ => True) (fun _ => False) rfl rfl ?aP (fun _ hk => hk.elim) ?aF ?aO ?aB ?aS ?aL ?_; (case aP => exact k23_mkM _ _ _ (⟨(rd_T23 l0 x4_1).f0, (rd_T23 l0 x4_1).f1, (rd_T23 l0 x4_1).f2⟩ : S23)); (case aB => exact (by repeat (first | (with_reducible first | exact HB.out | apply below_alloc | apply pw_below_drewN | apply below_drew1) | exact HB.out))); (case aF => exact (fun _ _ => trivial)); (case aO => exact (by (with_reducible repeat (first | apply Kd.R_alloc | apply Kd.R_drewN | apply Kd.R_drew)); exact HO_3.out)); (case aS => exact (below_size (by repeat (first | (with_reducible first | exact HB.out | apply below_alloc | apply pw_below_drewN | apply below_drew1) | exact HB.out)))); (case aL => have := LMc9.out; omega); intro v262 w11 ho hb hg hat; rw [← Ny261.out] at ho; have n0_ := Aside0.mk (hb); have n1_ := Aside0.mk (ho); clear HB; clear HO_3; have HB := n0_; have HO263 := n1_; clear n0_ n1_; clear ho hb hg hat))
                    go_roundg kj1
                    case measure => have := HK1.out; have := HJ1.out; omega
                    case rel => exact ⟨(y261), (wrap64 (x4_1 + 1)), (by first | rfl | (simp; done) | (simp [*]; done)), H', ⟨by have := HK1.out; have := HJ1.out; omega⟩, ⟨by (with_reducible repeat (first | apply Kd.R_alloc | apply Kd.R_drewN | apply Kd.R_drew)); exact HO263.out⟩, ⟨by repeat (first | (with_reducible first | exact HB.out | apply below_alloc | apply pw_below_drewN | apply below_drew1) | exact HB.out | exact Below.refl _ _)⟩⟩
                  · rw [if_neg c9] at H
                    exact absurd H (by simp)
                · replace c8 := Bool.eq_false_iff.mpr c8
                  subst c8
                  have H1 : (camshaftlaw04_OpParts.l0 kj1 l0 x3_1 (wrap64 (x4_1 + 1))) = some r := by rw [if_neg (show ¬ (false = true) by decide)] at H; exact H
                  clear H
                  have H := H1
                  clear H1
                  have H' := Aside0.mk H
                  clear H
                  have p258 : 0 ≤ (x4_1 : Int) := of_decide_eq_true (by first | (with_reducible assumption) | assumption)
                  have q258 : x4_1 < (l0.length : Int) := of_decide_eq_true (by first | (with_reducible assumption) | assumption)
                  obtain ⟨ad258, e258, hx258_0, hx258_1, hx258_2⟩ := at_T23 HR0.out x4_1 p258 q258
                  cases e258
                  replace hx258_0 := (HB.out.cell (World.block_lt_of_cell? w _ hx258_0)).trans hx258_0
                  replace hx258_1 := (HB.out.cell (World.block_lt_of_cell? w _ hx258_1)).trans hx258_1
                  replace hx258_2 := (HB.out.cell (World.block_lt_of_cell? w _ hx258_2)).trans hx258_2
                  replace p258 := eq_true p258
                  replace q258 := eq_true q258
                  go_wp2_with (first | ((with_reducible refine gate_callee (f := 10) rfl ?_); refine goesL_ (some 25) rfl rfl Try.func10 (by kernel_rfl) rfl #[.agg #[.int .i64 ((rd_T23 l0 x4_1).f0), .int .i64 ((rd_T23 l0 x4_1).f1), .int .i64 ((rd_T23 l0 x4_1).f2)]] rfl (by (try simp only [List.map_toArray, List.map_cons, List.map_nil]); first | done | rfl | (simp only [List.length_drop, List.length_take]; rfl)) ?_; (with_reducible refine (op_Right.calls ((rd_T23 l0 x4_1).f0) ((rd_T23 l0 x4_1).f1) ((rd_T23 l0 x4_1).f2) false _ A7.out).mono ?_); rintro e w12 ⟨rfl, hb⟩; refine ⟨_, rfl, ?_⟩; have n0_ := Aside0.mk (Kd.R_below (by (with_reducible repeat (first | apply Kd.R_alloc | apply Kd.R_drewN | apply Kd.R_drew)); exact HO_3.out) hb); have n1_ := Aside0.mk (below_step (by repeat (first | (with_reducible first | exact HB.out | apply below_alloc | apply pw_below_drewN | apply below_drew1) | exact HB.out)) hb); clear HO_3; clear HB; have HO_3 := n0_; have HB := n1_; clear n0_ n1_; (try clear hb); (try clear hb2); (try clear hk); (try clear hi)))
                  go_roundg kj1
                  case measure => have := HK1.out; have := HJ1.out; omega
                  case rel => exact ⟨(x3_1), (wrap64 (x4_1 + 1)), (by first | rfl | (simp; done) | (simp [*]; done)), H', ⟨by have := HK1.out; have := HJ1.out; omega⟩, ⟨by (with_reducible repeat (first | apply Kd.R_alloc | apply Kd.R_drewN | apply Kd.R_drew)); exact HO_3.out⟩, ⟨by repeat (first | (with_reducible first | exact HB.out | apply below_alloc | apply pw_below_drewN | apply below_drew1) | exact HB.out | exact Below.refl _ _)⟩⟩
              · rw [if_neg c6] at H
                exact absurd H (by simp)
            · rw [if_neg c5] at H
              exact absurd H (by simp)
          · replace c4 := Bool.eq_false_iff.mpr c4
            subst c4
            have H1 : ((op_Code.f kj1 x3_1).bind fun t264 => (camshaftlaw04_OpParts.l1 kj1 x3_1 t264 0 0)) = some r := by rw [if_neg (show ¬ (false = true) by decide)] at H; exact H
            clear H
            have H := H1
            clear H1
            replace H := Option.bind_eq_some_iff.mp H
            obtain ⟨t264, A130, H⟩ := H
            replace H : (camshaftlaw04_OpParts.l1 kj1 x3_1 t264 0 0) = some r := H
            have A13 := Aside0.mk A130
            clear A130
            have H' := Aside0.mk H
            clear H
            obtain ⟨Ao14, co14, eo14⟩ := Kd.R_slice HO_3.out
            subst eo14
            go_wp2_with (first | ((with_reducible refine gate_callee (f := 24) rfl ?_); refine goesL_ (some 34) rfl rfl Try.func24 (by kernel_rfl) rfl #[.slice Ao14 x3_1.length co14] rfl (by (try simp only [List.map_toArray, List.map_cons, List.map_nil]); first | done | rfl | (simp only [List.length_drop, List.length_take]; rfl)) ?_; (with_reducible refine (op_Code.calls kj1 _ _ x3_1 t264 _ ?side1 ?side2 A13.out).mono ?_); (case side1 => repeat (first | exact (Kd.R_reads' HO_3.out).2.2 | (with_reducible refine Kd.C_alloc ?_ _) | (with_reducible refine Kd.C_drewN ?_ _) | (with_reducible refine Kd.C_drew ?_))); (case side2 => exact (Kd.R_reads' HO_3.out).2.1); rintro e w15 ⟨rfl, hb⟩; refine ⟨_, rfl, ?_⟩; have n0_ := Aside0.mk (Kd.R_below (by (with_reducible repeat (first | apply Kd.R_alloc | apply Kd.R_drewN | apply Kd.R_drew)); exact HO_3.out) hb); have n1_ := Aside0.mk (below_step (by repeat (first | (with_reducible first | exact HB.out | apply below_alloc | apply pw_below_drewN | apply below_drew1) | exact HB.out)) hb); clear HO_3; clear HB; have HO_3 := n0_; have HB := n1_; clear n0_ n1_; (try clear hb); (try clear hb2); (try clear hk); (try clear hi)))
            go_loopg [6, 7] kj1 (fun kq v6 v7 w' => ∃ (x6_3 : Int) (x7_3 : Int), v6 = .int .i64 x6_3 ∧ v7 = .int .i64 x7_3 ∧ Aside0 (camshaftlaw04_OpParts.l1 kq x3_1 t264 x6_3 x7_3 = some r) ∧ Aside0 (kq ≤ kj1) ∧ Aside0 (Kd.R k23 23 w' w.heap.size (fun _ => True) (.slice Ao14 x3_1.length co14) x3_1) ∧ Aside0 (Below w.heap.size w w'))
            case atStart => exact ⟨(0), (0), (by first | rfl | (simp; done) | (simp [*]; done)), (by first | rfl | (simp; done) | (simp [*]; done)), H', ⟨Nat.le_refl _⟩, ⟨by (with_reducible repeat (first | apply Kd.R_alloc | apply Kd.R_drewN | apply Kd.R_drew)); exact HO_3.out⟩, ⟨by repeat (first | (with_reducible first | exact HB.out | apply below_alloc | apply pw_below_drewN | apply below_drew1) | exact HB.out)⟩⟩
            case round =>
              clear H'
              try clear c1
              try clear c2
              try clear p2
              try clear q2
              try clear hx2
              try clear c3
              try clear c3b0
              try clear c4
              try clear c5
              try clear c5b0
              try clear c6
              try clear c6b0
              try clear p6
              try clear c8
              try clear c9
              try clear c10
              try clear hx258_0
              try clear hx258_1
              try clear hx258_2
              try clear hx260_0
              try clear hx260_1
              try clear hx260_2
              try clear p2
              try clear p258
              try clear p260
              try clear q258
              try clear q260
              obtain ⟨x6_3, x7_3, rfl, rfl, HA, HK3, HO_3, HB⟩ := hrel
              cases gk with
              | zero => exact absurd HA.out (by simp [camshaftlaw04_OpParts.l1])
              | succ k3 =>
                have H := HA.out
                clear HA
                simp only [camshaftlaw04_OpParts.l1] at H
                by_cases c16 : x7_3 < (x3_1.length : Int)
                · rw [if_pos c16] at H
                  have c16b0 : decide (x7_3 < (x3_1.length : Int)) = true := decide_eq_true c16
                  clear c16
                  replace H := Option.bind_eq_some_iff.mp H
                  obtain ⟨⟨t266, t267, t268, t269, t270⟩, A170, H⟩ := H
                  replace H : (if t270 = 0 then (if 0 ≤ x7_3 then (if (!(t266 == ((rd_T23 x3_1 x7_3).f0)) || (!(t267 == ((rd_T23 x3_1 x7_3).f1)) || (!(t268 == ((rd_T23 x3_1 x7_3).f2))))) = true then (some false) else ((op_Encode.f k3 ((rd_T23 x3_1 x7_3).f0) ((rd_T23 x3_1 x7_3).f1) ((rd_T23 x3_1 x7_3).f2)).bind fun t274 => (if t269 = (wrap64 (x6_3 + (t274.size : Int))) then (if t269 > (t264.size : Int) then (some false) else (if 0 ≤ x6_3 then (if x6_3 ≤ t269 then (if t269 ≤ (t264.size : Int) then ((op_Encode.f k3 ((rd_T23 x3_1 x7_3).f0) ((rd_T23 x3_1 x7_3).f1) ((rd_T23 x3_1 x7_3).f2)).bind fun t276 => (if (t264.extract (x6_3 : Int).toNat (t269 : Int).toNat).toList = t276.toList then (camshaftlaw04_OpParts.l1 k3 x3_1 t264 t269 (wrap64 (x7_3 + 1))) else (some false))) else (none)) else (none)) else (none))) else (some false)))) else (none)) else (some false)) = some r := H
                  have A17 := Aside0.mk A170
                  clear A170
                  by_cases c18 : t270 = 0
                  · rw [if_pos c18] at H
                    have c18b0 : (t270 == 0) = true := beq_iff_eq.mpr c18
                    have c18b1 : (t270 != 0) = false := bne_eq_false_iff_eq.mpr c18
                    clear c18
                    by_cases c19 : 0 ≤ x7_3
                    · rw [if_pos c19] at H
                      have c19b0 : decide (0 ≤ x7_3) = true := decide_eq_true c19
                      clear c19
                      by_cases c20 : (!(t266 == ((rd_T23 x3_1 x7_3).f0)) || (!(t267 == ((rd_T23 x3_1 x7_3).f1)) || (!(t268 == ((rd_T23 x3_1 x7_3).f2))))) = true
                      · rw [if_pos c20] at H
                        have c20b0 : (!(t266 == ((rd_T23 x3_1 x7_3).f0)) || (!(t267 == ((rd_T23 x3_1 x7_3).f1)) || (!(t268 == ((rd_T23 x3_1 x7_3).f2))))) = true := c20
                        clear c20
                        exact absurd ((Option.some.inj H).trans HT.out) (by decide)
                      · rw [if_neg c20] at H
                        have c20b0 : (!(t266 == ((rd_T23 x3_1 x7_3).f0)) || (!(t267 == ((rd_T23 x3_1 x7_3).f1)) || (!(t268 == ((rd_T23 x3_1 x7_3).f2))))) = false := by simpa using c20
                        clear c20
                        replace H := Option.bind_eq_some_iff.mp H
                        obtain ⟨t274, A210, H⟩ := H
                        replace H : (if t269 = (wrap64 (x6_3 + (t274.size : Int))) then (if t269 > (t264.size : Int) then (some false) else (if 0 ≤ x6_3 then (if x6_3 ≤ t269 then (if t269 ≤ (t264.size : Int) then ((op_Encode.f k3 ((rd_T23 x3_1 x7_3).f0) ((rd_T23 x3_1 x7_3).f1) ((rd_T23 x3_1 x7_3).f2)).bind fun t276 => (if (t264.extract (x6_3 : Int).toNat (t269 : Int).toNat).toList = t276.toList then (camshaftlaw04_OpParts.l1 k3 x3_1 t264 t269 (wrap64 (x7_3 + 1))) else (some false))) else (none)) else (none)) else (none))) else (some false)) = some r := H
                        have A21 := Aside0.mk A210
                        clear A210
                        by_cases c22 : t269 = (wrap64 (x6_3 + (t274.size : Int)))
                        · rw [if_pos c22] at H
                          have c22b0 : (t269 == (wrap64 (x6_3 + (t274.size : Int)))) = true := beq_iff_eq.mpr c22
                          have c22b1 : (t269 != (wrap64 (x6_3 + (t274.size : Int)))) = false := bne_eq_false_iff_eq.mpr c22
                          clear c22
                          by_cases c23 : t269 > (t264.size : Int)
                          · rw [if_pos c23] at H
                            have c23b0 : decide ((t264.size : Int) < t269) = true := decide_eq_true c23
                            clear c23
                            exact absurd ((Option.some.inj H).trans HT.out) (by decide)
                          · rw [if_neg c23] at H
                            have c23b0 : decide ((t264.size : Int) < t269) = false := decide_eq_false c23
                            clear c23
                            by_cases c24 : 0 ≤ x6_3
                            · rw [if_pos c24] at H
                              have c24b0 := eq_true c24
                              have c24b1 : decide (0 ≤ x6_3) = true := decide_eq_true c24
                              clear c24
                              by_cases c25 : x6_3 ≤ t269
                              · rw [if_pos c25] at H
                                have c25b0 := eq_true c25
                                have c25b1 : decide (x6_3 ≤ t269) = true := decide_eq_true c25
                                clear c25
                                by_cases c26 : t269 ≤ (t264.size : Int)
                                · rw [if_pos c26] at H
                                  have c26b0 := eq_true c26
                                  have c26b1 : decide (t269 ≤ (t264.size : Int)) = true := decide_eq_true c26
                                  clear c26
                                  replace H := Option.bind_eq_some_iff.mp H
                                  obtain ⟨t276, A270, H⟩ := H
                                  replace H : (if (t264.extract (x6_3 : Int).toNat (t269 : Int).toNat).toList = t276.toList then (camshaftlaw04_OpParts.l1 k3 x3_1 t264 t269 (wrap64 (x7_3 + 1))) else (some false)) = some r := H
                                  have A27 := Aside0.mk A270
                                  clear A270
                                  by_cases c28 : (t264.extract (x6_3 : Int).toNat (t269 : Int).toNat).toList = t276.toList
                                  · rw [if_pos c28] at H
                                    have c28b0 : ((t264.extract (x6_3 : Int).toNat (t269 : Int).toNat).toList == t276.toList) = true := beq_iff_eq.mpr c28
                                    have c28b1 : ((t264.extract (x6_3 : Int).toNat (t269 : Int).toNat).toList != t276.toList) = false := bne_eq_false_iff_eq.mpr c28
                                    clear c28
                                    have H' := Aside0.mk H
                                    clear H
                                    try go_wp2_with (first | ((with_reducible refine gate_callee (f := 19) rfl ?_); refine goesL_ (some 44) rfl rfl Try.func19 (by kernel_rfl) rfl #[.string t264, .int .i64 x6_3] rfl (by (try simp only [List.map_toArray, List.map_cons, List.map_nil]); first | done | rfl | (simp only [List.length_drop, List.length_take]; rfl)) ?_; (with_reducible refine (op_Decode.calls k3 t264 x6_3 t266 t267 t268 t269 t270 _ A17.out).mono ?_); rintro e w29 ⟨rfl, hb⟩; refine ⟨_, rfl, ?_⟩; have n0_ := Aside0.mk (Kd.R_below (by (with_reducible repeat (first | apply Kd.R_alloc | apply Kd.R_drewN | apply Kd.R_drew)); exact HO_3.out) hb); have n1_ := Aside0.mk (below_step (by repeat (first | (with_reducible first | exact HB.out | apply below_alloc | apply pw_below_drewN | apply below_drew1) | exact HB.out)) hb); clear HO_3; clear HB; have HO_3 := n0_; have HB := n1_; clear n0_ n1_; (try clear hb); (try clear hb2); (try clear hk); (try clear hi)) | ((with_reducible refine gate_dst (N := 8) rfl ?_); (try (refine gate_guard (by rfl) ?_; dsimp only)); refine box_event ?hg (N := 8) ?hd (cs := #[.int .i64 0, .int .i64 0, .int .i64 0]) (t := 23) ?hr ?_; (case hd => rfl); (case hg => rfl); (case hr => first | (go_simp; done) | (go_simp; rfl)); intro gb271 hg w30 hbox hb; have n0_ := Aside0.mk (Kd.R_below (Kd.R_elderB (by (with_reducible repeat (first | apply Kd.R_alloc | apply Kd.R_drewN | apply Kd.R_drew)); exact HO_3.out) gb271 (Nat.le_of_eq hg.symm)) hb); have n1_ := Aside0.mk (below_step (by repeat (first | (with_reducible first | exact HB.out | apply below_alloc | apply pw_below_drewN | apply below_drew1) | exact HB.out)) hb); have n2_ := Aside0.mk (hbox); have n3_ := Aside0.mk ((by rw [hg]; exact (below_size (by repeat (first | (with_reducible first | exact HB.out | apply below_alloc | apply pw_below_drewN | apply below_drew1) | exact HB.out))) : w.heap.size ≤ gb271)); have n4_ := Aside0.mk ((by rw [hg]; exact (below_size (by repeat (first | (with_reducible first | exact HB.out | apply below_alloc | apply pw_below_drewN | apply below_drew1) | exact HB.out))) : w.heap.size ≤ gb271)); clear HO_3; clear HB; have HO_3 := n0_; have HB := n1_; have BK271 := n2_; have GW271 := n3_; have GE271 := n4_; clear n0_ n1_ n2_ n3_ n4_; clear hb hbox hg; have hcz31_0 : w30.cell? ⟨gb271, 0, none⟩ = some (.int .i64 0) := (blk_cell BK271.out 0).trans rfl; have hcz31_1 : w30.cell? ⟨gb271, 1, none⟩ = some (.int .i64 0) := (blk_cell BK271.out 1).trans rfl; have hcz31_2 : w30.cell? ⟨gb271, 2, none⟩ = some (.int .i64 0) := (blk_cell BK271.out 2).trans rfl; have hfz31_0 := blk_frozen BK271.out 0; have hfz31_1 := blk_frozen BK271.out 1; have hfz31_2 := blk_frozen BK271.out 2))
                                    have n0_ : Aside0 (Kd.R k23 23 (((w30.setCell ⟨gb271, 0, none⟩ (.int .i64 t266)).setCell ⟨gb271, 1, none⟩ (.int .i64 t267)).setCell ⟨gb271, 2, none⟩ (.int .i64 t268)) w.heap.size (fun k_ => k_ ≠ gb271) (.slice Ao14 x3_1.length co14) x3_1) := ⟨by (with_reducible repeat (first | apply Kd.R_alloc | apply Kd.R_drewN | apply Kd.R_drew)); exact Kd.R_mono (Kd.R_far (p := ⟨gb271, 2, none⟩) (Kd.R_far (p := ⟨gb271, 1, none⟩) (Kd.R_far (p := ⟨gb271, 0, none⟩) (Kd.R_mono HO_3.out (fun k_ hk => (⟨hk, hk.2⟩ : _ ∧ k_ ≠ gb271))) (fun _ hk => hk.2) (.int .i64 t266)) (fun _ hk => hk.2) (.int .i64 t267)) (fun _ hk => hk.2) (.int .i64 t268)) (fun _ hk => hk.1.2)⟩
                                    have n1_ : Aside0 ((((w30.setCell ⟨gb271, 0, none⟩ (.int .i64 t266)).setCell ⟨gb271, 1, none⟩ (.int .i64 t267)).setCell ⟨gb271, 2, none⟩ (.int .i64 t268)).heap[gb271]? = some (.cells #[.int .i64 t266, .int .i64 t267, .int .i64 t268] 23 (0, 0))) := ⟨by (with_reducible repeat (first | refine blk_drewN ?_ _ | refine blk_drew ?_ | refine blk_alloc ?_ _)); refine blk_put (cs := #[.int .i64 t266, .int .i64 t267, .int .i64 0]) ?_ 2 _ rfl; (with_reducible repeat (first | refine blk_drewN ?_ _ | refine blk_drew ?_ | refine blk_alloc ?_ _)); refine blk_put (cs := #[.int .i64 t266, .int .i64 0, .int .i64 0]) ?_ 1 _ rfl; (with_reducible repeat (first | refine blk_drewN ?_ _ | refine blk_drew ?_ | refine blk_alloc ?_ _)); refine blk_put (cs := #[.int .i64 0, .int .i64 0, .int .i64 0]) ?_ 0 _ rfl; (with_reducible repeat (first | refine blk_drewN ?_ _ | refine blk_drew ?_ | refine blk_alloc ?_ _)); exact BK271.out⟩
                                    have n2_ : Aside0 (Below w.heap.size w (((w30.setCell ⟨gb271, 0, none⟩ (.int .i64 t266)).setCell ⟨gb271, 1, none⟩ (.int .i64 t267)).setCell ⟨gb271, 2, none⟩ (.int .i64 t268))) := ⟨by repeat (first | (with_reducible first | exact HB.out | apply below_alloc | apply pw_below_drewN | apply below_drew1 | refine below_set ?_ GE271.out) | exact HB.out)⟩
                                    (try clear HO_3)
                                    (try clear BK271)
                                    (try clear HB)
                                    generalize (((w30.setCell ⟨gb271, 0, none⟩ (.int .i64 t266)).setCell ⟨gb271, 1, none⟩ (.int .i64 t267)).setCell ⟨gb271, 2, none⟩ (.int .i64 t268)) = w32 at n0_ n1_ n2_ ⊢
                                    have HO_3 := n0_
                                    have BK271 := n1_
                                    have HB := n2_
                                    clear n0_ n1_ n2_
                                    have n0_ := Aside0.mk (Kd.R_drew HO_3.out)
                                    have n1_ := Aside0.mk (blk_drew BK271.out)
                                    have n2_ := Aside0.mk (below_drew1 HB.out)
                                    clear HO_3
                                    clear BK271
                                    clear HB
                                    have HO_3 := n0_
                                    have BK271 := n1_
                                    have HB := n2_
                                    clear n0_ n1_ n2_
                                    have p272 : 0 ≤ (x7_3 : Int) := of_decide_eq_true (by first | (with_reducible assumption) | assumption)
                                    have q272 : x7_3 < (x3_1.length : Int) := of_decide_eq_true (by first | (with_reducible assumption) | assumption)
                                    obtain ⟨ad272, e272, hx272_0, hx272_1, hx272_2⟩ := at_T23 (Kd.R_reads' HO_3.out).2.2 x7_3 p272 q272
                                    cases e272
                                    replace p272 := eq_true p272
                                    replace q272 := eq_true q272
                                    have p273 : 0 ≤ (x7_3 : Int) := of_decide_eq_true (by first | (with_reducible assumption) | assumption)
                                    have q273 : x7_3 < (x3_1.length : Int) := of_decide_eq_true (by first | (with_reducible assumption) | assumption)
                                    obtain ⟨ad273, e273, hx273_0, hx273_1, hx273_2⟩ := at_T23 (Kd.R_reads' HO_3.out).2.2 x7_3 p273 q273
                                    obtain rfl : ad272 = ad273 := (by injection e273)
                                    replace p273 := eq_true p273
                                    replace q273 := eq_true q273
                                    have p275 : 0 ≤ (x7_3 : Int) := of_decide_eq_true (by first | (with_reducible assumption) | assumption)
                                    have q275 : x7_3 < (x3_1.length : Int) := of_decide_eq_true (by first | (with_reducible assumption) | assumption)
                                    obtain ⟨ad275, e275, hx275_0, hx275_1, hx275_2⟩ := at_T23 (Kd.R_reads' HO_3.out).2.2 x7_3 p275 q275
                                    obtain rfl : ad272 = ad275 := (by injection e275)
                                    replace p275 := eq_true p275
                                    replace q275 := eq_true q275
                                    refine start_ (n := 40) (S := fun w' => w'.cell? ⟨gb271, 0, none⟩ = some (.int .i64 t266) ∧ w'.cell? ⟨gb271, 1, none⟩ = some (.int .i64 t267) ∧ w'.cell? ⟨gb271, 2, none⟩ = some (.int .i64 t268) ∧ w'.cell? (ad272.add ((x7_3).toNat * 3)) = some (.int .i64 ((rd_T23 x3_1 x7_3).f0)) ∧ w'.cell? ⟨(ad272.add ((x7_3).toNat * 3)).block, (ad272.add ((x7_3).toNat * 3)).off + 1, none⟩ = some (.int .i64 ((rd_T23 x3_1 x7_3).f1)) ∧ w'.cell? ⟨(ad272.add ((x7_3).toNat * 3)).block, (ad272.add ((x7_3).toNat * 3)).off + 2, none⟩ = some (.int .i64 ((rd_T23 x3_1 x7_3).f2)) ∧ w'.cell? (ad272.add ((x7_3).toNat * 3)) = some (.int .i64 ((rd_T23 x3_1 x7_3).f0)) ∧ w'.cell? ⟨(ad272.add ((x7_3).toNat * 3)).block, (ad272.add ((x7_3).toNat * 3)).off + 1, none⟩ = some (.int .i64 ((rd_T23 x3_1 x7_3).f1)) ∧ w'.cell? ⟨(ad272.add ((x7_3).toNat * 3)).block, (ad272.add ((x7_3).toNat * 3)).off + 2, none⟩ = some (.int .i64 ((rd_T23 x3_1 x7_3).f2)) ∧ w'.cell? (ad272.add ((x7_3).toNat * 3)) = some (.int .i64 ((rd_T23 x3_1 x7_3).f0)) ∧ w'.cell? ⟨(ad272.add ((x7_3).toNat * 3)).block, (ad272.add ((x7_3).toNat * 3)).off + 1, none⟩ = some (.int .i64 ((rd_T23 x3_1 x7_3).f1)) ∧ w'.cell? ⟨(ad272.add ((x7_3).toNat * 3)).block, (ad272.add ((x7_3).toNat * 3)).off + 2, none⟩ = some (.int .i64 ((rd_T23 x3_1 x7_3).f2))) (ds := []) #[false, false, false, false, false, false, false, false, false, false, false, false, false, false, false, false, false, false, false, false, false, false, false, false, false, false, false, false, false, false, false, false, false, false, false, false, false, false, false, false] (by kernel_rfl) rfl rfl ⟨(blk_cell BK271.out 0).trans rfl, (blk_cell BK271.out 1).trans rfl, (blk_cell BK271.out 2).trans rfl, hx272_0, hx272_1, hx272_2, hx273_0, hx273_1, hx273_2, hx275_0, hx275_1, hx275_2⟩ (fun hHeld => ?_); refine with_tabW camshaftlaw04_OpParts.tab13 camshaftlaw04_OpParts.bits13 (fun HT_ HW_ => ?_)
                                    generalize w32.drew = w33 at HO_3 BK271 HB hx272_0 hx272_1 hx272_2 hx273_0 hx273_1 hx273_2 hx275_0 hx275_1 hx275_2 hHeld ⊢
                                    refine pure_ (i := 0) (N := some 48) (v := ?_) (a' := ?_) #[true, false, false, false, false, false, false, false, false, false, false, false, false, false, false, false, false, false, false, false, false, false, false, false, false, false, false, false, false, false, false, false, false, false, false, false, false, false, false, false] rfl rfl (any_of HT_.out (by kernel_rfl)) (fun _ _ _ h => h) (Or.inl ⟨by rfl, ?_⟩) ?_ ?_
                                    rotate_left
                                    · intro w'
                                      go_simp
                                      with_reducible rfl
                                    rotate_left
                                    · simp only [Act.put, List.setIfInBounds_toArray, List.set_cons_zero, List.set_cons_succ, i64_w, i32_w]
                                      rfl
                                    refine pure_ (i := 1) (N := some 49) (v := ?_) (a' := ?_) #[true, true, false, false, false, false, false, false, false, false, false, false, false, false, false, false, false, false, false, false, false, false, false, false, false, false, false, false, false, false, false, false, false, false, false, false, false, false, false, false] rfl rfl (any_of HT_.out (by kernel_rfl)) (fun _ _ _ h => h) (Or.inl ⟨by rfl, ?_⟩) ?_ ?_
                                    rotate_left
                                    · intro w'
                                      go_simp
                                      with_reducible rfl
                                    rotate_left
                                    · simp only [Act.put, List.setIfInBounds_toArray, List.set_cons_zero, List.set_cons_succ, i64_w, i32_w]
                                      rfl
                                    refine pure_ (i := 2) (N := some 50) (v := ?_) (a' := ?_) #[true, true, true, false, false, false, false, false, false, false, false, false, false, false, false, false, false, false, false, false, false, false, false, false, false, false, false, false, false, false, false, false, false, false, false, false, false, false, false, false] rfl rfl (any_of HT_.out (by kernel_rfl)) (fun _ _ _ h => h) (Or.inl ⟨by rfl, ?_⟩) ?_ ?_
                                    rotate_left
                                    · intro w'
                                      go_simp
                                      with_reducible rfl
                                    rotate_left
                                    · simp only [Act.put, List.setIfInBounds_toArray, List.set_cons_zero, List.set_cons_succ, i64_w, i32_w]
                                      rfl
                                    refine pure_ (i := 4) (N := some 52) (v := ?_) (a' := ?_) #[true, true, true, false, true, false, false, false, false, false, false, false, false, false, false, false, false, false, false, false, false, false, false, false, false, false, false, false, false, false, false, false, false, false, false, false, false, false, false, false] rfl rfl (any_of HT_.out (by kernel_rfl)) (fun _ _ _ h => h) (Or.inl ⟨by rfl, ?_⟩) ?_ ?_
                                    rotate_left
                                    · intro w'
                                      go_simp
                                      with_reducible rfl
                                    rotate_left
                                    · simp only [Act.put, List.setIfInBounds_toArray, List.set_cons_zero, List.set_cons_succ, i64_w, i32_w]
                                      rfl
                                    refine pure_ (i := 5) (N := some 53) (v := ?_) (a' := ?_) #[true, true, true, false, true, true, false, false, false, false, false, false, false, false, false, false, false, false, false, false, false, false, false, false, false, false, false, false, false, false, false, false, false, false, false, false, false, false, false, false] rfl rfl (any_of HT_.out (by kernel_rfl)) (fun _ _ _ h => h) (Or.inl ⟨by rfl, ?_⟩) ?_ ?_
                                    rotate_left
                                    · intro w'
                                      go_simp
                                      with_reducible rfl
                                    rotate_left
                                    · simp only [Act.put, List.setIfInBounds_toArray, List.set_cons_zero, List.set_cons_succ, i64_w, i32_w]
                                      rfl
                                    refine pure_ (i := 6) (N := some 54) (v := ?_) (a' := ?_) #[true, true, true, false, true, true, true, false, false, false, false, false, false, false, false, false, false, false, false, false, false, false, false, false, false, false, false, false, false, false, false, false, false, false, false, false, false, false, false, false] rfl rfl (any_of HT_.out (by kernel_rfl)) (fun _ _ _ h => h) (Or.inl ⟨by rfl, ?_⟩) ?_ ?_
                                    rotate_left
                                    · intro w'
                                      go_simp
                                      with_reducible rfl
                                    rotate_left
                                    · simp only [Act.put, List.setIfInBounds_toArray, List.set_cons_zero, List.set_cons_succ, i64_w, i32_w]
                                      rfl
                                    refine take_ (i := 3) (N := some 51) (v := ?_) (a' := ?_) #[true, true, true, true, true, true, true, false, false, false, false, false, false, false, false, false, false, false, false, false, false, false, false, false, false, false, false, false, false, false, false, false, false, false, false, false, false, false, false, false] rfl rfl (take_ofW HT_.out HW_.out (by kernel_rfl)) (fun _ _ _ h => h) (Or.inl ⟨by rfl, ?_⟩) hHeld ?_ ?_
                                    rotate_left
                                    · rintro w' ⟨s0, s1, s2, s3, s4, s5, s6, s7, s8, s9, s10, s11⟩
                                      go_simp
                                      with_reducible rfl
                                    rotate_left
                                    · simp only [Act.put, List.setIfInBounds_toArray, List.set_cons_zero, List.set_cons_succ, i64_w, i32_w]
                                      rfl
                                    refine take_ (i := 7) (N := some 55) (v := ?_) (a' := ?_) #[true, true, true, true, true, true, true, true, false, false, false, false, false, false, false, false, false, false, false, false, false, false, false, false, false, false, false, false, false, false, false, false, false, false, false, false, false, false, false, false] rfl rfl (take_ofW HT_.out HW_.out (by kernel_rfl)) (fun _ _ _ h => h) (Or.inl ⟨by rfl, ?_⟩) hHeld ?_ ?_
                                    rotate_left
                                    · rintro w' ⟨s0, s1, s2, s3, s4, s5, s6, s7, s8, s9, s10, s11⟩
                                      go_simp
                                      with_reducible rfl
                                    rotate_left
                                    · simp only [Act.put, List.setIfInBounds_toArray, List.set_cons_zero, List.set_cons_succ, i64_w, i32_w]
                                      rfl
                                    refine pure_ (i := 8) (N := some 56) (v := ?_) (a' := ?_) #[true, true, true, true, true, true, true, true, true, false, false, false, false, false, false, false, false, false, false, false, false, false, false, false, false, false, false, false, false, false, false, false, false, false, false, false, false, false, false, false] rfl rfl (any_of HT_.out (by kernel_rfl)) (fun _ _ _ h => h) (Or.inl ⟨by rfl, ?_⟩) ?_ ?_
                                    rotate_left
                                    · intro w'
                                      go_simp
                                      with_reducible rfl
                                    rotate_left
                                    · simp only [Act.put, List.setIfInBounds_toArray, List.set_cons_zero, List.set_cons_succ, i64_w, i32_w]
                                      rfl
                                    refine pure_ (i := 9) (N := some 57) (v := ?_) (a' := ?_) #[true, true, true, true, true, true, true, true, true, true, false, false, false, false, false, false, false, false, false, false, false, false, false, false, false, false, false, false, false, false, false, false, false, false, false, false, false, false, false, false] rfl rfl (any_of HT_.out (by kernel_rfl)) (fun _ _ _ h => h) (Or.inl ⟨by rfl, ?_⟩) ?_ ?_
                                    rotate_left
                                    · intro w'
                                      go_simp
                                      with_reducible rfl
                                    rotate_left
                                    · simp only [Act.put, List.setIfInBounds_toArray, List.set_cons_zero, List.set_cons_succ, i64_w, i32_w]
                                      rfl
                                    refine pure_ (i := 10) (N := some 58) (v := ?_) (a' := ?_) #[true, true, true, true, true, true, true, true, true, true, true, false, false, false, false, false, false, false, false, false, false, false, false, false, false, false, false, false, false, false, false, false, false, false, false, false, false, false, false, false] rfl rfl (any_of HT_.out (by kernel_rfl)) (fun _ _ _ h => h) (Or.inl ⟨by rfl, ?_⟩) ?_ ?_
                                    rotate_left
                                    · intro w'
                                      go_simp
                                      with_reducible rfl
                                    rotate_left
                                    · simp only [Act.put, List.setIfInBounds_toArray, List.set_cons_zero, List.set_cons_succ, i64_w, i32_w]
                                      rfl
                                    refine pure_ (i := 11) (N := some 59) (v := ?_) (a' := ?_) #[true, true, true, true, true, true, true, true, true, true, true, true, false, false, false, false, false, false, false, false, false, false, false, false, false, false, false, false, false, false, false, false, false, false, false, false, false, false, false, false] rfl rfl (any_of HT_.out (by kernel_rfl)) (fun _ _ _ h => h) (Or.inl ⟨by rfl, ?_⟩) ?_ ?_
                                    rotate_left
                                    · intro w'
                                      go_simp
                                      with_reducible rfl
                                    rotate_left
                                    · simp only [Act.put, List.setIfInBounds_toArray, List.set_cons_zero, List.set_cons_succ, i64_w, i32_w]
                                      rfl
                                    refine pure_ (i := 12) (N := some 60) (v := ?_) (a' := ?_) #[true, true, true, true, true, true, true, true, true, true, true, true, true, false, false, false, false, false, false, false, false, false, false, false, false, false, false, false, false, false, false, false, false, false, false, false, false, false, false, false] rfl rfl (any_of HT_.out (by kernel_rfl)) (fun _ _ _ h => h) (Or.inl ⟨by rfl, ?_⟩) ?_ ?_
                                    rotate_left
                                    · intro w'
                                      go_simp
                                      with_reducible rfl
                                    rotate_left
                                    · simp only [Act.put, List.setIfInBounds_toArray, List.set_cons_zero, List.set_cons_succ, i64_w, i32_w]
                                      rfl
                                    refine pure_ (i := 13) (N := some 61) (v := ?_) (a' := ?_) #[true, true, true, true, true, true, true, true, true, true, true, true, true, true, false, false, false, false, false, false, false, false, false, false, false, false, false, false, false, false, false, false, false, false, false, false, false, false, false, false] rfl rfl (any_of HT_.out (by kernel_rfl)) (fun _ _ _ h => h) (Or.inl ⟨by rfl, ?_⟩) ?_ ?_
                                    rotate_left
                                    · intro w'
                                      go_simp
                                      with_reducible rfl
                                    rotate_left
                                    · simp only [Act.put, List.setIfInBounds_toArray, List.set_cons_zero, List.set_cons_succ, i64_w, i32_w]
                                      rfl
                                    refine pure_ (i := 14) (N := some 62) (v := ?_) (a' := ?_) #[true, true, true, true, true, true, true, true, true, true, true, true, true, true, true, false, false, false, false, false, false, false, false, false, false, false, false, false, false, false, false, false, false, false, false, false, false, false, false, false] rfl rfl (any_of HT_.out (by kernel_rfl)) (fun _ _ _ h => h) (Or.inl ⟨by rfl, ?_⟩) ?_ ?_
                                    rotate_left
                                    · intro w'
                                      go_simp
                                      with_reducible rfl
                                    rotate_left
                                    · simp only [Act.put, List.setIfInBounds_toArray, List.set_cons_zero, List.set_cons_succ, i64_w, i32_w]
                                      rfl
                                    refine pure_ (i := 15) (N := some 63) (v := ?_) (a' := ?_) #[true, true, true, true, true, true, true, true, true, true, true, true, true, true, true, true, false, false, false, false, false, false, false, false, false, false, false, false, false, false, false, false, false, false, false, false, false, false, false, false] rfl rfl (any_of HT_.out (by kernel_rfl)) (fun _ _ _ h => h) (Or.inl ⟨by rfl, ?_⟩) ?_ ?_
                                    rotate_left
                                    · intro w'
                                      go_simp
                                      with_reducible rfl
                                    rotate_left
                                    · simp only [Act.put, List.setIfInBounds_toArray, List.set_cons_zero, List.set_cons_succ, i64_w, i32_w]
                                      rfl
                                    refine take_ (i := 16) (N := some 64) (v := ?_) (a' := ?_) #[true, true, true, true, true, true, true, true, true, true, true, true, true, true, true, true, true, false, false, false, false, false, false, false, false, false, false, false, false, false, false, false, false, false, false, false, false, false, false, false] rfl rfl (take_ofW HT_.out HW_.out (by kernel_rfl)) (fun _ _ _ h => h) (Or.inl ⟨by rfl, ?_⟩) hHeld ?_ ?_
                                    rotate_left
                                    · rintro w' ⟨s0, s1, s2, s3, s4, s5, s6, s7, s8, s9, s10, s11⟩
                                      go_simp
                                      with_reducible rfl
                                    rotate_left
                                    · simp only [Act.put, List.setIfInBounds_toArray, List.set_cons_zero, List.set_cons_succ, i64_w, i32_w]
                                      rfl
                                    refine one_ (i := 17) (N := some 65) #[true, true, true, true, true, true, true, true, true, true, true, true, true, true, true, true, true, true, false, false, false, false, false, false, false, false, false, false, false, false, false, false, false, false, false, false, false, false, false, false] rfl rfl (one_of HT_.out (by kernel_rfl)) (by decide) (fun K hK => ?_)
                                    refine goes_ Try.func12 (by kernel_rfl) rfl #[.agg #[.int .i64 ((rd_T23 x3_1 x7_3).f0), .int .i64 ((rd_T23 x3_1 x7_3).f1), .int .i64 ((rd_T23 x3_1 x7_3).f2)]] (by rfl) rfl rfl (by (try simp only [List.map_toArray, List.map_cons, List.map_nil]); first | done | rfl | (simp only [List.length_drop, List.length_take]; rfl)) ?_
                                    with_reducible refine (op_Encode.calls k3 ((rd_T23 x3_1 x7_3).f0) ((rd_T23 x3_1 x7_3).f1) ((rd_T23 x3_1 x7_3).f2) t274 _ A21.out).mono ?_
                                    rintro e w34 ⟨rfl, hb⟩
                                    have HS3_ := (hb.cell (World.block_lt_of_cell? _ _ (hHeld.2.2.2.1))).trans (hHeld.2.2.2.1)
                                    have HS4_ := (hb.cell (World.block_lt_of_cell? _ _ (hHeld.2.2.2.2.1))).trans (hHeld.2.2.2.2.1)
                                    have HS5_ := (hb.cell (World.block_lt_of_cell? _ _ (hHeld.2.2.2.2.2.1))).trans (hHeld.2.2.2.2.2.1)
                                    have HS6_ := (hb.cell (World.block_lt_of_cell? _ _ (hHeld.2.2.2.2.2.2.1))).trans (hHeld.2.2.2.2.2.2.1)
                                    have HS7_ := (hb.cell (World.block_lt_of_cell? _ _ (hHeld.2.2.2.2.2.2.2.1))).trans (hHeld.2.2.2.2.2.2.2.1)
                                    have HS8_ := (hb.cell (World.block_lt_of_cell? _ _ (hHeld.2.2.2.2.2.2.2.2.1))).trans (hHeld.2.2.2.2.2.2.2.2.1)
                                    have HS9_ := (hb.cell (World.block_lt_of_cell? _ _ (hHeld.2.2.2.2.2.2.2.2.2.1))).trans (hHeld.2.2.2.2.2.2.2.2.2.1)
                                    have HS10_ := (hb.cell (World.block_lt_of_cell? _ _ (hHeld.2.2.2.2.2.2.2.2.2.2.1))).trans (hHeld.2.2.2.2.2.2.2.2.2.2.1)
                                    have HS11_ := (hb.cell (World.block_lt_of_cell? _ _ (hHeld.2.2.2.2.2.2.2.2.2.2.2))).trans (hHeld.2.2.2.2.2.2.2.2.2.2.2)
                                    refine ⟨_, rfl, ?_⟩
                                    have n0_ := Aside0.mk (Kd.R_below (by (with_reducible repeat (first | apply Kd.R_alloc | apply Kd.R_drewN | apply Kd.R_drew)); exact HO_3.out) hb)
                                    have n1_ := Aside0.mk (blk_below (g := gb271) (o := .cells #[.int .i64 t266, .int .i64 t267, .int .i64 t268] 23 (0, 0)) (by (with_reducible repeat (first | refine blk_drewN ?_ _ | refine blk_drew ?_ | refine blk_alloc ?_ _)); exact BK271.out) hb)
                                    first | (have n2_ := Aside0.mk (below_step (Below.refl w.heap.size w) hb)) | (have n2_ := Aside0.mk (below_step (below_drew (pw_below_drewN (Below.refl w.heap.size w) _)) hb)) | (have n2_ := Aside0.mk (below_step (pw_below_drewN (Below.refl w.heap.size w) _) hb)) | (have n2_ := Aside0.mk (below_step (by repeat (first | (with_reducible first | exact HB.out | apply below_alloc | apply pw_below_drewN | apply below_drew1 | refine below_set ?_ GE271.out) | exact HB.out)) hb))
                                    clear HO_3
                                    clear BK271
                                    clear HB
                                    have HO_3 := n0_
                                    have BK271 := n1_
                                    have HB := n2_
                                    clear n0_ n1_ n2_
                                    (try clear hb)
                                    (try clear hb2)
                                    (try clear hk)
                                    (try clear hi)
                                    refine hK.out _ _ ⟨(blk_cell BK271.out 0).trans rfl, (blk_cell BK271.out 1).trans rfl, (blk_cell BK271.out 2).trans rfl, HS3_, HS4_, HS5_, HS6_, HS7_, HS8_, HS9_, HS10_, HS11_⟩ (fun hHeld => ?_)
                                    clear hK K
                                    refine norm_ (a' := ?_) ?_ ?_
                                    rotate_left
                                    · show Act.put _ (some 65) _ = _
                                      simp only [Act.put, List.setIfInBounds_toArray, List.set_cons_zero, List.set_cons_succ, i64_w, i32_w]
                                      rfl
                                    refine pure_ (i := 18) (N := some 66) (v := ?_) (a' := ?_) #[true, true, true, true, true, true, true, true, true, true, true, true, true, true, true, true, true, true, true, false, false, false, false, false, false, false, false, false, false, false, false, false, false, false, false, false, false, false, false, false] rfl rfl (any_of HT_.out (by kernel_rfl)) (fun _ _ _ h => h) (Or.inl ⟨by rfl, ?_⟩) ?_ ?_
                                    rotate_left
                                    · intro w'
                                      go_simp
                                      with_reducible rfl
                                    rotate_left
                                    · simp only [Act.put, List.setIfInBounds_toArray, List.set_cons_zero, List.set_cons_succ, i64_w, i32_w]
                                      rfl
                                    refine pure_ (i := 19) (N := some 67) (v := ?_) (a' := ?_) #[true, true, true, true, true, true, true, true, true, true, true, true, true, true, true, true, true, true, true, true, false, false, false, false, false, false, false, false, false, false, false, false, false, false, false, false, false, false, false, false] rfl rfl (any_of HT_.out (by kernel_rfl)) (fun _ _ _ h => h) (Or.inl ⟨by rfl, ?_⟩) ?_ ?_
                                    rotate_left
                                    · intro w'
                                      go_simp
                                      with_reducible rfl
                                    rotate_left
                                    · simp only [Act.put, List.setIfInBounds_toArray, List.set_cons_zero, List.set_cons_succ, i64_w, i32_w]
                                      rfl
                                    refine pure_ (i := 20) (N := some 68) (v := ?_) (a' := ?_) #[true, true, true, true, true, true, true, true, true, true, true, true, true, true, true, true, true, true, true, true, true, false, false, false, false, false, false, false, false, false, false, false, false, false, false, false, false, false, false, false] rfl rfl (any_of HT_.out (by kernel_rfl)) (fun _ _ _ h => h) (Or.inl ⟨by rfl, ?_⟩) ?_ ?_
                                    rotate_left
                                    · intro w'
                                      go_simp
                                      with_reducible rfl
                                    rotate_left
                                    · simp only [Act.put, List.setIfInBounds_toArray, List.set_cons_zero, List.set_cons_succ, i64_w, i32_w]
                                      rfl
                                    refine pure_ (i := 21) (N := some 69) (v := ?_) (a' := ?_) #[true, true, true, true, true, true, true, true, true, true, true, true, true, true, true, true, true, true, true, true, true, true, false, false, false, false, false, false, false, false, false, false, false, false, false, false, false, false, false, false] rfl rfl (any_of HT_.out (by kernel_rfl)) (fun _ _ _ h => h) (Or.inl ⟨by rfl, ?_⟩) ?_ ?_
                                    rotate_left
                                    · intro w'
                                      go_simp
                                      with_reducible rfl
                                    rotate_left
                                    · simp only [Act.put, List.setIfInBounds_toArray, List.set_cons_zero, List.set_cons_succ, i64_w, i32_w]
                                      rfl
                                    refine pure_ (i := 22) (N := some 70) (v := ?_) (a' := ?_) #[true, true, true, true, true, true, true, true, true, true, true, true, true, true, true, true, true, true, true, true, true, true, true, false, false, false, false, false, false, false, false, false, false, false, false, false, false, false, false, false] rfl rfl (any_of HT_.out (by kernel_rfl)) (fun _ _ _ h => h) (Or.inl ⟨by rfl, ?_⟩) ?_ ?_
                                    rotate_left
                                    · intro w'
                                      go_simp
                                      with_reducible rfl
                                    rotate_left
                                    · simp only [Act.put, List.setIfInBounds_toArray, List.set_cons_zero, List.set_cons_succ, i64_w, i32_w]
                                      rfl
                                    refine pure_ (i := 23) (N := some 71) (v := ?_) (a' := ?_) #[true, true, true, true, true, true, true, true, true, true, true, true, true, true, true, true, true, true, true, true, true, true, true, true, false, false, false, false, false, false, false, false, false, false, false, false, false, false, false, false] rfl rfl (any_of HT_.out (by kernel_rfl)) (fun _ _ _ h => h) (Or.inl ⟨by rfl, ?_⟩) ?_ ?_
                                    rotate_left
                                    · intro w'
                                      go_simp
                                      with_reducible rfl
                                    rotate_left
                                    · simp only [Act.put, List.setIfInBounds_toArray, List.set_cons_zero, List.set_cons_succ, i64_w, i32_w]
                                      rfl
                                    refine pure_ (i := 24) (N := some 72) (v := ?_) (a' := ?_) #[true, true, true, true, true, true, true, true, true, true, true, true, true, true, true, true, true, true, true, true, true, true, true, true, true, false, false, false, false, false, false, false, false, false, false, false, false, false, false, false] rfl rfl (any_of HT_.out (by kernel_rfl)) (fun _ _ _ h => h) (Or.inl ⟨by rfl, ?_⟩) ?_ ?_
                                    rotate_left
                                    · intro w'
                                      go_simp
                                      with_reducible rfl
                                    rotate_left
                                    · simp only [Act.put, List.setIfInBounds_toArray, List.set_cons_zero, List.set_cons_succ, i64_w, i32_w]
                                      rfl
                                    refine pure_ (i := 25) (N := some 73) (v := ?_) (a' := ?_) #[true, true, true, true, true, true, true, true, true, true, true, true, true, true, true, true, true, true, true, true, true, true, true, true, true, true, false, false, false, false, false, false, false, false, false, false, false, false, false, false] rfl rfl (any_of HT_.out (by kernel_rfl)) (fun _ _ _ h => h) (Or.inl ⟨by rfl, ?_⟩) ?_ ?_
                                    rotate_left
                                    · intro w'
                                      go_simp
                                      with_reducible rfl
                                    rotate_left
                                    · simp only [Act.put, List.setIfInBounds_toArray, List.set_cons_zero, List.set_cons_succ, i64_w, i32_w]
                                      rfl
                                    refine pure_ (i := 26) (N := some 74) (v := ?_) (a' := ?_) #[true, true, true, true, true, true, true, true, true, true, true, true, true, true, true, true, true, true, true, true, true, true, true, true, true, true, true, false, false, false, false, false, false, false, false, false, false, false, false, false] rfl rfl (any_of HT_.out (by kernel_rfl)) (fun _ _ _ h => h) (Or.inl ⟨by rfl, ?_⟩) ?_ ?_
                                    rotate_left
                                    · intro w'
                                      go_simp
                                      with_reducible rfl
                                    rotate_left
                                    · simp only [Act.put, List.setIfInBounds_toArray, List.set_cons_zero, List.set_cons_succ, i64_w, i32_w]
                                      rfl
                                    refine pure_ (i := 27) (N := some 75) (v := ?_) (a' := ?_) #[true, true, true, true, true, true, true, true, true, true, true, true, true, true, true, true, true, true, true, true, true, true, true, true, true, true, true, true, false, false, false, false, false, false, false, false, false, false, false, false] rfl rfl (any_of HT_.out (by kernel_rfl)) (fun _ _ _ h => h) (Or.inl ⟨by rfl, ?_⟩) ?_ ?_
                                    rotate_left
                                    · intro w'
                                      go_simp
                                      with_reducible rfl
                                    rotate_left
                                    · simp only [Act.put, List.setIfInBounds_toArray, List.set_cons_zero, List.set_cons_succ, i64_w, i32_w]
                                      rfl
                                    refine pure_ (i := 28) (N := some 76) (v := ?_) (a' := ?_) #[true, true, true, true, true, true, true, true, true, true, true, true, true, true, true, true, true, true, true, true, true, true, true, true, true, true, true, true, true, false, false, false, false, false, false, false, false, false, false, false] rfl rfl (any_of HT_.out (by kernel_rfl)) (fun _ _ _ h => h) (Or.inl ⟨by rfl, ?_⟩) ?_ ?_
                                    rotate_left
                                    · intro w'
                                      go_simp
                                      with_reducible rfl
                                    rotate_left
                                    · simp only [Act.put, List.setIfInBounds_toArray, List.set_cons_zero, List.set_cons_succ, i64_w, i32_w]
                                      rfl
                                    refine pure_ (i := 29) (N := some 77) (v := ?_) (a' := ?_) #[true, true, true, true, true, true, true, true, true, true, true, true, true, true, true, true, true, true, true, true, true, true, true, true, true, true, true, true, true, true, false, false, false, false, false, false, false, false, false, false] rfl rfl (any_of HT_.out (by kernel_rfl)) (fun _ _ _ h => h) (Or.inl ⟨by rfl, ?_⟩) ?_ ?_
                                    rotate_left
                                    · intro w'
                                      go_simp
                                      with_reducible rfl
                                    rotate_left
                                    · simp only [Act.put, List.setIfInBounds_toArray, List.set_cons_zero, List.set_cons_succ, i64_w, i32_w]
                                      rfl
                                    refine pure_ (i := 30) (N := some 78) (v := ?_) (a' := ?_) #[true, true, true, true, true, true, true, true, true, true, true, true, true, true, true, true, true, true, true, true, true, true, true, true, true, true, true, true, true, true, true, false, false, false, false, false, false, false, false, false] rfl rfl (any_of HT_.out (by kernel_rfl)) (fun _ _ _ h => h) (Or.inl ⟨by rfl, ?_⟩) ?_ ?_
                                    rotate_left
                                    · intro w'
                                      go_simp
                                      with_reducible rfl
                                    rotate_left
                                    · simp only [Act.put, List.setIfInBounds_toArray, List.set_cons_zero, List.set_cons_succ, i64_w, i32_w]
                                      rfl
                                    refine pure_ (i := 31) (N := some 79) (v := ?_) (a' := ?_) #[true, true, true, true, true, true, true, true, true, true, true, true, true, true, true, true, true, true, true, true, true, true, true, true, true, true, true, true, true, true, true, true, false, false, false, false, false, false, false, false] rfl rfl (any_of HT_.out (by kernel_rfl)) (fun _ _ _ h => h) (Or.inl ⟨by rfl, ?_⟩) ?_ ?_
                                    rotate_left
                                    · intro w'
                                      go_simp
                                      with_reducible rfl
                                    rotate_left
                                    · simp only [Act.put, List.setIfInBounds_toArray, List.set_cons_zero, List.set_cons_succ, i64_w, i32_w]
                                      rfl
                                    refine pure_ (i := 32) (N := some 80) (v := ?_) (a' := ?_) #[true, true, true, true, true, true, true, true, true, true, true, true, true, true, true, true, true, true, true, true, true, true, true, true, true, true, true, true, true, true, true, true, true, false, false, false, false, false, false, false] rfl rfl (any_of HT_.out (by kernel_rfl)) (fun _ _ _ h => h) (Or.inl ⟨by rfl, ?_⟩) ?_ ?_
                                    rotate_left
                                    · intro w'
                                      go_simp
                                      with_reducible rfl
                                    rotate_left
                                    · simp only [Act.put, List.setIfInBounds_toArray, List.set_cons_zero, List.set_cons_succ, i64_w, i32_w]
                                      rfl
                                    refine pure_ (i := 33) (N := some 81) (v := ?_) (a' := ?_) #[true, true, true, true, true, true, true, true, true, true, true, true, true, true, true, true, true, true, true, true, true, true, true, true, true, true, true, true, true, true, true, true, true, true, false, false, false, false, false, false] rfl rfl (any_of HT_.out (by kernel_rfl)) (fun _ _ _ h => h) (Or.inl ⟨by rfl, ?_⟩) ?_ ?_
                                    rotate_left
                                    · intro w'
                                      go_simp
                                      with_reducible rfl
                                    rotate_left
                                    · simp only [Act.put, List.setIfInBounds_toArray, List.set_cons_zero, List.set_cons_succ, i64_w, i32_w]
                                      rfl
                                    refine pure_ (i := 34) (N := some 82) (v := ?_) (a' := ?_) #[true, true, true, true, true, true, true, true, true, true, true, true, true, true, true, true, true, true, true, true, true, true, true, true, true, true, true, true, true, true, true, true, true, true, true, false, false, false, false, false] rfl rfl (any_of HT_.out (by kernel_rfl)) (fun _ _ _ h => h) (Or.inl ⟨by rfl, ?_⟩) ?_ ?_
                                    rotate_left
                                    · intro w'
                                      go_simp
                                      with_reducible rfl
                                    rotate_left
                                    · simp only [Act.put, List.setIfInBounds_toArray, List.set_cons_zero, List.set_cons_succ, i64_w, i32_w]
                                      rfl
                                    refine pure_ (i := 35) (N := some 83) (v := ?_) (a' := ?_) #[true, true, true, true, true, true, true, true, true, true, true, true, true, true, true, true, true, true, true, true, true, true, true, true, true, true, true, true, true, true, true, true, true, true, true, true, false, false, false, false] rfl rfl (any_of HT_.out (by kernel_rfl)) (fun _ _ _ h => h) (Or.inl ⟨by rfl, ?_⟩) ?_ ?_
                                    rotate_left
                                    · intro w'
                                      go_simp
                                      with_reducible rfl
                                    rotate_left
                                    · simp only [Act.put, List.setIfInBounds_toArray, List.set_cons_zero, List.set_cons_succ, i64_w, i32_w]
                                      rfl
                                    refine take_ (i := 36) (N := some 84) (v := ?_) (a' := ?_) #[true, true, true, true, true, true, true, true, true, true, true, true, true, true, true, true, true, true, true, true, true, true, true, true, true, true, true, true, true, true, true, true, true, true, true, true, true, false, false, false] rfl rfl (take_ofW HT_.out HW_.out (by kernel_rfl)) (fun _ _ _ h => h) (Or.inl ⟨by rfl, ?_⟩) hHeld ?_ ?_
                                    rotate_left
                                    · rintro w' ⟨s0, s1, s2, s3, s4, s5, s6, s7, s8, s9, s10, s11⟩
                                      go_simp
                                      with_reducible rfl
                                    rotate_left
                                    · simp only [Act.put, List.setIfInBounds_toArray, List.set_cons_zero, List.set_cons_succ, i64_w, i32_w]
                                      rfl
                                    refine one_ (i := 37) (N := some 85) #[true, true, true, true, true, true, true, true, true, true, true, true, true, true, true, true, true, true, true, true, true, true, true, true, true, true, true, true, true, true, true, true, true, true, true, true, true, true, false, false] rfl rfl (one_of HT_.out (by kernel_rfl)) (by decide) (fun K hK => ?_)
                                    refine goes_ Try.func12 (by kernel_rfl) rfl #[.agg #[.int .i64 ((rd_T23 x3_1 x7_3).f0), .int .i64 ((rd_T23 x3_1 x7_3).f1), .int .i64 ((rd_T23 x3_1 x7_3).f2)]] (by rfl) rfl rfl (by (try simp only [List.map_toArray, List.map_cons, List.map_nil]); first | done | rfl | (simp only [List.length_drop, List.length_take]; rfl)) ?_
                                    with_reducible refine (op_Encode.calls k3 ((rd_T23 x3_1 x7_3).f0) ((rd_T23 x3_1 x7_3).f1) ((rd_T23 x3_1 x7_3).f2) t276 _ A27.out).mono ?_
                                    rintro e w35 ⟨rfl, hb⟩
                                    have HS3_ := (hb.cell (World.block_lt_of_cell? _ _ (hHeld.2.2.2.1))).trans (hHeld.2.2.2.1)
                                    have HS4_ := (hb.cell (World.block_lt_of_cell? _ _ (hHeld.2.2.2.2.1))).trans (hHeld.2.2.2.2.1)
                                    have HS5_ := (hb.cell (World.block_lt_of_cell? _ _ (hHeld.2.2.2.2.2.1))).trans (hHeld.2.2.2.2.2.1)
                                    have HS6_ := (hb.cell (World.block_lt_of_cell? _ _ (hHeld.2.2.2.2.2.2.1))).trans (hHeld.2.2.2.2.2.2.1)
                                    have HS7_ := (hb.cell (World.block_lt_of_cell? _ _ (hHeld.2.2.2.2.2.2.2.1))).trans (hHeld.2.2.2.2.2.2.2.1)
                                    have HS8_ := (hb.cell (World.block_lt_of_cell? _ _ (hHeld.2.2.2.2.2.2.2.2.1))).trans (hHeld.2.2.2.2.2.2.2.2.1)
                                    have HS9_ := (hb.cell (World.block_lt_of_cell? _ _ (hHeld.2.2.2.2.2.2.2.2.2.1))).trans (hHeld.2.2.2.2.2.2.2.2.2.1)
                                    have HS10_ := (hb.cell (World.block_lt_of_cell? _ _ (hHeld.2.2.2.2.2.2.2.2.2.2.1))).trans (hHeld.2.2.2.2.2.2.2.2.2.2.1)
                                    have HS11_ := (hb.cell (World.block_lt_of_cell? _ _ (hHeld.2.2.2.2.2.2.2.2.2.2.2))).trans (hHeld.2.2.2.2.2.2.2.2.2.2.2)
                                    refine ⟨_, rfl, ?_⟩
                                    have n0_ := Aside0.mk (Kd.R_below (by (with_reducible repeat (first | apply Kd.R_alloc | apply Kd.R_drewN | apply Kd.R_drew)); exact HO_3.out) hb)
                                    have n1_ := Aside0.mk (blk_below (g := gb271) (o := .cells #[.int .i64 t266, .int .i64 t267, .int .i64 t268] 23 (0, 0)) (by (with_reducible repeat (first | refine blk_drewN ?_ _ | refine blk_drew ?_ | refine blk_alloc ?_ _)); exact BK271.out) hb)
                                    first | (have n2_ := Aside0.mk (below_step (Below.refl w.heap.size w) hb)) | (have n2_ := Aside0.mk (below_step (below_drew (pw_below_drewN (Below.refl w.heap.size w) _)) hb)) | (have n2_ := Aside0.mk (below_step (pw_below_drewN (Below.refl w.heap.size w) _) hb)) | (have n2_ := Aside0.mk (below_step (by repeat (first | (with_reducible first | exact HB.out | apply below_alloc | apply pw_below_drewN | apply below_drew1 | refine below_set ?_ GE271.out) | exact HB.out)) hb))
                                    clear HO_3
                                    clear BK271
                                    clear HB
                                    have HO_3 := n0_
                                    have BK271 := n1_
                                    have HB := n2_
                                    clear n0_ n1_ n2_
                                    (try clear hb)
                                    (try clear hb2)
                                    (try clear hk)
                                    (try clear hi)
                                    refine hK.out _ _ ⟨(blk_cell BK271.out 0).trans rfl, (blk_cell BK271.out 1).trans rfl, (blk_cell BK271.out 2).trans rfl, HS3_, HS4_, HS5_, HS6_, HS7_, HS8_, HS9_, HS10_, HS11_⟩ (fun hHeld => ?_)
                                    clear hK K
                                    refine norm_ (a' := ?_) ?_ ?_
                                    rotate_left
                                    · show Act.put _ (some 85) _ = _
                                      simp only [Act.put, List.setIfInBounds_toArray, List.set_cons_zero, List.set_cons_succ, i64_w, i32_w]
                                      rfl
                                    refine pure_ (i := 38) (N := some 86) (v := ?_) (a' := ?_) #[true, true, true, true, true, true, true, true, true, true, true, true, true, true, true, true, true, true, true, true, true, true, true, true, true, true, true, true, true, true, true, true, true, true, true, true, true, true, true, false] rfl rfl (any_of HT_.out (by kernel_rfl)) (fun _ _ _ h => h) (Or.inl ⟨by rfl, ?_⟩) ?_ ?_
                                    rotate_left
                                    · intro w'
                                      go_simp
                                      with_reducible rfl
                                    rotate_left
                                    · simp only [Act.put, List.setIfInBounds_toArray, List.set_cons_zero, List.set_cons_succ, i64_w, i32_w]
                                      rfl
                                    refine pure_ (i := 39) (N := some 87) (v := ?_) (a' := ?_) #[true, true, true, true, true, true, true, true, true, true, true, true, true, true, true, true, true, true, true, true, true, true, true, true, true, true, true, true, true, true, true, true, true, true, true, true, true, true, true, true] rfl rfl (any_of HT_.out (by kernel_rfl)) (fun _ _ _ h => h) (Or.inl ⟨by rfl, ?_⟩) ?_ ?_
                                    rotate_left
                                    · intro w'
                                      go_simp
                                      with_reducible rfl
                                    rotate_left
                                    · simp only [Act.put, List.setIfInBounds_toArray, List.set_cons_zero, List.set_cons_succ, i64_w, i32_w]
                                      rfl
                                    refine done_ (done_of HT_.out (by kernel_rfl)) ?_
                                    try go_wp2
                                    go_roundg k3
                                    case measure => have := HK1.out; have := HJ1.out; have := HK3.out; omega
                                    case rel => exact ⟨(t269), (wrap64 (x7_3 + 1)), (by first | rfl | (simp; done) | (simp [*]; done)), (by first | rfl | (simp; done) | (simp [*]; done)), H', ⟨by have := HK1.out; have := HJ1.out; have := HK3.out; omega⟩, ⟨by (with_reducible repeat (first | apply Kd.R_alloc | apply Kd.R_drewN | apply Kd.R_drew)); exact Kd.R_mono HO_3.out (fun _ hk => trivial)⟩, ⟨by repeat (first | (with_reducible first | exact HB.out | apply below_alloc | apply pw_below_drewN | apply below_drew1 | refine below_set ?_ GE271.out) | exact HB.out | exact Below.refl _ _)⟩⟩
                                  · rw [if_neg c28] at H
                                    have c28b0 : ((t264.extract (x6_3 : Int).toNat (t269 : Int).toNat).toList == t276.toList) = false := beq_eq_false_iff_ne.mpr c28
                                    have c28b1 : ((t264.extract (x6_3 : Int).toNat (t269 : Int).toNat).toList != t276.toList) = true := bne_iff_ne.mpr c28
                                    exact absurd ((Option.some.inj H).trans HT.out) (by decide)
                                · rw [if_neg c26] at H
                                  exact absurd H (by simp)
                              · rw [if_neg c25] at H
                                exact absurd H (by simp)
                            · rw [if_neg c24] at H
                              exact absurd H (by simp)
                        · rw [if_neg c22] at H
                          have c22b0 : (t269 == (wrap64 (x6_3 + (t274.size : Int)))) = false := beq_eq_false_iff_ne.mpr c22
                          have c22b1 : (t269 != (wrap64 (x6_3 + (t274.size : Int)))) = true := bne_iff_ne.mpr c22
                          exact absurd ((Option.some.inj H).trans HT.out) (by decide)
                    · rw [if_neg c19] at H
                      exact absurd H (by simp)
                  · rw [if_neg c18] at H
                    have c18b0 : (t270 == 0) = false := beq_eq_false_iff_ne.mpr c18
                    have c18b1 : (t270 != 0) = true := bne_iff_ne.mpr c18
                    exact absurd ((Option.some.inj H).trans HT.out) (by decide)
                · rw [if_neg c16] at H
                  have c16b0 : decide (x7_3 < (x3_1.length : Int)) = false := decide_eq_false c16
                  clear c16
                  by_cases c36 : x6_3 = (t264.size : Int)
                  · rw [if_pos c36] at H
                    have c36b0 : (x6_3 == (t264.size : Int)) = true := beq_iff_eq.mpr c36
                    have c36b1 : (x6_3 != (t264.size : Int)) = false := bne_eq_false_iff_eq.mpr c36
                    clear c36
                    replace H := Option.bind_eq_some_iff.mp H
                    obtain ⟨t265, A370, H⟩ := H
                    replace H : (some t265) = some r := H
                    have A37 := Aside0.mk A370
                    clear A370
                    obtain rfl := Option.some.inj H
                    go_wp2_with (first | (go_at_call 18; (with_reducible refine (camshaftlaw04_known.calls k3  t265 _ A37.out).mono ?_); rintro e w38 ⟨rfl, hb⟩; have n0_ := Aside0.mk (Kd.R_below (by (with_reducible repeat (first | apply Kd.R_alloc | apply Kd.R_drewN | apply Kd.R_drew)); exact HO_3.out) hb); have n1_ := Aside0.mk (below_step (by repeat (first | (with_reducible first | exact HB.out | apply below_alloc | apply pw_below_drewN | apply below_drew1) | exact HB.out)) hb); clear HO_3; clear HB; have HO_3 := n0_; have HB := n1_; clear n0_ n1_; (try clear hb); (try clear hb2); (try clear hk); (try clear hi)))
                    go_ret
                    exact ⟨by first | rfl | (rw [bne_nil_eq]; rfl) | (simp [bne_nil_eq]; done) | (simp [errW_none, errW_some] <;> rfl) | (simp [*, errW_none, errW_some] <;> rfl), by repeat (first | (with_reducible first | exact HB.out | apply below_alloc | apply pw_below_drewN | apply below_drew1) | exact HB.out | exact Below.refl _ _)⟩
                  · rw [if_neg c36] at H
                    have c36b0 : (x6_3 == (t264.size : Int)) = false := beq_eq_false_iff_ne.mpr c36
                    have c36b1 : (x6_3 != (t264.size : Int)) = true := bne_iff_ne.mpr c36
                    exact absurd ((Option.some.inj H).trans HT.out) (by decide)

/-- THE ONE PURE STATEMENT of camshaftlaw04_OpParts. -/
def camshaftlaw04_OpParts.Pure : Prop := ∀ (l0 : List S23), l0.length * 24 ≤ 140737488351232 → (∀ x ∈ l0, (Lit.int .i64 x.f0).wf = true ∧ (Lit.int .i64 x.f1).wf = true ∧ (Lit.int .i64 x.f2).wf = true) → ∃ k, camshaftlaw04_OpParts.f k l0 = some true
theorem camshaftlaw04_OpParts.walk (P : camshaftlaw04_OpParts.Pure) (A0 : Option Addr) (c0 : Nat) (l0 : List S23) (w : World) (hr0 : Kd.C k23 w A0 l0.length l0) (hc0 : l0.length ≤ c0) (y0 : l0.length * 24 ≤ 140737488351232) (hw0 : ∀ x ∈ l0, (Lit.int .i64 x.f0).wf = true ∧ (Lit.int .i64 x.f1).wf = true ∧ (Lit.int .i64 x.f2).wf = true) :
    Calls Try.prog 6 #[.slice A0 l0.length c0] w fun e w' => e = .returned (.bool true) ∧ Below w.heap.size w w' := by
  obtain ⟨k, h⟩ := P l0 y0 hw0
  refine (camshaftlaw04_OpParts.calls k A0 c0 l0 true w hr0 hc0 h rfl).mono ?_
  rintro e w' ⟨rfl, hd⟩
  exact ⟨rfl, hd⟩

end Go.Proofs.Ytnfoebbdmekbiaa.P
