-- Written by a program of this session (wip/tools: patched print) for this claim. Not trusted: Lean checks it.
import Derived.Test.YtnfoebbdmekbiaaCx0
namespace Go.Proofs.Ytnfoebbdmekbiaa.C
open Go.RowKit Go.Proofs.YtnfoebbdmekbiaaW.PrintWords Go.Proofs.YtnfoebbdmekbiaaW.PrintLast Go.Proofs.YtnfoebbdmekbiaaW.PrintMore
attribute [local go_sem] max2_int min2_int max_two min_two max_three min_three max_four min_four   -- for this text's walks alone
set_option linter.unusedVariables false
set_option linter.unusedSimpArgs false

/-! ### code_turn: function 34 -/
def code_turn.f (a0 : Int) : Option (Int) := some (Go.bits .xor .u64 (IntKind.u64.wrap ((IntKind.u64.wrap (a0)) * 2)) (IntKind.u64.wrap (a0 / 9223372036854775808)))
set_option maxHeartbeats 8000000 in
set_option maxRecDepth 100000 in
theorem code_turn.calls (a0 : Int) (r : Int) (w : World) (h : code_turn.f a0 = some r) :
    Calls Try.prog 34 #[.int .i64 a0] w fun e w' => e = .returned (.int .u64 r) ∧ Drawn0 w w' := by
  have H : (some (Go.bits .xor .u64 (IntKind.u64.wrap ((IntKind.u64.wrap (a0)) * 2)) (IntKind.u64.wrap (a0 / 9223372036854775808)))) = some r := h
  clear h
  obtain rfl := Option.some.inj H
  go_enter Try.func34, Try.ntmps34
  go_wp2
  go_ret
  exact ⟨by first | rfl | (simp; done) | (simp [*]; done), by repeat (first | exact Drawn0.refl _ | apply Drawn0.step)⟩

/-! ### code_Put: function 29 -/
def code_Put.l0 : Nat → List Int → Int → Option (ByteArray)
  | 0, _, _ => none
  | k + 1, x3, x4 => if x4 ≥ 128 then (if x3.length < 140737488355328 then (code_Put.l0 k (x3 ++ [(IntKind.u64.wrap ((Int.tmod x4 128) + 128)) % 256]) (IntKind.u64.wrap (Int.tdiv x4 128))) else (none)) else (if x3.length < 140737488355328 then (some (strOfNums (x3 ++ [(x4) % 256]))) else (none))
def code_Put.f (k : Nat) (a0 : Int) : Option (ByteArray) := (code_turn.f a0).bind fun t101 => (code_Put.l0 k ([] : List Int) t101)
theorem code_Put.mono_l : ∀ k, (∀ y0 y1, LeO (code_Put.l0 k y0 y1) (code_Put.l0 (k + 1) y0 y1))
  | 0 => fun _ _ r h => by simp [code_Put.l0] at h
  | k + 1 => by
    have ih0 := code_Put.mono_l k
    · intro y0 y1
      unfold code_Put.l0
      repeat' first
      | (with_reducible exact ih0 _ _)
      | (with_reducible exact LeO.refl _)
      | (with_reducible exact LeO.none _)
      | (with_reducible refine LeO.ite ?_ ?_)
      | (with_reducible refine LeO.bind ?_ (fun _ => ?_))
      | exact ih0 _ _
      | exact LeO.none _
      | refine LeO.ite ?_ ?_
      | refine LeO.bind ?_ (fun _ => ?_)
theorem code_Put.mono : ∀ a0 k, LeO (code_Put.f k a0) (code_Put.f (k + 1) a0) := by
  intro a0 k
  have ih0 := code_Put.mono_l k
  unfold code_Put.f
  repeat' first
      | (with_reducible exact ih0 _ _)
      | (with_reducible exact LeO.refl _)
      | (with_reducible exact LeO.none _)
      | (with_reducible refine LeO.ite ?_ ?_)
      | (with_reducible refine LeO.bind ?_ (fun _ => ?_))
      | exact ih0 _ _
      | exact LeO.none _
      | refine LeO.ite ?_ ?_
      | refine LeO.bind ?_ (fun _ => ?_)
set_option maxHeartbeats 8000000 in
set_option maxRecDepth 100000 in
theorem code_Put.calls (k : Nat) (a0 : Int) (r : ByteArray) (w : World) (h : code_Put.f k a0 = some r) :
    Calls Try.prog 29 #[.int .i64 a0] w fun e w' => e = .returned (.string r) ∧ Below w.heap.size w w' := by
  have HB := Aside0.mk (Below.refl w.heap.size w)
  have H : ((code_turn.f a0).bind fun t101 => (code_Put.l0 k ([] : List Int) t101)) = some r := h
  clear h
  replace H := Option.bind_eq_some_iff.mp H
  obtain ⟨t101, A20, H⟩ := H
  replace H : (code_Put.l0 k ([] : List Int) t101) = some r := H
  have A2 := Aside0.mk A20
  clear A20
  have H' := Aside0.mk H
  clear H
  go_enter Try.func29, Try.ntmps29
  go_wp2_with (first | ((with_reducible refine gate_callee (f := 34) rfl ?_); refine goesL_ (some 6) rfl rfl Try.func34 (by kernel_rfl) rfl #[.int .i64 a0] rfl (by (try simp only [List.map_toArray, List.map_cons, List.map_nil]); first | done | rfl | (simp only [List.length_drop, List.length_take]; rfl)) ?_; (with_reducible refine (code_turn.calls a0 t101 _ A2.out).mono ?_); rintro e w' ⟨rfl, ⟨nd, rfl⟩⟩; refine ⟨_, rfl, ?_⟩))
  go_loopg [3, 4] k (fun kq v3 v4 w' => ∃ (x3_1 : List Int) (x4_1 : Int), v4 = .int .u64 x4_1 ∧ Aside0 (code_Put.l0 kq x3_1 x4_1 = some r) ∧ Aside0 (kq ≤ k) ∧ Aside0 (Kd.R (Kd.int .u8) 5 w' w.heap.size (fun _ => True) v3 x3_1) ∧ Aside0 (Below w.heap.size w w'))
  case atStart => exact ⟨(([] : List Int)), (t101), (by first | rfl | (simp; done) | (simp [*]; done)), H', ⟨Nat.le_refl _⟩, ⟨by first | exact Kd.R_nil _ _ _ _ _ | exact Kd.N_nil _ _ _ _ _ | exact Kd.V_nil _ _ _ _ _ | exact Kd.Q_nil _ _ _ _ _ | exact Kd.S_nil _ _ _ _ _⟩, ⟨by repeat (first | (with_reducible first | exact HB.out | apply below_alloc | apply pw_below_drewN | apply below_drew1) | exact HB.out)⟩⟩
  case round =>
    clear H'
    try clear c2
    try clear p2
    obtain ⟨x3_1, x4_1, rfl, HA, HK1, HO_3, HB⟩ := hrel
    cases gk with
    | zero => exact absurd HA.out (by simp [code_Put.l0])
    | succ k1 =>
      have H := HA.out
      clear HA
      simp only [code_Put.l0] at H
      by_cases c3 : x4_1 ≥ 128
      · rw [if_pos c3] at H
        have c3b0 : decide (128 ≤ x4_1) = true := decide_eq_true c3
        clear c3
        by_cases c4 : x3_1.length < 140737488355328
        · rw [if_pos c4] at H
          have LMc4 := Aside0.mk c4
          clear c4
          obtain ⟨y102, hy102⟩ : ∃ y_ : List Int, y_ = (x3_1 ++ [(IntKind.u64.wrap ((Int.tmod x4_1 128) + 128)) % 256]) := ⟨_, rfl⟩
          replace H : (code_Put.l0 k1 y102 (IntKind.u64.wrap (Int.tdiv x4_1 128))) = some r := by first | (rw [hy102]; with_reducible exact H) | (have H2_ := (Option.bind_some _ _).symm.trans H; rw [hy102]; with_reducible exact H2_) | (have H2_ := (Option.bind_some _ _).symm.trans H; with_reducible exact H2_) | with_reducible exact H | (rw [hy102]; exact H) | exact H
          have Ny102 := Aside0.mk hy102
          clear hy102
          have H' := Aside0.mk H
          clear H
          go_wp2_with (first | ((with_reducible refine gate_builtin (b := .append) (xs := #[.tmp 11, .tmp 16]) rfl ?_); at_builtin; refine Kd.R_append (Kd.int .u8) (w0 := w) w.heap.size rfl (.tmp 11) (.tmp 16) 47 5 (.int .u8 0) 1 rfl Try.underlying47 info5 rfl (by decide) (by omega) u3 x3_1 ((IntKind.u64.wrap ((Int.tmod x4_1 128) + 128)) % 256) [.int .u8 ((IntKind.u64.wrap ((Int.tmod x4_1 128) + 128)) % 256)] (fun _ => True) (fun _ => False) rfl rfl ?aP (fun _ hk => hk.elim) ?aF ?aO ?aB ?aS ?aL ?_; (case aP => exact rfl); (case aB => exact (by repeat (first | (with_reducible first | exact HB.out | apply below_alloc | apply pw_below_drewN | apply below_drew1) | exact HB.out))); (case aF => exact (fun _ _ => trivial)); (case aO => exact (by (with_reducible repeat (first | apply Kd.R_alloc | apply Kd.R_drewN | apply Kd.R_drew)); exact HO_3.out)); (case aS => exact (below_size (by repeat (first | (with_reducible first | exact HB.out | apply below_alloc | apply pw_below_drewN | apply below_drew1) | exact HB.out)))); (case aL => have := LMc4.out; omega); intro v103 w5 ho hb hg hat; rw [← Ny102.out] at ho; have n0_ := Aside0.mk (hb); have n1_ := Aside0.mk (ho); clear HB; clear HO_3; have HB := n0_; have HO104 := n1_; clear n0_ n1_; clear ho hb hg hat))
          go_roundg k1
          case measure => have := HK1.out; omega
          case rel => exact ⟨(y102), (IntKind.u64.wrap (Int.tdiv x4_1 128)), (by first | rfl | (simp; done) | (simp [*]; done)), H', ⟨by have := HK1.out; omega⟩, ⟨by (with_reducible repeat (first | apply Kd.R_alloc | apply Kd.R_drewN | apply Kd.R_drew)); exact HO104.out⟩, ⟨by repeat (first | (with_reducible first | exact HB.out | apply below_alloc | apply pw_below_drewN | apply below_drew1) | exact HB.out | exact Below.refl _ _)⟩⟩
        · rw [if_neg c4] at H
          exact absurd H (by simp)
      · rw [if_neg c3] at H
        have c3b0 : decide (128 ≤ x4_1) = false := decide_eq_false c3
        clear c3
        by_cases c6 : x3_1.length < 140737488355328
        · rw [if_pos c6] at H
          have LMc6 := Aside0.mk c6
          clear c6
          obtain ⟨y105, hy105⟩ : ∃ y_ : List Int, y_ = (x3_1 ++ [(x4_1) % 256]) := ⟨_, rfl⟩
          replace H : (some (strOfNums y105)) = some r := by first | (rw [hy105]; with_reducible exact H) | (have H2_ := (Option.bind_some _ _).symm.trans H; rw [hy105]; with_reducible exact H2_) | (have H2_ := (Option.bind_some _ _).symm.trans H; with_reducible exact H2_) | with_reducible exact H | (rw [hy105]; exact H) | exact H
          have Ny105 := Aside0.mk hy105
          clear hy105
          obtain rfl := Option.some.inj H
          go_wp2_with (first | ((with_reducible refine gate_builtin (b := .append) (xs := #[.tmp 18, .tmp 21]) rfl ?_); at_builtin; refine Kd.R_append (Kd.int .u8) (w0 := w) w.heap.size rfl (.tmp 18) (.tmp 21) 47 5 (.int .u8 0) 1 rfl Try.underlying47 info5 rfl (by decide) (by omega) u3 x3_1 ((x4_1) % 256) [.int .u8 ((x4_1) % 256)] (fun _ => True) (fun _ => False) rfl rfl ?aP (fun _ hk => hk.elim) ?aF ?aO ?aB ?aS ?aL ?_; (case aP => exact rfl); (case aB => exact (by repeat (first | (with_reducible first | exact HB.out | apply below_alloc | apply pw_below_drewN | apply below_drew1) | exact HB.out))); (case aF => exact (fun _ _ => trivial)); (case aO => exact (by (with_reducible repeat (first | apply Kd.R_alloc | apply Kd.R_drewN | apply Kd.R_drew)); exact HO_3.out)); (case aS => exact (below_size (by repeat (first | (with_reducible first | exact HB.out | apply below_alloc | apply pw_below_drewN | apply below_drew1) | exact HB.out)))); (case aL => have := LMc6.out; omega); intro v106 w7 ho hb hg hat; rw [← Ny105.out] at ho; have n0_ := Aside0.mk (hb); have n1_ := Aside0.mk (ho); clear HB; clear HO_3; have HB := n0_; have HO107 := n1_; clear n0_ n1_; clear ho hb hg hat; have hcv8 := own_string (P := Try.prog) Try.underlying47 Try.underlying5 Try.underlying9 (Kd.own_of_R HO107.out)))
          go_ret
          exact ⟨by first | rfl | (simp [errW_none, errW_some] <;> rfl) | (simp [*, errW_none, errW_some] <;> rfl), by repeat (first | (with_reducible first | exact HB.out | apply below_alloc | apply pw_below_drewN | apply below_drew1) | exact HB.out | exact Below.refl _ _)⟩
        · rw [if_neg c6] at H
          exact absurd H (by simp)

/-! ### code_back: function 36 -/
def code_back.f (a0 : Int) : Option (Int) := some (Go.bits .xor .i64 (wrap64 (a0 / 2)) (wrap64 (-(wrap64 (Go.bits .and .u64 a0 1)))))
set_option maxHeartbeats 8000000 in
set_option maxRecDepth 100000 in
theorem code_back.calls (a0 : Int) (r : Int) (w : World) (h : code_back.f a0 = some r) :
    Calls Try.prog 36 #[.int .u64 a0] w fun e w' => e = .returned (.int .i64 r) ∧ Drawn0 w w' := by
  have H : (some (Go.bits .xor .i64 (wrap64 (a0 / 2)) (wrap64 (-(wrap64 (Go.bits .and .u64 a0 1)))))) = some r := h
  clear h
  obtain rfl := Option.some.inj H
  go_enter Try.func36, Try.ntmps36
  go_wp2
  go_ret
  exact ⟨by first | rfl | (simp; done) | (simp [*]; done), by repeat (first | exact Drawn0.refl _ | apply Drawn0.step)⟩

/-! ### code_Get: function 31 -/
mutual
def code_Get.j0 : Nat → ByteArray → Int → Bool → Option (Int × Int × Int)
  | 0, _, _, _ => none
  | k + 1, x0, x1, x19 => if x19 = true then (some (0, 0, 1)) else (code_Get.l0 k x0 x1 0 (wrap64 ((x0.size : Int) - x1)) 3 0)
def code_Get.l0 : Nat → ByteArray → Int → Int → Int → Int → Int → Option (Int × Int × Int)
  | 0, _, _, _, _, _, _ => none
  | k + 1, x0, x1, x7, x8, x9, x24 => if x24 < 10 then (if x24 = x8 then (some (0, 0, 2)) else (if 0 ≤ (wrap64 (x1 + x24)) then (if (wrap64 (x1 + x24)) < (x0.size : Int) then (if 0 ≤ (wrap64 (x24 * 7)) then (if (bt x0 (wrap64 (x1 + x24))) ≥ 128 then (code_Get.l0 k x0 x1 (Go.bits .or .u64 x7 (shl .u64 (IntKind.u64.wrap (Int.tmod (bt x0 (wrap64 (x1 + x24))) 128)) (wrap64 (x24 * 7)))) x8 x9 (wrap64 (x24 + 1))) else (if x24 > 0 then (if (bt x0 (wrap64 (x1 + x24))) = 0 then (some (0, 0, x9)) else (if x24 = 9 then (if (bt x0 (wrap64 (x1 + x24))) > 1 then (some (0, 0, x9)) else ((code_back.f (Go.bits .or .u64 x7 (shl .u64 (IntKind.u64.wrap (Int.tmod (bt x0 (wrap64 (x1 + x24))) 128)) (wrap64 (x24 * 7))))).bind fun t108 => (some (t108, wrap64 ((wrap64 (x1 + x24)) + 1), 0)))) else ((code_back.f (Go.bits .or .u64 x7 (shl .u64 (IntKind.u64.wrap (Int.tmod (bt x0 (wrap64 (x1 + x24))) 128)) (wrap64 (x24 * 7))))).bind fun t109 => (some (t109, wrap64 ((wrap64 (x1 + x24)) + 1), 0))))) else (if x24 = 9 then (if (bt x0 (wrap64 (x1 + x24))) > 1 then (some (0, 0, x9)) else ((code_back.f (Go.bits .or .u64 x7 (shl .u64 (IntKind.u64.wrap (Int.tmod (bt x0 (wrap64 (x1 + x24))) 128)) (wrap64 (x24 * 7))))).bind fun t110 => (some (t110, wrap64 ((wrap64 (x1 + x24)) + 1), 0)))) else ((code_back.f (Go.bits .or .u64 x7 (shl .u64 (IntKind.u64.wrap (Int.tmod (bt x0 (wrap64 (x1 + x24))) 128)) (wrap64 (x24 * 7))))).bind fun t111 => (some (t111, wrap64 ((wrap64 (x1 + x24)) + 1), 0)))))) else (none)) else (none)) else (none))) else (some (0, 0, x9))
end
def code_Get.f (k : Nat) (a0 : ByteArray) (a1 : Int) : Option (Int × Int × Int) := if a1 < 0 then (code_Get.j0 k a0 a1 true) else (code_Get.j0 k a0 a1 (decide (a1 > (a0.size : Int))))
theorem code_Get.mono_l : ∀ k, (∀ y0 y1 y2, LeO (code_Get.j0 k y0 y1 y2) (code_Get.j0 (k + 1) y0 y1 y2)) ∧ (∀ y0 y1 y2 y3 y4 y5, LeO (code_Get.l0 k y0 y1 y2 y3 y4 y5) (code_Get.l0 (k + 1) y0 y1 y2 y3 y4 y5))
  | 0 => ⟨fun _ _ _ r h => by simp [code_Get.j0] at h, fun _ _ _ _ _ _ r h => by simp [code_Get.l0] at h⟩
  | k + 1 => by
    obtain ⟨ih0, ih1⟩ := code_Get.mono_l k
    refine ⟨?_, ?_⟩
    · intro y0 y1 y2
      unfold code_Get.j0
      repeat' first
      | (with_reducible exact ih0 _ _ _)
      | (with_reducible exact ih1 _ _ _ _ _ _)
      | (with_reducible exact LeO.refl _)
      | (with_reducible exact LeO.none _)
      | (with_reducible refine LeO.ite ?_ ?_)
      | (with_reducible refine LeO.bind ?_ (fun _ => ?_))
      | exact ih0 _ _ _
      | exact ih1 _ _ _ _ _ _
      | exact LeO.none _
      | refine LeO.ite ?_ ?_
      | refine LeO.bind ?_ (fun _ => ?_)
    · intro y0 y1 y2 y3 y4 y5
      unfold code_Get.l0
      repeat' first
      | (with_reducible exact ih0 _ _ _)
      | (with_reducible exact ih1 _ _ _ _ _ _)
      | (with_reducible exact LeO.refl _)
      | (with_reducible exact LeO.none _)
      | (with_reducible refine LeO.ite ?_ ?_)
      | (with_reducible refine LeO.bind ?_ (fun _ => ?_))
      | exact ih0 _ _ _
      | exact ih1 _ _ _ _ _ _
      | exact LeO.none _
      | refine LeO.ite ?_ ?_
      | refine LeO.bind ?_ (fun _ => ?_)
theorem code_Get.mono : ∀ a0 a1 k, LeO (code_Get.f k a0 a1) (code_Get.f (k + 1) a0 a1) := by
  intro a0 a1 k
  obtain ⟨ih0, ih1⟩ := code_Get.mono_l k
  unfold code_Get.f
  repeat' first
      | (with_reducible exact ih0 _ _ _)
      | (with_reducible exact ih1 _ _ _ _ _ _)
      | (with_reducible exact LeO.refl _)
      | (with_reducible exact LeO.none _)
      | (with_reducible refine LeO.ite ?_ ?_)
      | (with_reducible refine LeO.bind ?_ (fun _ => ?_))
      | exact ih0 _ _ _
      | exact ih1 _ _ _ _ _ _
      | exact LeO.none _
      | refine LeO.ite ?_ ?_
      | refine LeO.bind ?_ (fun _ => ?_)
set_option maxHeartbeats 8000000 in
set_option maxRecDepth 100000 in
theorem code_Get.calls (k : Nat) (a0 : ByteArray) (a1 : Int) (r1 : Int) (r2 : Int) (r3 : Int) (w : World) (h : code_Get.f k a0 a1 = some (r1, r2, r3)) :
    Calls Try.prog 31 #[.string a0, .int .i64 a1] w fun e w' => e = .returned (.tuple #[.int .i64 r1, .int .i64 r2, .int .i64 r3]) ∧ Drawn0 w w' := by
  have H : (if a1 < 0 then (code_Get.j0 k a0 a1 true) else (code_Get.j0 k a0 a1 (decide (a1 > (a0.size : Int))))) = some (r1, r2, r3) := h
  clear h
  have HC3 := Aside0.mk H
  clear H
  go_enter Try.func31, Try.ntmps31
  go_upto_region 1 with (first | (with_reducible refine wp_label ?_) | ((with_reducible refine wp_scope_plain ?hgs_ ?_); (case hgs_ => exact fun _ _ _ h => h)))
  go_cut [19] (fun v19 wc => ∃ (kq : Nat) (x19_2 : Bool), v19 = .bool x19_2 ∧ Aside0 (code_Get.j0 kq a0 a1 x19_2 = some (r1, r2, r3)) ∧ Aside0 (kq ≤ k) ∧ Drawn0 w wc)
  case first =>
    have H := HC3.out
    clear HC3
    by_cases c4 : a1 < 0
    · rw [if_pos c4] at H
      have c4b0 : decide (a1 < 0) = true := decide_eq_true c4
      clear c4
      (first | rw [c4b0] | (simp only [i64_w, i32_w]; rw [c4b0]) | skip)
      have H' := Aside0.mk H
      clear H
      go_wp2_with (first | (with_reducible refine wp_label ?_) | ((with_reducible refine wp_scope_plain ?hgs_ ?_); (case hgs_ => exact fun _ _ _ h => h)))
      go_meet
      case rel => exact ⟨_, (true), (by first | rfl | (simp; done) | (simp [*]; done)), H', ⟨by first | omega | exact Nat.le_refl _⟩, by repeat (first | exact Drawn0.refl _ | apply Drawn0.step)⟩
    · rw [if_neg c4] at H
      have c4b0 : decide (a1 < 0) = false := decide_eq_false c4
      clear c4
      (first | rw [c4b0] | (simp only [i64_w, i32_w]; rw [c4b0]) | skip)
      have H' := Aside0.mk H
      clear H
      go_wp2_with (first | (with_reducible refine wp_label ?_) | ((with_reducible refine wp_scope_plain ?hgs_ ?_); (case hgs_ => exact fun _ _ _ h => h)))
      go_meet
      case rel => exact ⟨_, (decide (a1 > (a0.size : Int))), (by first | rfl | (simp; done) | (simp [*]; done)), H', ⟨by first | omega | exact Nat.le_refl _⟩, by repeat (first | exact Drawn0.refl _ | apply Drawn0.step)⟩
  case rest =>
    clear HC3
    try clear p2
    try clear c3
    try clear c4
    try clear c4b0
    obtain ⟨kq, x19_2, rfl, HA, HJ2, ⟨mc2, rfl⟩⟩ := hcut
    cases kq with
    | zero => exact absurd HA.out (by simp [code_Get.j0])
    | succ kj2 =>
      have H := HA.out
      clear HA
      simp only [code_Get.j0] at H
      by_cases c5 : x19_2 = true
      · subst c5
        have H1 : (some (0, 0, 1)) = some (r1, r2, r3) := by rw [if_pos rfl] at H; exact H
        clear H
        have H := H1
        clear H1
        simp only [Option.some.injEq, Prod.mk.injEq] at H
        obtain ⟨rfl, rfl, rfl⟩ := H
        go_wp2_with (first | (with_reducible refine wp_label ?_) | ((with_reducible refine wp_scope_plain ?hgs_ ?_); (case hgs_ => exact fun _ _ _ h => h)))
        go_ret3
        exact ⟨by first | rfl | (simp; done) | (simp [*]; done), by repeat (first | exact Drawn0.refl _ | apply Drawn0.step)⟩
      · replace c5 := Bool.eq_false_iff.mpr c5
        subst c5
        have H1 : (code_Get.l0 kj2 a0 a1 0 (wrap64 ((a0.size : Int) - a1)) 3 0) = some (r1, r2, r3) := by rw [if_neg (show ¬ (false = true) by decide)] at H; exact H
        clear H
        have H := H1
        clear H1
        have H' := Aside0.mk H
        clear H
        go_wp2_with (first | (with_reducible refine wp_label ?_) | ((with_reducible refine wp_scope_plain ?hgs_ ?_); (case hgs_ => exact fun _ _ _ h => h)))
        go_loopg [7, 9, 24] kj2 (fun kq v7 v9 v24 w' => ∃ (x7_2 : Int) (x9_2 : Int) (x24_2 : Int), v7 = .int .u64 x7_2 ∧ v9 = .int .i64 x9_2 ∧ v24 = .int .i64 x24_2 ∧ Aside0 (code_Get.l0 kq a0 a1 x7_2 (wrap64 ((a0.size : Int) - a1)) x9_2 x24_2 = some (r1, r2, r3)) ∧ Aside0 (kq ≤ kj2) ∧ Drawn0 w w')
        case atStart => exact ⟨(0), (3), (0), (by first | rfl | (simp; done) | (simp [*]; done)), (by first | rfl | (simp; done) | (simp [*]; done)), (by first | rfl | (simp; done) | (simp [*]; done)), H', ⟨Nat.le_refl _⟩, by repeat (first | exact Drawn0.refl _ | apply Drawn0.step)⟩
        case round =>
          clear H'
          try clear c2
          try clear p2
          try clear c3
          try clear c4
          try clear c4b0
          try clear c5
          try clear p2
          obtain ⟨x7_2, x9_2, x24_2, rfl, rfl, rfl, HA, HK2, ⟨m2, rfl⟩⟩ := hrel
          cases gk with
          | zero => exact absurd HA.out (by simp [code_Get.l0])
          | succ k2 =>
            have H := HA.out
            clear HA
            simp only [code_Get.l0] at H
            by_cases c6 : x24_2 < 10
            · rw [if_pos c6] at H
              have c6b0 : decide (x24_2 < 10) = true := decide_eq_true c6
              clear c6
              by_cases c7 : x24_2 = (wrap64 ((a0.size : Int) - a1))
              · rw [if_pos c7] at H
                have c7b0 : (x24_2 == (wrap64 ((a0.size : Int) - a1))) = true := beq_iff_eq.mpr c7
                have c7b1 : (x24_2 != (wrap64 ((a0.size : Int) - a1))) = false := bne_eq_false_iff_eq.mpr c7
                clear c7
                simp only [Option.some.injEq, Prod.mk.injEq] at H
                obtain ⟨rfl, rfl, rfl⟩ := H
                go_wp2_with (first | (with_reducible refine wp_label ?_) | ((with_reducible refine wp_scope_plain ?hgs_ ?_); (case hgs_ => exact fun _ _ _ h => h)))
                go_ret3
                exact ⟨by first | rfl | (simp; done) | (simp [*]; done), by repeat (first | exact Drawn0.refl _ | apply Drawn0.step)⟩
              · rw [if_neg c7] at H
                have c7b0 : (x24_2 == (wrap64 ((a0.size : Int) - a1))) = false := beq_eq_false_iff_ne.mpr c7
                have c7b1 : (x24_2 != (wrap64 ((a0.size : Int) - a1))) = true := bne_iff_ne.mpr c7
                obtain ⟨ji8, hji8⟩ : ∃ j_ : Int, (wrap64 (a1 + x24_2)) = j_ := ⟨_, rfl⟩
                replace H : (if 0 ≤ (ji8) then (if (ji8) < (a0.size : Int) then (if 0 ≤ (wrap64 (x24_2 * 7)) then (if (bt a0 (ji8)) ≥ 128 then (code_Get.l0 k2 a0 a1 (Go.bits .or .u64 x7_2 (shl .u64 (IntKind.u64.wrap (Int.tmod (bt a0 (ji8)) 128)) (wrap64 (x24_2 * 7)))) (wrap64 ((a0.size : Int) - a1)) x9_2 (wrap64 (x24_2 + 1))) else (if x24_2 > 0 then (if (bt a0 (ji8)) = 0 then (some (0, 0, x9_2)) else (if x24_2 = 9 then (if (bt a0 (ji8)) > 1 then (some (0, 0, x9_2)) else ((code_back.f (Go.bits .or .u64 x7_2 (shl .u64 (IntKind.u64.wrap (Int.tmod (bt a0 (ji8)) 128)) (wrap64 (x24_2 * 7))))).bind fun t108 => (some (t108, wrap64 ((ji8) + 1), 0)))) else ((code_back.f (Go.bits .or .u64 x7_2 (shl .u64 (IntKind.u64.wrap (Int.tmod (bt a0 (ji8)) 128)) (wrap64 (x24_2 * 7))))).bind fun t109 => (some (t109, wrap64 ((ji8) + 1), 0))))) else (if x24_2 = 9 then (if (bt a0 (ji8)) > 1 then (some (0, 0, x9_2)) else ((code_back.f (Go.bits .or .u64 x7_2 (shl .u64 (IntKind.u64.wrap (Int.tmod (bt a0 (ji8)) 128)) (wrap64 (x24_2 * 7))))).bind fun t110 => (some (t110, wrap64 ((ji8) + 1), 0)))) else ((code_back.f (Go.bits .or .u64 x7_2 (shl .u64 (IntKind.u64.wrap (Int.tmod (bt a0 (ji8)) 128)) (wrap64 (x24_2 * 7))))).bind fun t111 => (some (t111, wrap64 ((ji8) + 1), 0)))))) else (none)) else (none)) else (none)) = some (r1, r2, r3) := by first | (rw [hji8] at H; exact H) | (simp only [hji8] at H ⊢; exact H)
                have hji8w : (IntKind.i64.wrap (a1 + x24_2)) = ji8 := (i64_w _).trans hji8
                by_cases c9 : 0 ≤ (ji8)
                · rw [if_pos c9] at H
                  have c9b0 : decide (0 ≤ (ji8)) = true := decide_eq_true c9
                  clear c9
                  by_cases c10 : (ji8) < (a0.size : Int)
                  · rw [if_pos c10] at H
                    have c10b0 : decide ((ji8) < (a0.size : Int)) = true := decide_eq_true c10
                    clear c10
                    obtain ⟨ji12, hji12⟩ : ∃ j_ : Int, (wrap64 (x24_2 * 7)) = j_ := ⟨_, rfl⟩
                    replace H : (if 0 ≤ (ji12) then (if (bt a0 (ji8)) ≥ 128 then (code_Get.l0 k2 a0 a1 (Go.bits .or .u64 x7_2 (shl .u64 (IntKind.u64.wrap (Int.tmod (bt a0 (ji8)) 128)) (ji12))) (wrap64 ((a0.size : Int) - a1)) x9_2 (wrap64 (x24_2 + 1))) else (if x24_2 > 0 then (if (bt a0 (ji8)) = 0 then (some (0, 0, x9_2)) else (if x24_2 = 9 then (if (bt a0 (ji8)) > 1 then (some (0, 0, x9_2)) else ((code_back.f (Go.bits .or .u64 x7_2 (shl .u64 (IntKind.u64.wrap (Int.tmod (bt a0 (ji8)) 128)) (ji12)))).bind fun t108 => (some (t108, wrap64 ((ji8) + 1), 0)))) else ((code_back.f (Go.bits .or .u64 x7_2 (shl .u64 (IntKind.u64.wrap (Int.tmod (bt a0 (ji8)) 128)) (ji12)))).bind fun t109 => (some (t109, wrap64 ((ji8) + 1), 0))))) else (if x24_2 = 9 then (if (bt a0 (ji8)) > 1 then (some (0, 0, x9_2)) else ((code_back.f (Go.bits .or .u64 x7_2 (shl .u64 (IntKind.u64.wrap (Int.tmod (bt a0 (ji8)) 128)) (ji12)))).bind fun t110 => (some (t110, wrap64 ((ji8) + 1), 0)))) else ((code_back.f (Go.bits .or .u64 x7_2 (shl .u64 (IntKind.u64.wrap (Int.tmod (bt a0 (ji8)) 128)) (ji12)))).bind fun t111 => (some (t111, wrap64 ((ji8) + 1), 0)))))) else (none)) = some (r1, r2, r3) := by first | (rw [hji12] at H; exact H) | (simp only [hji12] at H ⊢; exact H)
                    have hji12w : (IntKind.i64.wrap (x24_2 * 7)) = ji12 := (i64_w _).trans hji12
                    by_cases c13 : 0 ≤ (ji12)
                    · rw [if_pos c13] at H
                      have c13b0 := eq_true c13
                      have c13b1 : decide (0 ≤ (ji12)) = true := decide_eq_true c13
                      clear c13
                      obtain ⟨ji14, hji14⟩ : ∃ j_ : Int, (shl .u64 (IntKind.u64.wrap (Int.tmod (bt a0 (ji8)) 128)) (ji12)) = j_ := ⟨_, rfl⟩
                      replace H : (if (bt a0 (ji8)) ≥ 128 then (code_Get.l0 k2 a0 a1 (Go.bits .or .u64 x7_2 (ji14)) (wrap64 ((a0.size : Int) - a1)) x9_2 (wrap64 (x24_2 + 1))) else (if x24_2 > 0 then (if (bt a0 (ji8)) = 0 then (some (0, 0, x9_2)) else (if x24_2 = 9 then (if (bt a0 (ji8)) > 1 then (some (0, 0, x9_2)) else ((code_back.f (Go.bits .or .u64 x7_2 (ji14))).bind fun t108 => (some (t108, wrap64 ((ji8) + 1), 0)))) else ((code_back.f (Go.bits .or .u64 x7_2 (ji14))).bind fun t109 => (some (t109, wrap64 ((ji8) + 1), 0))))) else (if x24_2 = 9 then (if (bt a0 (ji8)) > 1 then (some (0, 0, x9_2)) else ((code_back.f (Go.bits .or .u64 x7_2 (ji14))).bind fun t110 => (some (t110, wrap64 ((ji8) + 1), 0)))) else ((code_back.f (Go.bits .or .u64 x7_2 (ji14))).bind fun t111 => (some (t111, wrap64 ((ji8) + 1), 0)))))) = some (r1, r2, r3) := by first | (rw [hji14] at H; exact H) | (simp only [hji14] at H ⊢; exact H)
                      have hji14_ : (IntKind.u64.wrap ((IntKind.u64.wrap (Int.tmod (bt a0 (ji8)) 128)) * 2 ^ min (ji12).toNat 64)) = ji14 := hji14
                      have hji14z : (ji12) ≤ 64 → (IntKind.u64.wrap ((IntKind.u64.wrap (Int.tmod (bt a0 (ji8)) 128)) * 2 ^ (ji12).toNat)) = ji14 := shl_small hji14
                      by_cases c15 : (bt a0 (ji8)) ≥ 128
                      · rw [if_pos c15] at H
                        have c15b0 : decide (128 ≤ (bt a0 (ji8))) = true := decide_eq_true c15
                        clear c15
                        have H' := Aside0.mk H
                        clear H
                        have p11 : 0 ≤ ((ji8) : Int) := of_decide_eq_true (by first | (with_reducible assumption) | assumption)
                        have q11 : (ji8) < (a0.size : Int) := of_decide_eq_true (by first | (with_reducible assumption) | assumption)
                        have hx11 := bt_at a0 (ji8)
                        replace p11 := eq_true p11
                        replace q11 := eq_true q11
                        go_wp2_with (first | (with_reducible refine wp_label ?_) | ((with_reducible refine wp_scope_plain ?hgs_ ?_); (case hgs_ => exact fun _ _ _ h => h)))
                        go_roundg k2
                        case measure => have := HJ2.out; have := HK2.out; omega
                        case rel => exact ⟨(Go.bits .or .u64 x7_2 (ji14)), (x9_2), (wrap64 (x24_2 + 1)), (by first | rfl | (simp; done) | (simp only [← hji14] <;> (first | rfl | simp)) | (simp [*]; done)), (by first | rfl | (simp; done) | (simp [*]; done)), (by first | rfl | (simp; done) | (simp [*]; done)), H', ⟨by have := HJ2.out; have := HK2.out; omega⟩, by repeat (first | exact Drawn0.refl _ | apply Drawn0.step)⟩
                      · rw [if_neg c15] at H
                        have c15b0 : decide (128 ≤ (bt a0 (ji8))) = false := decide_eq_false c15
                        clear c15
                        by_cases c16 : x24_2 > 0
                        · rw [if_pos c16] at H
                          have c16b0 : decide (0 < x24_2) = true := decide_eq_true c16
                          clear c16
                          by_cases c17 : (bt a0 (ji8)) = 0
                          · rw [if_pos c17] at H
                            have c17b0 : ((bt a0 (ji8)) == 0) = true := beq_iff_eq.mpr c17
                            have c17b1 : ((bt a0 (ji8)) != 0) = false := bne_eq_false_iff_eq.mpr c17
                            clear c17
                            simp only [Option.some.injEq, Prod.mk.injEq] at H
                            obtain ⟨rfl, rfl, rfl⟩ := H
                            have p11 : 0 ≤ ((ji8) : Int) := of_decide_eq_true (by first | (with_reducible assumption) | assumption)
                            have q11 : (ji8) < (a0.size : Int) := of_decide_eq_true (by first | (with_reducible assumption) | assumption)
                            have hx11 := bt_at a0 (ji8)
                            replace p11 := eq_true p11
                            replace q11 := eq_true q11
                            go_wp2_with (first | (with_reducible refine wp_label ?_) | ((with_reducible refine wp_scope_plain ?hgs_ ?_); (case hgs_ => exact fun _ _ _ h => h)))
                            go_ret3
                            exact ⟨by first | rfl | (simp; done) | (simp only [← hji8, ← hji12, ← hji14] <;> (first | rfl | simp)) | (simp [*]; done), by repeat (first | exact Drawn0.refl _ | apply Drawn0.step)⟩
                          · rw [if_neg c17] at H
                            have c17b0 : ((bt a0 (ji8)) == 0) = false := beq_eq_false_iff_ne.mpr c17
                            have c17b1 : ((bt a0 (ji8)) != 0) = true := bne_iff_ne.mpr c17
                            by_cases c18 : x24_2 = 9
                            · rw [if_pos c18] at H
                              have c18b0 : (x24_2 == 9) = true := beq_iff_eq.mpr c18
                              have c18b1 : (x24_2 != 9) = false := bne_eq_false_iff_eq.mpr c18
                              clear c18
                              by_cases c19 : (bt a0 (ji8)) > 1
                              · rw [if_pos c19] at H
                                have c19b0 : decide (1 < (bt a0 (ji8))) = true := decide_eq_true c19
                                clear c19
                                simp only [Option.some.injEq, Prod.mk.injEq] at H
                                obtain ⟨rfl, rfl, rfl⟩ := H
                                have p11 : 0 ≤ ((ji8) : Int) := of_decide_eq_true (by first | (with_reducible assumption) | assumption)
                                have q11 : (ji8) < (a0.size : Int) := of_decide_eq_true (by first | (with_reducible assumption) | assumption)
                                have hx11 := bt_at a0 (ji8)
                                replace p11 := eq_true p11
                                replace q11 := eq_true q11
                                go_wp2_with (first | (with_reducible refine wp_label ?_) | ((with_reducible refine wp_scope_plain ?hgs_ ?_); (case hgs_ => exact fun _ _ _ h => h)))
                                go_ret3
                                exact ⟨by first | rfl | (simp; done) | (simp only [← hji8, ← hji12, ← hji14] <;> (first | rfl | simp)) | (simp [*]; done), by repeat (first | exact Drawn0.refl _ | apply Drawn0.step)⟩
                              · rw [if_neg c19] at H
                                have c19b0 : decide (1 < (bt a0 (ji8))) = false := decide_eq_false c19
                                clear c19
                                replace H := Option.bind_eq_some_iff.mp H
                                obtain ⟨t108, A200, H⟩ := H
                                replace H : (some (t108, wrap64 ((ji8) + 1), 0)) = some (r1, r2, r3) := H
                                have A20 := Aside0.mk A200
                                clear A200
                                simp only [Option.some.injEq, Prod.mk.injEq] at H
                                obtain ⟨rfl, rfl, rfl⟩ := H
                                have p11 : 0 ≤ ((ji8) : Int) := of_decide_eq_true (by first | (with_reducible assumption) | assumption)
                                have q11 : (ji8) < (a0.size : Int) := of_decide_eq_true (by first | (with_reducible assumption) | assumption)
                                have hx11 := bt_at a0 (ji8)
                                replace p11 := eq_true p11
                                replace q11 := eq_true q11
                                go_wp2_with (first | (with_reducible refine wp_label ?_) | ((with_reducible refine wp_scope_plain ?hgs_ ?_); (case hgs_ => exact fun _ _ _ h => h)) | ((with_reducible refine gate_callee (f := 36) rfl ?_); refine goesL_ (some 62) rfl rfl Try.func36 (by kernel_rfl) rfl #[.int .u64 (Go.bits .or .u64 x7_2 (ji14))] rfl (by (try simp only [List.map_toArray, List.map_cons, List.map_nil]); first | done | (simp only [hji14]; rfl) | rfl | (simp only [List.length_drop, List.length_take]; rfl)) ?_; (with_reducible refine (code_back.calls (Go.bits .or .u64 x7_2 (ji14)) t108 _ A20.out).mono ?_); rintro e w' ⟨rfl, ⟨nd, rfl⟩⟩; refine ⟨_, rfl, ?_⟩))
                                go_ret3
                                exact ⟨by first | rfl | (simp; done) | (simp only [← hji8, ← hji12, ← hji14] <;> (first | rfl | simp)) | (simp [*]; done), by repeat (first | exact Drawn0.refl _ | apply Drawn0.step)⟩
                            · rw [if_neg c18] at H
                              have c18b0 : (x24_2 == 9) = false := beq_eq_false_iff_ne.mpr c18
                              have c18b1 : (x24_2 != 9) = true := bne_iff_ne.mpr c18
                              replace H := Option.bind_eq_some_iff.mp H
                              obtain ⟨t109, A210, H⟩ := H
                              replace H : (some (t109, wrap64 ((ji8) + 1), 0)) = some (r1, r2, r3) := H
                              have A21 := Aside0.mk A210
                              clear A210
                              simp only [Option.some.injEq, Prod.mk.injEq] at H
                              obtain ⟨rfl, rfl, rfl⟩ := H
                              have p11 : 0 ≤ ((ji8) : Int) := of_decide_eq_true (by first | (with_reducible assumption) | assumption)
                              have q11 : (ji8) < (a0.size : Int) := of_decide_eq_true (by first | (with_reducible assumption) | assumption)
                              have hx11 := bt_at a0 (ji8)
                              replace p11 := eq_true p11
                              replace q11 := eq_true q11
                              go_wp2_with (first | (with_reducible refine wp_label ?_) | ((with_reducible refine wp_scope_plain ?hgs_ ?_); (case hgs_ => exact fun _ _ _ h => h)) | ((with_reducible refine gate_callee (f := 36) rfl ?_); refine goesL_ (some 62) rfl rfl Try.func36 (by kernel_rfl) rfl #[.int .u64 (Go.bits .or .u64 x7_2 (ji14))] rfl (by (try simp only [List.map_toArray, List.map_cons, List.map_nil]); first | done | (simp only [hji14]; rfl) | rfl | (simp only [List.length_drop, List.length_take]; rfl)) ?_; (with_reducible refine (code_back.calls (Go.bits .or .u64 x7_2 (ji14)) t109 _ A21.out).mono ?_); rintro e w' ⟨rfl, ⟨nd, rfl⟩⟩; refine ⟨_, rfl, ?_⟩))
                              go_ret3
                              exact ⟨by first | rfl | (simp; done) | (simp only [← hji8, ← hji12, ← hji14] <;> (first | rfl | simp)) | (simp [*]; done), by repeat (first | exact Drawn0.refl _ | apply Drawn0.step)⟩
                        · rw [if_neg c16] at H
                          have c16b0 : decide (0 < x24_2) = false := decide_eq_false c16
                          clear c16
                          by_cases c22 : x24_2 = 9
                          · rw [if_pos c22] at H
                            have c22b0 : (x24_2 == 9) = true := beq_iff_eq.mpr c22
                            have c22b1 : (x24_2 != 9) = false := bne_eq_false_iff_eq.mpr c22
                            clear c22
                            by_cases c23 : (bt a0 (ji8)) > 1
                            · rw [if_pos c23] at H
                              have c23b0 : decide (1 < (bt a0 (ji8))) = true := decide_eq_true c23
                              clear c23
                              simp only [Option.some.injEq, Prod.mk.injEq] at H
                              obtain ⟨rfl, rfl, rfl⟩ := H
                              have p11 : 0 ≤ ((ji8) : Int) := of_decide_eq_true (by first | (with_reducible assumption) | assumption)
                              have q11 : (ji8) < (a0.size : Int) := of_decide_eq_true (by first | (with_reducible assumption) | assumption)
                              have hx11 := bt_at a0 (ji8)
                              replace p11 := eq_true p11
                              replace q11 := eq_true q11
                              go_wp2_with (first | (with_reducible refine wp_label ?_) | ((with_reducible refine wp_scope_plain ?hgs_ ?_); (case hgs_ => exact fun _ _ _ h => h)))
                              go_ret3
                              exact ⟨by first | rfl | (simp; done) | (simp only [← hji8, ← hji12, ← hji14] <;> (first | rfl | simp)) | (simp [*]; done), by repeat (first | exact Drawn0.refl _ | apply Drawn0.step)⟩
                            · rw [if_neg c23] at H
                              have c23b0 : decide (1 < (bt a0 (ji8))) = false := decide_eq_false c23
                              clear c23
                              replace H := Option.bind_eq_some_iff.mp H
                              obtain ⟨t110, A240, H⟩ := H
                              replace H : (some (t110, wrap64 ((ji8) + 1), 0)) = some (r1, r2, r3) := H
                              have A24 := Aside0.mk A240
                              clear A240
                              simp only [Option.some.injEq, Prod.mk.injEq] at H
                              obtain ⟨rfl, rfl, rfl⟩ := H
                              have p11 : 0 ≤ ((ji8) : Int) := of_decide_eq_true (by first | (with_reducible assumption) | assumption)
                              have q11 : (ji8) < (a0.size : Int) := of_decide_eq_true (by first | (with_reducible assumption) | assumption)
                              have hx11 := bt_at a0 (ji8)
                              replace p11 := eq_true p11
                              replace q11 := eq_true q11
                              go_wp2_with (first | (with_reducible refine wp_label ?_) | ((with_reducible refine wp_scope_plain ?hgs_ ?_); (case hgs_ => exact fun _ _ _ h => h)) | ((with_reducible refine gate_callee (f := 36) rfl ?_); refine goesL_ (some 62) rfl rfl Try.func36 (by kernel_rfl) rfl #[.int .u64 (Go.bits .or .u64 x7_2 (ji14))] rfl (by (try simp only [List.map_toArray, List.map_cons, List.map_nil]); first | done | (simp only [hji14]; rfl) | rfl | (simp only [List.length_drop, List.length_take]; rfl)) ?_; (with_reducible refine (code_back.calls (Go.bits .or .u64 x7_2 (ji14)) t110 _ A24.out).mono ?_); rintro e w' ⟨rfl, ⟨nd, rfl⟩⟩; refine ⟨_, rfl, ?_⟩))
                              go_ret3
                              exact ⟨by first | rfl | (simp; done) | (simp only [← hji8, ← hji12, ← hji14] <;> (first | rfl | simp)) | (simp [*]; done), by repeat (first | exact Drawn0.refl _ | apply Drawn0.step)⟩
                          · rw [if_neg c22] at H
                            have c22b0 : (x24_2 == 9) = false := beq_eq_false_iff_ne.mpr c22
                            have c22b1 : (x24_2 != 9) = true := bne_iff_ne.mpr c22
                            replace H := Option.bind_eq_some_iff.mp H
                            obtain ⟨t111, A250, H⟩ := H
                            replace H : (some (t111, wrap64 ((ji8) + 1), 0)) = some (r1, r2, r3) := H
                            have A25 := Aside0.mk A250
                            clear A250
                            simp only [Option.some.injEq, Prod.mk.injEq] at H
                            obtain ⟨rfl, rfl, rfl⟩ := H
                            have p11 : 0 ≤ ((ji8) : Int) := of_decide_eq_true (by first | (with_reducible assumption) | assumption)
                            have q11 : (ji8) < (a0.size : Int) := of_decide_eq_true (by first | (with_reducible assumption) | assumption)
                            have hx11 := bt_at a0 (ji8)
                            replace p11 := eq_true p11
                            replace q11 := eq_true q11
                            go_wp2_with (first | (with_reducible refine wp_label ?_) | ((with_reducible refine wp_scope_plain ?hgs_ ?_); (case hgs_ => exact fun _ _ _ h => h)) | ((with_reducible refine gate_callee (f := 36) rfl ?_); refine goesL_ (some 62) rfl rfl Try.func36 (by kernel_rfl) rfl #[.int .u64 (Go.bits .or .u64 x7_2 (ji14))] rfl (by (try simp only [List.map_toArray, List.map_cons, List.map_nil]); first | done | (simp only [hji14]; rfl) | rfl | (simp only [List.length_drop, List.length_take]; rfl)) ?_; (with_reducible refine (code_back.calls (Go.bits .or .u64 x7_2 (ji14)) t111 _ A25.out).mono ?_); rintro e w' ⟨rfl, ⟨nd, rfl⟩⟩; refine ⟨_, rfl, ?_⟩))
                            go_ret3
                            exact ⟨by first | rfl | (simp; done) | (simp only [← hji8, ← hji12, ← hji14] <;> (first | rfl | simp)) | (simp [*]; done), by repeat (first | exact Drawn0.refl _ | apply Drawn0.step)⟩
                    · rw [if_neg c13] at H
                      exact absurd H (by simp)
                  · rw [if_neg c10] at H
                    exact absurd H (by simp)
                · rw [if_neg c9] at H
                  exact absurd H (by simp)
            · rw [if_neg c6] at H
              have c6b0 : decide (x24_2 < 10) = false := decide_eq_false c6
              clear c6
              simp only [Option.some.injEq, Prod.mk.injEq] at H
              obtain ⟨rfl, rfl, rfl⟩ := H
              go_wp2_with (first | (with_reducible refine wp_label ?_) | ((with_reducible refine wp_scope_plain ?hgs_ ?_); (case hgs_ => exact fun _ _ _ h => h)))
              go_ret3
              exact ⟨by first | rfl | (simp; done) | (simp [*]; done), by repeat (first | exact Drawn0.refl _ | apply Drawn0.step)⟩

end Go.Proofs.Ytnfoebbdmekbiaa.C
