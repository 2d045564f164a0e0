-- Written by a program of this session (wip/tools: patched print) for this claim. Not trusted: Lean checks it.
import Derived.Test.YtdhlhbhclggheaaQx0
namespace Go.Proofs.Ytdhlhbhclggheaa.Q
open Go.RowKit Go.Proofs.Ytdhlhbhclggheaa.P Go.Proofs.Ytdhlhbhclggheaa.D Go.Proofs.YtdhlhbhclggheaaW.PrintWords Go.Proofs.YtdhlhbhclggheaaW.PrintLast Go.Proofs.YtdhlhbhclggheaaW.PrintMore
attribute [local go_sem] max2_int min2_int max_two min_two max_three min_three max_four min_four   -- for this text's walks alone
set_option linter.unusedVariables false
set_option linter.unusedSimpArgs false

/-! ### types_Deep: function 11 -/
def types_Deep.l0 : Nat → Int → Int → List ByteArray → Int → Int → Option (Int × Int)
 | 0, _, _, _, _, _ => none
 | k + 1, x5, x6, x14, x15, x16 => if x16 < x15 then (if 0 ≤ x16 then (if x16 < (x14.length : Int) then (types_Deep.l0 k x5 (mx x6 ((rdOf ByteArray.empty x14 x16).size : Int)) x14 x15 (wrap64 (x16 + 1))) else (none)) else (none)) else (some (x6, x5))
def types_Deep.f (k : Nat) (l0 : List (S37)) : Option (Int × Int) := (types_Stacks.f k l0).bind fun bt101 => (types_Deep.l0 k bt101.2 0 bt101.1 (bt101.1.length : Int) 0)
theorem types_Deep.mono_l : ∀ k, (∀ y0 y1 y2 y3 y4, LeO (types_Deep.l0 k y0 y1 y2 y3 y4) (types_Deep.l0 (k + 1) y0 y1 y2 y3 y4))
 | 0 => fun _ _ _ _ _ r h => by simp [types_Deep.l0] at h
 | k + 1 => by
  have ih0 := types_Deep.mono_l k
  ·intro y0 y1 y2 y3 y4
   unfold types_Deep.l0
   repeat' first
   | (with_reducible exact ih0 _ _ _ _ _)
   | (with_reducible exact types_Stacks.mono _ _)
   | (with_reducible exact LeO.refl _)
   | (with_reducible exact LeO.none _)
   | (with_reducible refine LeO.ite ?_ ?_)
   | (with_reducible refine LeO.bind ?_ (fun _ => ?_))
   | exact ih0 _ _ _ _ _
   | exact types_Stacks.mono _ _
   | exact LeO.none _
   | refine LeO.ite ?_ ?_
   | refine LeO.bind ?_ (fun _ => ?_)
theorem types_Deep.mono : ∀ a0 k, LeO (types_Deep.f k a0) (types_Deep.f (k + 1) a0) := by
 intro a0 k
 have ih0 := types_Deep.mono_l k
 unfold types_Deep.f
 repeat' first
   | (with_reducible exact ih0 _ _ _ _ _)
   | (with_reducible exact types_Stacks.mono _ _)
   | (with_reducible exact LeO.refl _)
   | (with_reducible exact LeO.none _)
   | (with_reducible refine LeO.ite ?_ ?_)
   | (with_reducible refine LeO.bind ?_ (fun _ => ?_))
   | exact ih0 _ _ _ _ _
   | exact types_Stacks.mono _ _
   | exact LeO.none _
   | refine LeO.ite ?_ ?_
   | refine LeO.bind ?_ (fun _ => ?_)
set_option maxHeartbeats 8000000 in
set_option maxRecDepth 100000 in
theorem types_Deep.calls (k : Nat) (A0 : Option Addr) (c0 : Nat) (l0 : List (S37)) (r1 : Int) (r2 : Int) (w : World) (hr0 : Kd.C k37 w A0 l0.length l0) (hc0 : l0.length ≤ c0) (h : types_Deep.f k l0 = some (r1, r2)) :
  Calls Try.prog 11 #[.slice A0 l0.length c0] w fun e w' => e = .returned (.tuple #[.int .i64 r1, .int .i64 r2]) ∧ Below w.heap.size w w' := by
 have HR0 := Aside0.mk hr0
 have HC0 := Aside0.mk hc0
 clear hr0 hc0
 have HB := Aside0.mk (Below.refl w.heap.size w)
 have H : ((types_Stacks.f k l0).bind fun bt101 => (types_Deep.l0 k bt101.2 0 bt101.1 (bt101.1.length : Int) 0)) = some (r1, r2) := h
 clear h
 replace H := Option.bind_eq_some_iff.mp H
 obtain ⟨⟨t101, t102⟩, A20, H⟩ := H
 replace H : (types_Deep.l0 k t102 0 t101 (t101.length : Int) 0) = some (r1, r2) := H
 have A2 := Aside0.mk A20
 clear A20
 have H' := Aside0.mk H
 clear H
 go_enter Try.func11, Try.ntmps11
 go_wp2_with (first | ((with_reducible refine gate_callee (f := 9) rfl ?_); refine goesL_ (some 11) rfl rfl Try.func9 (by kernel_rfl) rfl #[.slice A0 l0.length c0] rfl am_ ?_; (with_reducible refine (types_Stacks.calls k _ _ l0 t101 t102 _ ?side1 ?side2 A2.out).mono ?_); (case side1 => repeat (first | exact HR0.out | (with_reducible refine Kd.C_alloc ?_ _) | (with_reducible refine Kd.C_drewN ?_ _) | (with_reducible refine Kd.C_drew ?_))); (case side2 => exact HC0.out); rintro e w3 ⟨v103, rfl, ho0, hb⟩; refine ⟨_, rfl, ?_⟩; have n0_ := Aside0.mk (Kd.R_lower ho0 (below_size ab_)); have n1_ := Aside0.mk (below_step ab_ hb); clear HB; have HO104 := n0_; have HB := n1_; clear n0_ n1_; (try clear hb); (try clear hb2); (try clear hk); (try clear hi); (try clear ho0); obtain ⟨Ao4, co4, eo4⟩ := Kd.R_slice HO104.out; subst eo4))
 go_loopg [6, 16] k (fun kq v6 v16 w' => ∃ (x6_1 : Int) (x16_1 : Int), v6 = .int .i64 x6_1 ∧ v16 = .int .i64 x16_1 ∧ Aside0 (types_Deep.l0 kq t102 x6_1 t101 (t101.length : Int) x16_1 = some (r1, r2)) ∧ Aside0 (kq ≤ k) ∧ Aside0 (Kd.R Kd.string 9 w' w.heap.size (fun _ => True) (.slice Ao4 t101.length co4) t101) ∧ Aside0 (Below w.heap.size w w'))
 case atStart => exact ⟨(0), (0), (by first | rfl | (simp; done) | (simp [*]; done)), (by first | rfl | (simp; done) | (simp [*]; done)), H', ⟨Nat.le_refl _⟩, ⟨by (with_reducible repeat (first | apply Kd.R_alloc | apply Kd.R_drewN | apply Kd.R_drew)); exact HO104.out⟩, ⟨by repeat (first | (with_reducible first | exact HB.out | apply below_alloc | apply pw_below_drewN | apply below_drew1) | exact HB.out)⟩⟩
 case round =>
  clear H'
  try clear c1
  try clear p2
  obtain ⟨x6_1, x16_1, rfl, rfl, HA, HK1, HO_14, HB⟩ := hrel
  cases gk with
  | zero => exact absurd HA.out (by simp [types_Deep.l0])
  | succ k1 =>
   have H := HA.out
   clear HA
   simp only [types_Deep.l0] at H
   by_cases c5 : x16_1 < (t101.length : Int)
   rotate_left
   ·rw [if_neg c5] at H
    have c5b0 : decide (x16_1 < (t101.length : Int)) = false := decide_eq_false c5
    clear c5
    simp only [Option.some.injEq, Prod.mk.injEq] at H
    obtain ⟨rfl, rfl⟩ := H
    go_wp2
    go_ret2
    exact ⟨by first | rfl | (simp [errW_none, errW_some] <;> rfl) | (simp [*, errW_none, errW_some] <;> rfl), by repeat (first | (with_reducible first | exact HB.out | apply below_alloc | apply pw_below_drewN | apply below_drew1) | exact HB.out | exact Below.refl _ _)⟩
   rw [if_pos c5] at H
   have c5b0 : decide (x16_1 < (t101.length : Int)) = true := decide_eq_true c5
   clear c5
   by_cases c6 : 0 ≤ x16_1
   rotate_left
   ·rw [if_neg c6] at H
    exact absurd H (by simp)
   rw [if_pos c6] at H
   have c6b0 : decide (0 ≤ x16_1) = true := decide_eq_true c6
   clear c6
   by_cases c7 : x16_1 < (t101.length : Int)
   rotate_left
   ·rw [if_neg c7] at H
    exact absurd H (by simp)
   rw [if_pos c7] at H
   have c7b0 : decide (x16_1 < (t101.length : Int)) = true := decide_eq_true c7
   clear c7
   obtain ⟨ji8, hji8⟩ : ∃ j_ : Int, (mx x6_1 ((rdOf ByteArray.empty t101 x16_1).size : Int)) = j_ := ⟨_, rfl⟩
   replace H : (types_Deep.l0 k1 t102 ji8 t101 (t101.length : Int) (wrap64 (x16_1 + 1))) = some (r1, r2) := by first | (rw [hji8] at H; exact H) | (simp only [hji8] at H ⊢; exact H)
   have hji8_ : (if x6_1 < ((rdOf ByteArray.empty t101 x16_1).size : Int) then ((rdOf ByteArray.empty t101 x16_1).size : Int) else x6_1) = ji8 := hji8
   have H' := Aside0.mk H
   clear H
   have p105 : 0 ≤ (x16_1 : Int) := of_decide_eq_true as_
   have q105 : x16_1 < (t101.length : Int) := of_decide_eq_true as_
   obtain ⟨ad105, e105, hx105_0⟩ := Kd.at_string (Kd.R_reads' HO_14.out).2.2 x16_1 p105 q105
   cases e105
   replace p105 := eq_true p105
   replace q105 := eq_true q105
   go_wp2
   go_roundg k1
   case measure => have := HK1.out; omega
   case rel => exact ⟨(ji8), (wrap64 (x16_1 + 1)), (by first | rfl | (simp; done) | (simp only [← hji8] <;> (first | rfl | simp)) | (simp [*]; done)), (by first | rfl | (simp; done) | (simp [*]; done)), H', ⟨by have := HK1.out; omega⟩, ⟨by (with_reducible repeat (first | apply Kd.R_alloc | apply Kd.R_drewN | apply Kd.R_drew)); exact HO_14.out⟩, ⟨by repeat (first | (with_reducible first | exact HB.out | apply below_alloc | apply pw_below_drewN | apply below_drew1) | exact HB.out | exact Below.refl _ _)⟩⟩

/-! ### camshaftref07_Same: function 13 -/
def camshaftref07_Same.l0 : Nat → List ByteArray → List ByteArray → Int → Option (Bool)
 | 0, _, _, _ => none
 | k + 1, x0, x1, x5 => if x5 < (x0.length : Int) then (if 0 ≤ x5 then (if x5 < (x1.length : Int) then (if (rdOf ByteArray.empty x0 x5).toList = (rdOf ByteArray.empty x1 x5).toList then (camshaftref07_Same.l0 k x0 x1 (wrap64 (x5 + 1))) else (some false)) else (none)) else (none)) else (some true)
def camshaftref07_Same.f (k : Nat) (l0 : List ByteArray) (l1 : List ByteArray) : Option (Bool) := if (l0.length : Int) = (l1.length : Int) then (camshaftref07_Same.l0 k l0 l1 0) else (some false)
theorem camshaftref07_Same.mono_l : ∀ k, (∀ y0 y1 y2, LeO (camshaftref07_Same.l0 k y0 y1 y2) (camshaftref07_Same.l0 (k + 1) y0 y1 y2))
 | 0 => fun _ _ _ r h => by simp [camshaftref07_Same.l0] at h
 | k + 1 => by
  have ih0 := camshaftref07_Same.mono_l k
  ·intro y0 y1 y2
   unfold camshaftref07_Same.l0
   repeat' first
   | (with_reducible exact ih0 _ _ _)
   | (with_reducible exact LeO.refl _)
   | (with_reducible exact LeO.none _)
   | (with_reducible refine LeO.ite ?_ ?_)
   | (with_reducible refine LeO.bind ?_ (fun _ => ?_))
   | exact ih0 _ _ _
   | exact LeO.none _
   | refine LeO.ite ?_ ?_
   | refine LeO.bind ?_ (fun _ => ?_)
theorem camshaftref07_Same.mono : ∀ a0 a1 k, LeO (camshaftref07_Same.f k a0 a1) (camshaftref07_Same.f (k + 1) a0 a1) := by
 intro a0 a1 k
 have ih0 := camshaftref07_Same.mono_l k
 unfold camshaftref07_Same.f
 repeat' first
   | (with_reducible exact ih0 _ _ _)
   | (with_reducible exact LeO.refl _)
   | (with_reducible exact LeO.none _)
   | (with_reducible refine LeO.ite ?_ ?_)
   | (with_reducible refine LeO.bind ?_ (fun _ => ?_))
   | exact ih0 _ _ _
   | exact LeO.none _
   | refine LeO.ite ?_ ?_
   | refine LeO.bind ?_ (fun _ => ?_)
set_option maxHeartbeats 8000000 in
set_option maxRecDepth 100000 in
theorem camshaftref07_Same.calls (k : Nat) (A0 : Option Addr) (c0 : Nat) (l0 : List ByteArray) (A1 : Option Addr) (c1 : Nat) (l1 : List ByteArray) (r : Bool) (w : World) (hr0 : Kd.C Kd.string w A0 l0.length l0) (hc0 : l0.length ≤ c0) (hr1 : Kd.C Kd.string w A1 l1.length l1) (hc1 : l1.length ≤ c1) (h : camshaftref07_Same.f k l0 l1 = some r) :
  Calls Try.prog 13 #[.slice A0 l0.length c0, .slice A1 l1.length c1] w fun e w' => e = .returned (.bool r) ∧ Drawn0 w w' := by
 have HR0 := Aside0.mk hr0
 have HC0 := Aside0.mk hc0
 clear hr0 hc0
 have HR1 := Aside0.mk hr1
 have HC1 := Aside0.mk hc1
 clear hr1 hc1
 have H : (if (l0.length : Int) = (l1.length : Int) then (camshaftref07_Same.l0 k l0 l1 0) else (some false)) = some r := h
 clear h
 by_cases c3 : (l0.length : Int) = (l1.length : Int)
 rotate_left
 ·rw [if_neg c3] at H
  have c3b0 : ((l0.length : Int) == (l1.length : Int)) = false := beq_eq_false_iff_ne.mpr c3
  have c3b1 : ((l0.length : Int) != (l1.length : Int)) = true := bne_iff_ne.mpr c3
  have c3b2 : (l0.length == l1.length) = false := by first | simpa using c3 | (simp at c3 ⊢; omega)
  obtain rfl := Option.some.inj H
  go_enter Try.func13, Try.ntmps13
  go_wp2
  repeat (go_quiet (fail); try go_wp2)
  go_ret
  exact ⟨by first | rfl | (rw [bne_nil_eq]; rfl) | (simp [bne_nil_eq]; done) | (simp; done) | (simp [*]; done), by repeat (first | exact Drawn0.refl _ | apply Drawn0.step)⟩
 rw [if_pos c3] at H
 have c3b0 : ((l0.length : Int) == (l1.length : Int)) = true := beq_iff_eq.mpr c3
 have c3b1 : ((l0.length : Int) != (l1.length : Int)) = false := bne_eq_false_iff_eq.mpr c3
 have c3b2 : (l0.length == l1.length) = true := by first | simpa using c3 | (simp at c3 ⊢; omega)
 clear c3
 have H' := Aside0.mk H
 clear H
 go_enter Try.func13, Try.ntmps13
 go_wp2
 repeat (go_quiet (fail); try go_wp2)
 go_loopg [5] k (fun kq v5 w' => ∃ (x5_1 : Int), v5 = .int .i64 x5_1 ∧ Aside0 (camshaftref07_Same.l0 kq l0 l1 x5_1 = some r) ∧ Aside0 (kq ≤ k) ∧ Drawn0 w w')
 case atStart => exact ⟨(0), (by first | rfl | (simp; done) | (simp [*]; done)), H', ⟨Nat.le_refl _⟩, by repeat (first | exact Drawn0.refl _ | apply Drawn0.step)⟩
 case round =>
  clear H'
  try clear c1
  try clear p2
  try clear c3
  try clear c3b0
  try clear c3b1
  try clear c3b2
  obtain ⟨x5_1, rfl, HA, HK1, ⟨m1, rfl⟩⟩ := hrel
  cases gk with
  | zero => exact absurd HA.out (by simp [camshaftref07_Same.l0])
  | succ k1 =>
   have H := HA.out
   clear HA
   simp only [camshaftref07_Same.l0] at H
   by_cases c4 : x5_1 < (l0.length : Int)
   rotate_left
   ·rw [if_neg c4] at H
    have c4b0 : decide (x5_1 < (l0.length : Int)) = false := decide_eq_false c4
    clear c4
    obtain rfl := Option.some.inj H
    go_wp2
    repeat (go_quiet (fail); try go_wp2)
    go_ret
    exact ⟨by first | rfl | (rw [bne_nil_eq]; rfl) | (simp [bne_nil_eq]; done) | (simp; done) | (simp [*]; done), by repeat (first | exact Drawn0.refl _ | apply Drawn0.step)⟩
   rw [if_pos c4] at H
   have c4b0 : decide (x5_1 < (l0.length : Int)) = true := decide_eq_true c4
   clear c4
   by_cases c5 : 0 ≤ x5_1
   rotate_left
   ·rw [if_neg c5] at H
    exact absurd H (by simp)
   rw [if_pos c5] at H
   have c5b0 : decide (0 ≤ x5_1) = true := decide_eq_true c5
   clear c5
   by_cases c6 : x5_1 < (l1.length : Int)
   rotate_left
   ·rw [if_neg c6] at H
    exact absurd H (by simp)
   rw [if_pos c6] at H
   have c6b0 : decide (x5_1 < (l1.length : Int)) = true := decide_eq_true c6
   clear c6
   by_cases c7 : (rdOf ByteArray.empty l0 x5_1).toList = (rdOf ByteArray.empty l1 x5_1).toList
   rotate_left
   ·rw [if_neg c7] at H
    have c7b0 : ((rdOf ByteArray.empty l0 x5_1).toList == (rdOf ByteArray.empty l1 x5_1).toList) = false := beq_eq_false_iff_ne.mpr c7
    have c7b1 : ((rdOf ByteArray.empty l0 x5_1).toList != (rdOf ByteArray.empty l1 x5_1).toList) = true := bne_iff_ne.mpr c7
    obtain rfl := Option.some.inj H
    have p106 : 0 ≤ (x5_1 : Int) := of_decide_eq_true as_
    have q106 : x5_1 < (l0.length : Int) := of_decide_eq_true as_
    obtain ⟨ad106, e106, hx106_0⟩ := Kd.at_string HR0.out x5_1 p106 q106
    cases e106
    replace p106 := eq_true p106
    replace q106 := eq_true q106
    have p107 : 0 ≤ (x5_1 : Int) := of_decide_eq_true as_
    have q107 : x5_1 < (l1.length : Int) := of_decide_eq_true as_
    obtain ⟨ad107, e107, hx107_0⟩ := Kd.at_string HR1.out x5_1 p107 q107
    cases e107
    replace p107 := eq_true p107
    replace q107 := eq_true q107
    go_wp2
    repeat (go_quiet (fail); try go_wp2)
    go_ret
    exact ⟨by first | rfl | (rw [bne_nil_eq]; rfl) | (simp [bne_nil_eq]; done) | (simp; done) | (simp [*]; done), by repeat (first | exact Drawn0.refl _ | apply Drawn0.step)⟩
   rw [if_pos c7] at H
   have c7b0 : ((rdOf ByteArray.empty l0 x5_1).toList == (rdOf ByteArray.empty l1 x5_1).toList) = true := beq_iff_eq.mpr c7
   have c7b1 : ((rdOf ByteArray.empty l0 x5_1).toList != (rdOf ByteArray.empty l1 x5_1).toList) = false := bne_eq_false_iff_eq.mpr c7
   clear c7
   have H' := Aside0.mk H
   clear H
   have p106 : 0 ≤ (x5_1 : Int) := of_decide_eq_true as_
   have q106 : x5_1 < (l0.length : Int) := of_decide_eq_true as_
   obtain ⟨ad106, e106, hx106_0⟩ := Kd.at_string HR0.out x5_1 p106 q106
   cases e106
   replace p106 := eq_true p106
   replace q106 := eq_true q106
   have p107 : 0 ≤ (x5_1 : Int) := of_decide_eq_true as_
   have q107 : x5_1 < (l1.length : Int) := of_decide_eq_true as_
   obtain ⟨ad107, e107, hx107_0⟩ := Kd.at_string HR1.out x5_1 p107 q107
   cases e107
   replace p107 := eq_true p107
   replace q107 := eq_true q107
   go_wp2
   repeat (go_quiet (fail); try go_wp2)
   go_roundg k1
   case measure => have := HK1.out; omega
   case rel => exact ⟨(wrap64 (x5_1 + 1)), (by first | rfl | (simp; done) | (simp [*]; done)), H', ⟨by have := HK1.out; omega⟩, by repeat (first | exact Drawn0.refl _ | apply Drawn0.step)⟩

/-! ### camshaftlaw07_known: function 8 -/
def camshaftlaw07_known.f (k : Nat)  : Option (Bool) := (some (([(⟨1, 1, 0⟩ : S37), (⟨15, 0, 0⟩ : S37), (⟨5, 11, 0⟩ : S37), (⟨20, 0, 0⟩ : S37), (⟨25, 0, 0⟩ : S37)] : List (S37)) : List (S37))).bind fun y108 => ((types_Stacks.f k y108).bind fun bt111 => ((types_Deep.f k y108).bind fun bt115 => ((types_Stacks.f k (([(⟨1, 1, 0⟩ : S37), (⟨10, 0, 0⟩ : S37), (⟨25, 0, 0⟩ : S37)] : List (S37)))).bind fun bt120 => ((types_Stacks.f k (([(⟨19, 1, 0⟩ : S37), (⟨3, 0, 0⟩ : S37), (⟨25, 0, 0⟩ : S37)] : List (S37)))).bind fun bt127 => ((types_Stacks.f k (([(⟨3, 0, 0⟩ : S37), (⟨25, 0, 0⟩ : S37)] : List (S37)))).bind fun bt134 => ((camshaftref07_Same.f k bt111.1 (([(⟨#[]⟩ : ByteArray), (⟨#[105]⟩ : ByteArray), (⟨#[105, 105]⟩ : ByteArray), (⟨#[98]⟩ : ByteArray), (⟨#[]⟩ : ByteArray)] : List ByteArray))).bind fun t141 => (if t141 = true then (if bt111.2 = 0 then (if bt115.1 = 2 then (if bt115.2 = 0 then (if bt120.2 = 10 then (if bt127.2 = 8 then (if bt134.2 = 9 then (if 2 < (y108.length : Int) then ((types_Takes.f ((rd_T37 y108 2).f0) ((rd_T37 y108 2).f1) ((rd_T37 y108 2).f2)).bind fun t143 => (if t143.toList = ([105, 105] : List UInt8) then ((types_Gives.f ((rd_T37 y108 2).f0) ((rd_T37 y108 2).f1) ((rd_T37 y108 2).f2) (⟨#[105, 105]⟩ : ByteArray)).bind fun t145 => (if t145.toList = ([98] : List UInt8) then ((types_Gives.f 4 0 0 (⟨#[105, 98]⟩ : ByteArray)).bind fun t146 => (if t146.toList = ([98, 105] : List UInt8) then ((types_Gives.f ((rd_T37 y108 2).f0) ((rd_T37 y108 2).f1) ((rd_T37 y108 2).f2) (⟨#[105, 98]⟩ : ByteArray)).bind fun t148 => (some (t148.toList == ([] : List UInt8)))) else (some false))) else (some false))) else (some false))) else (none)) else (some false)) else (some false)) else (some false)) else (some false)) else (some false)) else (some false)) else (some false))))))))
theorem camshaftlaw07_known.mono : ∀ k, LeO (camshaftlaw07_known.f k ) (camshaftlaw07_known.f (k + 1) ) := by
 intro  k
 unfold camshaftlaw07_known.f
 repeat' first
   | (with_reducible exact camshaftref07_Same.mono _ _ _)
   | (with_reducible exact types_Deep.mono _ _)
   | (with_reducible exact types_Stacks.mono _ _)
   | (with_reducible exact LeO.refl _)
   | (with_reducible exact LeO.none _)
   | (with_reducible refine LeO.ite ?_ ?_)
   | (with_reducible refine LeO.bind ?_ (fun _ => ?_))
   | exact camshaftref07_Same.mono _ _ _
   | exact types_Deep.mono _ _
   | exact types_Stacks.mono _ _
   | exact LeO.none _
   | refine LeO.ite ?_ ?_
   | refine LeO.bind ?_ (fun _ => ?_)
theorem camshaftlaw07_known.run : camshaftlaw07_known.f 60 = some true := by kernel_rfl
theorem camshaftlaw07_known.only (k : Nat) (r : Bool) (h : camshaftlaw07_known.f k = some r) : r = true := by
 have a := at_rounds camshaftlaw07_known.mono (Nat.le_max_left k 60) h
 have b := at_rounds camshaftlaw07_known.mono (Nat.le_max_right k 60) camshaftlaw07_known.run
 exact Option.some.inj (a.symm.trans b)
set_option maxHeartbeats 8000000 in
set_option maxRecDepth 100000 in
theorem camshaftlaw07_known.calls (k : Nat)  (r : Bool) (w : World) (h : camshaftlaw07_known.f k  = some r) :
  Calls Try.prog 8 #[] w fun e w' => e = .returned (.bool r) ∧ Below w.heap.size w w' := by
 have hu37 := Try.underlying37
 have HT := Aside0.mk (camshaftlaw07_known.only k r h)
 have HB := Aside0.mk (Below.refl w.heap.size w)
 have H : ((some (([(⟨1, 1, 0⟩ : S37), (⟨15, 0, 0⟩ : S37), (⟨5, 11, 0⟩ : S37), (⟨20, 0, 0⟩ : S37), (⟨25, 0, 0⟩ : S37)] : List (S37)) : List (S37))).bind fun y108 => ((types_Stacks.f k y108).bind fun bt111 => ((types_Deep.f k y108).bind fun bt115 => ((types_Stacks.f k (([(⟨1, 1, 0⟩ : S37), (⟨10, 0, 0⟩ : S37), (⟨25, 0, 0⟩ : S37)] : List (S37)))).bind fun bt120 => ((types_Stacks.f k (([(⟨19, 1, 0⟩ : S37), (⟨3, 0, 0⟩ : S37), (⟨25, 0, 0⟩ : S37)] : List (S37)))).bind fun bt127 => ((types_Stacks.f k (([(⟨3, 0, 0⟩ : S37), (⟨25, 0, 0⟩ : S37)] : List (S37)))).bind fun bt134 => ((camshaftref07_Same.f k bt111.1 (([(⟨#[]⟩ : ByteArray), (⟨#[105]⟩ : ByteArray), (⟨#[105, 105]⟩ : ByteArray), (⟨#[98]⟩ : ByteArray), (⟨#[]⟩ : ByteArray)] : List ByteArray))).bind fun t141 => (if t141 = true then (if bt111.2 = 0 then (if bt115.1 = 2 then (if bt115.2 = 0 then (if bt120.2 = 10 then (if bt127.2 = 8 then (if bt134.2 = 9 then (if 2 < (y108.length : Int) then ((types_Takes.f ((rd_T37 y108 2).f0) ((rd_T37 y108 2).f1) ((rd_T37 y108 2).f2)).bind fun t143 => (if t143.toList = ([105, 105] : List UInt8) then ((types_Gives.f ((rd_T37 y108 2).f0) ((rd_T37 y108 2).f1) ((rd_T37 y108 2).f2) (⟨#[105, 105]⟩ : ByteArray)).bind fun t145 => (if t145.toList = ([98] : List UInt8) then ((types_Gives.f 4 0 0 (⟨#[105, 98]⟩ : ByteArray)).bind fun t146 => (if t146.toList = ([98, 105] : List UInt8) then ((types_Gives.f ((rd_T37 y108 2).f0) ((rd_T37 y108 2).f1) ((rd_T37 y108 2).f2) (⟨#[105, 98]⟩ : ByteArray)).bind fun t148 => (some (t148.toList == ([] : List UInt8)))) else (some false))) else (some false))) else (some false))) else (none)) else (some false)) else (some false)) else (some false)) else (some false)) else (some false)) else (some false)) else (some false))))))))) = some r := h
 clear h
 obtain ⟨y108, hy108⟩ : ∃ y_ : List (S37), y_ = (([(⟨1, 1, 0⟩ : S37), (⟨15, 0, 0⟩ : S37), (⟨5, 11, 0⟩ : S37), (⟨20, 0, 0⟩ : S37), (⟨25, 0, 0⟩ : S37)] : List (S37))) := ⟨_, rfl⟩
 replace H : ((types_Stacks.f k y108).bind fun bt111 => ((types_Deep.f k y108).bind fun bt115 => ((types_Stacks.f k (([(⟨1, 1, 0⟩ : S37), (⟨10, 0, 0⟩ : S37), (⟨25, 0, 0⟩ : S37)] : List (S37)))).bind fun bt120 => ((types_Stacks.f k (([(⟨19, 1, 0⟩ : S37), (⟨3, 0, 0⟩ : S37), (⟨25, 0, 0⟩ : S37)] : List (S37)))).bind fun bt127 => ((types_Stacks.f k (([(⟨3, 0, 0⟩ : S37), (⟨25, 0, 0⟩ : S37)] : List (S37)))).bind fun bt134 => ((camshaftref07_Same.f k bt111.1 (([(⟨#[]⟩ : ByteArray), (⟨#[105]⟩ : ByteArray), (⟨#[105, 105]⟩ : ByteArray), (⟨#[98]⟩ : ByteArray), (⟨#[]⟩ : ByteArray)] : List ByteArray))).bind fun t141 => (if t141 = true then (if bt111.2 = 0 then (if bt115.1 = 2 then (if bt115.2 = 0 then (if bt120.2 = 10 then (if bt127.2 = 8 then (if bt134.2 = 9 then (if 2 < (y108.length : Int) then ((types_Takes.f ((rd_T37 y108 2).f0) ((rd_T37 y108 2).f1) ((rd_T37 y108 2).f2)).bind fun t143 => (if t143.toList = ([105, 105] : List UInt8) then ((types_Gives.f ((rd_T37 y108 2).f0) ((rd_T37 y108 2).f1) ((rd_T37 y108 2).f2) (⟨#[105, 105]⟩ : ByteArray)).bind fun t145 => (if t145.toList = ([98] : List UInt8) then ((types_Gives.f 4 0 0 (⟨#[105, 98]⟩ : ByteArray)).bind fun t146 => (if t146.toList = ([98, 105] : List UInt8) then ((types_Gives.f ((rd_T37 y108 2).f0) ((rd_T37 y108 2).f1) ((rd_T37 y108 2).f2) (⟨#[105, 98]⟩ : ByteArray)).bind fun t148 => (some (t148.toList == ([] : List UInt8)))) else (some false))) else (some false))) else (some false))) else (none)) else (some false)) else (some false)) else (some false)) else (some false)) else (some false)) else (some false)) else (some false)))))))) = some r := by first | (rw [hy108]; with_reducible exact H) | (have H2_ := (Option.bind_some _ _).symm.trans H; rw [hy108]; with_reducible exact H2_) | (have H2_ := (Option.bind_some _ _).symm.trans H; with_reducible exact H2_) | with_reducible exact H | (rw [hy108]; exact H) | exact H
 have Ny108 := Aside0.mk hy108
 clear hy108
 replace H := Option.bind_eq_some_iff.mp H
 obtain ⟨⟨t111, t112⟩, A10, H⟩ := H
 replace H : ((types_Deep.f k y108).bind fun bt115 => ((types_Stacks.f k (([(⟨1, 1, 0⟩ : S37), (⟨10, 0, 0⟩ : S37), (⟨25, 0, 0⟩ : S37)] : List (S37)))).bind fun bt120 => ((types_Stacks.f k (([(⟨19, 1, 0⟩ : S37), (⟨3, 0, 0⟩ : S37), (⟨25, 0, 0⟩ : S37)] : List (S37)))).bind fun bt127 => ((types_Stacks.f k (([(⟨3, 0, 0⟩ : S37), (⟨25, 0, 0⟩ : S37)] : List (S37)))).bind fun bt134 => ((camshaftref07_Same.f k t111 (([(⟨#[]⟩ : ByteArray), (⟨#[105]⟩ : ByteArray), (⟨#[105, 105]⟩ : ByteArray), (⟨#[98]⟩ : ByteArray), (⟨#[]⟩ : ByteArray)] : List ByteArray))).bind fun t141 => (if t141 = true then (if t112 = 0 then (if bt115.1 = 2 then (if bt115.2 = 0 then (if bt120.2 = 10 then (if bt127.2 = 8 then (if bt134.2 = 9 then (if 2 < (y108.length : Int) then ((types_Takes.f ((rd_T37 y108 2).f0) ((rd_T37 y108 2).f1) ((rd_T37 y108 2).f2)).bind fun t143 => (if t143.toList = ([105, 105] : List UInt8) then ((types_Gives.f ((rd_T37 y108 2).f0) ((rd_T37 y108 2).f1) ((rd_T37 y108 2).f2) (⟨#[105, 105]⟩ : ByteArray)).bind fun t145 => (if t145.toList = ([98] : List UInt8) then ((types_Gives.f 4 0 0 (⟨#[105, 98]⟩ : ByteArray)).bind fun t146 => (if t146.toList = ([98, 105] : List UInt8) then ((types_Gives.f ((rd_T37 y108 2).f0) ((rd_T37 y108 2).f1) ((rd_T37 y108 2).f2) (⟨#[105, 98]⟩ : ByteArray)).bind fun t148 => (some (t148.toList == ([] : List UInt8)))) else (some false))) else (some false))) else (some false))) else (none)) else (some false)) else (some false)) else (some false)) else (some false)) else (some false)) else (some false)) else (some false))))))) = some r := H
 have A1 := Aside0.mk A10
 clear A10
 replace H := Option.bind_eq_some_iff.mp H
 obtain ⟨⟨t115, t116⟩, A20, H⟩ := H
 replace H : ((types_Stacks.f k (([(⟨1, 1, 0⟩ : S37), (⟨10, 0, 0⟩ : S37), (⟨25, 0, 0⟩ : S37)] : List (S37)))).bind fun bt120 => ((types_Stacks.f k (([(⟨19, 1, 0⟩ : S37), (⟨3, 0, 0⟩ : S37), (⟨25, 0, 0⟩ : S37)] : List (S37)))).bind fun bt127 => ((types_Stacks.f k (([(⟨3, 0, 0⟩ : S37), (⟨25, 0, 0⟩ : S37)] : List (S37)))).bind fun bt134 => ((camshaftref07_Same.f k t111 (([(⟨#[]⟩ : ByteArray), (⟨#[105]⟩ : ByteArray), (⟨#[105, 105]⟩ : ByteArray), (⟨#[98]⟩ : ByteArray), (⟨#[]⟩ : ByteArray)] : List ByteArray))).bind fun t141 => (if t141 = true then (if t112 = 0 then (if t115 = 2 then (if t116 = 0 then (if bt120.2 = 10 then (if bt127.2 = 8 then (if bt134.2 = 9 then (if 2 < (y108.length : Int) then ((types_Takes.f ((rd_T37 y108 2).f0) ((rd_T37 y108 2).f1) ((rd_T37 y108 2).f2)).bind fun t143 => (if t143.toList = ([105, 105] : List UInt8) then ((types_Gives.f ((rd_T37 y108 2).f0) ((rd_T37 y108 2).f1) ((rd_T37 y108 2).f2) (⟨#[105, 105]⟩ : ByteArray)).bind fun t145 => (if t145.toList = ([98] : List UInt8) then ((types_Gives.f 4 0 0 (⟨#[105, 98]⟩ : ByteArray)).bind fun t146 => (if t146.toList = ([98, 105] : List UInt8) then ((types_Gives.f ((rd_T37 y108 2).f0) ((rd_T37 y108 2).f1) ((rd_T37 y108 2).f2) (⟨#[105, 98]⟩ : ByteArray)).bind fun t148 => (some (t148.toList == ([] : List UInt8)))) else (some false))) else (some false))) else (some false))) else (none)) else (some false)) else (some false)) else (some false)) else (some false)) else (some false)) else (some false)) else (some false)))))) = some r := H
 have A2 := Aside0.mk A20
 clear A20
 obtain ⟨y117, hy117⟩ : ∃ y_ : List (S37), y_ = (([(⟨1, 1, 0⟩ : S37), (⟨10, 0, 0⟩ : S37), (⟨25, 0, 0⟩ : S37)] : List (S37))) := ⟨_, rfl⟩
 replace H : ((types_Stacks.f k y117).bind fun bt120 => ((types_Stacks.f k (([(⟨19, 1, 0⟩ : S37), (⟨3, 0, 0⟩ : S37), (⟨25, 0, 0⟩ : S37)] : List (S37)))).bind fun bt127 => ((types_Stacks.f k (([(⟨3, 0, 0⟩ : S37), (⟨25, 0, 0⟩ : S37)] : List (S37)))).bind fun bt134 => ((camshaftref07_Same.f k t111 (([(⟨#[]⟩ : ByteArray), (⟨#[105]⟩ : ByteArray), (⟨#[105, 105]⟩ : ByteArray), (⟨#[98]⟩ : ByteArray), (⟨#[]⟩ : ByteArray)] : List ByteArray))).bind fun t141 => (if t141 = true then (if t112 = 0 then (if t115 = 2 then (if t116 = 0 then (if bt120.2 = 10 then (if bt127.2 = 8 then (if bt134.2 = 9 then (if 2 < (y108.length : Int) then ((types_Takes.f ((rd_T37 y108 2).f0) ((rd_T37 y108 2).f1) ((rd_T37 y108 2).f2)).bind fun t143 => (if t143.toList = ([105, 105] : List UInt8) then ((types_Gives.f ((rd_T37 y108 2).f0) ((rd_T37 y108 2).f1) ((rd_T37 y108 2).f2) (⟨#[105, 105]⟩ : ByteArray)).bind fun t145 => (if t145.toList = ([98] : List UInt8) then ((types_Gives.f 4 0 0 (⟨#[105, 98]⟩ : ByteArray)).bind fun t146 => (if t146.toList = ([98, 105] : List UInt8) then ((types_Gives.f ((rd_T37 y108 2).f0) ((rd_T37 y108 2).f1) ((rd_T37 y108 2).f2) (⟨#[105, 98]⟩ : ByteArray)).bind fun t148 => (some (t148.toList == ([] : List UInt8)))) else (some false))) else (some false))) else (some false))) else (none)) else (some false)) else (some false)) else (some false)) else (some false)) else (some false)) else (some false)) else (some false)))))) = some r := by first | (rw [hy117]; with_reducible exact H) | (have H2_ := (Option.bind_some _ _).symm.trans H; rw [hy117]; with_reducible exact H2_) | (have H2_ := (Option.bind_some _ _).symm.trans H; with_reducible exact H2_) | with_reducible exact H | (rw [hy117]; exact H) | exact H
 have Ny117 := Aside0.mk hy117
 clear hy117
 replace H := Option.bind_eq_some_iff.mp H
 obtain ⟨⟨t120, t121⟩, A30, H⟩ := H
 replace H : ((types_Stacks.f k (([(⟨19, 1, 0⟩ : S37), (⟨3, 0, 0⟩ : S37), (⟨25, 0, 0⟩ : S37)] : List (S37)))).bind fun bt127 => ((types_Stacks.f k (([(⟨3, 0, 0⟩ : S37), (⟨25, 0, 0⟩ : S37)] : List (S37)))).bind fun bt134 => ((camshaftref07_Same.f k t111 (([(⟨#[]⟩ : ByteArray), (⟨#[105]⟩ : ByteArray), (⟨#[105, 105]⟩ : ByteArray), (⟨#[98]⟩ : ByteArray), (⟨#[]⟩ : ByteArray)] : List ByteArray))).bind fun t141 => (if t141 = true then (if t112 = 0 then (if t115 = 2 then (if t116 = 0 then (if t121 = 10 then (if bt127.2 = 8 then (if bt134.2 = 9 then (if 2 < (y108.length : Int) then ((types_Takes.f ((rd_T37 y108 2).f0) ((rd_T37 y108 2).f1) ((rd_T37 y108 2).f2)).bind fun t143 => (if t143.toList = ([105, 105] : List UInt8) then ((types_Gives.f ((rd_T37 y108 2).f0) ((rd_T37 y108 2).f1) ((rd_T37 y108 2).f2) (⟨#[105, 105]⟩ : ByteArray)).bind fun t145 => (if t145.toList = ([98] : List UInt8) then ((types_Gives.f 4 0 0 (⟨#[105, 98]⟩ : ByteArray)).bind fun t146 => (if t146.toList = ([98, 105] : List UInt8) then ((types_Gives.f ((rd_T37 y108 2).f0) ((rd_T37 y108 2).f1) ((rd_T37 y108 2).f2) (⟨#[105, 98]⟩ : ByteArray)).bind fun t148 => (some (t148.toList == ([] : List UInt8)))) else (some false))) else (some false))) else (some false))) else (none)) else (some false)) else (some false)) else (some false)) else (some false)) else (some false)) else (some false)) else (some false))))) = some r := H
 have A3 := Aside0.mk A30
 clear A30
 obtain ⟨y124, hy124⟩ : ∃ y_ : List (S37), y_ = (([(⟨19, 1, 0⟩ : S37), (⟨3, 0, 0⟩ : S37), (⟨25, 0, 0⟩ : S37)] : List (S37))) := ⟨_, rfl⟩
 replace H : ((types_Stacks.f k y124).bind fun bt127 => ((types_Stacks.f k (([(⟨3, 0, 0⟩ : S37), (⟨25, 0, 0⟩ : S37)] : List (S37)))).bind fun bt134 => ((camshaftref07_Same.f k t111 (([(⟨#[]⟩ : ByteArray), (⟨#[105]⟩ : ByteArray), (⟨#[105, 105]⟩ : ByteArray), (⟨#[98]⟩ : ByteArray), (⟨#[]⟩ : ByteArray)] : List ByteArray))).bind fun t141 => (if t141 = true then (if t112 = 0 then (if t115 = 2 then (if t116 = 0 then (if t121 = 10 then (if bt127.2 = 8 then (if bt134.2 = 9 then (if 2 < (y108.length : Int) then ((types_Takes.f ((rd_T37 y108 2).f0) ((rd_T37 y108 2).f1) ((rd_T37 y108 2).f2)).bind fun t143 => (if t143.toList = ([105, 105] : List UInt8) then ((types_Gives.f ((rd_T37 y108 2).f0) ((rd_T37 y108 2).f1) ((rd_T37 y108 2).f2) (⟨#[105, 105]⟩ : ByteArray)).bind fun t145 => (if t145.toList = ([98] : List UInt8) then ((types_Gives.f 4 0 0 (⟨#[105, 98]⟩ : ByteArray)).bind fun t146 => (if t146.toList = ([98, 105] : List UInt8) then ((types_Gives.f ((rd_T37 y108 2).f0) ((rd_T37 y108 2).f1) ((rd_T37 y108 2).f2) (⟨#[105, 98]⟩ : ByteArray)).bind fun t148 => (some (t148.toList == ([] : List UInt8)))) else (some false))) else (some false))) else (some false))) else (none)) else (some false)) else (some false)) else (some false)) else (some false)) else (some false)) else (some false)) else (some false))))) = some r := by first | (rw [hy124]; with_reducible exact H) | (have H2_ := (Option.bind_some _ _).symm.trans H; rw [hy124]; with_reducible exact H2_) | (have H2_ := (Option.bind_some _ _).symm.trans H; with_reducible exact H2_) | with_reducible exact H | (rw [hy124]; exact H) | exact H
 have Ny124 := Aside0.mk hy124
 clear hy124
 replace H := Option.bind_eq_some_iff.mp H
 obtain ⟨⟨t127, t128⟩, A40, H⟩ := H
 replace H : ((types_Stacks.f k (([(⟨3, 0, 0⟩ : S37), (⟨25, 0, 0⟩ : S37)] : List (S37)))).bind fun bt134 => ((camshaftref07_Same.f k t111 (([(⟨#[]⟩ : ByteArray), (⟨#[105]⟩ : ByteArray), (⟨#[105, 105]⟩ : ByteArray), (⟨#[98]⟩ : ByteArray), (⟨#[]⟩ : ByteArray)] : List ByteArray))).bind fun t141 => (if t141 = true then (if t112 = 0 then (if t115 = 2 then (if t116 = 0 then (if t121 = 10 then (if t128 = 8 then (if bt134.2 = 9 then (if 2 < (y108.length : Int) then ((types_Takes.f ((rd_T37 y108 2).f0) ((rd_T37 y108 2).f1) ((rd_T37 y108 2).f2)).bind fun t143 => (if t143.toList = ([105, 105] : List UInt8) then ((types_Gives.f ((rd_T37 y108 2).f0) ((rd_T37 y108 2).f1) ((rd_T37 y108 2).f2) (⟨#[105, 105]⟩ : ByteArray)).bind fun t145 => (if t145.toList = ([98] : List UInt8) then ((types_Gives.f 4 0 0 (⟨#[105, 98]⟩ : ByteArray)).bind fun t146 => (if t146.toList = ([98, 105] : List UInt8) then ((types_Gives.f ((rd_T37 y108 2).f0) ((rd_T37 y108 2).f1) ((rd_T37 y108 2).f2) (⟨#[105, 98]⟩ : ByteArray)).bind fun t148 => (some (t148.toList == ([] : List UInt8)))) else (some false))) else (some false))) else (some false))) else (none)) else (some false)) else (some false)) else (some false)) else (some false)) else (some false)) else (some false)) else (some false)))) = some r := H
 have A4 := Aside0.mk A40
 clear A40
 obtain ⟨y131, hy131⟩ : ∃ y_ : List (S37), y_ = (([(⟨3, 0, 0⟩ : S37), (⟨25, 0, 0⟩ : S37)] : List (S37))) := ⟨_, rfl⟩
 replace H : ((types_Stacks.f k y131).bind fun bt134 => ((camshaftref07_Same.f k t111 (([(⟨#[]⟩ : ByteArray), (⟨#[105]⟩ : ByteArray), (⟨#[105, 105]⟩ : ByteArray), (⟨#[98]⟩ : ByteArray), (⟨#[]⟩ : ByteArray)] : List ByteArray))).bind fun t141 => (if t141 = true then (if t112 = 0 then (if t115 = 2 then (if t116 = 0 then (if t121 = 10 then (if t128 = 8 then (if bt134.2 = 9 then (if 2 < (y108.length : Int) then ((types_Takes.f ((rd_T37 y108 2).f0) ((rd_T37 y108 2).f1) ((rd_T37 y108 2).f2)).bind fun t143 => (if t143.toList = ([105, 105] : List UInt8) then ((types_Gives.f ((rd_T37 y108 2).f0) ((rd_T37 y108 2).f1) ((rd_T37 y108 2).f2) (⟨#[105, 105]⟩ : ByteArray)).bind fun t145 => (if t145.toList = ([98] : List UInt8) then ((types_Gives.f 4 0 0 (⟨#[105, 98]⟩ : ByteArray)).bind fun t146 => (if t146.toList = ([98, 105] : List UInt8) then ((types_Gives.f ((rd_T37 y108 2).f0) ((rd_T37 y108 2).f1) ((rd_T37 y108 2).f2) (⟨#[105, 98]⟩ : ByteArray)).bind fun t148 => (some (t148.toList == ([] : List UInt8)))) else (some false))) else (some false))) else (some false))) else (none)) else (some false)) else (some false)) else (some false)) else (some false)) else (some false)) else (some false)) else (some false)))) = some r := by first | (rw [hy131]; with_reducible exact H) | (have H2_ := (Option.bind_some _ _).symm.trans H; rw [hy131]; with_reducible exact H2_) | (have H2_ := (Option.bind_some _ _).symm.trans H; with_reducible exact H2_) | with_reducible exact H | (rw [hy131]; exact H) | exact H
 have Ny131 := Aside0.mk hy131
 clear hy131
 replace H := Option.bind_eq_some_iff.mp H
 obtain ⟨⟨t134, t135⟩, A50, H⟩ := H
 replace H : ((camshaftref07_Same.f k t111 (([(⟨#[]⟩ : ByteArray), (⟨#[105]⟩ : ByteArray), (⟨#[105, 105]⟩ : ByteArray), (⟨#[98]⟩ : ByteArray), (⟨#[]⟩ : ByteArray)] : List ByteArray))).bind fun t141 => (if t141 = true then (if t112 = 0 then (if t115 = 2 then (if t116 = 0 then (if t121 = 10 then (if t128 = 8 then (if t135 = 9 then (if 2 < (y108.length : Int) then ((types_Takes.f ((rd_T37 y108 2).f0) ((rd_T37 y108 2).f1) ((rd_T37 y108 2).f2)).bind fun t143 => (if t143.toList = ([105, 105] : List UInt8) then ((types_Gives.f ((rd_T37 y108 2).f0) ((rd_T37 y108 2).f1) ((rd_T37 y108 2).f2) (⟨#[105, 105]⟩ : ByteArray)).bind fun t145 => (if t145.toList = ([98] : List UInt8) then ((types_Gives.f 4 0 0 (⟨#[105, 98]⟩ : ByteArray)).bind fun t146 => (if t146.toList = ([98, 105] : List UInt8) then ((types_Gives.f ((rd_T37 y108 2).f0) ((rd_T37 y108 2).f1) ((rd_T37 y108 2).f2) (⟨#[105, 98]⟩ : ByteArray)).bind fun t148 => (some (t148.toList == ([] : List UInt8)))) else (some false))) else (some false))) else (some false))) else (none)) else (some false)) else (some false)) else (some false)) else (some false)) else (some false)) else (some false)) else (some false))) = some r := H
 have A5 := Aside0.mk A50
 clear A50
 obtain ⟨y138, hy138⟩ : ∃ y_ : List ByteArray, y_ = (([(⟨#[]⟩ : ByteArray), (⟨#[105]⟩ : ByteArray), (⟨#[105, 105]⟩ : ByteArray), (⟨#[98]⟩ : ByteArray), (⟨#[]⟩ : ByteArray)] : List ByteArray)) := ⟨_, rfl⟩
 replace H : ((camshaftref07_Same.f k t111 y138).bind fun t141 => (if t141 = true then (if t112 = 0 then (if t115 = 2 then (if t116 = 0 then (if t121 = 10 then (if t128 = 8 then (if t135 = 9 then (if 2 < (y108.length : Int) then ((types_Takes.f ((rd_T37 y108 2).f0) ((rd_T37 y108 2).f1) ((rd_T37 y108 2).f2)).bind fun t143 => (if t143.toList = ([105, 105] : List UInt8) then ((types_Gives.f ((rd_T37 y108 2).f0) ((rd_T37 y108 2).f1) ((rd_T37 y108 2).f2) (⟨#[105, 105]⟩ : ByteArray)).bind fun t145 => (if t145.toList = ([98] : List UInt8) then ((types_Gives.f 4 0 0 (⟨#[105, 98]⟩ : ByteArray)).bind fun t146 => (if t146.toList = ([98, 105] : List UInt8) then ((types_Gives.f ((rd_T37 y108 2).f0) ((rd_T37 y108 2).f1) ((rd_T37 y108 2).f2) (⟨#[105, 98]⟩ : ByteArray)).bind fun t148 => (some (t148.toList == ([] : List UInt8)))) else (some false))) else (some false))) else (some false))) else (none)) else (some false)) else (some false)) else (some false)) else (some false)) else (some false)) else (some false)) else (some false))) = some r := by first | (rw [hy138]; with_reducible exact H) | (have H2_ := (Option.bind_some _ _).symm.trans H; rw [hy138]; with_reducible exact H2_) | (have H2_ := (Option.bind_some _ _).symm.trans H; with_reducible exact H2_) | with_reducible exact H | (rw [hy138]; exact H) | exact H
 have Ny138 := Aside0.mk hy138
 clear hy138
 replace H := Option.bind_eq_some_iff.mp H
 obtain ⟨t141, A60, H⟩ := H
 replace H : (if t141 = true then (if t112 = 0 then (if t115 = 2 then (if t116 = 0 then (if t121 = 10 then (if t128 = 8 then (if t135 = 9 then (if 2 < (y108.length : Int) then ((types_Takes.f ((rd_T37 y108 2).f0) ((rd_T37 y108 2).f1) ((rd_T37 y108 2).f2)).bind fun t143 => (if t143.toList = ([105, 105] : List UInt8) then ((types_Gives.f ((rd_T37 y108 2).f0) ((rd_T37 y108 2).f1) ((rd_T37 y108 2).f2) (⟨#[105, 105]⟩ : ByteArray)).bind fun t145 => (if t145.toList = ([98] : List UInt8) then ((types_Gives.f 4 0 0 (⟨#[105, 98]⟩ : ByteArray)).bind fun t146 => (if t146.toList = ([98, 105] : List UInt8) then ((types_Gives.f ((rd_T37 y108 2).f0) ((rd_T37 y108 2).f1) ((rd_T37 y108 2).f2) (⟨#[105, 98]⟩ : ByteArray)).bind fun t148 => (some (t148.toList == ([] : List UInt8)))) else (some false))) else (some false))) else (some false))) else (none)) else (some false)) else (some false)) else (some false)) else (some false)) else (some false)) else (some false)) else (some false)) = some r := H
 have A6 := Aside0.mk A60
 clear A60
 by_cases c7 : t141 = true
 rotate_left
 ·replace c7 := Bool.eq_false_iff.mpr c7
  subst c7
  have H1 : (some false) = some r := by rw [if_neg (show ¬ (false = true) by decide)] at H; exact H
  clear H
  have H := H1
  clear H1
  exact absurd ((Option.some.inj H).trans HT.out) (by decide)
 subst c7
 have H1 : (if t112 = 0 then (if t115 = 2 then (if t116 = 0 then (if t121 = 10 then (if t128 = 8 then (if t135 = 9 then (if 2 < (y108.length : Int) then ((types_Takes.f ((rd_T37 y108 2).f0) ((rd_T37 y108 2).f1) ((rd_T37 y108 2).f2)).bind fun t143 => (if t143.toList = ([105, 105] : List UInt8) then ((types_Gives.f ((rd_T37 y108 2).f0) ((rd_T37 y108 2).f1) ((rd_T37 y108 2).f2) (⟨#[105, 105]⟩ : ByteArray)).bind fun t145 => (if t145.toList = ([98] : List UInt8) then ((types_Gives.f 4 0 0 (⟨#[105, 98]⟩ : ByteArray)).bind fun t146 => (if t146.toList = ([98, 105] : List UInt8) then ((types_Gives.f ((rd_T37 y108 2).f0) ((rd_T37 y108 2).f1) ((rd_T37 y108 2).f2) (⟨#[105, 98]⟩ : ByteArray)).bind fun t148 => (some (t148.toList == ([] : List UInt8)))) else (some false))) else (some false))) else (some false))) else (none)) else (some false)) else (some false)) else (some false)) else (some false)) else (some false)) else (some false)) = some r := by rw [if_pos rfl] at H; exact H
 clear H
 have H := H1
 clear H1
 by_cases c8 : t112 = 0
 rotate_left
 ·rw [if_neg c8] at H
  have c8b0 : (t112 == 0) = false := beq_eq_false_iff_ne.mpr c8
  have c8b1 : (t112 != 0) = true := bne_iff_ne.mpr c8
  exact absurd ((Option.some.inj H).trans HT.out) (by decide)
 rw [if_pos c8] at H
 have c8b0 : (t112 == 0) = true := beq_iff_eq.mpr c8
 have c8b1 : (t112 != 0) = false := bne_eq_false_iff_eq.mpr c8
 clear c8
 by_cases c9 : t115 = 2
 rotate_left
 ·rw [if_neg c9] at H
  have c9b0 : (t115 == 2) = false := beq_eq_false_iff_ne.mpr c9
  have c9b1 : (t115 != 2) = true := bne_iff_ne.mpr c9
  exact absurd ((Option.some.inj H).trans HT.out) (by decide)
 rw [if_pos c9] at H
 have c9b0 : (t115 == 2) = true := beq_iff_eq.mpr c9
 have c9b1 : (t115 != 2) = false := bne_eq_false_iff_eq.mpr c9
 clear c9
 by_cases c10 : t116 = 0
 rotate_left
 ·rw [if_neg c10] at H
  have c10b0 : (t116 == 0) = false := beq_eq_false_iff_ne.mpr c10
  have c10b1 : (t116 != 0) = true := bne_iff_ne.mpr c10
  exact absurd ((Option.some.inj H).trans HT.out) (by decide)
 rw [if_pos c10] at H
 have c10b0 : (t116 == 0) = true := beq_iff_eq.mpr c10
 have c10b1 : (t116 != 0) = false := bne_eq_false_iff_eq.mpr c10
 clear c10
 by_cases c11 : t121 = 10
 rotate_left
 ·rw [if_neg c11] at H
  have c11b0 : (t121 == 10) = false := beq_eq_false_iff_ne.mpr c11
  have c11b1 : (t121 != 10) = true := bne_iff_ne.mpr c11
  exact absurd ((Option.some.inj H).trans HT.out) (by decide)
 rw [if_pos c11] at H
 have c11b0 : (t121 == 10) = true := beq_iff_eq.mpr c11
 have c11b1 : (t121 != 10) = false := bne_eq_false_iff_eq.mpr c11
 clear c11
 by_cases c12 : t128 = 8
 rotate_left
 ·rw [if_neg c12] at H
  have c12b0 : (t128 == 8) = false := beq_eq_false_iff_ne.mpr c12
  have c12b1 : (t128 != 8) = true := bne_iff_ne.mpr c12
  exact absurd ((Option.some.inj H).trans HT.out) (by decide)
 rw [if_pos c12] at H
 have c12b0 : (t128 == 8) = true := beq_iff_eq.mpr c12
 have c12b1 : (t128 != 8) = false := bne_eq_false_iff_eq.mpr c12
 clear c12
 by_cases c13 : t135 = 9
 rotate_left
 ·rw [if_neg c13] at H
  have c13b0 : (t135 == 9) = false := beq_eq_false_iff_ne.mpr c13
  have c13b1 : (t135 != 9) = true := bne_iff_ne.mpr c13
  exact absurd ((Option.some.inj H).trans HT.out) (by decide)
 rw [if_pos c13] at H
 have c13b0 : (t135 == 9) = true := beq_iff_eq.mpr c13
 have c13b1 : (t135 != 9) = false := bne_eq_false_iff_eq.mpr c13
 clear c13
 by_cases c14 : 2 < (y108.length : Int)
 rotate_left
 ·rw [if_neg c14] at H
  exact absurd H (by simp)
 rw [if_pos c14] at H
 have c14b0 : decide (2 < (y108.length : Int)) = true := decide_eq_true c14
 have c14b1 : decide (2 < y108.length) = true := decide_eq_true (by omega)
 clear c14
 replace H := Option.bind_eq_some_iff.mp H
 obtain ⟨t143, A150, H⟩ := H
 replace H : (if t143.toList = ([105, 105] : List UInt8) then ((types_Gives.f ((rd_T37 y108 2).f0) ((rd_T37 y108 2).f1) ((rd_T37 y108 2).f2) (⟨#[105, 105]⟩ : ByteArray)).bind fun t145 => (if t145.toList = ([98] : List UInt8) then ((types_Gives.f 4 0 0 (⟨#[105, 98]⟩ : ByteArray)).bind fun t146 => (if t146.toList = ([98, 105] : List UInt8) then ((types_Gives.f ((rd_T37 y108 2).f0) ((rd_T37 y108 2).f1) ((rd_T37 y108 2).f2) (⟨#[105, 98]⟩ : ByteArray)).bind fun t148 => (some (t148.toList == ([] : List UInt8)))) else (some false))) else (some false))) else (some false)) = some r := H
 have A15 := Aside0.mk A150
 clear A150
 by_cases c16 : t143.toList = ([105, 105] : List UInt8)
 rotate_left
 ·rw [if_neg c16] at H
  have c16b0 : (t143.toList == ([105, 105] : List UInt8)) = false := beq_eq_false_iff_ne.mpr c16
  have c16b1 : (t143.toList != ([105, 105] : List UInt8)) = true := bne_iff_ne.mpr c16
  exact absurd ((Option.some.inj H).trans HT.out) (by decide)
 rw [if_pos c16] at H
 have c16b0 : (t143.toList == ([105, 105] : List UInt8)) = true := beq_iff_eq.mpr c16
 have c16b1 : (t143.toList != ([105, 105] : List UInt8)) = false := bne_eq_false_iff_eq.mpr c16
 clear c16
 replace H := Option.bind_eq_some_iff.mp H
 obtain ⟨t145, A170, H⟩ := H
 replace H : (if t145.toList = ([98] : List UInt8) then ((types_Gives.f 4 0 0 (⟨#[105, 98]⟩ : ByteArray)).bind fun t146 => (if t146.toList = ([98, 105] : List UInt8) then ((types_Gives.f ((rd_T37 y108 2).f0) ((rd_T37 y108 2).f1) ((rd_T37 y108 2).f2) (⟨#[105, 98]⟩ : ByteArray)).bind fun t148 => (some (t148.toList == ([] : List UInt8)))) else (some false))) else (some false)) = some r := H
 have A17 := Aside0.mk A170
 clear A170
 by_cases c18 : t145.toList = ([98] : List UInt8)
 rotate_left
 ·rw [if_neg c18] at H
  have c18b0 : (t145.toList == ([98] : List UInt8)) = false := beq_eq_false_iff_ne.mpr c18
  have c18b1 : (t145.toList != ([98] : List UInt8)) = true := bne_iff_ne.mpr c18
  exact absurd ((Option.some.inj H).trans HT.out) (by decide)
 rw [if_pos c18] at H
 have c18b0 : (t145.toList == ([98] : List UInt8)) = true := beq_iff_eq.mpr c18
 have c18b1 : (t145.toList != ([98] : List UInt8)) = false := bne_eq_false_iff_eq.mpr c18
 clear c18
 replace H := Option.bind_eq_some_iff.mp H
 obtain ⟨t146, A190, H⟩ := H
 replace H : (if t146.toList = ([98, 105] : List UInt8) then ((types_Gives.f ((rd_T37 y108 2).f0) ((rd_T37 y108 2).f1) ((rd_T37 y108 2).f2) (⟨#[105, 98]⟩ : ByteArray)).bind fun t148 => (some (t148.toList == ([] : List UInt8)))) else (some false)) = some r := H
 have A19 := Aside0.mk A190
 clear A190
 by_cases c20 : t146.toList = ([98, 105] : List UInt8)
 rotate_left
 ·rw [if_neg c20] at H
  have c20b0 : (t146.toList == ([98, 105] : List UInt8)) = false := beq_eq_false_iff_ne.mpr c20
  have c20b1 : (t146.toList != ([98, 105] : List UInt8)) = true := bne_iff_ne.mpr c20
  exact absurd ((Option.some.inj H).trans HT.out) (by decide)
 rw [if_pos c20] at H
 have c20b0 : (t146.toList == ([98, 105] : List UInt8)) = true := beq_iff_eq.mpr c20
 have c20b1 : (t146.toList != ([98, 105] : List UInt8)) = false := bne_eq_false_iff_eq.mpr c20
 clear c20
 replace H := Option.bind_eq_some_iff.mp H
 obtain ⟨t148, A210, H⟩ := H
 replace H : (some (t148.toList == ([] : List UInt8))) = some r := H
 have A21 := Aside0.mk A210
 clear A210
 obtain rfl := Option.some.inj H
 go_enter Try.func8, Try.ntmps8
 go_wp2_with (first | ((with_reducible refine gate_dst (N := 17) rfl ?_); refine Kd.R_lit k37 _ 37 ?hg (N := 17) ?hd (xs := ([(⟨1, 1, 0⟩ : S37), (⟨15, 0, 0⟩ : S37), (⟨5, 11, 0⟩ : S37), (⟨20, 0, 0⟩ : S37), (⟨25, 0, 0⟩ : S37)] : List (S37))) (inner := [.int .i64 1, .int .i64 1, .int .i64 0, .int .i64 15, .int .i64 0, .int .i64 0, .int .i64 5, .int .i64 11, .int .i64 0, .int .i64 20, .int .i64 0, .int .i64 0, .int .i64 25, .int .i64 0, .int .i64 0]) (ok := fun _ => True) (okp := fun _ => True) ?hr ?hp (fun _ hk => hk) trivial (Below.refl _ _) (Nat.le_refl _) (by simp) ?_; (case hd => rfl); (case hg => rfl); (case hr => first | (go_simp; done) | (go_simp; rfl)); (case hp => exact (Reps.c3 (show Kd.M k37 _ _ _ (⟨1, 1, 0⟩ : S37) [.int .i64 1, .int .i64 1, .int .i64 0] from (k37_mkM _ _ _ (⟨1, 1, 0⟩ : S37) )) (Reps.c3 (show Kd.M k37 _ _ _ (⟨15, 0, 0⟩ : S37) [.int .i64 15, .int .i64 0, .int .i64 0] from (k37_mkM _ _ _ (⟨15, 0, 0⟩ : S37) )) (Reps.c3 (show Kd.M k37 _ _ _ (⟨5, 11, 0⟩ : S37) [.int .i64 5, .int .i64 11, .int .i64 0] from (k37_mkM _ _ _ (⟨5, 11, 0⟩ : S37) )) (Reps.c3 (show Kd.M k37 _ _ _ (⟨20, 0, 0⟩ : S37) [.int .i64 20, .int .i64 0, .int .i64 0] from (k37_mkM _ _ _ (⟨20, 0, 0⟩ : S37) )) (Reps.c3 (show Kd.M k37 _ _ _ (⟨25, 0, 0⟩ : S37) [.int .i64 25, .int .i64 0, .int .i64 0] from (k37_mkM _ _ _ (⟨25, 0, 0⟩ : S37) )) (Reps.none _ _))))))); intro v109 w22 ho23 hb hg_ hnew_; clear hg_ hnew_; (first | rw [← Ny108.out] at ho23 | (simp only [Int.reduceToNat] at ho23; rw [← Ny108.out] at ho23)); have n0_ := Aside0.mk (Kd.R_lower ho23 (below_size ab_)); have n1_ := Aside0.mk (below_step ab_ hb); clear HB; have HO110 := n0_; have HB := n1_; clear n0_ n1_; clear hb ho23; obtain ⟨Ao24, co24, eo24⟩ := Kd.R_slice HO110.out; subst eo24) | ((with_reducible refine gate_callee (f := 9) rfl ?_); refine goesL_ (some 20) rfl rfl Try.func9 (by kernel_rfl) rfl #[.slice Ao24 y108.length co24] rfl am_ ?_; (with_reducible refine (types_Stacks.calls k _ _ y108 t111 t112 _ ?side1 ?side2 A1.out).mono ?_); (case side1 => repeat (first | exact (Kd.R_reads' HO110.out).2.2 | (with_reducible refine Kd.C_alloc ?_ _) | (with_reducible refine Kd.C_drewN ?_ _) | (with_reducible refine Kd.C_drew ?_))); (case side2 => exact (Kd.R_reads' HO110.out).2.1); rintro e w25 ⟨v113, rfl, ho0, hb⟩; refine ⟨_, rfl, ?_⟩; have n0_ := Aside0.mk (Kd.R_below (by (with_reducible repeat (first | apply Kd.R_alloc | apply Kd.R_drewN | apply Kd.R_drew)); exact HO110.out) hb); have n1_ := Aside0.mk (Kd.R_lower ho0 (below_size ab_)); have n2_ := Aside0.mk (below_step ab_ hb); clear HO110; clear HB; have HO110 := n0_; have HO114 := n1_; have HB := n2_; clear n0_ n1_ n2_; (try clear hb); (try clear hb2); (try clear hk); (try clear hi); (try clear ho0)) | ((with_reducible refine gate_callee (f := 11) rfl ?_); refine goesL_ (some 25) rfl rfl Try.func11 (by kernel_rfl) rfl #[.slice Ao24 y108.length co24] rfl am_ ?_; (with_reducible refine (types_Deep.calls k _ _ y108 t115 t116 _ ?side1 ?side2 A2.out).mono ?_); (case side1 => repeat (first | exact (Kd.R_reads' HO110.out).2.2 | (with_reducible refine Kd.C_alloc ?_ _) | (with_reducible refine Kd.C_drewN ?_ _) | (with_reducible refine Kd.C_drew ?_))); (case side2 => exact (Kd.R_reads' HO110.out).2.1); rintro e w26 ⟨rfl, hb⟩; refine ⟨_, rfl, ?_⟩; have n0_ := Aside0.mk (Kd.R_below (by (with_reducible repeat (first | apply Kd.R_alloc | apply Kd.R_drewN | apply Kd.R_drew)); exact HO110.out) hb); have n1_ := Aside0.mk (Kd.R_below (by (with_reducible repeat (first | apply Kd.R_alloc | apply Kd.R_drewN | apply Kd.R_drew)); exact HO114.out) hb); have n2_ := Aside0.mk (below_step ab_ hb); clear HO110; clear HO114; clear HB; have HO110 := n0_; have HO114 := n1_; have HB := n2_; clear n0_ n1_ n2_; (try clear hb); (try clear hb2); (try clear hk); (try clear hi)) | ((with_reducible refine gate_dst (N := 32) rfl ?_); refine Kd.R_lit k37 _ 37 ?hg (N := 32) ?hd (xs := ([(⟨1, 1, 0⟩ : S37), (⟨10, 0, 0⟩ : S37), (⟨25, 0, 0⟩ : S37)] : List (S37))) (inner := [.int .i64 1, .int .i64 1, .int .i64 0, .int .i64 10, .int .i64 0, .int .i64 0, .int .i64 25, .int .i64 0, .int .i64 0]) (ok := fun _ => True) (okp := fun _ => True) ?hr ?hp (fun _ hk => hk) trivial (Below.refl _ _) (Nat.le_refl _) (by simp) ?_; (case hd => rfl); (case hg => rfl); (case hr => first | (go_simp; done) | (go_simp; rfl)); (case hp => exact (Reps.c3 (show Kd.M k37 _ _ _ (⟨1, 1, 0⟩ : S37) [.int .i64 1, .int .i64 1, .int .i64 0] from (k37_mkM _ _ _ (⟨1, 1, 0⟩ : S37) )) (Reps.c3 (show Kd.M k37 _ _ _ (⟨10, 0, 0⟩ : S37) [.int .i64 10, .int .i64 0, .int .i64 0] from (k37_mkM _ _ _ (⟨10, 0, 0⟩ : S37) )) (Reps.c3 (show Kd.M k37 _ _ _ (⟨25, 0, 0⟩ : S37) [.int .i64 25, .int .i64 0, .int .i64 0] from (k37_mkM _ _ _ (⟨25, 0, 0⟩ : S37) )) (Reps.none _ _))))); intro v118 w27 ho28 hb hg_ hnew_; clear hg_ hnew_; (first | rw [← Ny117.out] at ho28 | (simp only [Int.reduceToNat] at ho28; rw [← Ny117.out] at ho28)); have n0_ := Aside0.mk (Kd.R_elder' (by (with_reducible repeat (first | apply Kd.R_alloc | apply Kd.R_drewN | apply Kd.R_drew)); exact HO110.out) (Kd.R_base ho28) hb); have n1_ := Aside0.mk (Kd.R_below (by (with_reducible repeat (first | apply Kd.R_alloc | apply Kd.R_drewN | apply Kd.R_drew)); exact HO114.out) hb); have n2_ := Aside0.mk (Kd.R_lower (Kd.R_new' ho28 (Kd.R_lt (by (with_reducible repeat (first | apply Kd.R_alloc | apply Kd.R_drewN | apply Kd.R_drew)); exact HO110.out))) (below_size ab_)); have n3_ := Aside0.mk (below_step ab_ hb); clear HO110; clear HO114; clear HB; have HO110 := n0_; have HO114 := n1_; have HO119 := n2_; have HB := n3_; clear n0_ n1_ n2_ n3_; clear hb ho28; obtain ⟨Ao29, co29, eo29⟩ := Kd.R_slice HO119.out; subst eo29) | ((with_reducible refine gate_callee (f := 9) rfl ?_); refine goesL_ (some 33) rfl rfl Try.func9 (by kernel_rfl) rfl #[.slice Ao29 y117.length co29] rfl am_ ?_; (with_reducible refine (types_Stacks.calls k _ _ y117 t120 t121 _ ?side1 ?side2 A3.out).mono ?_); (case side1 => repeat (first | exact (Kd.R_reads' HO119.out).2.2 | (with_reducible refine Kd.C_alloc ?_ _) | (with_reducible refine Kd.C_drewN ?_ _) | (with_reducible refine Kd.C_drew ?_))); (case side2 => exact (Kd.R_reads' HO119.out).2.1); rintro e w30 ⟨v122, rfl, ho0, hb⟩; refine ⟨_, rfl, ?_⟩; have n0_ := Aside0.mk (Kd.R_below (by (with_reducible repeat (first | apply Kd.R_alloc | apply Kd.R_drewN | apply Kd.R_drew)); exact HO110.out) hb); have n1_ := Aside0.mk (Kd.R_elder' (by (with_reducible repeat (first | apply Kd.R_alloc | apply Kd.R_drewN | apply Kd.R_drew)); exact HO114.out) (Kd.R_base ho0) hb); have n2_ := Aside0.mk (Kd.R_below (by (with_reducible repeat (first | apply Kd.R_alloc | apply Kd.R_drewN | apply Kd.R_drew)); exact HO119.out) hb); have n3_ := Aside0.mk (Kd.R_lower (Kd.R_new' ho0 (Kd.R_lt (by (with_reducible repeat (first | apply Kd.R_alloc | apply Kd.R_drewN | apply Kd.R_drew)); exact HO114.out))) (below_size ab_)); have n4_ := Aside0.mk (below_step ab_ hb); clear HO110; clear HO114; clear HO119; clear HB; have HO110 := n0_; have HO114 := n1_; have HO119 := n2_; have HO123 := n3_; have HB := n4_; clear n0_ n1_ n2_ n3_ n4_; (try clear hb); (try clear hb2); (try clear hk); (try clear hi); (try clear ho0)) | ((with_reducible refine gate_dst (N := 40) rfl ?_); refine Kd.R_lit k37 _ 37 ?hg (N := 40) ?hd (xs := ([(⟨19, 1, 0⟩ : S37), (⟨3, 0, 0⟩ : S37), (⟨25, 0, 0⟩ : S37)] : List (S37))) (inner := [.int .i64 19, .int .i64 1, .int .i64 0, .int .i64 3, .int .i64 0, .int .i64 0, .int .i64 25, .int .i64 0, .int .i64 0]) (ok := fun _ => True) (okp := fun _ => True) ?hr ?hp (fun _ hk => hk) trivial (Below.refl _ _) (Nat.le_refl _) (by simp) ?_; (case hd => rfl); (case hg => rfl); (case hr => first | (go_simp; done) | (go_simp; rfl)); (case hp => exact (Reps.c3 (show Kd.M k37 _ _ _ (⟨19, 1, 0⟩ : S37) [.int .i64 19, .int .i64 1, .int .i64 0] from (k37_mkM _ _ _ (⟨19, 1, 0⟩ : S37) )) (Reps.c3 (show Kd.M k37 _ _ _ (⟨3, 0, 0⟩ : S37) [.int .i64 3, .int .i64 0, .int .i64 0] from (k37_mkM _ _ _ (⟨3, 0, 0⟩ : S37) )) (Reps.c3 (show Kd.M k37 _ _ _ (⟨25, 0, 0⟩ : S37) [.int .i64 25, .int .i64 0, .int .i64 0] from (k37_mkM _ _ _ (⟨25, 0, 0⟩ : S37) )) (Reps.none _ _))))); intro v125 w31 ho32 hb hg_ hnew_; clear hg_ hnew_; (first | rw [← Ny124.out] at ho32 | (simp only [Int.reduceToNat] at ho32; rw [← Ny124.out] at ho32)); have n0_ := Aside0.mk (Kd.R_elder' (by (with_reducible repeat (first | apply Kd.R_alloc | apply Kd.R_drewN | apply Kd.R_drew)); exact HO110.out) (Kd.R_base ho32) hb); have n1_ := Aside0.mk (Kd.R_below (by (with_reducible repeat (first | apply Kd.R_alloc | apply Kd.R_drewN | apply Kd.R_drew)); exact HO114.out) hb); have n2_ := Aside0.mk (Kd.R_elder' (by (with_reducible repeat (first | apply Kd.R_alloc | apply Kd.R_drewN | apply Kd.R_drew)); exact HO119.out) (Kd.R_base ho32) hb); have n3_ := Aside0.mk (Kd.R_below (by (with_reducible repeat (first | apply Kd.R_alloc | apply Kd.R_drewN | apply Kd.R_drew)); exact HO123.out) hb); have n4_ := Aside0.mk (Kd.R_lower (Kd.R_new' (Kd.R_new' ho32 (Kd.R_lt (by (with_reducible repeat (first | apply Kd.R_alloc | apply Kd.R_drewN | apply Kd.R_drew)); exact HO110.out))) (Kd.R_lt (by (with_reducible repeat (first | apply Kd.R_alloc | apply Kd.R_drewN | apply Kd.R_drew)); exact HO119.out))) (below_size ab_)); have n5_ := Aside0.mk (below_step ab_ hb); clear HO110; clear HO114; clear HO119; clear HO123; clear HB; have HO110 := n0_; have HO114 := n1_; have HO119 := n2_; have HO123 := n3_; have HO126 := n4_; have HB := n5_; clear n0_ n1_ n2_ n3_ n4_ n5_; clear hb ho32; obtain ⟨Ao33, co33, eo33⟩ := Kd.R_slice HO126.out; subst eo33) | ((with_reducible refine gate_callee (f := 9) rfl ?_); refine goesL_ (some 41) rfl rfl Try.func9 (by kernel_rfl) rfl #[.slice Ao33 y124.length co33] rfl am_ ?_; (with_reducible refine (types_Stacks.calls k _ _ y124 t127 t128 _ ?side1 ?side2 A4.out).mono ?_); (case side1 => repeat (first | exact (Kd.R_reads' HO126.out).2.2 | (with_reducible refine Kd.C_alloc ?_ _) | (with_reducible refine Kd.C_drewN ?_ _) | (with_reducible refine Kd.C_drew ?_))); (case side2 => exact (Kd.R_reads' HO126.out).2.1); rintro e w34 ⟨v129, rfl, ho0, hb⟩; refine ⟨_, rfl, ?_⟩; have n0_ := Aside0.mk (Kd.R_below (by (with_reducible repeat (first | apply Kd.R_alloc | apply Kd.R_drewN | apply Kd.R_drew)); exact HO110.out) hb); have n1_ := Aside0.mk (Kd.R_elder' (by (with_reducible repeat (first | apply Kd.R_alloc | apply Kd.R_drewN | apply Kd.R_drew)); exact HO114.out) (Kd.R_base ho0) hb); have n2_ := Aside0.mk (Kd.R_below (by (with_reducible repeat (first | apply Kd.R_alloc | apply Kd.R_drewN | apply Kd.R_drew)); exact HO119.out) hb); have n3_ := Aside0.mk (Kd.R_elder' (by (with_reducible repeat (first | apply Kd.R_alloc | apply Kd.R_drewN | apply Kd.R_drew)); exact HO123.out) (Kd.R_base ho0) hb); have n4_ := Aside0.mk (Kd.R_below (by (with_reducible repeat (first | apply Kd.R_alloc | apply Kd.R_drewN | apply Kd.R_drew)); exact HO126.out) hb); have n5_ := Aside0.mk (Kd.R_lower (Kd.R_new' (Kd.R_new' ho0 (Kd.R_lt (by (with_reducible repeat (first | apply Kd.R_alloc | apply Kd.R_drewN | apply Kd.R_drew)); exact HO114.out))) (Kd.R_lt (by (with_reducible repeat (first | apply Kd.R_alloc | apply Kd.R_drewN | apply Kd.R_drew)); exact HO123.out))) (below_size ab_)); have n6_ := Aside0.mk (below_step ab_ hb); clear HO110; clear HO114; clear HO119; clear HO123; clear HO126; clear HB; have HO110 := n0_; have HO114 := n1_; have HO119 := n2_; have HO123 := n3_; have HO126 := n4_; have HO130 := n5_; have HB := n6_; clear n0_ n1_ n2_ n3_ n4_ n5_ n6_; (try clear hb); (try clear hb2); (try clear hk); (try clear hi); (try clear ho0)) | ((with_reducible refine gate_dst (N := 47) rfl ?_); refine Kd.R_lit k37 _ 37 ?hg (N := 47) ?hd (xs := ([(⟨3, 0, 0⟩ : S37), (⟨25, 0, 0⟩ : S37)] : List (S37))) (inner := [.int .i64 3, .int .i64 0, .int .i64 0, .int .i64 25, .int .i64 0, .int .i64 0]) (ok := fun _ => True) (okp := fun _ => True) ?hr ?hp (fun _ hk => hk) trivial (Below.refl _ _) (Nat.le_refl _) (by simp) ?_; (case hd => rfl); (case hg => rfl); (case hr => first | (go_simp; done) | (go_simp; rfl)); (case hp => exact (Reps.c3 (show Kd.M k37 _ _ _ (⟨3, 0, 0⟩ : S37) [.int .i64 3, .int .i64 0, .int .i64 0] from (k37_mkM _ _ _ (⟨3, 0, 0⟩ : S37) )) (Reps.c3 (show Kd.M k37 _ _ _ (⟨25, 0, 0⟩ : S37) [.int .i64 25, .int .i64 0, .int .i64 0] from (k37_mkM _ _ _ (⟨25, 0, 0⟩ : S37) )) (Reps.none _ _)))); intro v132 w35 ho36 hb hg_ hnew_; clear hg_ hnew_; (first | rw [← Ny131.out] at ho36 | (simp only [Int.reduceToNat] at ho36; rw [← Ny131.out] at ho36)); have n0_ := Aside0.mk (Kd.R_elder' (by (with_reducible repeat (first | apply Kd.R_alloc | apply Kd.R_drewN | apply Kd.R_drew)); exact HO110.out) (Kd.R_base ho36) hb); have n1_ := Aside0.mk (Kd.R_below (by (with_reducible repeat (first | apply Kd.R_alloc | apply Kd.R_drewN | apply Kd.R_drew)); exact HO114.out) hb); have n2_ := Aside0.mk (Kd.R_elder' (by (with_reducible repeat (first | apply Kd.R_alloc | apply Kd.R_drewN | apply Kd.R_drew)); exact HO119.out) (Kd.R_base ho36) hb); have n3_ := Aside0.mk (Kd.R_below (by (with_reducible repeat (first | apply Kd.R_alloc | apply Kd.R_drewN | apply Kd.R_drew)); exact HO123.out) hb); have n4_ := Aside0.mk (Kd.R_elder' (by (with_reducible repeat (first | apply Kd.R_alloc | apply Kd.R_drewN | apply Kd.R_drew)); exact HO126.out) (Kd.R_base ho36) hb); have n5_ := Aside0.mk (Kd.R_below (by (with_reducible repeat (first | apply Kd.R_alloc | apply Kd.R_drewN | apply Kd.R_drew)); exact HO130.out) hb); have n6_ := Aside0.mk (Kd.R_lower (Kd.R_new' (Kd.R_new' (Kd.R_new' ho36 (Kd.R_lt (by (with_reducible repeat (first | apply Kd.R_alloc | apply Kd.R_drewN | apply Kd.R_drew)); exact HO110.out))) (Kd.R_lt (by (with_reducible repeat (first | apply Kd.R_alloc | apply Kd.R_drewN | apply Kd.R_drew)); exact HO119.out))) (Kd.R_lt (by (with_reducible repeat (first | apply Kd.R_alloc | apply Kd.R_drewN | apply Kd.R_drew)); exact HO126.out))) (below_size ab_)); have n7_ := Aside0.mk (below_step ab_ hb); clear HO110; clear HO114; clear HO119; clear HO123; clear HO126; clear HO130; clear HB; have HO110 := n0_; have HO114 := n1_; have HO119 := n2_; have HO123 := n3_; have HO126 := n4_; have HO130 := n5_; have HO133 := n6_; have HB := n7_; clear n0_ n1_ n2_ n3_ n4_ n5_ n6_ n7_; clear hb ho36; obtain ⟨Ao37, co37, eo37⟩ := Kd.R_slice HO133.out; subst eo37) | ((with_reducible refine gate_callee (f := 9) rfl ?_); refine goesL_ (some 48) rfl rfl Try.func9 (by kernel_rfl) rfl #[.slice Ao37 y131.length co37] rfl am_ ?_; (with_reducible refine (types_Stacks.calls k _ _ y131 t134 t135 _ ?side1 ?side2 A5.out).mono ?_); (case side1 => repeat (first | exact (Kd.R_reads' HO133.out).2.2 | (with_reducible refine Kd.C_alloc ?_ _) | (with_reducible refine Kd.C_drewN ?_ _) | (with_reducible refine Kd.C_drew ?_))); (case side2 => exact (Kd.R_reads' HO133.out).2.1); rintro e w38 ⟨v136, rfl, ho0, hb⟩; refine ⟨_, rfl, ?_⟩; have n0_ := Aside0.mk (Kd.R_below (by (with_reducible repeat (first | apply Kd.R_alloc | apply Kd.R_drewN | apply Kd.R_drew)); exact HO110.out) hb); have n1_ := Aside0.mk (Kd.R_elder' (by (with_reducible repeat (first | apply Kd.R_alloc | apply Kd.R_drewN | apply Kd.R_drew)); exact HO114.out) (Kd.R_base ho0) hb); have n2_ := Aside0.mk (Kd.R_below (by (with_reducible repeat (first | apply Kd.R_alloc | apply Kd.R_drewN | apply Kd.R_drew)); exact HO119.out) hb); have n3_ := Aside0.mk (Kd.R_elder' (by (with_reducible repeat (first | apply Kd.R_alloc | apply Kd.R_drewN | apply Kd.R_drew)); exact HO123.out) (Kd.R_base ho0) hb); have n4_ := Aside0.mk (Kd.R_below (by (with_reducible repeat (first | apply Kd.R_alloc | apply Kd.R_drewN | apply Kd.R_drew)); exact HO126.out) hb); have n5_ := Aside0.mk (Kd.R_elder' (by (with_reducible repeat (first | apply Kd.R_alloc | apply Kd.R_drewN | apply Kd.R_drew)); exact HO130.out) (Kd.R_base ho0) hb); have n6_ := Aside0.mk (Kd.R_below (by (with_reducible repeat (first | apply Kd.R_alloc | apply Kd.R_drewN | apply Kd.R_drew)); exact HO133.out) hb); have n7_ := Aside0.mk (Kd.R_lower (Kd.R_new' (Kd.R_new' (Kd.R_new' ho0 (Kd.R_lt (by (with_reducible repeat (first | apply Kd.R_alloc | apply Kd.R_drewN | apply Kd.R_drew)); exact HO114.out))) (Kd.R_lt (by (with_reducible repeat (first | apply Kd.R_alloc | apply Kd.R_drewN | apply Kd.R_drew)); exact HO123.out))) (Kd.R_lt (by (with_reducible repeat (first | apply Kd.R_alloc | apply Kd.R_drewN | apply Kd.R_drew)); exact HO130.out))) (below_size ab_)); have n8_ := Aside0.mk (below_step ab_ hb); clear HO110; clear HO114; clear HO119; clear HO123; clear HO126; clear HO130; clear HO133; clear HB; have HO110 := n0_; have HO114 := n1_; have HO119 := n2_; have HO123 := n3_; have HO126 := n4_; have HO130 := n5_; have HO133 := n6_; have HO137 := n7_; have HB := n8_; clear n0_ n1_ n2_ n3_ n4_ n5_ n6_ n7_ n8_; (try clear hb); (try clear hb2); (try clear hk); (try clear hi); (try clear ho0)) | ((with_reducible refine gate_dst (N := 52) rfl ?_); refine Kd.R_lit Kd.string _ 9 ?hg (N := 52) ?hd (xs := ([(⟨#[]⟩ : ByteArray), (⟨#[105]⟩ : ByteArray), (⟨#[105, 105]⟩ : ByteArray), (⟨#[98]⟩ : ByteArray), (⟨#[]⟩ : ByteArray)] : List ByteArray)) (inner := [.string (⟨#[]⟩ : ByteArray), .string (⟨#[105]⟩ : ByteArray), .string (⟨#[105, 105]⟩ : ByteArray), .string (⟨#[98]⟩ : ByteArray), .string (⟨#[]⟩ : ByteArray)]) (ok := fun _ => True) (okp := fun _ => True) ?hr ?hp (fun _ hk => hk) trivial (Below.refl _ _) (Nat.le_refl _) (by simp) ?_; (case hd => rfl); (case hg => rfl); (case hr => first | (go_simp; done) | (go_simp; rfl)); (case hp => exact (Reps.one (show Kd.M Kd.string _ _ _ (⟨#[]⟩ : ByteArray) [.string (⟨#[]⟩ : ByteArray)] from rfl) (Reps.one (show Kd.M Kd.string _ _ _ (⟨#[105]⟩ : ByteArray) [.string (⟨#[105]⟩ : ByteArray)] from rfl) (Reps.one (show Kd.M Kd.string _ _ _ (⟨#[105, 105]⟩ : ByteArray) [.string (⟨#[105, 105]⟩ : ByteArray)] from rfl) (Reps.one (show Kd.M Kd.string _ _ _ (⟨#[98]⟩ : ByteArray) [.string (⟨#[98]⟩ : ByteArray)] from rfl) (Reps.one (show Kd.M Kd.string _ _ _ (⟨#[]⟩ : ByteArray) [.string (⟨#[]⟩ : ByteArray)] from rfl) (Reps.none _ _))))))); intro v139 w39 ho40 hb hg_ hnew_; clear hg_ hnew_; (first | rw [← Ny138.out] at ho40 | (simp only [Int.reduceToNat] at ho40; rw [← Ny138.out] at ho40)); have n0_ := Aside0.mk (Kd.R_below (by (with_reducible repeat (first | apply Kd.R_alloc | apply Kd.R_drewN | apply Kd.R_drew)); exact HO110.out) hb); have n1_ := Aside0.mk (Kd.R_elder' (by (with_reducible repeat (first | apply Kd.R_alloc | apply Kd.R_drewN | apply Kd.R_drew)); exact HO114.out) (Kd.R_base ho40) hb); have n2_ := Aside0.mk (Kd.R_below (by (with_reducible repeat (first | apply Kd.R_alloc | apply Kd.R_drewN | apply Kd.R_drew)); exact HO119.out) hb); have n3_ := Aside0.mk (Kd.R_elder' (by (with_reducible repeat (first | apply Kd.R_alloc | apply Kd.R_drewN | apply Kd.R_drew)); exact HO123.out) (Kd.R_base ho40) hb); have n4_ := Aside0.mk (Kd.R_below (by (with_reducible repeat (first | apply Kd.R_alloc | apply Kd.R_drewN | apply Kd.R_drew)); exact HO126.out) hb); have n5_ := Aside0.mk (Kd.R_elder' (by (with_reducible repeat (first | apply Kd.R_alloc | apply Kd.R_drewN | apply Kd.R_drew)); exact HO130.out) (Kd.R_base ho40) hb); have n6_ := Aside0.mk (Kd.R_below (by (with_reducible repeat (first | apply Kd.R_alloc | apply Kd.R_drewN | apply Kd.R_drew)); exact HO133.out) hb); have n7_ := Aside0.mk (Kd.R_elder' (by (with_reducible repeat (first | apply Kd.R_alloc | apply Kd.R_drewN | apply Kd.R_drew)); exact HO137.out) (Kd.R_base ho40) hb); have n8_ := Aside0.mk (Kd.R_lower (Kd.R_new' (Kd.R_new' (Kd.R_new' (Kd.R_new' ho40 (Kd.R_lt (by (with_reducible repeat (first | apply Kd.R_alloc | apply Kd.R_drewN | apply Kd.R_drew)); exact HO114.out))) (Kd.R_lt (by (with_reducible repeat (first | apply Kd.R_alloc | apply Kd.R_drewN | apply Kd.R_drew)); exact HO123.out))) (Kd.R_lt (by (with_reducible repeat (first | apply Kd.R_alloc | apply Kd.R_drewN | apply Kd.R_drew)); exact HO130.out))) (Kd.R_lt (by (with_reducible repeat (first | apply Kd.R_alloc | apply Kd.R_drewN | apply Kd.R_drew)); exact HO137.out))) (below_size ab_)); have n9_ := Aside0.mk (below_step ab_ hb); clear HO110; clear HO114; clear HO119; clear HO123; clear HO126; clear HO130; clear HO133; clear HO137; clear HB; have HO110 := n0_; have HO114 := n1_; have HO119 := n2_; have HO123 := n3_; have HO126 := n4_; have HO130 := n5_; have HO133 := n6_; have HO137 := n7_; have HO140 := n8_; have HB := n9_; clear n0_ n1_ n2_ n3_ n4_ n5_ n6_ n7_ n8_ n9_; clear hb ho40; obtain ⟨Ao41, co41, eo41⟩ := Kd.R_slice HO114.out; subst eo41; obtain ⟨Ao42, co42, eo42⟩ := Kd.R_slice HO140.out; subst eo42) | ((with_reducible refine gate_callee (f := 13) rfl ?_); refine goesL_ (some 53) rfl rfl Try.func13 (by kernel_rfl) rfl #[.slice Ao41 t111.length co41, .slice Ao42 y138.length co42] rfl am_ ?_; (with_reducible refine (camshaftref07_Same.calls k _ _ t111 _ _ y138 true _ ?side1 ?side2 ?side3 ?side4 A6.out).mono ?_); (case side1 => repeat (first | exact (Kd.R_reads' HO114.out).2.2 | (with_reducible refine Kd.C_alloc ?_ _) | (with_reducible refine Kd.C_drewN ?_ _) | (with_reducible refine Kd.C_drew ?_))); (case side2 => exact (Kd.R_reads' HO114.out).2.1); (case side3 => repeat (first | exact (Kd.R_reads' HO140.out).2.2 | (with_reducible refine Kd.C_alloc ?_ _) | (with_reducible refine Kd.C_drewN ?_ _) | (with_reducible refine Kd.C_drew ?_))); (case side4 => exact (Kd.R_reads' HO140.out).2.1); rintro e w' ⟨rfl, ⟨nd, rfl⟩⟩; refine ⟨_, rfl, ?_⟩; have p142 : 0 ≤ (2 : Int) := (by omega); have q142 : 2 < (y108.length : Int) := of_decide_eq_true as_; obtain ⟨ad142, e142, hx142_0, hx142_1, hx142_2⟩ := at_T37 (Kd.R_reads' HO110.out).2.2 2 p142 q142; cases e142; (try simp only [show (2 : Int).toNat = 2 from rfl, Nat.reduceMul, Nat.reduceEqDiff, Go.Addr.add, ↓reduceIte] at hx142_0); (try simp only [show (2 : Int).toNat = 2 from rfl, Nat.reduceMul, Nat.reduceEqDiff, Go.Addr.add, ↓reduceIte] at hx142_1); (try simp only [show (2 : Int).toNat = 2 from rfl, Nat.reduceMul, Nat.reduceEqDiff, Go.Addr.add, ↓reduceIte] at hx142_2); have qi142 : (2 < y108.length) = True := eq_true (by omega); (try rw [show ((2 : Int)).toNat = 2 from rfl] at hx142_0); (try rw [show 2 * 3 = 6 from rfl] at hx142_0); (try rw [show ((2 : Int)).toNat = 2 from rfl] at hx142_1); (try rw [show 2 * 3 = 6 from rfl] at hx142_1); (try rw [show ((2 : Int)).toNat = 2 from rfl] at hx142_2); (try rw [show 2 * 3 = 6 from rfl] at hx142_2); replace p142 := eq_true p142; replace q142 := eq_true q142) | (go_at_call 15; (with_reducible refine (types_Takes.calls ((rd_T37 y108 2).f0) ((rd_T37 y108 2).f1) ((rd_T37 y108 2).f2) t143 _ A15.out).mono ?_); rintro e w43 ⟨rfl, hb⟩; have n0_ := Aside0.mk (Kd.R_below (by (with_reducible repeat (first | apply Kd.R_alloc | apply Kd.R_drewN | apply Kd.R_drew)); exact HO110.out) hb); have n1_ := Aside0.mk (Kd.R_below (by (with_reducible repeat (first | apply Kd.R_alloc | apply Kd.R_drewN | apply Kd.R_drew)); exact HO114.out) hb); have n2_ := Aside0.mk (Kd.R_below (by (with_reducible repeat (first | apply Kd.R_alloc | apply Kd.R_drewN | apply Kd.R_drew)); exact HO119.out) hb); have n3_ := Aside0.mk (Kd.R_below (by (with_reducible repeat (first | apply Kd.R_alloc | apply Kd.R_drewN | apply Kd.R_drew)); exact HO123.out) hb); have n4_ := Aside0.mk (Kd.R_below (by (with_reducible repeat (first | apply Kd.R_alloc | apply Kd.R_drewN | apply Kd.R_drew)); exact HO126.out) hb); have n5_ := Aside0.mk (Kd.R_below (by (with_reducible repeat (first | apply Kd.R_alloc | apply Kd.R_drewN | apply Kd.R_drew)); exact HO130.out) hb); have n6_ := Aside0.mk (Kd.R_below (by (with_reducible repeat (first | apply Kd.R_alloc | apply Kd.R_drewN | apply Kd.R_drew)); exact HO133.out) hb); have n7_ := Aside0.mk (Kd.R_below (by (with_reducible repeat (first | apply Kd.R_alloc | apply Kd.R_drewN | apply Kd.R_drew)); exact HO137.out) hb); have n8_ := Aside0.mk (Kd.R_below (by (with_reducible repeat (first | apply Kd.R_alloc | apply Kd.R_drewN | apply Kd.R_drew)); exact HO140.out) hb); have n9_ := Aside0.mk (below_step ab_ hb); clear HO110; clear HO114; clear HO119; clear HO123; clear HO126; clear HO130; clear HO133; clear HO137; clear HO140; clear HB; have HO110 := n0_; have HO114 := n1_; have HO119 := n2_; have HO123 := n3_; have HO126 := n4_; have HO130 := n5_; have HO133 := n6_; have HO137 := n7_; have HO140 := n8_; have HB := n9_; clear n0_ n1_ n2_ n3_ n4_ n5_ n6_ n7_ n8_ n9_; (try clear hb); (try clear hb2); (try clear hk); (try clear hi); have p144 : 0 ≤ (2 : Int) := (by omega); have q144 : 2 < (y108.length : Int) := of_decide_eq_true as_; obtain ⟨ad144, e144, hx144_0, hx144_1, hx144_2⟩ := at_T37 (Kd.R_reads' HO110.out).2.2 2 p144 q144; obtain rfl : ad142 = ad144 := (by injection e144); (try simp only [show (2 : Int).toNat = 2 from rfl, Nat.reduceMul, Nat.reduceEqDiff, Go.Addr.add, ↓reduceIte] at hx144_0); (try simp only [show (2 : Int).toNat = 2 from rfl, Nat.reduceMul, Nat.reduceEqDiff, Go.Addr.add, ↓reduceIte] at hx144_1); (try simp only [show (2 : Int).toNat = 2 from rfl, Nat.reduceMul, Nat.reduceEqDiff, Go.Addr.add, ↓reduceIte] at hx144_2); have qi144 : (2 < y108.length) = True := eq_true (by omega); (try rw [show ((2 : Int)).toNat = 2 from rfl] at hx144_0); (try rw [show 2 * 3 = 6 from rfl] at hx144_0); (try rw [show ((2 : Int)).toNat = 2 from rfl] at hx144_1); (try rw [show 2 * 3 = 6 from rfl] at hx144_1); (try rw [show ((2 : Int)).toNat = 2 from rfl] at hx144_2); (try rw [show 2 * 3 = 6 from rfl] at hx144_2); replace p144 := eq_true p144; replace q144 := eq_true q144) | (go_at_call 16; (with_reducible refine (types_Gives.calls ((rd_T37 y108 2).f0) ((rd_T37 y108 2).f1) ((rd_T37 y108 2).f2) (⟨#[105, 105]⟩ : ByteArray) t145 _ A17.out).mono ?_); rintro e w44 ⟨rfl, hb⟩; have n0_ := Aside0.mk (Kd.R_below (by (with_reducible repeat (first | apply Kd.R_alloc | apply Kd.R_drewN | apply Kd.R_drew)); exact HO110.out) hb); have n1_ := Aside0.mk (Kd.R_below (by (with_reducible repeat (first | apply Kd.R_alloc | apply Kd.R_drewN | apply Kd.R_drew)); exact HO114.out) hb); have n2_ := Aside0.mk (Kd.R_below (by (with_reducible repeat (first | apply Kd.R_alloc | apply Kd.R_drewN | apply Kd.R_drew)); exact HO119.out) hb); have n3_ := Aside0.mk (Kd.R_below (by (with_reducible repeat (first | apply Kd.R_alloc | apply Kd.R_drewN | apply Kd.R_drew)); exact HO123.out) hb); have n4_ := Aside0.mk (Kd.R_below (by (with_reducible repeat (first | apply Kd.R_alloc | apply Kd.R_drewN | apply Kd.R_drew)); exact HO126.out) hb); have n5_ := Aside0.mk (Kd.R_below (by (with_reducible repeat (first | apply Kd.R_alloc | apply Kd.R_drewN | apply Kd.R_drew)); exact HO130.out) hb); have n6_ := Aside0.mk (Kd.R_below (by (with_reducible repeat (first | apply Kd.R_alloc | apply Kd.R_drewN | apply Kd.R_drew)); exact HO133.out) hb); have n7_ := Aside0.mk (Kd.R_below (by (with_reducible repeat (first | apply Kd.R_alloc | apply Kd.R_drewN | apply Kd.R_drew)); exact HO137.out) hb); have n8_ := Aside0.mk (Kd.R_below (by (with_reducible repeat (first | apply Kd.R_alloc | apply Kd.R_drewN | apply Kd.R_drew)); exact HO140.out) hb); have n9_ := Aside0.mk (below_step ab_ hb); clear HO110; clear HO114; clear HO119; clear HO123; clear HO126; clear HO130; clear HO133; clear HO137; clear HO140; clear HB; have HO110 := n0_; have HO114 := n1_; have HO119 := n2_; have HO123 := n3_; have HO126 := n4_; have HO130 := n5_; have HO133 := n6_; have HO137 := n7_; have HO140 := n8_; have HB := n9_; clear n0_ n1_ n2_ n3_ n4_ n5_ n6_ n7_ n8_ n9_; (try clear hb); (try clear hb2); (try clear hk); (try clear hi)) | (go_at_call 16; (with_reducible refine (types_Gives.calls 4 0 0 (⟨#[105, 98]⟩ : ByteArray) t146 _ A19.out).mono ?_); rintro e w45 ⟨rfl, hb⟩; have n0_ := Aside0.mk (Kd.R_below (by (with_reducible repeat (first | apply Kd.R_alloc | apply Kd.R_drewN | apply Kd.R_drew)); exact HO110.out) hb); have n1_ := Aside0.mk (Kd.R_below (by (with_reducible repeat (first | apply Kd.R_alloc | apply Kd.R_drewN | apply Kd.R_drew)); exact HO114.out) hb); have n2_ := Aside0.mk (Kd.R_below (by (with_reducible repeat (first | apply Kd.R_alloc | apply Kd.R_drewN | apply Kd.R_drew)); exact HO119.out) hb); have n3_ := Aside0.mk (Kd.R_below (by (with_reducible repeat (first | apply Kd.R_alloc | apply Kd.R_drewN | apply Kd.R_drew)); exact HO123.out) hb); have n4_ := Aside0.mk (Kd.R_below (by (with_reducible repeat (first | apply Kd.R_alloc | apply Kd.R_drewN | apply Kd.R_drew)); exact HO126.out) hb); have n5_ := Aside0.mk (Kd.R_below (by (with_reducible repeat (first | apply Kd.R_alloc | apply Kd.R_drewN | apply Kd.R_drew)); exact HO130.out) hb); have n6_ := Aside0.mk (Kd.R_below (by (with_reducible repeat (first | apply Kd.R_alloc | apply Kd.R_drewN | apply Kd.R_drew)); exact HO133.out) hb); have n7_ := Aside0.mk (Kd.R_below (by (with_reducible repeat (first | apply Kd.R_alloc | apply Kd.R_drewN | apply Kd.R_drew)); exact HO137.out) hb); have n8_ := Aside0.mk (Kd.R_below (by (with_reducible repeat (first | apply Kd.R_alloc | apply Kd.R_drewN | apply Kd.R_drew)); exact HO140.out) hb); have n9_ := Aside0.mk (below_step ab_ hb); clear HO110; clear HO114; clear HO119; clear HO123; clear HO126; clear HO130; clear HO133; clear HO137; clear HO140; clear HB; have HO110 := n0_; have HO114 := n1_; have HO119 := n2_; have HO123 := n3_; have HO126 := n4_; have HO130 := n5_; have HO133 := n6_; have HO137 := n7_; have HO140 := n8_; have HB := n9_; clear n0_ n1_ n2_ n3_ n4_ n5_ n6_ n7_ n8_ n9_; (try clear hb); (try clear hb2); (try clear hk); (try clear hi); have p147 : 0 ≤ (2 : Int) := (by omega); have q147 : 2 < (y108.length : Int) := of_decide_eq_true as_; obtain ⟨ad147, e147, hx147_0, hx147_1, hx147_2⟩ := at_T37 (Kd.R_reads' HO110.out).2.2 2 p147 q147; obtain rfl : ad142 = ad147 := (by injection e147); (try simp only [show (2 : Int).toNat = 2 from rfl, Nat.reduceMul, Nat.reduceEqDiff, Go.Addr.add, ↓reduceIte] at hx147_0); (try simp only [show (2 : Int).toNat = 2 from rfl, Nat.reduceMul, Nat.reduceEqDiff, Go.Addr.add, ↓reduceIte] at hx147_1); (try simp only [show (2 : Int).toNat = 2 from rfl, Nat.reduceMul, Nat.reduceEqDiff, Go.Addr.add, ↓reduceIte] at hx147_2); have qi147 : (2 < y108.length) = True := eq_true (by omega); (try rw [show ((2 : Int)).toNat = 2 from rfl] at hx147_0); (try rw [show 2 * 3 = 6 from rfl] at hx147_0); (try rw [show ((2 : Int)).toNat = 2 from rfl] at hx147_1); (try rw [show 2 * 3 = 6 from rfl] at hx147_1); (try rw [show ((2 : Int)).toNat = 2 from rfl] at hx147_2); (try rw [show 2 * 3 = 6 from rfl] at hx147_2); replace p147 := eq_true p147; replace q147 := eq_true q147) | (go_at_call 16; (with_reducible refine (types_Gives.calls ((rd_T37 y108 2).f0) ((rd_T37 y108 2).f1) ((rd_T37 y108 2).f2) (⟨#[105, 98]⟩ : ByteArray) t148 _ A21.out).mono ?_); rintro e w46 ⟨rfl, hb⟩; have n0_ := Aside0.mk (Kd.R_below (by (with_reducible repeat (first | apply Kd.R_alloc | apply Kd.R_drewN | apply Kd.R_drew)); exact HO110.out) hb); have n1_ := Aside0.mk (Kd.R_below (by (with_reducible repeat (first | apply Kd.R_alloc | apply Kd.R_drewN | apply Kd.R_drew)); exact HO114.out) hb); have n2_ := Aside0.mk (Kd.R_below (by (with_reducible repeat (first | apply Kd.R_alloc | apply Kd.R_drewN | apply Kd.R_drew)); exact HO119.out) hb); have n3_ := Aside0.mk (Kd.R_below (by (with_reducible repeat (first | apply Kd.R_alloc | apply Kd.R_drewN | apply Kd.R_drew)); exact HO123.out) hb); have n4_ := Aside0.mk (Kd.R_below (by (with_reducible repeat (first | apply Kd.R_alloc | apply Kd.R_drewN | apply Kd.R_drew)); exact HO126.out) hb); have n5_ := Aside0.mk (Kd.R_below (by (with_reducible repeat (first | apply Kd.R_alloc | apply Kd.R_drewN | apply Kd.R_drew)); exact HO130.out) hb); have n6_ := Aside0.mk (Kd.R_below (by (with_reducible repeat (first | apply Kd.R_alloc | apply Kd.R_drewN | apply Kd.R_drew)); exact HO133.out) hb); have n7_ := Aside0.mk (Kd.R_below (by (with_reducible repeat (first | apply Kd.R_alloc | apply Kd.R_drewN | apply Kd.R_drew)); exact HO137.out) hb); have n8_ := Aside0.mk (Kd.R_below (by (with_reducible repeat (first | apply Kd.R_alloc | apply Kd.R_drewN | apply Kd.R_drew)); exact HO140.out) hb); have n9_ := Aside0.mk (below_step ab_ hb); clear HO110; clear HO114; clear HO119; clear HO123; clear HO126; clear HO130; clear HO133; clear HO137; clear HO140; clear HB; have HO110 := n0_; have HO114 := n1_; have HO119 := n2_; have HO123 := n3_; have HO126 := n4_; have HO130 := n5_; have HO133 := n6_; have HO137 := n7_; have HO140 := n8_; have HB := n9_; clear n0_ n1_ n2_ n3_ n4_ n5_ n6_ n7_ n8_ n9_; (try clear hb); (try clear hb2); (try clear hk); (try clear hi)))
 go_ret
 exact ⟨by first | rfl | (rw [bne_nil_eq]; rfl) | (simp [bne_nil_eq]; done) | (simp [errW_none, errW_some] <;> rfl) | (simp [*, errW_none, errW_some] <;> rfl), by repeat (first | (with_reducible first | exact HB.out | apply below_alloc | apply pw_below_drewN | apply below_drew1) | exact HB.out | exact Below.refl _ _)⟩

end Go.Proofs.Ytdhlhbhclggheaa.Q
