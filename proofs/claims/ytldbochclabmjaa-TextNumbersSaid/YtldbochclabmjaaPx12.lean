-- Written by a program of this session (wip/tools: patched print) for this claim. Not trusted: Lean checks it.
import Derived.Test.YtldbochclabmjaaPx0
import Derived.Test.YtldbochclabmjaaPx2
namespace Go.Proofs.Ytldbochclabmjaa.P
open Go.RowKit Go.Proofs.Ytldbochclabmjaa.C Go.Proofs.YtldbochclabmjaaW.PrintWords Go.Proofs.YtldbochclabmjaaW.PrintLast Go.Proofs.YtldbochclabmjaaW.PrintMore
attribute [local go_sem] max2_int min2_int max_two min_two max_three min_three max_four min_four   -- for this text's walks alone
set_option linter.unusedVariables false
set_option linter.unusedSimpArgs false

/-! ### camshaftlaw05_TextNumbers: function 6 -/
def camshaftlaw05_TextNumbers.j0 : Nat → Int → ByteArray → ByteArray → Bool → Option (Bool)
  | 0, _, _, _, _ => none
  | k + 1, x0, x1, x5, x32 => if x32 = true then (some false) else (if 5 ≤ (wrap64 ((x5.size : Int) - 1)) then (if (wrap64 ((x5.size : Int) - 1)) ≤ (x5.size : Int) then ((text_Number.f (x5.extract 5 ((wrap64 ((x5.size : Int) - 1)) : Int).toNat)).bind fun bt238 => ((text_Number.f x1).bind fun bt240 => (if bt238.1 = x0 then (if bt238.2 = 0 then (if bt240.2 = 0 then ((text_Line.f 1 bt240.1 0).bind fun t242 => (if 5 + x1.size ≤ 9223372036854775807 then (if ((⟨#[80, 85, 83, 72, 32]⟩ : ByteArray) ++ x1).size + 1 ≤ 9223372036854775807 then (if t242.toList = (((⟨#[80, 85, 83, 72, 32]⟩ : ByteArray) ++ x1) ++ (⟨#[10]⟩ : ByteArray)).toList then ((camshaftlaw05_known.f k).bind fun t243 => (some t243)) else (some false)) else (none)) else (none))) else (if bt240.1 = 0 then ((camshaftlaw05_known.f k).bind fun t244 => (some t244)) else (some false))) else (some false)) else (some false)))) else (none)) else (none))
def camshaftlaw05_TextNumbers.f (k : Nat) (a0 : Int) (a1 : ByteArray) : Option (Bool) := if (a1.size : Int) > 100 then ((camshaftlaw05_known.f k).bind fun t236 => (some t236)) else ((text_Line.f 1 a0 0).bind fun t237 => (if (t237.size : Int) < 7 then (camshaftlaw05_TextNumbers.j0 k a0 a1 t237 true) else (if 0 ≤ 5 then (if 5 ≤ (t237.size : Int) then (if (t237.extract 0 5).toList = ([80, 85, 83, 72, 32] : List UInt8) then (if 0 ≤ (wrap64 ((t237.size : Int) - 1)) then (if (wrap64 ((t237.size : Int) - 1)) < (t237.size : Int) then (camshaftlaw05_TextNumbers.j0 k a0 a1 t237 ((bt t237 (wrap64 ((t237.size : Int) - 1))) != 10)) else (none)) else (none)) else (camshaftlaw05_TextNumbers.j0 k a0 a1 t237 true)) else (none)) else (none))))
theorem camshaftlaw05_TextNumbers.mono_l : ∀ k, (∀ y0 y1 y2 y3, LeO (camshaftlaw05_TextNumbers.j0 k y0 y1 y2 y3) (camshaftlaw05_TextNumbers.j0 (k + 1) y0 y1 y2 y3))
  | 0 => fun _ _ _ _ r h => by simp [camshaftlaw05_TextNumbers.j0] at h
  | k + 1 => by
    have ih0 := camshaftlaw05_TextNumbers.mono_l k
    · intro y0 y1 y2 y3
      unfold camshaftlaw05_TextNumbers.j0
      repeat' first
      | (with_reducible exact ih0 _ _ _ _)
      | (with_reducible exact camshaftlaw05_known.mono _)
      | (with_reducible exact LeO.refl _)
      | (with_reducible exact LeO.none _)
      | (with_reducible refine LeO.ite ?_ ?_)
      | (with_reducible refine LeO.bind ?_ (fun _ => ?_))
      | exact ih0 _ _ _ _
      | exact camshaftlaw05_known.mono _
      | exact LeO.none _
      | refine LeO.ite ?_ ?_
      | refine LeO.bind ?_ (fun _ => ?_)
theorem camshaftlaw05_TextNumbers.mono : ∀ a0 a1 k, LeO (camshaftlaw05_TextNumbers.f k a0 a1) (camshaftlaw05_TextNumbers.f (k + 1) a0 a1) := by
  intro a0 a1 k
  have ih0 := camshaftlaw05_TextNumbers.mono_l k
  unfold camshaftlaw05_TextNumbers.f
  repeat' first
      | (with_reducible exact ih0 _ _ _ _)
      | (with_reducible exact camshaftlaw05_known.mono _)
      | (with_reducible exact LeO.refl _)
      | (with_reducible exact LeO.none _)
      | (with_reducible refine LeO.ite ?_ ?_)
      | (with_reducible refine LeO.bind ?_ (fun _ => ?_))
      | exact ih0 _ _ _ _
      | exact camshaftlaw05_known.mono _
      | exact LeO.none _
      | refine LeO.ite ?_ ?_
      | refine LeO.bind ?_ (fun _ => ?_)
set_option maxHeartbeats 8000000 in
set_option maxRecDepth 100000 in
theorem camshaftlaw05_TextNumbers.calls (k : Nat) (a0 : Int) (a1 : ByteArray) (r : Bool) (w : World) (h : camshaftlaw05_TextNumbers.f k a0 a1 = some r) (ht : r = true) :
    Calls Try.prog 6 #[.int .i64 a0, .string a1] w fun e w' => e = .returned (.bool r) ∧ Below w.heap.size w w' := by
  have hu24 := Try.underlying24
  have HT := Aside0.mk ht
  clear ht
  have HB := Aside0.mk (Below.refl w.heap.size w)
  have H : (if (a1.size : Int) > 100 then ((camshaftlaw05_known.f k).bind fun t236 => (some t236)) else ((text_Line.f 1 a0 0).bind fun t237 => (if (t237.size : Int) < 7 then (camshaftlaw05_TextNumbers.j0 k a0 a1 t237 true) else (if 0 ≤ 5 then (if 5 ≤ (t237.size : Int) then (if (t237.extract 0 5).toList = ([80, 85, 83, 72, 32] : List UInt8) then (if 0 ≤ (wrap64 ((t237.size : Int) - 1)) then (if (wrap64 ((t237.size : Int) - 1)) < (t237.size : Int) then (camshaftlaw05_TextNumbers.j0 k a0 a1 t237 ((bt t237 (wrap64 ((t237.size : Int) - 1))) != 10)) else (none)) else (none)) else (camshaftlaw05_TextNumbers.j0 k a0 a1 t237 true)) else (none)) else (none))))) = some r := h
  clear h
  by_cases c3 : (a1.size : Int) > 100
  · rw [if_pos c3] at H
    have c3b0 : decide (100 < (a1.size : Int)) = true := decide_eq_true c3
    have c3b1 : decide (100 < a1.size) = true := decide_eq_true (by omega)
    clear c3
    replace H := Option.bind_eq_some_iff.mp H
    obtain ⟨t236, A40, H⟩ := H
    replace H : (some t236) = some r := H
    have A4 := Aside0.mk A40
    clear A40
    obtain rfl := Option.some.inj H
    go_enter Try.func6, Try.ntmps6
    go_wp2_with (first | ((with_reducible refine gate_callee (f := 10) rfl ?_); refine goesL_ (some 13) rfl rfl Try.func10 (by kernel_rfl) rfl #[] rfl (by (try simp only [List.map_toArray, List.map_cons, List.map_nil]); first | done | rfl | (simp only [List.length_drop, List.length_take]; rfl)) ?_; (with_reducible refine (camshaftlaw05_known.calls k  t236 _ A4.out).mono ?_); rintro e w5 ⟨rfl, hb⟩; refine ⟨_, rfl, ?_⟩; have n0_ := Aside0.mk (below_step (by repeat (first | (with_reducible first | exact HB.out | apply below_alloc | apply pw_below_drewN | apply below_drew1) | exact HB.out)) hb); clear HB; have HB := n0_; clear n0_; (try clear hb); (try clear hb2); (try clear hk); (try clear hi)))
    go_ret
    exact ⟨by first | rfl | (rw [bne_nil_eq]; rfl) | (simp [bne_nil_eq]; done) | (simp [errW_none, errW_some] <;> rfl) | (simp [*, errW_none, errW_some] <;> rfl), by repeat (first | (with_reducible first | exact HB.out | apply below_alloc | apply pw_below_drewN | apply below_drew1) | exact HB.out | exact Below.refl _ _)⟩
  · rw [if_neg c3] at H
    have c3b0 : decide (100 < (a1.size : Int)) = false := decide_eq_false c3
    have c3b1 : decide (100 < a1.size) = false := decide_eq_false (by omega)
    clear c3
    replace H := Option.bind_eq_some_iff.mp H
    obtain ⟨t237, A60, H⟩ := H
    replace H : (if (t237.size : Int) < 7 then (camshaftlaw05_TextNumbers.j0 k a0 a1 t237 true) else (if 0 ≤ 5 then (if 5 ≤ (t237.size : Int) then (if (t237.extract 0 5).toList = ([80, 85, 83, 72, 32] : List UInt8) then (if 0 ≤ (wrap64 ((t237.size : Int) - 1)) then (if (wrap64 ((t237.size : Int) - 1)) < (t237.size : Int) then (camshaftlaw05_TextNumbers.j0 k a0 a1 t237 ((bt t237 (wrap64 ((t237.size : Int) - 1))) != 10)) else (none)) else (none)) else (camshaftlaw05_TextNumbers.j0 k a0 a1 t237 true)) else (none)) else (none))) = some r := H
    have A6 := Aside0.mk A60
    clear A60
    have HC7 := Aside0.mk H
    clear H
    go_enter Try.func6, Try.ntmps6
    go_upto_region 4 with (first | ((with_reducible refine gate_callee (f := 11) rfl ?_); refine goesL_ (some 16) rfl rfl Try.func11 (by kernel_rfl) rfl #[.agg #[.int .i64 1, .int .i64 a0, .int .i64 0]] rfl (by (try simp only [List.map_toArray, List.map_cons, List.map_nil]); first | done | rfl | (simp only [List.length_drop, List.length_take]; rfl)) ?_; (with_reducible refine (text_Line.calls 1 a0 0 t237 _ A6.out).mono ?_); rintro e w8 ⟨rfl, hb⟩; refine ⟨_, rfl, ?_⟩; have n0_ := Aside0.mk (below_step (by repeat (first | (with_reducible first | exact HB.out | apply below_alloc | apply pw_below_drewN | apply below_drew1) | exact HB.out)) hb); clear HB; have HB := n0_; clear n0_; (try clear hb); (try clear hb2); (try clear hk); (try clear hi)))
    (try simp only [Act.put, List.setIfInBounds_toArray, List.set_cons_zero, List.set_cons_succ])
    go_cut [32] (fun v32 wc => ∃ (kq : Nat) (x32_6 : Bool), v32 = .bool x32_6 ∧ Aside0 (camshaftlaw05_TextNumbers.j0 kq a0 a1 t237 x32_6 = some r) ∧ Aside0 (kq ≤ k) ∧ Aside0 (Below w.heap.size w wc))
    case first =>
      have H := HC7.out
      clear HC7
      by_cases c9 : (t237.size : Int) < 7
      · rw [if_pos c9] at H
        have c9b0 : decide ((t237.size : Int) < 7) = true := decide_eq_true c9
        have c9b1 : decide (t237.size < 7) = true := decide_eq_true (by omega)
        clear c9
        (first | rw [c9b0] | (simp only [i64_w, i32_w]; rw [c9b0]) | rw [c9b1] | skip)
        have H' := Aside0.mk H
        clear H
        go_wp2
        go_meet
        case rel => exact ⟨_, (true), (by first | rfl | (simp; done) | (simp [*]; done)), H', ⟨by first | omega | exact Nat.le_refl _⟩, ⟨by repeat (first | (with_reducible first | exact HB.out | apply below_alloc | apply pw_below_drewN | apply below_drew1) | exact HB.out | exact Below.refl _ _)⟩⟩
      · rw [if_neg c9] at H
        have c9b0 : decide ((t237.size : Int) < 7) = false := decide_eq_false c9
        have c9b1 : decide (t237.size < 7) = false := decide_eq_false (by omega)
        clear c9
        (first | rw [c9b0] | (simp only [i64_w, i32_w]; rw [c9b0]) | rw [c9b1] | skip)
        by_cases c10 : 0 ≤ 5
        · rw [if_pos c10] at H
          have c10b0 := eq_true c10
          have c10b1 : decide (0 ≤ 5) = true := decide_eq_true c10
          clear c10
          by_cases c11 : 5 ≤ (t237.size : Int)
          · rw [if_pos c11] at H
            have c11b0 := eq_true c11
            have c11b1 : decide (5 ≤ (t237.size : Int)) = true := decide_eq_true c11
            clear c11
            by_cases c12 : (t237.extract 0 5).toList = ([80, 85, 83, 72, 32] : List UInt8)
            · rw [if_pos c12] at H
              have c12b0 : ((t237.extract 0 5).toList == ([80, 85, 83, 72, 32] : List UInt8)) = true := beq_iff_eq.mpr c12
              have c12b1 : ((t237.extract 0 5).toList != ([80, 85, 83, 72, 32] : List UInt8)) = false := bne_eq_false_iff_eq.mpr c12
              clear c12
              obtain ⟨ji13, hji13⟩ : ∃ j_ : Int, (wrap64 ((t237.size : Int) - 1)) = j_ := ⟨_, rfl⟩
              replace H : (if 0 ≤ (ji13) then (if (ji13) < (t237.size : Int) then (camshaftlaw05_TextNumbers.j0 k a0 a1 t237 ((bt t237 (ji13)) != 10)) else (none)) else (none)) = some r := by first | (rw [hji13] at H; exact H) | (simp only [hji13] at H ⊢; exact H)
              have hji13w : (IntKind.i64.wrap ((t237.size : Int) - 1)) = ji13 := (i64_w _).trans hji13
              by_cases c14 : 0 ≤ (ji13)
              · rw [if_pos c14] at H
                have c14b0 : decide (0 ≤ (ji13)) = true := decide_eq_true c14
                clear c14
                by_cases c15 : (ji13) < (t237.size : Int)
                · rw [if_pos c15] at H
                  have c15b0 : decide ((ji13) < (t237.size : Int)) = true := decide_eq_true c15
                  clear c15
                  have H' := Aside0.mk H
                  clear H
                  have p16 : 0 ≤ ((ji13) : Int) := of_decide_eq_true (by first | (with_reducible assumption) | assumption)
                  have q16 : (ji13) < (t237.size : Int) := of_decide_eq_true (by first | (with_reducible assumption) | assumption)
                  have hx16 := bt_at t237 (ji13)
                  replace p16 := eq_true p16
                  replace q16 := eq_true q16
                  go_wp2
                  go_meet
                  case rel => exact ⟨_, (((bt t237 (ji13)) != 10)), (by first | rfl | (simp; done) | (simp only [← hji13] <;> (first | rfl | simp)) | (simp [*]; done)), H', ⟨by first | omega | exact Nat.le_refl _⟩, ⟨by repeat (first | (with_reducible first | exact HB.out | apply below_alloc | apply pw_below_drewN | apply below_drew1) | exact HB.out | exact Below.refl _ _)⟩⟩
                · rw [if_neg c15] at H
                  exact absurd H (by simp)
              · rw [if_neg c14] at H
                exact absurd H (by simp)
            · rw [if_neg c12] at H
              have c12b0 : ((t237.extract 0 5).toList == ([80, 85, 83, 72, 32] : List UInt8)) = false := beq_eq_false_iff_ne.mpr c12
              have c12b1 : ((t237.extract 0 5).toList != ([80, 85, 83, 72, 32] : List UInt8)) = true := bne_iff_ne.mpr c12
              have H' := Aside0.mk H
              clear H
              go_wp2
              go_meet
              case rel => exact ⟨_, (true), (by first | rfl | (simp; done) | (simp [*]; done)), H', ⟨by first | omega | exact Nat.le_refl _⟩, ⟨by repeat (first | (with_reducible first | exact HB.out | apply below_alloc | apply pw_below_drewN | apply below_drew1) | exact HB.out | exact Below.refl _ _)⟩⟩
          · rw [if_neg c11] at H
            exact absurd H (by simp)
        · rw [if_neg c10] at H
          exact absurd H (by simp)
    case rest =>
      clear HC7
      try clear c1
      try clear p1
      try clear q1
      try clear hx1
      try clear p2
      try clear c3
      try clear c3b0
      try clear c3b1
      try clear c6
      try clear p6
      try clear c9
      try clear c9b0
      try clear c9b1
      try clear c10
      try clear c10b0
      try clear c10b1
      try clear c11
      try clear c11b0
      try clear c11b1
      try clear c12
      try clear c12b0
      try clear c12b1
      try clear c14
      try clear c14b0
      try clear c15
      try clear c15b0
      try clear p16
      try clear q16
      try clear hx16
      try clear p16
      try clear q16
      obtain ⟨kq, x32_6, rfl, HA, HJ6, HB⟩ := hcut
      cases kq with
      | zero => exact absurd HA.out (by simp [camshaftlaw05_TextNumbers.j0])
      | succ kj6 =>
        have H := HA.out
        clear HA
        simp only [camshaftlaw05_TextNumbers.j0] at H
        by_cases c17 : x32_6 = true
        · subst c17
          have H1 : (some false) = some r := by rw [if_pos rfl] at H; exact H
          clear H
          have H := H1
          clear H1
          exact absurd ((Option.some.inj H).trans HT.out) (by decide)
        · replace c17 := Bool.eq_false_iff.mpr c17
          subst c17
          have H1 : (if 5 ≤ (wrap64 ((t237.size : Int) - 1)) then (if (wrap64 ((t237.size : Int) - 1)) ≤ (t237.size : Int) then ((text_Number.f (t237.extract 5 ((wrap64 ((t237.size : Int) - 1)) : Int).toNat)).bind fun bt238 => ((text_Number.f a1).bind fun bt240 => (if bt238.1 = a0 then (if bt238.2 = 0 then (if bt240.2 = 0 then ((text_Line.f 1 bt240.1 0).bind fun t242 => (if 5 + a1.size ≤ 9223372036854775807 then (if ((⟨#[80, 85, 83, 72, 32]⟩ : ByteArray) ++ a1).size + 1 ≤ 9223372036854775807 then (if t242.toList = (((⟨#[80, 85, 83, 72, 32]⟩ : ByteArray) ++ a1) ++ (⟨#[10]⟩ : ByteArray)).toList then ((camshaftlaw05_known.f kj6).bind fun t243 => (some t243)) else (some false)) else (none)) else (none))) else (if bt240.1 = 0 then ((camshaftlaw05_known.f kj6).bind fun t244 => (some t244)) else (some false))) else (some false)) else (some false)))) else (none)) else (none)) = some r := by rw [if_neg (show ¬ (false = true) by decide)] at H; exact H
          clear H
          have H := H1
          clear H1
          by_cases c18 : 5 ≤ (wrap64 ((t237.size : Int) - 1))
          · rw [if_pos c18] at H
            have c18b0 := eq_true c18
            have c18b1 : decide (5 ≤ (wrap64 ((t237.size : Int) - 1))) = true := decide_eq_true c18
            clear c18
            by_cases c19 : (wrap64 ((t237.size : Int) - 1)) ≤ (t237.size : Int)
            · rw [if_pos c19] at H
              have c19b0 := eq_true c19
              have c19b1 : decide ((wrap64 ((t237.size : Int) - 1)) ≤ (t237.size : Int)) = true := decide_eq_true c19
              clear c19
              replace H := Option.bind_eq_some_iff.mp H
              obtain ⟨⟨t238, t239⟩, A200, H⟩ := H
              replace H : ((text_Number.f a1).bind fun bt240 => (if t238 = a0 then (if t239 = 0 then (if bt240.2 = 0 then ((text_Line.f 1 bt240.1 0).bind fun t242 => (if 5 + a1.size ≤ 9223372036854775807 then (if ((⟨#[80, 85, 83, 72, 32]⟩ : ByteArray) ++ a1).size + 1 ≤ 9223372036854775807 then (if t242.toList = (((⟨#[80, 85, 83, 72, 32]⟩ : ByteArray) ++ a1) ++ (⟨#[10]⟩ : ByteArray)).toList then ((camshaftlaw05_known.f kj6).bind fun t243 => (some t243)) else (some false)) else (none)) else (none))) else (if bt240.1 = 0 then ((camshaftlaw05_known.f kj6).bind fun t244 => (some t244)) else (some false))) else (some false)) else (some false))) = some r := H
              have A20 := Aside0.mk A200
              clear A200
              replace H := Option.bind_eq_some_iff.mp H
              obtain ⟨⟨t240, t241⟩, A210, H⟩ := H
              replace H : (if t238 = a0 then (if t239 = 0 then (if t241 = 0 then ((text_Line.f 1 t240 0).bind fun t242 => (if 5 + a1.size ≤ 9223372036854775807 then (if ((⟨#[80, 85, 83, 72, 32]⟩ : ByteArray) ++ a1).size + 1 ≤ 9223372036854775807 then (if t242.toList = (((⟨#[80, 85, 83, 72, 32]⟩ : ByteArray) ++ a1) ++ (⟨#[10]⟩ : ByteArray)).toList then ((camshaftlaw05_known.f kj6).bind fun t243 => (some t243)) else (some false)) else (none)) else (none))) else (if t240 = 0 then ((camshaftlaw05_known.f kj6).bind fun t244 => (some t244)) else (some false))) else (some false)) else (some false)) = some r := H
              have A21 := Aside0.mk A210
              clear A210
              by_cases c22 : t238 = a0
              · rw [if_pos c22] at H
                have c22b0 : (t238 == a0) = true := beq_iff_eq.mpr c22
                have c22b1 : (t238 != a0) = false := bne_eq_false_iff_eq.mpr c22
                clear c22
                by_cases c23 : t239 = 0
                · rw [if_pos c23] at H
                  have c23b0 : (t239 == 0) = true := beq_iff_eq.mpr c23
                  have c23b1 : (t239 != 0) = false := bne_eq_false_iff_eq.mpr c23
                  clear c23
                  by_cases c24 : t241 = 0
                  · rw [if_pos c24] at H
                    have c24b0 : (t241 == 0) = true := beq_iff_eq.mpr c24
                    have c24b1 : (t241 != 0) = false := bne_eq_false_iff_eq.mpr c24
                    clear c24
                    replace H := Option.bind_eq_some_iff.mp H
                    obtain ⟨t242, A250, H⟩ := H
                    replace H : (if 5 + a1.size ≤ 9223372036854775807 then (if ((⟨#[80, 85, 83, 72, 32]⟩ : ByteArray) ++ a1).size + 1 ≤ 9223372036854775807 then (if t242.toList = (((⟨#[80, 85, 83, 72, 32]⟩ : ByteArray) ++ a1) ++ (⟨#[10]⟩ : ByteArray)).toList then ((camshaftlaw05_known.f kj6).bind fun t243 => (some t243)) else (some false)) else (none)) else (none)) = some r := H
                    have A25 := Aside0.mk A250
                    clear A250
                    by_cases c26 : 5 + a1.size ≤ 9223372036854775807
                    · rw [if_pos c26] at H
                      have c26b0 := eq_true c26
                      have c26b1 : decide (5 + a1.size ≤ 9223372036854775807) = true := decide_eq_true c26
                      try have c26b2 : (9223372036854775807 < 5 + a1.size) = False := eq_false (Nat.not_lt.2 c26)
                      by_cases c27 : ((⟨#[80, 85, 83, 72, 32]⟩ : ByteArray) ++ a1).size + 1 ≤ 9223372036854775807
                      · rw [if_pos c27] at H
                        have c27b0 := eq_true c27
                        have c27b1 : decide (((⟨#[80, 85, 83, 72, 32]⟩ : ByteArray) ++ a1).size + 1 ≤ 9223372036854775807) = true := decide_eq_true c27
                        try have c27b2 : (9223372036854775807 < ((⟨#[80, 85, 83, 72, 32]⟩ : ByteArray) ++ a1).size + 1) = False := eq_false (Nat.not_lt.2 c27)
                        have c27y : 5 + a1.size + 1 ≤ 9223372036854775807 := by have h := c27; rw [ByteArray.size_append] at h; exact h
                        have c27z : decide (5 + a1.size + 1 ≤ 9223372036854775807) = true := decide_eq_true c27y
                        by_cases c28 : t242.toList = (((⟨#[80, 85, 83, 72, 32]⟩ : ByteArray) ++ a1) ++ (⟨#[10]⟩ : ByteArray)).toList
                        · rw [if_pos c28] at H
                          have c28b0 : (t242.toList == (((⟨#[80, 85, 83, 72, 32]⟩ : ByteArray) ++ a1) ++ (⟨#[10]⟩ : ByteArray)).toList) = true := beq_iff_eq.mpr c28
                          have c28b1 : (t242.toList != (((⟨#[80, 85, 83, 72, 32]⟩ : ByteArray) ++ a1) ++ (⟨#[10]⟩ : ByteArray)).toList) = false := bne_eq_false_iff_eq.mpr c28
                          clear c28
                          replace H := Option.bind_eq_some_iff.mp H
                          obtain ⟨t243, A290, H⟩ := H
                          replace H : (some t243) = some r := H
                          have A29 := Aside0.mk A290
                          clear A290
                          obtain rfl := Option.some.inj H
                          go_wp2_with (first | ((with_reducible refine gate_callee (f := 17) rfl ?_); refine goesL_ (some 39) rfl rfl Try.func17 (by kernel_rfl) rfl #[.string (t237.extract 5 ((wrap64 ((t237.size : Int) - 1)) : Int).toNat)] rfl (by (try simp only [List.map_toArray, List.map_cons, List.map_nil]); first | done | rfl | (simp only [List.length_drop, List.length_take]; rfl)) ?_; (with_reducible refine (text_Number.calls (t237.extract 5 ((wrap64 ((t237.size : Int) - 1)) : Int).toNat) t238 t239 _ A20.out).mono ?_); rintro e w30 ⟨rfl, hb⟩; refine ⟨_, rfl, ?_⟩; have n0_ := Aside0.mk (below_step (by repeat (first | (with_reducible first | exact HB.out | apply below_alloc | apply pw_below_drewN | apply below_drew1) | exact HB.out)) hb); clear HB; have HB := n0_; clear n0_; (try clear hb); (try clear hb2); (try clear hk); (try clear hi)) | ((with_reducible refine gate_callee (f := 17) rfl ?_); refine goesL_ (some 44) rfl rfl Try.func17 (by kernel_rfl) rfl #[.string a1] rfl (by (try simp only [List.map_toArray, List.map_cons, List.map_nil]); first | done | rfl | (simp only [List.length_drop, List.length_take]; rfl)) ?_; (with_reducible refine (text_Number.calls a1 t240 t241 _ A21.out).mono ?_); rintro e w31 ⟨rfl, hb⟩; refine ⟨_, rfl, ?_⟩; have n0_ := Aside0.mk (below_step (by repeat (first | (with_reducible first | exact HB.out | apply below_alloc | apply pw_below_drewN | apply below_drew1) | exact HB.out)) hb); clear HB; have HB := n0_; clear n0_; (try clear hb); (try clear hb2); (try clear hk); (try clear hi)) | (go_at_call 11; (with_reducible refine (text_Line.calls 1 t240 0 t242 _ A25.out).mono ?_); rintro e w32 ⟨rfl, hb⟩; have n0_ := Aside0.mk (below_step (by repeat (first | (with_reducible first | exact HB.out | apply below_alloc | apply pw_below_drewN | apply below_drew1) | exact HB.out)) hb); clear HB; have HB := n0_; clear n0_; (try clear hb); (try clear hb2); (try clear hk); (try clear hi)) | (go_at_call 10; (with_reducible refine (camshaftlaw05_known.calls kj6  t243 _ A29.out).mono ?_); rintro e w33 ⟨rfl, hb⟩; have n0_ := Aside0.mk (below_step (by repeat (first | (with_reducible first | exact HB.out | apply below_alloc | apply pw_below_drewN | apply below_drew1) | exact HB.out)) hb); clear HB; have HB := n0_; clear n0_; (try clear hb); (try clear hb2); (try clear hk); (try clear hi)))
                          go_ret
                          exact ⟨by first | rfl | (rw [bne_nil_eq]; rfl) | (simp [bne_nil_eq]; done) | (simp [errW_none, errW_some] <;> rfl) | (simp [*, errW_none, errW_some] <;> rfl), by repeat (first | (with_reducible first | exact HB.out | apply below_alloc | apply pw_below_drewN | apply below_drew1) | exact HB.out | exact Below.refl _ _)⟩
                        · rw [if_neg c28] at H
                          have c28b0 : (t242.toList == (((⟨#[80, 85, 83, 72, 32]⟩ : ByteArray) ++ a1) ++ (⟨#[10]⟩ : ByteArray)).toList) = false := beq_eq_false_iff_ne.mpr c28
                          have c28b1 : (t242.toList != (((⟨#[80, 85, 83, 72, 32]⟩ : ByteArray) ++ a1) ++ (⟨#[10]⟩ : ByteArray)).toList) = true := bne_iff_ne.mpr c28
                          exact absurd ((Option.some.inj H).trans HT.out) (by decide)
                      · rw [if_neg c27] at H
                        exact absurd H (by simp)
                    · rw [if_neg c26] at H
                      exact absurd H (by simp)
                  · rw [if_neg c24] at H
                    have c24b0 : (t241 == 0) = false := beq_eq_false_iff_ne.mpr c24
                    have c24b1 : (t241 != 0) = true := bne_iff_ne.mpr c24
                    by_cases c34 : t240 = 0
                    · rw [if_pos c34] at H
                      have c34b0 : (t240 == 0) = true := beq_iff_eq.mpr c34
                      have c34b1 : (t240 != 0) = false := bne_eq_false_iff_eq.mpr c34
                      clear c34
                      replace H := Option.bind_eq_some_iff.mp H
                      obtain ⟨t244, A350, H⟩ := H
                      replace H : (some t244) = some r := H
                      have A35 := Aside0.mk A350
                      clear A350
                      obtain rfl := Option.some.inj H
                      go_wp2_with (first | ((with_reducible refine gate_callee (f := 17) rfl ?_); refine goesL_ (some 39) rfl rfl Try.func17 (by kernel_rfl) rfl #[.string (t237.extract 5 ((wrap64 ((t237.size : Int) - 1)) : Int).toNat)] rfl (by (try simp only [List.map_toArray, List.map_cons, List.map_nil]); first | done | rfl | (simp only [List.length_drop, List.length_take]; rfl)) ?_; (with_reducible refine (text_Number.calls (t237.extract 5 ((wrap64 ((t237.size : Int) - 1)) : Int).toNat) t238 t239 _ A20.out).mono ?_); rintro e w36 ⟨rfl, hb⟩; refine ⟨_, rfl, ?_⟩; have n0_ := Aside0.mk (below_step (by repeat (first | (with_reducible first | exact HB.out | apply below_alloc | apply pw_below_drewN | apply below_drew1) | exact HB.out)) hb); clear HB; have HB := n0_; clear n0_; (try clear hb); (try clear hb2); (try clear hk); (try clear hi)) | ((with_reducible refine gate_callee (f := 17) rfl ?_); refine goesL_ (some 44) rfl rfl Try.func17 (by kernel_rfl) rfl #[.string a1] rfl (by (try simp only [List.map_toArray, List.map_cons, List.map_nil]); first | done | rfl | (simp only [List.length_drop, List.length_take]; rfl)) ?_; (with_reducible refine (text_Number.calls a1 t240 t241 _ A21.out).mono ?_); rintro e w37 ⟨rfl, hb⟩; refine ⟨_, rfl, ?_⟩; have n0_ := Aside0.mk (below_step (by repeat (first | (with_reducible first | exact HB.out | apply below_alloc | apply pw_below_drewN | apply below_drew1) | exact HB.out)) hb); clear HB; have HB := n0_; clear n0_; (try clear hb); (try clear hb2); (try clear hk); (try clear hi)) | (go_at_call 10; (with_reducible refine (camshaftlaw05_known.calls kj6  t244 _ A35.out).mono ?_); rintro e w38 ⟨rfl, hb⟩; have n0_ := Aside0.mk (below_step (by repeat (first | (with_reducible first | exact HB.out | apply below_alloc | apply pw_below_drewN | apply below_drew1) | exact HB.out)) hb); clear HB; have HB := n0_; clear n0_; (try clear hb); (try clear hb2); (try clear hk); (try clear hi)))
                      go_ret
                      exact ⟨by first | rfl | (rw [bne_nil_eq]; rfl) | (simp [bne_nil_eq]; done) | (simp [errW_none, errW_some] <;> rfl) | (simp [*, errW_none, errW_some] <;> rfl), by repeat (first | (with_reducible first | exact HB.out | apply below_alloc | apply pw_below_drewN | apply below_drew1) | exact HB.out | exact Below.refl _ _)⟩
                    · rw [if_neg c34] at H
                      have c34b0 : (t240 == 0) = false := beq_eq_false_iff_ne.mpr c34
                      have c34b1 : (t240 != 0) = true := bne_iff_ne.mpr c34
                      exact absurd ((Option.some.inj H).trans HT.out) (by decide)
                · rw [if_neg c23] at H
                  have c23b0 : (t239 == 0) = false := beq_eq_false_iff_ne.mpr c23
                  have c23b1 : (t239 != 0) = true := bne_iff_ne.mpr c23
                  exact absurd ((Option.some.inj H).trans HT.out) (by decide)
              · rw [if_neg c22] at H
                have c22b0 : (t238 == a0) = false := beq_eq_false_iff_ne.mpr c22
                have c22b1 : (t238 != a0) = true := bne_iff_ne.mpr c22
                exact absurd ((Option.some.inj H).trans HT.out) (by decide)
            · rw [if_neg c19] at H
              exact absurd H (by simp)
          · rw [if_neg c18] at H
            exact absurd H (by simp)

/-- THE ONE PURE STATEMENT of camshaftlaw05_TextNumbers: yours. -/
def camshaftlaw05_TextNumbers.Pure : Prop := ∀ (a0 : Int) (a1 : ByteArray), (Lit.int .i64 a0).wf = true → a1.size ≤ 140737488351232 → ∃ k, camshaftlaw05_TextNumbers.f k a0 a1 = some true
theorem camshaftlaw05_TextNumbers.walk (P : camshaftlaw05_TextNumbers.Pure) (a0 : Int) (a1 : ByteArray) (w : World) (w0 : (Lit.int .i64 a0).wf = true) (w1 : a1.size ≤ 140737488351232) :
    Calls Try.prog 6 #[.int .i64 a0, .string a1] w fun e w' => e = .returned (.bool true) ∧ Below w.heap.size w w' := by
  obtain ⟨k, h⟩ := P a0 a1 w0 w1
  refine (camshaftlaw05_TextNumbers.calls k a0 a1 true w h rfl).mono ?_
  rintro e w' ⟨rfl, hd⟩
  exact ⟨rfl, hd⟩

end Go.Proofs.Ytldbochclabmjaa.P
