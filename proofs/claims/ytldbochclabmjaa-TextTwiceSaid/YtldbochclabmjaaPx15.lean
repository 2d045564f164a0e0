-- Written by a program of this session (wip/tools: patched print) for this claim. Not trusted: Lean checks it.
import Derived.Test.YtldbochclabmjaaPx0
import Derived.Test.YtldbochclabmjaaPx2
namespace Go.Proofs.Ytldbochclabmjaa.P
open Go.RowKit Go.Proofs.Ytldbochclabmjaa.C Go.Proofs.YtldbochclabmjaaW.PrintWords Go.Proofs.YtldbochclabmjaaW.PrintLast Go.Proofs.YtldbochclabmjaaW.PrintMore
attribute [local go_sem] max2_int min2_int max_two min_two max_three min_three max_four min_four   -- for this text's walks alone
set_option linter.unusedVariables false
set_option linter.unusedSimpArgs false

/-! ### camshaftlaw05_TextTwice: function 8 -/
def camshaftlaw05_TextTwice.f (k : Nat) (a0 : ByteArray) : Option (Bool) := if (a0.size : Int) > 2500 then ((camshaftlaw05_known.f k).bind fun t281 => (some t281)) else ((text_Parse.f a0).bind fun bt282 => (if a0.size + 5 ≤ 9223372036854775807 then ((text_Parse.f (a0 ++ (⟨#[78, 79, 78, 69, 10]⟩ : ByteArray))).bind fun bt286 => (if bt282.2 = 0 then ((text_Show.f k bt282.1).bind fun t291 => ((text_Parse.f t291).bind fun bt292 => (if bt292.2 = 0 then ((camshaftref04_Same.f k bt282.1 bt292.1).bind fun t296 => (if t296 = true then (if bt286.2 = 0 then (some false) else ((camshaftlaw05_known.f k).bind fun t297 => (some t297))) else (some false))) else (some false)))) else (if (bt282.1.length : Int) = 0 then (if bt286.2 = 0 then (some false) else ((camshaftlaw05_known.f k).bind fun t290 => (some t290))) else (some false)))) else (none)))
theorem camshaftlaw05_TextTwice.mono : ∀ a0 k, LeO (camshaftlaw05_TextTwice.f k a0) (camshaftlaw05_TextTwice.f (k + 1) a0) := by
  intro a0 k
  unfold camshaftlaw05_TextTwice.f
  repeat' first
      | (with_reducible exact camshaftlaw05_known.mono _)
      | (with_reducible exact camshaftref04_Same.mono _ _ _)
      | (with_reducible exact text_Show.mono _ _)
      | (with_reducible exact LeO.refl _)
      | (with_reducible exact LeO.none _)
      | (with_reducible refine LeO.ite ?_ ?_)
      | (with_reducible refine LeO.bind ?_ (fun _ => ?_))
      | exact camshaftlaw05_known.mono _
      | exact camshaftref04_Same.mono _ _ _
      | exact text_Show.mono _ _
      | exact LeO.none _
      | refine LeO.ite ?_ ?_
      | refine LeO.bind ?_ (fun _ => ?_)
set_option maxHeartbeats 8000000 in
set_option maxRecDepth 100000 in
theorem camshaftlaw05_TextTwice.calls (k : Nat) (a0 : ByteArray) (r : Bool) (w : World) (h : camshaftlaw05_TextTwice.f k a0 = some r) (ht : r = true) :
    Calls Try.prog 8 #[.string a0] w fun e w' => e = .returned (.bool r) ∧ Below w.heap.size w w' := by
  have HT := Aside0.mk ht
  clear ht
  have HB := Aside0.mk (Below.refl w.heap.size w)
  have H : (if (a0.size : Int) > 2500 then ((camshaftlaw05_known.f k).bind fun t281 => (some t281)) else ((text_Parse.f a0).bind fun bt282 => (if a0.size + 5 ≤ 9223372036854775807 then ((text_Parse.f (a0 ++ (⟨#[78, 79, 78, 69, 10]⟩ : ByteArray))).bind fun bt286 => (if bt282.2 = 0 then ((text_Show.f k bt282.1).bind fun t291 => ((text_Parse.f t291).bind fun bt292 => (if bt292.2 = 0 then ((camshaftref04_Same.f k bt282.1 bt292.1).bind fun t296 => (if t296 = true then (if bt286.2 = 0 then (some false) else ((camshaftlaw05_known.f k).bind fun t297 => (some t297))) else (some false))) else (some false)))) else (if (bt282.1.length : Int) = 0 then (if bt286.2 = 0 then (some false) else ((camshaftlaw05_known.f k).bind fun t290 => (some t290))) else (some false)))) else (none)))) = some r := h
  clear h
  by_cases c2 : (a0.size : Int) > 2500
  · rw [if_pos c2] at H
    have c2b0 : decide (2500 < (a0.size : Int)) = true := decide_eq_true c2
    have c2b1 : decide (2500 < a0.size) = true := decide_eq_true (by omega)
    clear c2
    replace H := Option.bind_eq_some_iff.mp H
    obtain ⟨t281, A30, H⟩ := H
    replace H : (some t281) = some r := H
    have A3 := Aside0.mk A30
    clear A30
    obtain rfl := Option.some.inj H
    go_enter Try.func8, Try.ntmps8
    go_wp2_with (first | ((with_reducible refine gate_callee (f := 10) rfl ?_); refine goesL_ (some 12) rfl rfl Try.func10 (by kernel_rfl) rfl #[] rfl (by (try simp only [List.map_toArray, List.map_cons, List.map_nil]); first | done | rfl | (simp only [List.length_drop, List.length_take]; rfl)) ?_; (with_reducible refine (camshaftlaw05_known.calls k  t281 _ A3.out).mono ?_); rintro e w4 ⟨rfl, hb⟩; refine ⟨_, rfl, ?_⟩; have n0_ := Aside0.mk (below_step (by repeat (first | (with_reducible first | exact HB.out | apply below_alloc | apply pw_below_drewN | apply below_drew1) | exact HB.out)) hb); clear HB; have HB := n0_; clear n0_; (try clear hb); (try clear hb2); (try clear hk); (try clear hi)))
    go_ret
    exact ⟨by first | rfl | (simp [errW_none, errW_some] <;> rfl) | (simp [*, errW_none, errW_some] <;> rfl), by repeat (first | (with_reducible first | exact HB.out | apply below_alloc | apply pw_below_drewN | apply below_drew1) | exact HB.out | exact Below.refl _ _)⟩
  · rw [if_neg c2] at H
    have c2b0 : decide (2500 < (a0.size : Int)) = false := decide_eq_false c2
    have c2b1 : decide (2500 < a0.size) = false := decide_eq_false (by omega)
    clear c2
    replace H := Option.bind_eq_some_iff.mp H
    obtain ⟨⟨t282, t283⟩, A50, H⟩ := H
    replace H : (if a0.size + 5 ≤ 9223372036854775807 then ((text_Parse.f (a0 ++ (⟨#[78, 79, 78, 69, 10]⟩ : ByteArray))).bind fun bt286 => (if t283 = 0 then ((text_Show.f k t282).bind fun t291 => ((text_Parse.f t291).bind fun bt292 => (if bt292.2 = 0 then ((camshaftref04_Same.f k t282 bt292.1).bind fun t296 => (if t296 = true then (if bt286.2 = 0 then (some false) else ((camshaftlaw05_known.f k).bind fun t297 => (some t297))) else (some false))) else (some false)))) else (if (t282.length : Int) = 0 then (if bt286.2 = 0 then (some false) else ((camshaftlaw05_known.f k).bind fun t290 => (some t290))) else (some false)))) else (none)) = some r := H
    have A5 := Aside0.mk A50
    clear A50
    by_cases c6 : a0.size + 5 ≤ 9223372036854775807
    · rw [if_pos c6] at H
      have c6b0 := eq_true c6
      have c6b1 : decide (a0.size + 5 ≤ 9223372036854775807) = true := decide_eq_true c6
      try have c6b2 : (9223372036854775807 < a0.size + 5) = False := eq_false (Nat.not_lt.2 c6)
      replace H := Option.bind_eq_some_iff.mp H
      obtain ⟨⟨t286, t287⟩, A70, H⟩ := H
      replace H : (if t283 = 0 then ((text_Show.f k t282).bind fun t291 => ((text_Parse.f t291).bind fun bt292 => (if bt292.2 = 0 then ((camshaftref04_Same.f k t282 bt292.1).bind fun t296 => (if t296 = true then (if t287 = 0 then (some false) else ((camshaftlaw05_known.f k).bind fun t297 => (some t297))) else (some false))) else (some false)))) else (if (t282.length : Int) = 0 then (if t287 = 0 then (some false) else ((camshaftlaw05_known.f k).bind fun t290 => (some t290))) else (some false))) = some r := H
      have A7 := Aside0.mk A70
      clear A70
      by_cases c8 : t283 = 0
      · rw [if_pos c8] at H
        have c8b0 : (t283 == 0) = true := beq_iff_eq.mpr c8
        have c8b1 : (t283 != 0) = false := bne_eq_false_iff_eq.mpr c8
        clear c8
        replace H := Option.bind_eq_some_iff.mp H
        obtain ⟨t291, A90, H⟩ := H
        replace H : ((text_Parse.f t291).bind fun bt292 => (if bt292.2 = 0 then ((camshaftref04_Same.f k t282 bt292.1).bind fun t296 => (if t296 = true then (if t287 = 0 then (some false) else ((camshaftlaw05_known.f k).bind fun t297 => (some t297))) else (some false))) else (some false))) = some r := H
        have A9 := Aside0.mk A90
        clear A90
        replace H := Option.bind_eq_some_iff.mp H
        obtain ⟨⟨t292, t293⟩, A100, H⟩ := H
        replace H : (if t293 = 0 then ((camshaftref04_Same.f k t282 t292).bind fun t296 => (if t296 = true then (if t287 = 0 then (some false) else ((camshaftlaw05_known.f k).bind fun t297 => (some t297))) else (some false))) else (some false)) = some r := H
        have A10 := Aside0.mk A100
        clear A100
        by_cases c11 : t293 = 0
        · rw [if_pos c11] at H
          have c11b0 : (t293 == 0) = true := beq_iff_eq.mpr c11
          have c11b1 : (t293 != 0) = false := bne_eq_false_iff_eq.mpr c11
          clear c11
          replace H := Option.bind_eq_some_iff.mp H
          obtain ⟨t296, A120, H⟩ := H
          replace H : (if t296 = true then (if t287 = 0 then (some false) else ((camshaftlaw05_known.f k).bind fun t297 => (some t297))) else (some false)) = some r := H
          have A12 := Aside0.mk A120
          clear A120
          by_cases c13 : t296 = true
          · subst c13
            have H1 : (if t287 = 0 then (some false) else ((camshaftlaw05_known.f k).bind fun t297 => (some t297))) = some r := by rw [if_pos rfl] at H; exact H
            clear H
            have H := H1
            clear H1
            by_cases c14 : t287 = 0
            · rw [if_pos c14] at H
              have c14b0 : (t287 == 0) = true := beq_iff_eq.mpr c14
              have c14b1 : (t287 != 0) = false := bne_eq_false_iff_eq.mpr c14
              clear c14
              exact absurd ((Option.some.inj H).trans HT.out) (by decide)
            · rw [if_neg c14] at H
              have c14b0 : (t287 == 0) = false := beq_eq_false_iff_ne.mpr c14
              have c14b1 : (t287 != 0) = true := bne_iff_ne.mpr c14
              replace H := Option.bind_eq_some_iff.mp H
              obtain ⟨t297, A150, H⟩ := H
              replace H : (some t297) = some r := H
              have A15 := Aside0.mk A150
              clear A150
              obtain rfl := Option.some.inj H
              go_enter Try.func8, Try.ntmps8
              go_wp2_with (first | ((with_reducible refine gate_callee (f := 15) rfl ?_); refine goesL_ (some 15) rfl rfl Try.func15 (by kernel_rfl) rfl #[.string a0] rfl (by (try simp only [List.map_toArray, List.map_cons, List.map_nil]); first | done | rfl | (simp only [List.length_drop, List.length_take]; rfl)) ?_; (with_reducible refine (text_Parse.calls a0 t282 t283 _ A5.out).mono ?_); rintro e w16 ⟨v284, rfl, ho0, hb⟩; refine ⟨_, rfl, ?_⟩; have n0_ := Aside0.mk (Kd.R_lower ho0 (below_size (by repeat (first | (with_reducible first | exact HB.out | apply below_alloc | apply pw_below_drewN | apply below_drew1) | exact HB.out)))); have n1_ := Aside0.mk (below_step (by repeat (first | (with_reducible first | exact HB.out | apply below_alloc | apply pw_below_drewN | apply below_drew1) | exact HB.out)) hb); clear HB; have HO285 := n0_; have HB := n1_; clear n0_ n1_; (try clear hb); (try clear hb2); (try clear hk); (try clear hi); (try clear ho0)) | ((with_reducible refine gate_callee (f := 15) rfl ?_); refine goesL_ (some 21) rfl rfl Try.func15 (by kernel_rfl) rfl #[.string (a0 ++ (⟨#[78, 79, 78, 69, 10]⟩ : ByteArray))] rfl (by (try simp only [List.map_toArray, List.map_cons, List.map_nil]); first | done | rfl | (simp only [List.length_drop, List.length_take]; rfl)) ?_; (with_reducible refine (text_Parse.calls (a0 ++ (⟨#[78, 79, 78, 69, 10]⟩ : ByteArray)) t286 t287 _ A7.out).mono ?_); rintro e w17 ⟨v288, rfl, ho0, hb⟩; refine ⟨_, rfl, ?_⟩; have n0_ := Aside0.mk (Kd.R_elder' (by (with_reducible repeat (first | apply Kd.R_alloc | apply Kd.R_drewN | apply Kd.R_drew)); exact HO285.out) (Kd.R_base ho0) hb); have n1_ := Aside0.mk (Kd.R_lower (Kd.R_new' ho0 (Kd.R_lt (by (with_reducible repeat (first | apply Kd.R_alloc | apply Kd.R_drewN | apply Kd.R_drew)); exact HO285.out))) (below_size (by repeat (first | (with_reducible first | exact HB.out | apply below_alloc | apply pw_below_drewN | apply below_drew1) | exact HB.out)))); have n2_ := Aside0.mk (below_step (by repeat (first | (with_reducible first | exact HB.out | apply below_alloc | apply pw_below_drewN | apply below_drew1) | exact HB.out)) hb); clear HO285; clear HB; have HO285 := n0_; have HO289 := n1_; have HB := n2_; clear n0_ n1_ n2_; (try clear hb); (try clear hb2); (try clear hk); (try clear hi); (try clear ho0); obtain ⟨Ao18, co18, eo18⟩ := Kd.R_slice HO285.out; subst eo18) | ((with_reducible refine gate_callee (f := 13) rfl ?_); refine goesL_ (some 38) rfl rfl Try.func13 (by kernel_rfl) rfl #[.slice Ao18 t282.length co18] rfl (by (try simp only [List.map_toArray, List.map_cons, List.map_nil]); first | done | rfl | (simp only [List.length_drop, List.length_take]; rfl)) ?_; (with_reducible refine (text_Show.calls k _ _ t282 t291 _ ?side1 ?side2 A9.out).mono ?_); (case side1 => repeat (first | exact (Kd.R_reads' HO285.out).2.2 | (with_reducible refine Kd.C_alloc ?_ _) | (with_reducible refine Kd.C_drewN ?_ _) | (with_reducible refine Kd.C_drew ?_))); (case side2 => exact (Kd.R_reads' HO285.out).2.1); rintro e w19 ⟨rfl, hb⟩; refine ⟨_, rfl, ?_⟩; have n0_ := Aside0.mk (Kd.R_below (by (with_reducible repeat (first | apply Kd.R_alloc | apply Kd.R_drewN | apply Kd.R_drew)); exact HO285.out) hb); have n1_ := Aside0.mk (Kd.R_below (by (with_reducible repeat (first | apply Kd.R_alloc | apply Kd.R_drewN | apply Kd.R_drew)); exact HO289.out) hb); have n2_ := Aside0.mk (below_step (by repeat (first | (with_reducible first | exact HB.out | apply below_alloc | apply pw_below_drewN | apply below_drew1) | exact HB.out)) hb); clear HO285; clear HO289; clear HB; have HO285 := n0_; have HO289 := n1_; have HB := n2_; clear n0_ n1_ n2_; (try clear hb); (try clear hb2); (try clear hk); (try clear hi)) | ((with_reducible refine gate_callee (f := 15) rfl ?_); refine goesL_ (some 39) rfl rfl Try.func15 (by kernel_rfl) rfl #[.string t291] rfl (by (try simp only [List.map_toArray, List.map_cons, List.map_nil]); first | done | rfl | (simp only [List.length_drop, List.length_take]; rfl)) ?_; (with_reducible refine (text_Parse.calls t291 t292 t293 _ A10.out).mono ?_); rintro e w20 ⟨v294, rfl, ho0, hb⟩; refine ⟨_, rfl, ?_⟩; have n0_ := Aside0.mk (Kd.R_elder' (by (with_reducible repeat (first | apply Kd.R_alloc | apply Kd.R_drewN | apply Kd.R_drew)); exact HO285.out) (Kd.R_base ho0) hb); have n1_ := Aside0.mk (Kd.R_elder' (by (with_reducible repeat (first | apply Kd.R_alloc | apply Kd.R_drewN | apply Kd.R_drew)); exact HO289.out) (Kd.R_base ho0) hb); have n2_ := Aside0.mk (Kd.R_lower (Kd.R_new' (Kd.R_new' ho0 (Kd.R_lt (by (with_reducible repeat (first | apply Kd.R_alloc | apply Kd.R_drewN | apply Kd.R_drew)); exact HO285.out))) (Kd.R_lt (by (with_reducible repeat (first | apply Kd.R_alloc | apply Kd.R_drewN | apply Kd.R_drew)); exact HO289.out))) (below_size (by repeat (first | (with_reducible first | exact HB.out | apply below_alloc | apply pw_below_drewN | apply below_drew1) | exact HB.out)))); have n3_ := Aside0.mk (below_step (by repeat (first | (with_reducible first | exact HB.out | apply below_alloc | apply pw_below_drewN | apply below_drew1) | exact HB.out)) hb); clear HO285; clear HO289; clear HB; have HO285 := n0_; have HO289 := n1_; have HO295 := n2_; have HB := n3_; clear n0_ n1_ n2_ n3_; (try clear hb); (try clear hb2); (try clear hk); (try clear hi); (try clear ho0); obtain ⟨Ao21, co21, eo21⟩ := Kd.R_slice HO295.out; subst eo21) | ((with_reducible refine gate_callee (f := 19) rfl ?_); (with_reducible refine gate_dst (N := 47) rfl ?_); (refine gate_guard (by rfl) ?_; dsimp only); refine goesL_ (some 47) rfl rfl Try.func19 (by kernel_rfl) rfl #[.slice Ao18 t282.length co18, .slice Ao21 t292.length co21] rfl (by (try simp only [List.map_toArray, List.map_cons, List.map_nil]); first | done | rfl | (simp only [List.length_drop, List.length_take]; rfl)) ?_; (with_reducible refine (camshaftref04_Same.calls k _ _ t282 _ _ t292 true _ ?side1 ?side2 ?side3 ?side4 A12.out).mono ?_); (case side1 => repeat (first | exact (Kd.R_reads' HO285.out).2.2 | (with_reducible refine Kd.C_alloc ?_ _) | (with_reducible refine Kd.C_drewN ?_ _) | (with_reducible refine Kd.C_drew ?_))); (case side2 => exact (Kd.R_reads' HO285.out).2.1); (case side3 => repeat (first | exact (Kd.R_reads' HO295.out).2.2 | (with_reducible refine Kd.C_alloc ?_ _) | (with_reducible refine Kd.C_drewN ?_ _) | (with_reducible refine Kd.C_drew ?_))); (case side4 => exact (Kd.R_reads' HO295.out).2.1); rintro e w' ⟨rfl, ⟨nd, rfl⟩⟩; refine ⟨_, rfl, ?_⟩) | ((with_reducible refine gate_callee (f := 10) rfl ?_); (with_reducible refine gate_dst (N := 54) rfl ?_); (refine gate_guard (by rfl) ?_; dsimp only); refine goesL_ (some 54) rfl rfl Try.func10 (by kernel_rfl) rfl #[] rfl (by (try simp only [List.map_toArray, List.map_cons, List.map_nil]); first | done | rfl | (simp only [List.length_drop, List.length_take]; rfl)) ?_; (with_reducible refine (camshaftlaw05_known.calls k  t297 _ A15.out).mono ?_); rintro e w22 ⟨rfl, hb⟩; refine ⟨_, rfl, ?_⟩; have n0_ := Aside0.mk (Kd.R_below (by (with_reducible repeat (first | apply Kd.R_alloc | apply Kd.R_drewN | apply Kd.R_drew)); exact HO285.out) hb); have n1_ := Aside0.mk (Kd.R_below (by (with_reducible repeat (first | apply Kd.R_alloc | apply Kd.R_drewN | apply Kd.R_drew)); exact HO289.out) hb); have n2_ := Aside0.mk (Kd.R_below (by (with_reducible repeat (first | apply Kd.R_alloc | apply Kd.R_drewN | apply Kd.R_drew)); exact HO295.out) hb); have n3_ := Aside0.mk (below_step (by repeat (first | (with_reducible first | exact HB.out | apply below_alloc | apply pw_below_drewN | apply below_drew1) | exact HB.out)) hb); clear HO285; clear HO289; clear HO295; clear HB; have HO285 := n0_; have HO289 := n1_; have HO295 := n2_; have HB := n3_; clear n0_ n1_ n2_ n3_; (try clear hb); (try clear hb2); (try clear hk); (try clear hi)))
              go_ret
              exact ⟨by first | rfl | (simp [errW_none, errW_some] <;> rfl) | (simp [*, errW_none, errW_some] <;> rfl), by repeat (first | (with_reducible first | exact HB.out | apply below_alloc | apply pw_below_drewN | apply below_drew1) | exact HB.out | exact Below.refl _ _)⟩
          · replace c13 := Bool.eq_false_iff.mpr c13
            subst c13
            have H1 : (some false) = some r := by rw [if_neg (show ¬ (false = true) by decide)] at H; exact H
            clear H
            have H := H1
            clear H1
            exact absurd ((Option.some.inj H).trans HT.out) (by decide)
        · rw [if_neg c11] at H
          have c11b0 : (t293 == 0) = false := beq_eq_false_iff_ne.mpr c11
          have c11b1 : (t293 != 0) = true := bne_iff_ne.mpr c11
          exact absurd ((Option.some.inj H).trans HT.out) (by decide)
      · rw [if_neg c8] at H
        have c8b0 : (t283 == 0) = false := beq_eq_false_iff_ne.mpr c8
        have c8b1 : (t283 != 0) = true := bne_iff_ne.mpr c8
        by_cases c23 : (t282.length : Int) = 0
        · rw [if_pos c23] at H
          have c23b0 : ((t282.length : Int) == 0) = true := beq_iff_eq.mpr c23
          have c23b1 : ((t282.length : Int) != 0) = false := bne_eq_false_iff_eq.mpr c23
          clear c23
          by_cases c24 : t287 = 0
          · rw [if_pos c24] at H
            have c24b0 : (t287 == 0) = true := beq_iff_eq.mpr c24
            have c24b1 : (t287 != 0) = false := bne_eq_false_iff_eq.mpr c24
            clear c24
            exact absurd ((Option.some.inj H).trans HT.out) (by decide)
          · rw [if_neg c24] at H
            have c24b0 : (t287 == 0) = false := beq_eq_false_iff_ne.mpr c24
            have c24b1 : (t287 != 0) = true := bne_iff_ne.mpr c24
            replace H := Option.bind_eq_some_iff.mp H
            obtain ⟨t290, A250, H⟩ := H
            replace H : (some t290) = some r := H
            have A25 := Aside0.mk A250
            clear A250
            obtain rfl := Option.some.inj H
            go_enter Try.func8, Try.ntmps8
            go_wp2_with (first | ((with_reducible refine gate_callee (f := 15) rfl ?_); refine goesL_ (some 15) rfl rfl Try.func15 (by kernel_rfl) rfl #[.string a0] rfl (by (try simp only [List.map_toArray, List.map_cons, List.map_nil]); first | done | rfl | (simp only [List.length_drop, List.length_take]; rfl)) ?_; (with_reducible refine (text_Parse.calls a0 t282 t283 _ A5.out).mono ?_); rintro e w26 ⟨v284, rfl, ho0, hb⟩; refine ⟨_, rfl, ?_⟩; have n0_ := Aside0.mk (Kd.R_lower ho0 (below_size (by repeat (first | (with_reducible first | exact HB.out | apply below_alloc | apply pw_below_drewN | apply below_drew1) | exact HB.out)))); have n1_ := Aside0.mk (below_step (by repeat (first | (with_reducible first | exact HB.out | apply below_alloc | apply pw_below_drewN | apply below_drew1) | exact HB.out)) hb); clear HB; have HO285 := n0_; have HB := n1_; clear n0_ n1_; (try clear hb); (try clear hb2); (try clear hk); (try clear hi); (try clear ho0)) | ((with_reducible refine gate_callee (f := 15) rfl ?_); refine goesL_ (some 21) rfl rfl Try.func15 (by kernel_rfl) rfl #[.string (a0 ++ (⟨#[78, 79, 78, 69, 10]⟩ : ByteArray))] rfl (by (try simp only [List.map_toArray, List.map_cons, List.map_nil]); first | done | rfl | (simp only [List.length_drop, List.length_take]; rfl)) ?_; (with_reducible refine (text_Parse.calls (a0 ++ (⟨#[78, 79, 78, 69, 10]⟩ : ByteArray)) t286 t287 _ A7.out).mono ?_); rintro e w27 ⟨v288, rfl, ho0, hb⟩; refine ⟨_, rfl, ?_⟩; have n0_ := Aside0.mk (Kd.R_elder' (by (with_reducible repeat (first | apply Kd.R_alloc | apply Kd.R_drewN | apply Kd.R_drew)); exact HO285.out) (Kd.R_base ho0) hb); have n1_ := Aside0.mk (Kd.R_lower (Kd.R_new' ho0 (Kd.R_lt (by (with_reducible repeat (first | apply Kd.R_alloc | apply Kd.R_drewN | apply Kd.R_drew)); exact HO285.out))) (below_size (by repeat (first | (with_reducible first | exact HB.out | apply below_alloc | apply pw_below_drewN | apply below_drew1) | exact HB.out)))); have n2_ := Aside0.mk (below_step (by repeat (first | (with_reducible first | exact HB.out | apply below_alloc | apply pw_below_drewN | apply below_drew1) | exact HB.out)) hb); clear HO285; clear HB; have HO285 := n0_; have HO289 := n1_; have HB := n2_; clear n0_ n1_ n2_; (try clear hb); (try clear hb2); (try clear hk); (try clear hi); (try clear ho0); obtain ⟨Ao28, co28, eo28⟩ := Kd.R_slice HO285.out; subst eo28) | ((with_reducible refine gate_callee (f := 10) rfl ?_); (with_reducible refine gate_dst (N := 34) rfl ?_); (refine gate_guard (by rfl) ?_; dsimp only); refine goesL_ (some 34) rfl rfl Try.func10 (by kernel_rfl) rfl #[] rfl (by (try simp only [List.map_toArray, List.map_cons, List.map_nil]); first | done | rfl | (simp only [List.length_drop, List.length_take]; rfl)) ?_; (with_reducible refine (camshaftlaw05_known.calls k  t290 _ A25.out).mono ?_); rintro e w29 ⟨rfl, hb⟩; refine ⟨_, rfl, ?_⟩; have n0_ := Aside0.mk (Kd.R_below (by (with_reducible repeat (first | apply Kd.R_alloc | apply Kd.R_drewN | apply Kd.R_drew)); exact HO285.out) hb); have n1_ := Aside0.mk (Kd.R_below (by (with_reducible repeat (first | apply Kd.R_alloc | apply Kd.R_drewN | apply Kd.R_drew)); exact HO289.out) hb); have n2_ := Aside0.mk (below_step (by repeat (first | (with_reducible first | exact HB.out | apply below_alloc | apply pw_below_drewN | apply below_drew1) | exact HB.out)) hb); clear HO285; clear HO289; clear HB; have HO285 := n0_; have HO289 := n1_; have HB := n2_; clear n0_ n1_ n2_; (try clear hb); (try clear hb2); (try clear hk); (try clear hi)))
            go_ret
            exact ⟨by first | rfl | (simp [errW_none, errW_some] <;> rfl) | (simp [*, errW_none, errW_some] <;> rfl), by repeat (first | (with_reducible first | exact HB.out | apply below_alloc | apply pw_below_drewN | apply below_drew1) | exact HB.out | exact Below.refl _ _)⟩
        · rw [if_neg c23] at H
          have c23b0 : ((t282.length : Int) == 0) = false := beq_eq_false_iff_ne.mpr c23
          have c23b1 : ((t282.length : Int) != 0) = true := bne_iff_ne.mpr c23
          have c23b2 : ¬ (t282 = []) := fun h_ => c23 (by rw [h_]; rfl)
          exact absurd ((Option.some.inj H).trans HT.out) (by decide)
    · rw [if_neg c6] at H
      exact absurd H (by simp)

/-- THE ONE PURE STATEMENT of camshaftlaw05_TextTwice: yours. -/
def camshaftlaw05_TextTwice.Pure : Prop := ∀ (a0 : ByteArray), a0.size ≤ 140737488351232 → ∃ k, camshaftlaw05_TextTwice.f k a0 = some true
theorem camshaftlaw05_TextTwice.walk (P : camshaftlaw05_TextTwice.Pure) (a0 : ByteArray) (w : World) (w0 : a0.size ≤ 140737488351232) :
    Calls Try.prog 8 #[.string a0] w fun e w' => e = .returned (.bool true) ∧ Below w.heap.size w w' := by
  obtain ⟨k, h⟩ := P a0 w0
  refine (camshaftlaw05_TextTwice.calls k a0 true w h rfl).mono ?_
  rintro e w' ⟨rfl, hd⟩
  exact ⟨rfl, hd⟩

end Go.Proofs.Ytldbochclabmjaa.P
