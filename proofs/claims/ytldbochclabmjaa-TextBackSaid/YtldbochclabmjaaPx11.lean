-- Written by a program of this session (wip/tools: patched print) for this claim. Not trusted: Lean checks it.
import Derived.Test.YtldbochclabmjaaPx0
import Derived.Test.YtldbochclabmjaaPx2
namespace Go.Proofs.Ytldbochclabmjaa.P
open Go.RowKit Go.Proofs.Ytldbochclabmjaa.C Go.Proofs.YtldbochclabmjaaW.PrintWords Go.Proofs.YtldbochclabmjaaW.PrintLast Go.Proofs.YtldbochclabmjaaW.PrintMore
attribute [local go_sem] max2_int min2_int max_two min_two max_three min_three max_four min_four   -- for this text's walks alone
set_option linter.unusedVariables false
set_option linter.unusedSimpArgs false

/-! ### camshaftlaw05_TextBack: function 5 -/
mutual
def camshaftlaw05_TextBack.j0 : Nat → List (S24) → ByteArray → Bool → Option (Bool)
  | 0, _, _, _ => none
  | k + 1, x0, x1, x17 => if x17 = true then ((camshaftlaw05_known.f k).bind fun t220 => (some t220)) else ((text_Show.f k x0).bind fun t221 => ((text_Parse.f t221).bind fun bt222 => ((text_Parse.f x1).bind fun bt226 => (if bt226.2 = 0 then ((text_Show.f k bt226.1).bind fun t230 => (if t230.toList = x1.toList then (camshaftlaw05_TextBack.j1 k x0 t221 bt222.1 bt222.2 false) else (camshaftlaw05_TextBack.j1 k x0 t221 bt222.1 bt222.2 true))) else (camshaftlaw05_TextBack.j1 k x0 t221 bt222.1 bt222.2 ((bt226.1.length : Int) != 0))))))
def camshaftlaw05_TextBack.j1 : Nat → List (S24) → ByteArray → List (S24) → Int → Bool → Option (Bool)
  | 0, _, _, _, _, _ => none
  | k + 1, x0, x5, x6, x7, x47 => if x47 = true then (some false) else (if x7 = 0 then (if x5.toList = ([] : List UInt8) then (if (x6.length : Int) = 0 then ((camshaftlaw05_known.f k).bind fun t231 => (some t231)) else ((camshaftref04_Same.f k x6 x0).bind fun t232 => (if t232 = true then ((camshaftlaw05_known.f k).bind fun t233 => (some t233)) else (some false)))) else ((camshaftref04_Same.f k x6 x0).bind fun t234 => (if t234 = true then ((camshaftlaw05_known.f k).bind fun t235 => (some t235)) else (some false)))) else (some false))
end
def camshaftlaw05_TextBack.f (k : Nat) (l0 : List (S24)) (a1 : ByteArray) : Option (Bool) := if (l0.length : Int) > 250 then (camshaftlaw05_TextBack.j0 k l0 a1 true) else (camshaftlaw05_TextBack.j0 k l0 a1 (decide ((a1.size : Int) > 3000)))
theorem camshaftlaw05_TextBack.mono_l : ∀ k, (∀ y0 y1 y2, LeO (camshaftlaw05_TextBack.j0 k y0 y1 y2) (camshaftlaw05_TextBack.j0 (k + 1) y0 y1 y2)) ∧ (∀ y0 y1 y2 y3 y4, LeO (camshaftlaw05_TextBack.j1 k y0 y1 y2 y3 y4) (camshaftlaw05_TextBack.j1 (k + 1) y0 y1 y2 y3 y4))
  | 0 => ⟨fun _ _ _ r h => by simp [camshaftlaw05_TextBack.j0] at h, fun _ _ _ _ _ r h => by simp [camshaftlaw05_TextBack.j1] at h⟩
  | k + 1 => by
    obtain ⟨ih0, ih1⟩ := camshaftlaw05_TextBack.mono_l k
    refine ⟨?_, ?_⟩
    · intro y0 y1 y2
      unfold camshaftlaw05_TextBack.j0
      repeat' first
      | (with_reducible exact ih0 _ _ _)
      | (with_reducible exact ih1 _ _ _ _ _)
      | (with_reducible exact camshaftlaw05_known.mono _)
      | (with_reducible exact camshaftref04_Same.mono _ _ _)
      | (with_reducible exact text_Show.mono _ _)
      | (with_reducible exact LeO.refl _)
      | (with_reducible exact LeO.none _)
      | (with_reducible refine LeO.ite ?_ ?_)
      | (with_reducible refine LeO.bind ?_ (fun _ => ?_))
      | exact ih0 _ _ _
      | exact ih1 _ _ _ _ _
      | exact camshaftlaw05_known.mono _
      | exact camshaftref04_Same.mono _ _ _
      | exact text_Show.mono _ _
      | exact LeO.none _
      | refine LeO.ite ?_ ?_
      | refine LeO.bind ?_ (fun _ => ?_)
    · intro y0 y1 y2 y3 y4
      unfold camshaftlaw05_TextBack.j1
      repeat' first
      | (with_reducible exact ih0 _ _ _)
      | (with_reducible exact ih1 _ _ _ _ _)
      | (with_reducible exact camshaftlaw05_known.mono _)
      | (with_reducible exact camshaftref04_Same.mono _ _ _)
      | (with_reducible exact text_Show.mono _ _)
      | (with_reducible exact LeO.refl _)
      | (with_reducible exact LeO.none _)
      | (with_reducible refine LeO.ite ?_ ?_)
      | (with_reducible refine LeO.bind ?_ (fun _ => ?_))
      | exact ih0 _ _ _
      | exact ih1 _ _ _ _ _
      | exact camshaftlaw05_known.mono _
      | exact camshaftref04_Same.mono _ _ _
      | exact text_Show.mono _ _
      | exact LeO.none _
      | refine LeO.ite ?_ ?_
      | refine LeO.bind ?_ (fun _ => ?_)
theorem camshaftlaw05_TextBack.mono : ∀ a0 a1 k, LeO (camshaftlaw05_TextBack.f k a0 a1) (camshaftlaw05_TextBack.f (k + 1) a0 a1) := by
  intro a0 a1 k
  obtain ⟨ih0, ih1⟩ := camshaftlaw05_TextBack.mono_l k
  unfold camshaftlaw05_TextBack.f
  repeat' first
      | (with_reducible exact ih0 _ _ _)
      | (with_reducible exact ih1 _ _ _ _ _)
      | (with_reducible exact camshaftlaw05_known.mono _)
      | (with_reducible exact camshaftref04_Same.mono _ _ _)
      | (with_reducible exact text_Show.mono _ _)
      | (with_reducible exact LeO.refl _)
      | (with_reducible exact LeO.none _)
      | (with_reducible refine LeO.ite ?_ ?_)
      | (with_reducible refine LeO.bind ?_ (fun _ => ?_))
      | exact ih0 _ _ _
      | exact ih1 _ _ _ _ _
      | exact camshaftlaw05_known.mono _
      | exact camshaftref04_Same.mono _ _ _
      | exact text_Show.mono _ _
      | exact LeO.none _
      | refine LeO.ite ?_ ?_
      | refine LeO.bind ?_ (fun _ => ?_)
set_option maxHeartbeats 8000000 in
set_option maxRecDepth 100000 in
theorem camshaftlaw05_TextBack.calls (k : Nat) (A0 : Option Addr) (c0 : Nat) (l0 : List (S24)) (a1 : ByteArray) (r : Bool) (w : World) (hr0 : Kd.C k24 w A0 l0.length l0) (hc0 : l0.length ≤ c0) (h : camshaftlaw05_TextBack.f k l0 a1 = some r) (ht : r = true) :
    Calls Try.prog 5 #[.slice A0 l0.length c0, .string a1] w fun e w' => e = .returned (.bool r) ∧ Below w.heap.size w w' := by
  have HT := Aside0.mk ht
  clear ht
  have HR0 := Aside0.mk hr0
  have HC0 := Aside0.mk hc0
  clear hr0 hc0
  have HB := Aside0.mk (Below.refl w.heap.size w)
  have H : (if (l0.length : Int) > 250 then (camshaftlaw05_TextBack.j0 k l0 a1 true) else (camshaftlaw05_TextBack.j0 k l0 a1 (decide ((a1.size : Int) > 3000)))) = some r := h
  clear h
  have HC3 := Aside0.mk H
  clear H
  go_enter Try.func5, Try.ntmps5
  go_upto_region 1 with (fail)
  go_cut [17] (fun v17 wc => ∃ (kq : Nat) (x17_2 : Bool), v17 = .bool x17_2 ∧ Aside0 (camshaftlaw05_TextBack.j0 kq l0 a1 x17_2 = some r) ∧ Aside0 (kq ≤ k) ∧ Aside0 (Below w.heap.size w wc))
  case first =>
    have H := HC3.out
    clear HC3
    by_cases c4 : (l0.length : Int) > 250
    · rw [if_pos c4] at H
      have c4b0 : decide (250 < (l0.length : Int)) = true := decide_eq_true c4
      have c4b1 : decide (250 < l0.length) = true := decide_eq_true (by omega)
      clear c4
      (first | rw [c4b0] | (simp only [i64_w, i32_w]; rw [c4b0]) | rw [c4b1] | skip)
      have H' := Aside0.mk H
      clear H
      go_wp2
      go_meet
      case rel => exact ⟨_, (true), (by first | rfl | (simp; done) | (simp [*]; done)), H', ⟨by first | omega | exact Nat.le_refl _⟩, ⟨by repeat (first | (with_reducible first | exact HB.out | apply below_alloc | apply pw_below_drewN | apply below_drew1) | exact HB.out | exact Below.refl _ _)⟩⟩
    · rw [if_neg c4] at H
      have c4b0 : decide (250 < (l0.length : Int)) = false := decide_eq_false c4
      have c4b1 : decide (250 < l0.length) = false := decide_eq_false (by omega)
      clear c4
      (first | rw [c4b0] | (simp only [i64_w, i32_w]; rw [c4b0]) | rw [c4b1] | skip)
      have H' := Aside0.mk H
      clear H
      go_wp2
      go_meet
      case rel => exact ⟨_, (decide ((a1.size : Int) > 3000)), (by first | rfl | (simp; done) | (simp [*]; done)), H', ⟨by first | omega | exact Nat.le_refl _⟩, ⟨by repeat (first | (with_reducible first | exact HB.out | apply below_alloc | apply pw_below_drewN | apply below_drew1) | exact HB.out | exact Below.refl _ _)⟩⟩
  case rest =>
    clear HC3
    try clear p2
    try clear c4
    try clear c4b0
    try clear c4b1
    obtain ⟨kq, x17_2, rfl, HA, HJ2, HB⟩ := hcut
    cases kq with
    | zero => exact absurd HA.out (by simp [camshaftlaw05_TextBack.j0])
    | succ kj2 =>
      have H := HA.out
      clear HA
      simp only [camshaftlaw05_TextBack.j0] at H
      by_cases c5 : x17_2 = true
      · subst c5
        have H1 : ((camshaftlaw05_known.f kj2).bind fun t220 => (some t220)) = some r := by rw [if_pos rfl] at H; exact H
        clear H
        have H := H1
        clear H1
        replace H := Option.bind_eq_some_iff.mp H
        obtain ⟨t220, A60, H⟩ := H
        replace H : (some t220) = some r := H
        have A6 := Aside0.mk A60
        clear A60
        obtain rfl := Option.some.inj H
        go_wp2_with (first | ((with_reducible refine gate_callee (f := 10) rfl ?_); refine goesL_ (some 18) rfl rfl Try.func10 (by kernel_rfl) rfl #[] rfl (by (try simp only [List.map_toArray, List.map_cons, List.map_nil]); first | done | rfl | (simp only [List.length_drop, List.length_take]; rfl)) ?_; (with_reducible refine (camshaftlaw05_known.calls kj2  t220 _ A6.out).mono ?_); rintro e w7 ⟨rfl, hb⟩; refine ⟨_, rfl, ?_⟩; have n0_ := Aside0.mk (below_step (by repeat (first | (with_reducible first | exact HB.out | apply below_alloc | apply pw_below_drewN | apply below_drew1) | exact HB.out)) hb); clear HB; have HB := n0_; clear n0_; (try clear hb); (try clear hb2); (try clear hk); (try clear hi)))
        go_ret
        exact ⟨by first | rfl | (rw [bne_nil_eq]; rfl) | (simp [bne_nil_eq]; done) | (simp [errW_none, errW_some] <;> rfl) | (simp [*, errW_none, errW_some] <;> rfl), by repeat (first | (with_reducible first | exact HB.out | apply below_alloc | apply pw_below_drewN | apply below_drew1) | exact HB.out | exact Below.refl _ _)⟩
      · replace c5 := Bool.eq_false_iff.mpr c5
        subst c5
        have H1 : ((text_Show.f kj2 l0).bind fun t221 => ((text_Parse.f t221).bind fun bt222 => ((text_Parse.f a1).bind fun bt226 => (if bt226.2 = 0 then ((text_Show.f kj2 bt226.1).bind fun t230 => (if t230.toList = a1.toList then (camshaftlaw05_TextBack.j1 kj2 l0 t221 bt222.1 bt222.2 false) else (camshaftlaw05_TextBack.j1 kj2 l0 t221 bt222.1 bt222.2 true))) else (camshaftlaw05_TextBack.j1 kj2 l0 t221 bt222.1 bt222.2 ((bt226.1.length : Int) != 0)))))) = some r := by rw [if_neg (show ¬ (false = true) by decide)] at H; exact H
        clear H
        have H := H1
        clear H1
        replace H := Option.bind_eq_some_iff.mp H
        obtain ⟨t221, A80, H⟩ := H
        replace H : ((text_Parse.f t221).bind fun bt222 => ((text_Parse.f a1).bind fun bt226 => (if bt226.2 = 0 then ((text_Show.f kj2 bt226.1).bind fun t230 => (if t230.toList = a1.toList then (camshaftlaw05_TextBack.j1 kj2 l0 t221 bt222.1 bt222.2 false) else (camshaftlaw05_TextBack.j1 kj2 l0 t221 bt222.1 bt222.2 true))) else (camshaftlaw05_TextBack.j1 kj2 l0 t221 bt222.1 bt222.2 ((bt226.1.length : Int) != 0))))) = some r := H
        have A8 := Aside0.mk A80
        clear A80
        replace H := Option.bind_eq_some_iff.mp H
        obtain ⟨⟨t222, t223⟩, A90, H⟩ := H
        replace H : ((text_Parse.f a1).bind fun bt226 => (if bt226.2 = 0 then ((text_Show.f kj2 bt226.1).bind fun t230 => (if t230.toList = a1.toList then (camshaftlaw05_TextBack.j1 kj2 l0 t221 t222 t223 false) else (camshaftlaw05_TextBack.j1 kj2 l0 t221 t222 t223 true))) else (camshaftlaw05_TextBack.j1 kj2 l0 t221 t222 t223 ((bt226.1.length : Int) != 0)))) = some r := H
        have A9 := Aside0.mk A90
        clear A90
        replace H := Option.bind_eq_some_iff.mp H
        obtain ⟨⟨t226, t227⟩, A100, H⟩ := H
        replace H : (if t227 = 0 then ((text_Show.f kj2 t226).bind fun t230 => (if t230.toList = a1.toList then (camshaftlaw05_TextBack.j1 kj2 l0 t221 t222 t223 false) else (camshaftlaw05_TextBack.j1 kj2 l0 t221 t222 t223 true))) else (camshaftlaw05_TextBack.j1 kj2 l0 t221 t222 t223 ((t226.length : Int) != 0))) = some r := H
        have A10 := Aside0.mk A100
        clear A100
        have HC11 := Aside0.mk H
        clear H
        go_upto_region 6 with (first | ((with_reducible refine gate_callee (f := 13) rfl ?_); refine goesL_ (some 20) rfl rfl Try.func13 (by kernel_rfl) rfl #[.slice A0 l0.length c0] rfl (by (try simp only [List.map_toArray, List.map_cons, List.map_nil]); first | done | rfl | (simp only [List.length_drop, List.length_take]; rfl)) ?_; (with_reducible refine (text_Show.calls kj2 _ _ l0 t221 _ ?side1 ?side2 A8.out).mono ?_); (case side1 => repeat (first | exact (Kd.C_below HR0.out HB.out) | (with_reducible refine Kd.C_alloc ?_ _) | (with_reducible refine Kd.C_drewN ?_ _) | (with_reducible refine Kd.C_drew ?_))); (case side2 => exact HC0.out); rintro e w12 ⟨rfl, hb⟩; refine ⟨_, rfl, ?_⟩; have n0_ := Aside0.mk (below_step (by repeat (first | (with_reducible first | exact HB.out | apply below_alloc | apply pw_below_drewN | apply below_drew1) | exact HB.out)) hb); clear HB; have HB := n0_; clear n0_; (try clear hb); (try clear hb2); (try clear hk); (try clear hi)) | ((with_reducible refine gate_callee (f := 15) rfl ?_); refine goesL_ (some 23) rfl rfl Try.func15 (by kernel_rfl) rfl #[.string t221] rfl (by (try simp only [List.map_toArray, List.map_cons, List.map_nil]); first | done | rfl | (simp only [List.length_drop, List.length_take]; rfl)) ?_; (with_reducible refine (text_Parse.calls t221 t222 t223 _ A9.out).mono ?_); rintro e w13 ⟨v224, rfl, ho0, hb⟩; refine ⟨_, rfl, ?_⟩; have n0_ := Aside0.mk (Kd.R_lower ho0 (below_size (by repeat (first | (with_reducible first | exact HB.out | apply below_alloc | apply pw_below_drewN | apply below_drew1) | exact HB.out)))); have n1_ := Aside0.mk (below_step (by repeat (first | (with_reducible first | exact HB.out | apply below_alloc | apply pw_below_drewN | apply below_drew1) | exact HB.out)) hb); clear HB; have HO225 := n0_; have HB := n1_; clear n0_ n1_; (try clear hb); (try clear hb2); (try clear hk); (try clear hi); (try clear ho0)) | ((with_reducible refine gate_callee (f := 15) rfl ?_); refine goesL_ (some 28) rfl rfl Try.func15 (by kernel_rfl) rfl #[.string a1] rfl (by (try simp only [List.map_toArray, List.map_cons, List.map_nil]); first | done | rfl | (simp only [List.length_drop, List.length_take]; rfl)) ?_; (with_reducible refine (text_Parse.calls a1 t226 t227 _ A10.out).mono ?_); rintro e w14 ⟨v228, rfl, ho0, hb⟩; refine ⟨_, rfl, ?_⟩; have n0_ := Aside0.mk (Kd.R_elder' (by (with_reducible repeat (first | apply Kd.R_alloc | apply Kd.R_drewN | apply Kd.R_drew)); exact HO225.out) (Kd.R_base ho0) hb); have n1_ := Aside0.mk (Kd.R_lower (Kd.R_new' ho0 (Kd.R_lt (by (with_reducible repeat (first | apply Kd.R_alloc | apply Kd.R_drewN | apply Kd.R_drew)); exact HO225.out))) (below_size (by repeat (first | (with_reducible first | exact HB.out | apply below_alloc | apply pw_below_drewN | apply below_drew1) | exact HB.out)))); have n2_ := Aside0.mk (below_step (by repeat (first | (with_reducible first | exact HB.out | apply below_alloc | apply pw_below_drewN | apply below_drew1) | exact HB.out)) hb); clear HO225; clear HB; have HO225 := n0_; have HO229 := n1_; have HB := n2_; clear n0_ n1_ n2_; (try clear hb); (try clear hb2); (try clear hk); (try clear hi); (try clear ho0)))
        (try simp only [Act.put, List.setIfInBounds_toArray, List.set_cons_zero, List.set_cons_succ])
        go_cut [47] (fun v47 wc => ∃ (kq : Nat) (x47_10 : Bool), v47 = .bool x47_10 ∧ Aside0 (camshaftlaw05_TextBack.j1 kq l0 t221 t222 t223 x47_10 = some r) ∧ Aside0 (kq ≤ kj2) ∧ Aside0 (Kd.R k24 24 wc w.heap.size (fun _ => True) v224 t222) ∧ Aside0 (Below w.heap.size w wc))
        case first =>
          have H := HC11.out
          clear HC11
          by_cases c15 : t227 = 0
          · rw [if_pos c15] at H
            have c15b0 : (t227 == 0) = true := beq_iff_eq.mpr c15
            have c15b1 : (t227 != 0) = false := bne_eq_false_iff_eq.mpr c15
            clear c15
            (first | rw [c15b0] | (simp only [i64_w, i32_w]; rw [c15b0]) | rw [c15b1] | skip)
            replace H := Option.bind_eq_some_iff.mp H
            obtain ⟨t230, A160, H⟩ := H
            replace H : (if t230.toList = a1.toList then (camshaftlaw05_TextBack.j1 kj2 l0 t221 t222 t223 false) else (camshaftlaw05_TextBack.j1 kj2 l0 t221 t222 t223 true)) = some r := H
            have A16 := Aside0.mk A160
            clear A160
            by_cases c17 : t230.toList = a1.toList
            · rw [if_pos c17] at H
              have c17b0 : (t230.toList == a1.toList) = true := beq_iff_eq.mpr c17
              have c17b1 : (t230.toList != a1.toList) = false := bne_eq_false_iff_eq.mpr c17
              clear c17
              have H' := Aside0.mk H
              clear H
              obtain ⟨Ao18, co18, eo18⟩ := Kd.R_slice HO229.out
              subst eo18
              go_wp2_with (first | (go_at_call 13; (with_reducible refine (text_Show.calls kj2 _ _ t226 t230 _ ?side1 ?side2 A16.out).mono ?_); (case side1 => repeat (first | exact (Kd.R_reads' HO229.out).2.2 | (with_reducible refine Kd.C_alloc ?_ _) | (with_reducible refine Kd.C_drewN ?_ _) | (with_reducible refine Kd.C_drew ?_))); (case side2 => exact (Kd.R_reads' HO229.out).2.1); rintro e w19 ⟨rfl, hb⟩; have n0_ := Aside0.mk (Kd.R_below (by (with_reducible repeat (first | apply Kd.R_alloc | apply Kd.R_drewN | apply Kd.R_drew)); exact HO225.out) hb); have n1_ := Aside0.mk (Kd.R_below (by (with_reducible repeat (first | apply Kd.R_alloc | apply Kd.R_drewN | apply Kd.R_drew)); exact HO229.out) hb); have n2_ := Aside0.mk (below_step (by repeat (first | (with_reducible first | exact HB.out | apply below_alloc | apply pw_below_drewN | apply below_drew1) | exact HB.out)) hb); clear HO225; clear HO229; clear HB; have HO225 := n0_; have HO229 := n1_; have HB := n2_; clear n0_ n1_ n2_; (try clear hb); (try clear hb2); (try clear hk); (try clear hi)))
              go_meet
              case rel => exact ⟨_, (false), (by first | rfl | (simp; done) | (simp [*]; done)), H', ⟨by have := HJ2.out; first | omega | exact Nat.le_refl _⟩, ⟨by (with_reducible repeat (first | apply Kd.R_alloc | apply Kd.R_drewN | apply Kd.R_drew)); exact Kd.R_mono HO225.out (fun _ hk => trivial)⟩, ⟨by repeat (first | (with_reducible first | exact HB.out | apply below_alloc | apply pw_below_drewN | apply below_drew1) | exact HB.out | exact Below.refl _ _)⟩⟩
            · rw [if_neg c17] at H
              have c17b0 : (t230.toList == a1.toList) = false := beq_eq_false_iff_ne.mpr c17
              have c17b1 : (t230.toList != a1.toList) = true := bne_iff_ne.mpr c17
              have H' := Aside0.mk H
              clear H
              obtain ⟨Ao20, co20, eo20⟩ := Kd.R_slice HO229.out
              subst eo20
              go_wp2_with (first | (go_at_call 13; (with_reducible refine (text_Show.calls kj2 _ _ t226 t230 _ ?side1 ?side2 A16.out).mono ?_); (case side1 => repeat (first | exact (Kd.R_reads' HO229.out).2.2 | (with_reducible refine Kd.C_alloc ?_ _) | (with_reducible refine Kd.C_drewN ?_ _) | (with_reducible refine Kd.C_drew ?_))); (case side2 => exact (Kd.R_reads' HO229.out).2.1); rintro e w21 ⟨rfl, hb⟩; have n0_ := Aside0.mk (Kd.R_below (by (with_reducible repeat (first | apply Kd.R_alloc | apply Kd.R_drewN | apply Kd.R_drew)); exact HO225.out) hb); have n1_ := Aside0.mk (Kd.R_below (by (with_reducible repeat (first | apply Kd.R_alloc | apply Kd.R_drewN | apply Kd.R_drew)); exact HO229.out) hb); have n2_ := Aside0.mk (below_step (by repeat (first | (with_reducible first | exact HB.out | apply below_alloc | apply pw_below_drewN | apply below_drew1) | exact HB.out)) hb); clear HO225; clear HO229; clear HB; have HO225 := n0_; have HO229 := n1_; have HB := n2_; clear n0_ n1_ n2_; (try clear hb); (try clear hb2); (try clear hk); (try clear hi)))
              go_meet
              case rel => exact ⟨_, (true), (by first | rfl | (simp; done) | (simp [*]; done)), H', ⟨by have := HJ2.out; first | omega | exact Nat.le_refl _⟩, ⟨by (with_reducible repeat (first | apply Kd.R_alloc | apply Kd.R_drewN | apply Kd.R_drew)); exact Kd.R_mono HO225.out (fun _ hk => trivial)⟩, ⟨by repeat (first | (with_reducible first | exact HB.out | apply below_alloc | apply pw_below_drewN | apply below_drew1) | exact HB.out | exact Below.refl _ _)⟩⟩
          · rw [if_neg c15] at H
            have c15b0 : (t227 == 0) = false := beq_eq_false_iff_ne.mpr c15
            have c15b1 : (t227 != 0) = true := bne_iff_ne.mpr c15
            (first | rw [c15b0] | (simp only [i64_w, i32_w]; rw [c15b0]) | rw [c15b1] | skip)
            have H' := Aside0.mk H
            clear H
            obtain ⟨Ao22, co22, eo22⟩ := Kd.R_slice HO229.out
            subst eo22
            go_wp2
            go_meet
            case rel => exact ⟨_, (((t226.length : Int) != 0)), (by first | rfl | (simp; done) | (simp [*]; done)), H', ⟨by have := HJ2.out; first | omega | exact Nat.le_refl _⟩, ⟨by (with_reducible repeat (first | apply Kd.R_alloc | apply Kd.R_drewN | apply Kd.R_drew)); exact Kd.R_mono HO225.out (fun _ hk => trivial)⟩, ⟨by repeat (first | (with_reducible first | exact HB.out | apply below_alloc | apply pw_below_drewN | apply below_drew1) | exact HB.out | exact Below.refl _ _)⟩⟩
        case rest =>
          clear HC11
          try clear c1
          try clear p2
          try clear c4
          try clear c4b0
          try clear c4b1
          try clear c5
          try clear c10
          try clear c13
          try clear c15
          try clear c15b0
          try clear c15b1
          try clear c17
          try clear c17b0
          try clear c17b1
          try clear p2
          obtain ⟨kq, x47_10, rfl, HA, HJ10, HO_6, HB⟩ := hcut
          cases kq with
          | zero => exact absurd HA.out (by simp [camshaftlaw05_TextBack.j1])
          | succ kj10 =>
            have H := HA.out
            clear HA
            simp only [camshaftlaw05_TextBack.j1] at H
            by_cases c23 : x47_10 = true
            · subst c23
              have H1 : (some false) = some r := by rw [if_pos rfl] at H; exact H
              clear H
              have H := H1
              clear H1
              exact absurd ((Option.some.inj H).trans HT.out) (by decide)
            · replace c23 := Bool.eq_false_iff.mpr c23
              subst c23
              have H1 : (if t223 = 0 then (if t221.toList = ([] : List UInt8) then (if (t222.length : Int) = 0 then ((camshaftlaw05_known.f kj10).bind fun t231 => (some t231)) else ((camshaftref04_Same.f kj10 t222 l0).bind fun t232 => (if t232 = true then ((camshaftlaw05_known.f kj10).bind fun t233 => (some t233)) else (some false)))) else ((camshaftref04_Same.f kj10 t222 l0).bind fun t234 => (if t234 = true then ((camshaftlaw05_known.f kj10).bind fun t235 => (some t235)) else (some false)))) else (some false)) = some r := by rw [if_neg (show ¬ (false = true) by decide)] at H; exact H
              clear H
              have H := H1
              clear H1
              by_cases c24 : t223 = 0
              · rw [if_pos c24] at H
                have c24b0 : (t223 == 0) = true := beq_iff_eq.mpr c24
                have c24b1 : (t223 != 0) = false := bne_eq_false_iff_eq.mpr c24
                clear c24
                by_cases c25 : t221.toList = ([] : List UInt8)
                · rw [if_pos c25] at H
                  have c25b0 : (t221.toList == ([] : List UInt8)) = true := beq_iff_eq.mpr c25
                  have c25b1 : (t221.toList != ([] : List UInt8)) = false := bne_eq_false_iff_eq.mpr c25
                  clear c25
                  by_cases c26 : (t222.length : Int) = 0
                  · rw [if_pos c26] at H
                    have c26b0 : ((t222.length : Int) == 0) = true := beq_iff_eq.mpr c26
                    have c26b1 : ((t222.length : Int) != 0) = false := bne_eq_false_iff_eq.mpr c26
                    clear c26
                    replace H := Option.bind_eq_some_iff.mp H
                    obtain ⟨t231, A270, H⟩ := H
                    replace H : (some t231) = some r := H
                    have A27 := Aside0.mk A270
                    clear A270
                    obtain rfl := Option.some.inj H
                    obtain ⟨Ao28, co28, eo28⟩ := Kd.R_slice HO_6.out
                    subst eo28
                    go_wp2_with (first | (go_at_call 10; (with_reducible refine (camshaftlaw05_known.calls kj10  t231 _ A27.out).mono ?_); rintro e w29 ⟨rfl, hb⟩; have n0_ := Aside0.mk (Kd.R_below (by (with_reducible repeat (first | apply Kd.R_alloc | apply Kd.R_drewN | apply Kd.R_drew)); exact HO_6.out) hb); have n1_ := Aside0.mk (below_step (by repeat (first | (with_reducible first | exact HB.out | apply below_alloc | apply pw_below_drewN | apply below_drew1) | exact HB.out)) hb); clear HO_6; clear HB; have HO_6 := n0_; have HB := n1_; clear n0_ n1_; (try clear hb); (try clear hb2); (try clear hk); (try clear hi)))
                    go_ret
                    exact ⟨by first | rfl | (rw [bne_nil_eq]; rfl) | (simp [bne_nil_eq]; done) | (simp [errW_none, errW_some] <;> rfl) | (simp [*, errW_none, errW_some] <;> rfl), by repeat (first | (with_reducible first | exact HB.out | apply below_alloc | apply pw_below_drewN | apply below_drew1) | exact HB.out | exact Below.refl _ _)⟩
                  · rw [if_neg c26] at H
                    have c26b0 : ((t222.length : Int) == 0) = false := beq_eq_false_iff_ne.mpr c26
                    have c26b1 : ((t222.length : Int) != 0) = true := bne_iff_ne.mpr c26
                    have c26b2 : ¬ (t222 = []) := fun h_ => c26 (by rw [h_]; rfl)
                    replace H := Option.bind_eq_some_iff.mp H
                    obtain ⟨t232, A300, H⟩ := H
                    replace H : (if t232 = true then ((camshaftlaw05_known.f kj10).bind fun t233 => (some t233)) else (some false)) = some r := H
                    have A30 := Aside0.mk A300
                    clear A300
                    by_cases c31 : t232 = true
                    · subst c31
                      have H1 : ((camshaftlaw05_known.f kj10).bind fun t233 => (some t233)) = some r := by rw [if_pos rfl] at H; exact H
                      clear H
                      have H := H1
                      clear H1
                      replace H := Option.bind_eq_some_iff.mp H
                      obtain ⟨t233, A320, H⟩ := H
                      replace H : (some t233) = some r := H
                      have A32 := Aside0.mk A320
                      clear A320
                      obtain rfl := Option.some.inj H
                      obtain ⟨Ao33, co33, eo33⟩ := Kd.R_slice HO_6.out
                      subst eo33
                      go_wp2_with (first | (go_at_call 19; (with_reducible refine (camshaftref04_Same.calls kj10 _ _ t222 _ _ l0 true _ ?side1 ?side2 ?side3 ?side4 A30.out).mono ?_); (case side1 => repeat (first | exact (Kd.R_reads' HO_6.out).2.2 | (with_reducible refine Kd.C_alloc ?_ _) | (with_reducible refine Kd.C_drewN ?_ _) | (with_reducible refine Kd.C_drew ?_))); (case side2 => exact (Kd.R_reads' HO_6.out).2.1); (case side3 => repeat (first | exact (Kd.C_below HR0.out HB.out) | (with_reducible refine Kd.C_alloc ?_ _) | (with_reducible refine Kd.C_drewN ?_ _) | (with_reducible refine Kd.C_drew ?_))); (case side4 => exact HC0.out); rintro e w' ⟨rfl, ⟨nd, rfl⟩⟩) | (go_at_call 10; (with_reducible refine (camshaftlaw05_known.calls kj10  t233 _ A32.out).mono ?_); rintro e w34 ⟨rfl, hb⟩; have n0_ := Aside0.mk (Kd.R_below (by (with_reducible repeat (first | apply Kd.R_alloc | apply Kd.R_drewN | apply Kd.R_drew)); exact HO_6.out) hb); have n1_ := Aside0.mk (below_step (by repeat (first | (with_reducible first | exact HB.out | apply below_alloc | apply pw_below_drewN | apply below_drew1) | exact HB.out)) hb); clear HO_6; clear HB; have HO_6 := n0_; have HB := n1_; clear n0_ n1_; (try clear hb); (try clear hb2); (try clear hk); (try clear hi)))
                      go_ret
                      exact ⟨by first | rfl | (rw [bne_nil_eq]; rfl) | (simp [bne_nil_eq]; done) | (simp [errW_none, errW_some] <;> rfl) | (simp [*, errW_none, errW_some] <;> rfl), by repeat (first | (with_reducible first | exact HB.out | apply below_alloc | apply pw_below_drewN | apply below_drew1) | exact HB.out | exact Below.refl _ _)⟩
                    · replace c31 := Bool.eq_false_iff.mpr c31
                      subst c31
                      have H1 : (some false) = some r := by rw [if_neg (show ¬ (false = true) by decide)] at H; exact H
                      clear H
                      have H := H1
                      clear H1
                      exact absurd ((Option.some.inj H).trans HT.out) (by decide)
                · rw [if_neg c25] at H
                  have c25b0 : (t221.toList == ([] : List UInt8)) = false := beq_eq_false_iff_ne.mpr c25
                  have c25b1 : (t221.toList != ([] : List UInt8)) = true := bne_iff_ne.mpr c25
                  replace H := Option.bind_eq_some_iff.mp H
                  obtain ⟨t234, A350, H⟩ := H
                  replace H : (if t234 = true then ((camshaftlaw05_known.f kj10).bind fun t235 => (some t235)) else (some false)) = some r := H
                  have A35 := Aside0.mk A350
                  clear A350
                  by_cases c36 : t234 = true
                  · subst c36
                    have H1 : ((camshaftlaw05_known.f kj10).bind fun t235 => (some t235)) = some r := by rw [if_pos rfl] at H; exact H
                    clear H
                    have H := H1
                    clear H1
                    replace H := Option.bind_eq_some_iff.mp H
                    obtain ⟨t235, A370, H⟩ := H
                    replace H : (some t235) = some r := H
                    have A37 := Aside0.mk A370
                    clear A370
                    obtain rfl := Option.some.inj H
                    obtain ⟨Ao38, co38, eo38⟩ := Kd.R_slice HO_6.out
                    subst eo38
                    go_wp2_with (first | (go_at_call 19; (with_reducible refine (camshaftref04_Same.calls kj10 _ _ t222 _ _ l0 true _ ?side1 ?side2 ?side3 ?side4 A35.out).mono ?_); (case side1 => repeat (first | exact (Kd.R_reads' HO_6.out).2.2 | (with_reducible refine Kd.C_alloc ?_ _) | (with_reducible refine Kd.C_drewN ?_ _) | (with_reducible refine Kd.C_drew ?_))); (case side2 => exact (Kd.R_reads' HO_6.out).2.1); (case side3 => repeat (first | exact (Kd.C_below HR0.out HB.out) | (with_reducible refine Kd.C_alloc ?_ _) | (with_reducible refine Kd.C_drewN ?_ _) | (with_reducible refine Kd.C_drew ?_))); (case side4 => exact HC0.out); rintro e w' ⟨rfl, ⟨nd, rfl⟩⟩) | (go_at_call 10; (with_reducible refine (camshaftlaw05_known.calls kj10  t235 _ A37.out).mono ?_); rintro e w39 ⟨rfl, hb⟩; have n0_ := Aside0.mk (Kd.R_below (by (with_reducible repeat (first | apply Kd.R_alloc | apply Kd.R_drewN | apply Kd.R_drew)); exact HO_6.out) hb); have n1_ := Aside0.mk (below_step (by repeat (first | (with_reducible first | exact HB.out | apply below_alloc | apply pw_below_drewN | apply below_drew1) | exact HB.out)) hb); clear HO_6; clear HB; have HO_6 := n0_; have HB := n1_; clear n0_ n1_; (try clear hb); (try clear hb2); (try clear hk); (try clear hi)))
                    go_ret
                    exact ⟨by first | rfl | (rw [bne_nil_eq]; rfl) | (simp [bne_nil_eq]; done) | (simp [errW_none, errW_some] <;> rfl) | (simp [*, errW_none, errW_some] <;> rfl), by repeat (first | (with_reducible first | exact HB.out | apply below_alloc | apply pw_below_drewN | apply below_drew1) | exact HB.out | exact Below.refl _ _)⟩
                  · replace c36 := Bool.eq_false_iff.mpr c36
                    subst c36
                    have H1 : (some false) = some r := by rw [if_neg (show ¬ (false = true) by decide)] at H; exact H
                    clear H
                    have H := H1
                    clear H1
                    exact absurd ((Option.some.inj H).trans HT.out) (by decide)
              · rw [if_neg c24] at H
                have c24b0 : (t223 == 0) = false := beq_eq_false_iff_ne.mpr c24
                have c24b1 : (t223 != 0) = true := bne_iff_ne.mpr c24
                exact absurd ((Option.some.inj H).trans HT.out) (by decide)

/-- THE ONE PURE STATEMENT of camshaftlaw05_TextBack. -/
def camshaftlaw05_TextBack.Pure : Prop := ∀ (l0 : List S24) (a1 : ByteArray), l0.length * 24 ≤ 140737488351232 → (∀ x ∈ l0, (Lit.int .i64 x.f0).wf = true ∧ (Lit.int .i64 x.f1).wf = true ∧ (Lit.int .i64 x.f2).wf = true) → a1.size ≤ 140737488351232 → ∃ k, camshaftlaw05_TextBack.f k l0 a1 = some true
theorem camshaftlaw05_TextBack.walk (P : camshaftlaw05_TextBack.Pure) (A0 : Option Addr) (c0 : Nat) (l0 : List S24) (a1 : ByteArray) (w : World) (hr0 : Kd.C k24 w A0 l0.length l0) (hc0 : l0.length ≤ c0) (y0 : l0.length * 24 ≤ 140737488351232) (hw0 : ∀ x ∈ l0, (Lit.int .i64 x.f0).wf = true ∧ (Lit.int .i64 x.f1).wf = true ∧ (Lit.int .i64 x.f2).wf = true) (w1 : a1.size ≤ 140737488351232) :
    Calls Try.prog 5 #[.slice A0 l0.length c0, .string a1] w fun e w' => e = .returned (.bool true) ∧ Below w.heap.size w w' := by
  obtain ⟨k, h⟩ := P l0 a1 y0 hw0 w1
  refine (camshaftlaw05_TextBack.calls k A0 c0 l0 a1 true w hr0 hc0 h rfl).mono ?_
  rintro e w' ⟨rfl, hd⟩
  exact ⟨rfl, hd⟩

end Go.Proofs.Ytldbochclabmjaa.P
