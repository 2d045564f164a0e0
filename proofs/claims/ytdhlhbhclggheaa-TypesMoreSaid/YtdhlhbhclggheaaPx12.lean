-- Written by a program of this session (wip/tools: patched print) for this claim. Not trusted: Lean checks it.
import Derived.Test.YtdhlhbhclggheaaPx0
import Derived.Test.YtdhlhbhclggheaaPx2
namespace Go.Proofs.Ytdhlhbhclggheaa.P
open Go.RowKit Go.Proofs.YtdhlhbhclggheaaW.PrintWords Go.Proofs.YtdhlhbhclggheaaW.PrintLast Go.Proofs.YtdhlhbhclggheaaW.PrintMore
attribute [local go_sem] max2_int min2_int max_two min_two max_three min_three max_four min_four   -- for this text's walks alone
set_option linter.unusedVariables false
set_option linter.unusedSimpArgs false

/-! ### camshaftlaw07_TypesMore: function 5 -/
mutual
def camshaftlaw07_TypesMore.j0 : Nat → List (S37) → List (S37) → Bool → Option (Bool)
  | 0, _, _, _ => none
  | k + 1, x0, x1, x22 => if x22 = true then ((camshaftlaw07_known.f k).bind fun t345 => (some t345)) else ((types_Stacks.f k x0).bind fun bt346 => ((types_Stacks.f k x1).bind fun bt350 => (if bt346.2 = 0 then (if bt350.2 = 0 then (camshaftlaw07_TypesMore.j1 k x0 x1 bt346.1 bt350.1 (decide ((bt346.1.length : Int) < 1))) else (camshaftlaw07_TypesMore.j1 k x0 x1 bt346.1 bt350.1 true)) else (camshaftlaw07_TypesMore.j1 k x0 x1 bt346.1 bt350.1 true))))
def camshaftlaw07_TypesMore.j1 : Nat → List (S37) → List (S37) → List ByteArray → List ByteArray → Bool → Option (Bool)
  | 0, _, _, _, _, _ => none
  | k + 1, x0, x1, x5, x7, x44 => if x44 = true then ((camshaftlaw07_known.f k).bind fun t354 => (some t354)) else (if 0 ≤ (wrap64 ((x5.length : Int) - 1)) then (if (wrap64 ((x5.length : Int) - 1)) < (x5.length : Int) then (if (rdOf ByteArray.empty x5 (wrap64 ((x5.length : Int) - 1))).toList = ([] : List UInt8) then ((some (([] : List (S37)) : List (S37))).bind fun y356 => (if 0 ≤ (wrap64 ((x0.length : Int) - 1)) then (if (wrap64 ((x0.length : Int) - 1)) ≤ (x0.length : Int) then ((some (x0.take ((wrap64 ((x0.length : Int) - 1)) : Int).toNat : List (S37))).bind fun y359 => (if y356.length + y359.length < 5864062014805 then ((some (y356 ++ y359 : List (S37))).bind fun y363 => (if y363.length + x1.length < 5864062014805 then ((types_Stacks.f k (y363 ++ x1)).bind fun bt369 => (if bt369.2 = 0 then ((some (([] : List ByteArray) : List ByteArray)).bind fun y373 => (if (wrap64 ((x5.length : Int) - 1)) ≤ (x5.length : Int) then ((some (x5.take ((wrap64 ((x5.length : Int) - 1)) : Int).toNat : List ByteArray)).bind fun y376 => (if y373.length + y376.length < 8796093022208 then ((some (y373 ++ y376 : List ByteArray)).bind fun y380 => (if y380.length + x7.length < 8796093022208 then ((camshaftref07_Same.f k bt369.1 (y380 ++ x7)).bind fun t386 => (if t386 = true then ((camshaftlaw07_known.f k).bind fun t387 => (some t387)) else (some false))) else (none))) else (none))) else (none))) else (some false))) else (none))) else (none))) else (none)) else (none))) else ((camshaftlaw07_known.f k).bind fun t388 => (some t388))) else (none)) else (none))
end
def camshaftlaw07_TypesMore.f (k : Nat) (l0 : List (S37)) (l1 : List (S37)) : Option (Bool) := if (l0.length : Int) < 1 then (camshaftlaw07_TypesMore.j0 k l0 l1 true) else (camshaftlaw07_TypesMore.j0 k l0 l1 (decide ((wrap64 ((l0.length : Int) + (l1.length : Int))) > 200)))
theorem camshaftlaw07_TypesMore.mono_l : ∀ k, (∀ y0 y1 y2, LeO (camshaftlaw07_TypesMore.j0 k y0 y1 y2) (camshaftlaw07_TypesMore.j0 (k + 1) y0 y1 y2)) ∧ (∀ y0 y1 y2 y3 y4, LeO (camshaftlaw07_TypesMore.j1 k y0 y1 y2 y3 y4) (camshaftlaw07_TypesMore.j1 (k + 1) y0 y1 y2 y3 y4))
  | 0 => ⟨fun _ _ _ r h => by simp [camshaftlaw07_TypesMore.j0] at h, fun _ _ _ _ _ r h => by simp [camshaftlaw07_TypesMore.j1] at h⟩
  | k + 1 => by
    obtain ⟨ih0, ih1⟩ := camshaftlaw07_TypesMore.mono_l k
    refine ⟨?_, ?_⟩
    · intro y0 y1 y2
      unfold camshaftlaw07_TypesMore.j0
      repeat' first
      | (with_reducible exact ih0 _ _ _)
      | (with_reducible exact ih1 _ _ _ _ _)
      | (with_reducible exact camshaftlaw07_known.mono _)
      | (with_reducible exact camshaftref07_Same.mono _ _ _)
      | (with_reducible exact types_Stacks.mono _ _)
      | (with_reducible exact LeO.refl _)
      | (with_reducible exact LeO.none _)
      | (with_reducible refine LeO.ite ?_ ?_)
      | (with_reducible refine LeO.bind ?_ (fun _ => ?_))
      | exact ih0 _ _ _
      | exact ih1 _ _ _ _ _
      | exact camshaftlaw07_known.mono _
      | exact camshaftref07_Same.mono _ _ _
      | exact types_Stacks.mono _ _
      | exact LeO.none _
      | refine LeO.ite ?_ ?_
      | refine LeO.bind ?_ (fun _ => ?_)
    · intro y0 y1 y2 y3 y4
      unfold camshaftlaw07_TypesMore.j1
      repeat' first
      | (with_reducible exact ih0 _ _ _)
      | (with_reducible exact ih1 _ _ _ _ _)
      | (with_reducible exact camshaftlaw07_known.mono _)
      | (with_reducible exact camshaftref07_Same.mono _ _ _)
      | (with_reducible exact types_Stacks.mono _ _)
      | (with_reducible exact LeO.refl _)
      | (with_reducible exact LeO.none _)
      | (with_reducible refine LeO.ite ?_ ?_)
      | (with_reducible refine LeO.bind ?_ (fun _ => ?_))
      | exact ih0 _ _ _
      | exact ih1 _ _ _ _ _
      | exact camshaftlaw07_known.mono _
      | exact camshaftref07_Same.mono _ _ _
      | exact types_Stacks.mono _ _
      | exact LeO.none _
      | refine LeO.ite ?_ ?_
      | refine LeO.bind ?_ (fun _ => ?_)
theorem camshaftlaw07_TypesMore.mono : ∀ a0 a1 k, LeO (camshaftlaw07_TypesMore.f k a0 a1) (camshaftlaw07_TypesMore.f (k + 1) a0 a1) := by
  intro a0 a1 k
  obtain ⟨ih0, ih1⟩ := camshaftlaw07_TypesMore.mono_l k
  unfold camshaftlaw07_TypesMore.f
  repeat' first
      | (with_reducible exact ih0 _ _ _)
      | (with_reducible exact ih1 _ _ _ _ _)
      | (with_reducible exact camshaftlaw07_known.mono _)
      | (with_reducible exact camshaftref07_Same.mono _ _ _)
      | (with_reducible exact types_Stacks.mono _ _)
      | (with_reducible exact LeO.refl _)
      | (with_reducible exact LeO.none _)
      | (with_reducible refine LeO.ite ?_ ?_)
      | (with_reducible refine LeO.bind ?_ (fun _ => ?_))
      | exact ih0 _ _ _
      | exact ih1 _ _ _ _ _
      | exact camshaftlaw07_known.mono _
      | exact camshaftref07_Same.mono _ _ _
      | exact types_Stacks.mono _ _
      | exact LeO.none _
      | refine LeO.ite ?_ ?_
      | refine LeO.bind ?_ (fun _ => ?_)
set_option maxHeartbeats 8000000 in
set_option maxRecDepth 100000 in
theorem camshaftlaw07_TypesMore.calls (k : Nat) (A0 : Option Addr) (c0 : Nat) (l0 : List (S37)) (A1 : Option Addr) (c1 : Nat) (l1 : List (S37)) (r : Bool) (w : World) (hr0 : Kd.C k37 w A0 l0.length l0) (hc0 : l0.length ≤ c0) (hr1 : Kd.C k37 w A1 l1.length l1) (hc1 : l1.length ≤ c1) (h : camshaftlaw07_TypesMore.f k l0 l1 = some r) (ht : r = true) :
    Calls Try.prog 5 #[.slice A0 l0.length c0, .slice A1 l1.length c1] w fun e w' => e = .returned (.bool r) ∧ Below w.heap.size w w' := by
  have HT := Aside0.mk ht
  clear ht
  have HR0 := Aside0.mk hr0
  have HC0 := Aside0.mk hc0
  clear hr0 hc0
  have HR1 := Aside0.mk hr1
  have HC1 := Aside0.mk hc1
  clear hr1 hc1
  have HB := Aside0.mk (Below.refl w.heap.size w)
  have H : (if (l0.length : Int) < 1 then (camshaftlaw07_TypesMore.j0 k l0 l1 true) else (camshaftlaw07_TypesMore.j0 k l0 l1 (decide ((wrap64 ((l0.length : Int) + (l1.length : Int))) > 200)))) = some r := h
  clear h
  have HC3 := Aside0.mk H
  clear H
  go_enter Try.func5, Try.ntmps5
  go_upto_region 1 with (fail)
  go_cut [22] (fun v22 wc => ∃ (kq : Nat) (x22_2 : Bool), v22 = .bool x22_2 ∧ Aside0 (camshaftlaw07_TypesMore.j0 kq l0 l1 x22_2 = some r) ∧ Aside0 (kq ≤ k) ∧ Aside0 (Below w.heap.size w wc))
  case first =>
    have H := HC3.out
    clear HC3
    by_cases c4 : (l0.length : Int) < 1
    · rw [if_pos c4] at H
      have c4b0 : decide ((l0.length : Int) < 1) = true := decide_eq_true c4
      have c4b1 : decide (l0.length < 1) = true := decide_eq_true (by omega)
      clear c4
      (first | rw [c4b0] | (simp only [i64_w, i32_w]; rw [c4b0]) | rw [c4b1] | skip)
      have H' := Aside0.mk H
      clear H
      go_wp2
      go_meet
      case rel => exact ⟨_, (true), (by first | rfl | (simp; done) | (simp [*]; done)), H', ⟨by first | omega | exact Nat.le_refl _⟩, ⟨by repeat (first | (with_reducible first | exact HB.out | apply below_alloc | apply pw_below_drewN | apply below_drew1) | exact HB.out | exact Below.refl _ _)⟩⟩
    · rw [if_neg c4] at H
      have c4b0 : decide ((l0.length : Int) < 1) = false := decide_eq_false c4
      have c4b1 : decide (l0.length < 1) = false := decide_eq_false (by omega)
      clear c4
      (first | rw [c4b0] | (simp only [i64_w, i32_w]; rw [c4b0]) | rw [c4b1] | skip)
      have H' := Aside0.mk H
      clear H
      go_wp2
      go_meet
      case rel => exact ⟨_, (decide ((wrap64 ((l0.length : Int) + (l1.length : Int))) > 200)), (by first | rfl | (simp; done) | (simp [*]; done)), H', ⟨by first | omega | exact Nat.le_refl _⟩, ⟨by repeat (first | (with_reducible first | exact HB.out | apply below_alloc | apply pw_below_drewN | apply below_drew1) | exact HB.out | exact Below.refl _ _)⟩⟩
  case rest =>
    clear HC3
    try clear c1
    try clear p2
    try clear c4
    try clear c4b0
    try clear c4b1
    obtain ⟨kq, x22_2, rfl, HA, HJ2, HB⟩ := hcut
    cases kq with
    | zero => exact absurd HA.out (by simp [camshaftlaw07_TypesMore.j0])
    | succ kj2 =>
      have H := HA.out
      clear HA
      simp only [camshaftlaw07_TypesMore.j0] at H
      by_cases c5 : x22_2 = true
      · subst c5
        have H1 : ((camshaftlaw07_known.f kj2).bind fun t345 => (some t345)) = some r := by rw [if_pos rfl] at H; exact H
        clear H
        have H := H1
        clear H1
        replace H := Option.bind_eq_some_iff.mp H
        obtain ⟨t345, A60, H⟩ := H
        replace H : (some t345) = some r := H
        have A6 := Aside0.mk A60
        clear A60
        obtain rfl := Option.some.inj H
        go_wp2_with (first | ((with_reducible refine gate_callee (f := 8) rfl ?_); refine goesL_ (some 23) rfl rfl Try.func8 (by kernel_rfl) rfl #[] rfl (by (try simp only [List.map_toArray, List.map_cons, List.map_nil]); first | done | rfl | (simp only [List.length_drop, List.length_take]; rfl)) ?_; (with_reducible refine (camshaftlaw07_known.calls kj2  t345 _ A6.out).mono ?_); rintro e w7 ⟨rfl, hb⟩; refine ⟨_, rfl, ?_⟩; have n0_ := Aside0.mk (below_step (by repeat (first | (with_reducible first | exact HB.out | apply below_alloc | apply pw_below_drewN | apply below_drew1) | exact HB.out)) hb); clear HB; have HB := n0_; clear n0_; (try clear hb); (try clear hb2); (try clear hk); (try clear hi)))
        go_ret
        exact ⟨by first | rfl | (rw [bne_nil_eq]; rfl) | (simp [bne_nil_eq]; done) | (simp [errW_none, errW_some] <;> rfl) | (simp [*, errW_none, errW_some] <;> rfl), by repeat (first | (with_reducible first | exact HB.out | apply below_alloc | apply pw_below_drewN | apply below_drew1) | exact HB.out | exact Below.refl _ _)⟩
      · replace c5 := Bool.eq_false_iff.mpr c5
        subst c5
        have H1 : ((types_Stacks.f kj2 l0).bind fun bt346 => ((types_Stacks.f kj2 l1).bind fun bt350 => (if bt346.2 = 0 then (if bt350.2 = 0 then (camshaftlaw07_TypesMore.j1 kj2 l0 l1 bt346.1 bt350.1 (decide ((bt346.1.length : Int) < 1))) else (camshaftlaw07_TypesMore.j1 kj2 l0 l1 bt346.1 bt350.1 true)) else (camshaftlaw07_TypesMore.j1 kj2 l0 l1 bt346.1 bt350.1 true)))) = some r := by rw [if_neg (show ¬ (false = true) by decide)] at H; exact H
        clear H
        have H := H1
        clear H1
        replace H := Option.bind_eq_some_iff.mp H
        obtain ⟨⟨t346, t347⟩, A80, H⟩ := H
        replace H : ((types_Stacks.f kj2 l1).bind fun bt350 => (if t347 = 0 then (if bt350.2 = 0 then (camshaftlaw07_TypesMore.j1 kj2 l0 l1 t346 bt350.1 (decide ((t346.length : Int) < 1))) else (camshaftlaw07_TypesMore.j1 kj2 l0 l1 t346 bt350.1 true)) else (camshaftlaw07_TypesMore.j1 kj2 l0 l1 t346 bt350.1 true))) = some r := H
        have A8 := Aside0.mk A80
        clear A80
        replace H := Option.bind_eq_some_iff.mp H
        obtain ⟨⟨t350, t351⟩, A90, H⟩ := H
        replace H : (if t347 = 0 then (if t351 = 0 then (camshaftlaw07_TypesMore.j1 kj2 l0 l1 t346 t350 (decide ((t346.length : Int) < 1))) else (camshaftlaw07_TypesMore.j1 kj2 l0 l1 t346 t350 true)) else (camshaftlaw07_TypesMore.j1 kj2 l0 l1 t346 t350 true)) = some r := H
        have A9 := Aside0.mk A90
        clear A90
        have HC10 := Aside0.mk H
        clear H
        go_upto_region 5 with (first | ((with_reducible refine gate_callee (f := 9) rfl ?_); refine goesL_ (some 26) rfl rfl Try.func9 (by kernel_rfl) rfl #[.slice A0 l0.length c0] rfl (by (try simp only [List.map_toArray, List.map_cons, List.map_nil]); first | done | rfl | (simp only [List.length_drop, List.length_take]; rfl)) ?_; (with_reducible refine (types_Stacks.calls kj2 _ _ l0 t346 t347 _ ?side1 ?side2 A8.out).mono ?_); (case side1 => repeat (first | exact (Kd.C_below HR0.out HB.out) | (with_reducible refine Kd.C_alloc ?_ _) | (with_reducible refine Kd.C_drewN ?_ _) | (with_reducible refine Kd.C_drew ?_))); (case side2 => exact HC0.out); rintro e w11 ⟨v348, rfl, ho0, hb⟩; refine ⟨_, rfl, ?_⟩; have n0_ := Aside0.mk (Kd.R_lower ho0 (below_size (by repeat (first | (with_reducible first | exact HB.out | apply below_alloc | apply pw_below_drewN | apply below_drew1) | exact HB.out)))); have n1_ := Aside0.mk (below_step (by repeat (first | (with_reducible first | exact HB.out | apply below_alloc | apply pw_below_drewN | apply below_drew1) | exact HB.out)) hb); clear HB; have HO349 := n0_; have HB := n1_; clear n0_ n1_; (try clear hb); (try clear hb2); (try clear hk); (try clear hi); (try clear ho0)) | ((with_reducible refine gate_callee (f := 9) rfl ?_); refine goesL_ (some 31) rfl rfl Try.func9 (by kernel_rfl) rfl #[.slice A1 l1.length c1] rfl (by (try simp only [List.map_toArray, List.map_cons, List.map_nil]); first | done | rfl | (simp only [List.length_drop, List.length_take]; rfl)) ?_; (with_reducible refine (types_Stacks.calls kj2 _ _ l1 t350 t351 _ ?side1 ?side2 A9.out).mono ?_); (case side1 => repeat (first | exact (Kd.C_below HR1.out HB.out) | (with_reducible refine Kd.C_alloc ?_ _) | (with_reducible refine Kd.C_drewN ?_ _) | (with_reducible refine Kd.C_drew ?_))); (case side2 => exact HC1.out); rintro e w12 ⟨v352, rfl, ho0, hb⟩; refine ⟨_, rfl, ?_⟩; have n0_ := Aside0.mk (Kd.R_elder' (by (with_reducible repeat (first | apply Kd.R_alloc | apply Kd.R_drewN | apply Kd.R_drew)); exact HO349.out) (Kd.R_base ho0) hb); have n1_ := Aside0.mk (Kd.R_lower (Kd.R_new' ho0 (Kd.R_lt (by (with_reducible repeat (first | apply Kd.R_alloc | apply Kd.R_drewN | apply Kd.R_drew)); exact HO349.out))) (below_size (by repeat (first | (with_reducible first | exact HB.out | apply below_alloc | apply pw_below_drewN | apply below_drew1) | exact HB.out)))); have n2_ := Aside0.mk (below_step (by repeat (first | (with_reducible first | exact HB.out | apply below_alloc | apply pw_below_drewN | apply below_drew1) | exact HB.out)) hb); clear HO349; clear HB; have HO349 := n0_; have HO353 := n1_; have HB := n2_; clear n0_ n1_ n2_; (try clear hb); (try clear hb2); (try clear hk); (try clear hi); (try clear ho0)))
        (try simp only [Act.put, List.setIfInBounds_toArray, List.set_cons_zero, List.set_cons_succ])
        go_cut [44] (fun v44 wc => ∃ (kq : Nat) (x44_9 : Bool), v44 = .bool x44_9 ∧ Aside0 (camshaftlaw07_TypesMore.j1 kq l0 l1 t346 t350 x44_9 = some r) ∧ Aside0 (kq ≤ kj2) ∧ Aside0 (Kd.R Kd.string 9 wc w.heap.size (fun k_ => some k_ ≠ (v352 : Value).ownBlock) v348 t346) ∧ Aside0 (Kd.R Kd.string 9 wc w.heap.size (fun k_ => some k_ ≠ (v348 : Value).ownBlock) v352 t350) ∧ Aside0 (Below w.heap.size w wc))
        case first =>
          have H := HC10.out
          clear HC10
          by_cases c13 : t347 = 0
          · rw [if_pos c13] at H
            have c13b0 : (t347 == 0) = true := beq_iff_eq.mpr c13
            have c13b1 : (t347 != 0) = false := bne_eq_false_iff_eq.mpr c13
            clear c13
            (first | rw [c13b0] | (simp only [i64_w, i32_w]; rw [c13b0]) | rw [c13b1] | skip)
            by_cases c14 : t351 = 0
            · rw [if_pos c14] at H
              have c14b0 : (t351 == 0) = true := beq_iff_eq.mpr c14
              have c14b1 : (t351 != 0) = false := bne_eq_false_iff_eq.mpr c14
              clear c14
              have H' := Aside0.mk H
              clear H
              obtain ⟨Ao15, co15, eo15⟩ := Kd.R_slice HO349.out
              subst eo15
              go_wp2
              go_meet
              case rel => exact ⟨_, (decide ((t346.length : Int) < 1)), (by first | rfl | (simp; done) | (simp [*]; done)), H', ⟨by have := HJ2.out; first | omega | exact Nat.le_refl _⟩, ⟨by (with_reducible repeat (first | apply Kd.R_alloc | apply Kd.R_drewN | apply Kd.R_drew)); exact Kd.R_mono HO349.out (fun _ hk => hk.2)⟩, ⟨by (with_reducible repeat (first | apply Kd.R_alloc | apply Kd.R_drewN | apply Kd.R_drew)); exact Kd.R_mono HO353.out (fun _ hk => hk.2)⟩, ⟨by repeat (first | (with_reducible first | exact HB.out | apply below_alloc | apply pw_below_drewN | apply below_drew1) | exact HB.out | exact Below.refl _ _)⟩⟩
            · rw [if_neg c14] at H
              have c14b0 : (t351 == 0) = false := beq_eq_false_iff_ne.mpr c14
              have c14b1 : (t351 != 0) = true := bne_iff_ne.mpr c14
              have H' := Aside0.mk H
              clear H
              go_wp2
              go_meet
              case rel => exact ⟨_, (true), (by first | rfl | (simp; done) | (simp [*]; done)), H', ⟨by have := HJ2.out; first | omega | exact Nat.le_refl _⟩, ⟨by (with_reducible repeat (first | apply Kd.R_alloc | apply Kd.R_drewN | apply Kd.R_drew)); exact Kd.R_mono HO349.out (fun _ hk => hk.2)⟩, ⟨by (with_reducible repeat (first | apply Kd.R_alloc | apply Kd.R_drewN | apply Kd.R_drew)); exact Kd.R_mono HO353.out (fun _ hk => hk.2)⟩, ⟨by repeat (first | (with_reducible first | exact HB.out | apply below_alloc | apply pw_below_drewN | apply below_drew1) | exact HB.out | exact Below.refl _ _)⟩⟩
          · rw [if_neg c13] at H
            have c13b0 : (t347 == 0) = false := beq_eq_false_iff_ne.mpr c13
            have c13b1 : (t347 != 0) = true := bne_iff_ne.mpr c13
            (first | rw [c13b0] | (simp only [i64_w, i32_w]; rw [c13b0]) | rw [c13b1] | skip)
            have H' := Aside0.mk H
            clear H
            go_wp2
            go_meet
            case rel => exact ⟨_, (true), (by first | rfl | (simp; done) | (simp [*]; done)), H', ⟨by have := HJ2.out; first | omega | exact Nat.le_refl _⟩, ⟨by (with_reducible repeat (first | apply Kd.R_alloc | apply Kd.R_drewN | apply Kd.R_drew)); exact Kd.R_mono HO349.out (fun _ hk => hk.2)⟩, ⟨by (with_reducible repeat (first | apply Kd.R_alloc | apply Kd.R_drewN | apply Kd.R_drew)); exact Kd.R_mono HO353.out (fun _ hk => hk.2)⟩, ⟨by repeat (first | (with_reducible first | exact HB.out | apply below_alloc | apply pw_below_drewN | apply below_drew1) | exact HB.out | exact Below.refl _ _)⟩⟩
        case rest =>
          clear HC10
          try clear c1
          try clear p2
          try clear c4
          try clear c4b0
          try clear c4b1
          try clear c5
          try clear p6
          try clear c8
          try clear c9
          try clear c13
          try clear c13b0
          try clear c13b1
          try clear c14
          try clear c14b0
          try clear c14b1
          try clear p2
          obtain ⟨kq, x44_9, rfl, HA, HJ9, HO_5, HO_7, HB⟩ := hcut
          cases kq with
          | zero => exact absurd HA.out (by simp [camshaftlaw07_TypesMore.j1])
          | succ kj9 =>
            have H := HA.out
            clear HA
            simp only [camshaftlaw07_TypesMore.j1] at H
            by_cases c16 : x44_9 = true
            · subst c16
              have H1 : ((camshaftlaw07_known.f kj9).bind fun t354 => (some t354)) = some r := by rw [if_pos rfl] at H; exact H
              clear H
              have H := H1
              clear H1
              replace H := Option.bind_eq_some_iff.mp H
              obtain ⟨t354, A170, H⟩ := H
              replace H : (some t354) = some r := H
              have A17 := Aside0.mk A170
              clear A170
              obtain rfl := Option.some.inj H
              go_wp2_with (first | ((with_reducible refine gate_callee (f := 8) rfl ?_); refine goesL_ (some 45) rfl rfl Try.func8 (by kernel_rfl) rfl #[] rfl (by (try simp only [List.map_toArray, List.map_cons, List.map_nil]); first | done | rfl | (simp only [List.length_drop, List.length_take]; rfl)) ?_; (with_reducible refine (camshaftlaw07_known.calls kj9  t354 _ A17.out).mono ?_); rintro e w18 ⟨rfl, hb⟩; refine ⟨_, rfl, ?_⟩; have n0_ := Aside0.mk (Kd.R_below (by (with_reducible repeat (first | apply Kd.R_alloc | apply Kd.R_drewN | apply Kd.R_drew)); exact HO_5.out) hb); have n1_ := Aside0.mk (Kd.R_below (by (with_reducible repeat (first | apply Kd.R_alloc | apply Kd.R_drewN | apply Kd.R_drew)); exact HO_7.out) hb); have n2_ := Aside0.mk (below_step (by repeat (first | (with_reducible first | exact HB.out | apply below_alloc | apply pw_below_drewN | apply below_drew1) | exact HB.out)) hb); clear HO_5; clear HO_7; clear HB; have HO_5 := n0_; have HO_7 := n1_; have HB := n2_; clear n0_ n1_ n2_; (try clear hb); (try clear hb2); (try clear hk); (try clear hi)))
              go_ret
              exact ⟨by first | rfl | (rw [bne_nil_eq]; rfl) | (simp [bne_nil_eq]; done) | (simp [errW_none, errW_some] <;> rfl) | (simp [*, errW_none, errW_some] <;> rfl), by repeat (first | (with_reducible first | exact HB.out | apply below_alloc | apply pw_below_drewN | apply below_drew1) | exact HB.out | exact Below.refl _ _)⟩
            · replace c16 := Bool.eq_false_iff.mpr c16
              subst c16
              have H1 : (if 0 ≤ (wrap64 ((t346.length : Int) - 1)) then (if (wrap64 ((t346.length : Int) - 1)) < (t346.length : Int) then (if (rdOf ByteArray.empty t346 (wrap64 ((t346.length : Int) - 1))).toList = ([] : List UInt8) then ((some (([] : List (S37)) : List (S37))).bind fun y356 => (if 0 ≤ (wrap64 ((l0.length : Int) - 1)) then (if (wrap64 ((l0.length : Int) - 1)) ≤ (l0.length : Int) then ((some (l0.take ((wrap64 ((l0.length : Int) - 1)) : Int).toNat : List (S37))).bind fun y359 => (if y356.length + y359.length < 5864062014805 then ((some (y356 ++ y359 : List (S37))).bind fun y363 => (if y363.length + l1.length < 5864062014805 then ((types_Stacks.f kj9 (y363 ++ l1)).bind fun bt369 => (if bt369.2 = 0 then ((some (([] : List ByteArray) : List ByteArray)).bind fun y373 => (if (wrap64 ((t346.length : Int) - 1)) ≤ (t346.length : Int) then ((some (t346.take ((wrap64 ((t346.length : Int) - 1)) : Int).toNat : List ByteArray)).bind fun y376 => (if y373.length + y376.length < 8796093022208 then ((some (y373 ++ y376 : List ByteArray)).bind fun y380 => (if y380.length + t350.length < 8796093022208 then ((camshaftref07_Same.f kj9 bt369.1 (y380 ++ t350)).bind fun t386 => (if t386 = true then ((camshaftlaw07_known.f kj9).bind fun t387 => (some t387)) else (some false))) else (none))) else (none))) else (none))) else (some false))) else (none))) else (none))) else (none)) else (none))) else ((camshaftlaw07_known.f kj9).bind fun t388 => (some t388))) else (none)) else (none)) = some r := by rw [if_neg (show ¬ (false = true) by decide)] at H; exact H
              clear H
              have H := H1
              clear H1
              obtain ⟨ji19, hji19⟩ : ∃ j_ : Int, (wrap64 ((t346.length : Int) - 1)) = j_ := ⟨_, rfl⟩
              replace H : (if 0 ≤ (ji19) then (if (ji19) < (t346.length : Int) then (if (rdOf ByteArray.empty t346 (ji19)).toList = ([] : List UInt8) then ((some (([] : List (S37)) : List (S37))).bind fun y356 => (if 0 ≤ (wrap64 ((l0.length : Int) - 1)) then (if (wrap64 ((l0.length : Int) - 1)) ≤ (l0.length : Int) then ((some (l0.take ((wrap64 ((l0.length : Int) - 1)) : Int).toNat : List (S37))).bind fun y359 => (if y356.length + y359.length < 5864062014805 then ((some (y356 ++ y359 : List (S37))).bind fun y363 => (if y363.length + l1.length < 5864062014805 then ((types_Stacks.f kj9 (y363 ++ l1)).bind fun bt369 => (if bt369.2 = 0 then ((some (([] : List ByteArray) : List ByteArray)).bind fun y373 => (if (ji19) ≤ (t346.length : Int) then ((some (t346.take ((ji19) : Int).toNat : List ByteArray)).bind fun y376 => (if y373.length + y376.length < 8796093022208 then ((some (y373 ++ y376 : List ByteArray)).bind fun y380 => (if y380.length + t350.length < 8796093022208 then ((camshaftref07_Same.f kj9 bt369.1 (y380 ++ t350)).bind fun t386 => (if t386 = true then ((camshaftlaw07_known.f kj9).bind fun t387 => (some t387)) else (some false))) else (none))) else (none))) else (none))) else (some false))) else (none))) else (none))) else (none)) else (none))) else ((camshaftlaw07_known.f kj9).bind fun t388 => (some t388))) else (none)) else (none)) = some r := by first | (rw [hji19] at H; exact H) | (simp only [hji19] at H ⊢; exact H)
              have hji19w : (IntKind.i64.wrap ((t346.length : Int) - 1)) = ji19 := (i64_w _).trans hji19
              by_cases c20 : 0 ≤ (ji19)
              · rw [if_pos c20] at H
                have c20b0 : decide (0 ≤ (ji19)) = true := decide_eq_true c20
                clear c20
                by_cases c21 : (ji19) < (t346.length : Int)
                · rw [if_pos c21] at H
                  have c21b0 : decide ((ji19) < (t346.length : Int)) = true := decide_eq_true c21
                  clear c21
                  by_cases c22 : (rdOf ByteArray.empty t346 (ji19)).toList = ([] : List UInt8)
                  · rw [if_pos c22] at H
                    have c22b0 : ((rdOf ByteArray.empty t346 (ji19)).toList == ([] : List UInt8)) = true := beq_iff_eq.mpr c22
                    have c22b1 : ((rdOf ByteArray.empty t346 (ji19)).toList != ([] : List UInt8)) = false := bne_eq_false_iff_eq.mpr c22
                    clear c22
                    obtain ⟨y356, hy356⟩ : ∃ y_ : List (S37), y_ = (([] : List (S37))) := ⟨_, rfl⟩
                    replace H : (if 0 ≤ (wrap64 ((l0.length : Int) - 1)) then (if (wrap64 ((l0.length : Int) - 1)) ≤ (l0.length : Int) then ((some (l0.take ((wrap64 ((l0.length : Int) - 1)) : Int).toNat : List (S37))).bind fun y359 => (if y356.length + y359.length < 5864062014805 then ((some (y356 ++ y359 : List (S37))).bind fun y363 => (if y363.length + l1.length < 5864062014805 then ((types_Stacks.f kj9 (y363 ++ l1)).bind fun bt369 => (if bt369.2 = 0 then ((some (([] : List ByteArray) : List ByteArray)).bind fun y373 => (if (ji19) ≤ (t346.length : Int) then ((some (t346.take ((ji19) : Int).toNat : List ByteArray)).bind fun y376 => (if y373.length + y376.length < 8796093022208 then ((some (y373 ++ y376 : List ByteArray)).bind fun y380 => (if y380.length + t350.length < 8796093022208 then ((camshaftref07_Same.f kj9 bt369.1 (y380 ++ t350)).bind fun t386 => (if t386 = true then ((camshaftlaw07_known.f kj9).bind fun t387 => (some t387)) else (some false))) else (none))) else (none))) else (none))) else (some false))) else (none))) else (none))) else (none)) else (none)) = some r := by first | (rw [hy356]; with_reducible exact H) | (have H2_ := (Option.bind_some _ _).symm.trans H; rw [hy356]; with_reducible exact H2_) | (have H2_ := (Option.bind_some _ _).symm.trans H; with_reducible exact H2_) | with_reducible exact H | (rw [hy356]; exact H) | exact H
                    have Ny356 := Aside0.mk hy356
                    clear hy356
                    obtain ⟨ji23, hji23⟩ : ∃ j_ : Int, (wrap64 ((l0.length : Int) - 1)) = j_ := ⟨_, rfl⟩
                    replace H : (if 0 ≤ (ji23) then (if (ji23) ≤ (l0.length : Int) then ((some (l0.take ((ji23) : Int).toNat : List (S37))).bind fun y359 => (if y356.length + y359.length < 5864062014805 then ((some (y356 ++ y359 : List (S37))).bind fun y363 => (if y363.length + l1.length < 5864062014805 then ((types_Stacks.f kj9 (y363 ++ l1)).bind fun bt369 => (if bt369.2 = 0 then ((some (([] : List ByteArray) : List ByteArray)).bind fun y373 => (if (ji19) ≤ (t346.length : Int) then ((some (t346.take ((ji19) : Int).toNat : List ByteArray)).bind fun y376 => (if y373.length + y376.length < 8796093022208 then ((some (y373 ++ y376 : List ByteArray)).bind fun y380 => (if y380.length + t350.length < 8796093022208 then ((camshaftref07_Same.f kj9 bt369.1 (y380 ++ t350)).bind fun t386 => (if t386 = true then ((camshaftlaw07_known.f kj9).bind fun t387 => (some t387)) else (some false))) else (none))) else (none))) else (none))) else (some false))) else (none))) else (none))) else (none)) else (none)) = some r := by first | (rw [hji23] at H; exact H) | (simp only [hji23] at H ⊢; exact H)
                    have hji23w : (IntKind.i64.wrap ((l0.length : Int) - 1)) = ji23 := (i64_w _).trans hji23
                    by_cases c24 : 0 ≤ (ji23)
                    · rw [if_pos c24] at H
                      have c24b0 := eq_true c24
                      have c24b1 : decide (0 ≤ (ji23)) = true := decide_eq_true c24
                      clear c24
                      by_cases c25 : (ji23) ≤ (l0.length : Int)
                      · rw [if_pos c25] at H
                        have c25b0 := eq_true c25
                        have c25b1 : decide ((ji23) ≤ (l0.length : Int)) = true := decide_eq_true c25
                        clear c25
                        obtain ⟨y359, hy359⟩ : ∃ y_ : List (S37), y_ = (l0.take ((ji23) : Int).toNat) := ⟨_, rfl⟩
                        replace H : (if y356.length + y359.length < 5864062014805 then ((some (y356 ++ y359 : List (S37))).bind fun y363 => (if y363.length + l1.length < 5864062014805 then ((types_Stacks.f kj9 (y363 ++ l1)).bind fun bt369 => (if bt369.2 = 0 then ((some (([] : List ByteArray) : List ByteArray)).bind fun y373 => (if (ji19) ≤ (t346.length : Int) then ((some (t346.take ((ji19) : Int).toNat : List ByteArray)).bind fun y376 => (if y373.length + y376.length < 8796093022208 then ((some (y373 ++ y376 : List ByteArray)).bind fun y380 => (if y380.length + t350.length < 8796093022208 then ((camshaftref07_Same.f kj9 bt369.1 (y380 ++ t350)).bind fun t386 => (if t386 = true then ((camshaftlaw07_known.f kj9).bind fun t387 => (some t387)) else (some false))) else (none))) else (none))) else (none))) else (some false))) else (none))) else (none)) = some r := by first | (rw [hy359]; with_reducible exact H) | (have H2_ := (Option.bind_some _ _).symm.trans H; rw [hy359]; with_reducible exact H2_) | (have H2_ := (Option.bind_some _ _).symm.trans H; with_reducible exact H2_) | with_reducible exact H | (rw [hy359]; exact H) | exact H
                        have Ny359 := Aside0.mk hy359
                        clear hy359
                        by_cases c26 : y356.length + y359.length < 5864062014805
                        · rw [if_pos c26] at H
                          have LMc26 := Aside0.mk c26
                          clear c26
                          obtain ⟨y363, hy363⟩ : ∃ y_ : List (S37), y_ = (y356 ++ y359) := ⟨_, rfl⟩
                          replace H : (if y363.length + l1.length < 5864062014805 then ((types_Stacks.f kj9 (y363 ++ l1)).bind fun bt369 => (if bt369.2 = 0 then ((some (([] : List ByteArray) : List ByteArray)).bind fun y373 => (if (ji19) ≤ (t346.length : Int) then ((some (t346.take ((ji19) : Int).toNat : List ByteArray)).bind fun y376 => (if y373.length + y376.length < 8796093022208 then ((some (y373 ++ y376 : List ByteArray)).bind fun y380 => (if y380.length + t350.length < 8796093022208 then ((camshaftref07_Same.f kj9 bt369.1 (y380 ++ t350)).bind fun t386 => (if t386 = true then ((camshaftlaw07_known.f kj9).bind fun t387 => (some t387)) else (some false))) else (none))) else (none))) else (none))) else (some false))) else (none)) = some r := by first | (rw [hy363]; with_reducible exact H) | (have H2_ := (Option.bind_some _ _).symm.trans H; rw [hy363]; with_reducible exact H2_) | (have H2_ := (Option.bind_some _ _).symm.trans H; with_reducible exact H2_) | with_reducible exact H | (rw [hy363]; exact H) | exact H
                          have Ny363 := Aside0.mk hy363
                          clear hy363
                          by_cases c27 : y363.length + l1.length < 5864062014805
                          · rw [if_pos c27] at H
                            have LMc27 := Aside0.mk c27
                            clear c27
                            obtain ⟨y366, hy366⟩ : ∃ y_ : List (S37), y_ = (y363 ++ l1) := ⟨_, rfl⟩
                            replace H : ((types_Stacks.f kj9 y366).bind fun bt369 => (if bt369.2 = 0 then ((some (([] : List ByteArray) : List ByteArray)).bind fun y373 => (if (ji19) ≤ (t346.length : Int) then ((some (t346.take ((ji19) : Int).toNat : List ByteArray)).bind fun y376 => (if y373.length + y376.length < 8796093022208 then ((some (y373 ++ y376 : List ByteArray)).bind fun y380 => (if y380.length + t350.length < 8796093022208 then ((camshaftref07_Same.f kj9 bt369.1 (y380 ++ t350)).bind fun t386 => (if t386 = true then ((camshaftlaw07_known.f kj9).bind fun t387 => (some t387)) else (some false))) else (none))) else (none))) else (none))) else (some false))) = some r := by first | (rw [hy366]; with_reducible exact H) | (have H2_ := (Option.bind_some _ _).symm.trans H; rw [hy366]; with_reducible exact H2_) | (have H2_ := (Option.bind_some _ _).symm.trans H; with_reducible exact H2_) | with_reducible exact H | (rw [hy366]; exact H) | exact H
                            have Ny366 := Aside0.mk hy366
                            clear hy366
                            replace H := Option.bind_eq_some_iff.mp H
                            obtain ⟨⟨t369, t370⟩, A280, H⟩ := H
                            replace H : (if t370 = 0 then ((some (([] : List ByteArray) : List ByteArray)).bind fun y373 => (if (ji19) ≤ (t346.length : Int) then ((some (t346.take ((ji19) : Int).toNat : List ByteArray)).bind fun y376 => (if y373.length + y376.length < 8796093022208 then ((some (y373 ++ y376 : List ByteArray)).bind fun y380 => (if y380.length + t350.length < 8796093022208 then ((camshaftref07_Same.f kj9 t369 (y380 ++ t350)).bind fun t386 => (if t386 = true then ((camshaftlaw07_known.f kj9).bind fun t387 => (some t387)) else (some false))) else (none))) else (none))) else (none))) else (some false)) = some r := H
                            have A28 := Aside0.mk A280
                            clear A280
                            by_cases c29 : t370 = 0
                            · rw [if_pos c29] at H
                              have c29b0 : (t370 == 0) = true := beq_iff_eq.mpr c29
                              have c29b1 : (t370 != 0) = false := bne_eq_false_iff_eq.mpr c29
                              clear c29
                              obtain ⟨y373, hy373⟩ : ∃ y_ : List ByteArray, y_ = (([] : List ByteArray)) := ⟨_, rfl⟩
                              replace H : (if (ji19) ≤ (t346.length : Int) then ((some (t346.take ((ji19) : Int).toNat : List ByteArray)).bind fun y376 => (if y373.length + y376.length < 8796093022208 then ((some (y373 ++ y376 : List ByteArray)).bind fun y380 => (if y380.length + t350.length < 8796093022208 then ((camshaftref07_Same.f kj9 t369 (y380 ++ t350)).bind fun t386 => (if t386 = true then ((camshaftlaw07_known.f kj9).bind fun t387 => (some t387)) else (some false))) else (none))) else (none))) else (none)) = some r := by first | (rw [hy373]; with_reducible exact H) | (have H2_ := (Option.bind_some _ _).symm.trans H; rw [hy373]; with_reducible exact H2_) | (have H2_ := (Option.bind_some _ _).symm.trans H; with_reducible exact H2_) | with_reducible exact H | (rw [hy373]; exact H) | exact H
                              have Ny373 := Aside0.mk hy373
                              clear hy373
                              have c30b0 := eq_true (of_decide_eq_true (by first | (with_reducible assumption) | assumption) : 0 ≤ (ji19))
                              by_cases c31 : (ji19) ≤ (t346.length : Int)
                              · rw [if_pos c31] at H
                                have c31b0 := eq_true c31
                                have c31b1 : decide ((ji19) ≤ (t346.length : Int)) = true := decide_eq_true c31
                                clear c31
                                obtain ⟨y376, hy376⟩ : ∃ y_ : List ByteArray, y_ = (t346.take ((ji19) : Int).toNat) := ⟨_, rfl⟩
                                replace H : (if y373.length + y376.length < 8796093022208 then ((some (y373 ++ y376 : List ByteArray)).bind fun y380 => (if y380.length + t350.length < 8796093022208 then ((camshaftref07_Same.f kj9 t369 (y380 ++ t350)).bind fun t386 => (if t386 = true then ((camshaftlaw07_known.f kj9).bind fun t387 => (some t387)) else (some false))) else (none))) else (none)) = some r := by first | (rw [hy376]; with_reducible exact H) | (have H2_ := (Option.bind_some _ _).symm.trans H; rw [hy376]; with_reducible exact H2_) | (have H2_ := (Option.bind_some _ _).symm.trans H; with_reducible exact H2_) | with_reducible exact H | (rw [hy376]; exact H) | exact H
                                have Ny376 := Aside0.mk hy376
                                clear hy376
                                by_cases c32 : y373.length + y376.length < 8796093022208
                                · rw [if_pos c32] at H
                                  have LMc32 := Aside0.mk c32
                                  clear c32
                                  obtain ⟨y380, hy380⟩ : ∃ y_ : List ByteArray, y_ = (y373 ++ y376) := ⟨_, rfl⟩
                                  replace H : (if y380.length + t350.length < 8796093022208 then ((camshaftref07_Same.f kj9 t369 (y380 ++ t350)).bind fun t386 => (if t386 = true then ((camshaftlaw07_known.f kj9).bind fun t387 => (some t387)) else (some false))) else (none)) = some r := by first | (rw [hy380]; with_reducible exact H) | (have H2_ := (Option.bind_some _ _).symm.trans H; rw [hy380]; with_reducible exact H2_) | (have H2_ := (Option.bind_some _ _).symm.trans H; with_reducible exact H2_) | with_reducible exact H | (rw [hy380]; exact H) | exact H
                                  have Ny380 := Aside0.mk hy380
                                  clear hy380
                                  by_cases c33 : y380.length + t350.length < 8796093022208
                                  · rw [if_pos c33] at H
                                    have LMc33 := Aside0.mk c33
                                    clear c33
                                    obtain ⟨y383, hy383⟩ : ∃ y_ : List ByteArray, y_ = (y380 ++ t350) := ⟨_, rfl⟩
                                    replace H : ((camshaftref07_Same.f kj9 t369 y383).bind fun t386 => (if t386 = true then ((camshaftlaw07_known.f kj9).bind fun t387 => (some t387)) else (some false))) = some r := by first | (rw [hy383]; with_reducible exact H) | (have H2_ := (Option.bind_some _ _).symm.trans H; rw [hy383]; with_reducible exact H2_) | (have H2_ := (Option.bind_some _ _).symm.trans H; with_reducible exact H2_) | with_reducible exact H | (rw [hy383]; exact H) | exact H
                                    have Ny383 := Aside0.mk hy383
                                    clear hy383
                                    replace H := Option.bind_eq_some_iff.mp H
                                    obtain ⟨t386, A340, H⟩ := H
                                    replace H : (if t386 = true then ((camshaftlaw07_known.f kj9).bind fun t387 => (some t387)) else (some false)) = some r := H
                                    have A34 := Aside0.mk A340
                                    clear A340
                                    by_cases c35 : t386 = true
                                    · subst c35
                                      have H1 : ((camshaftlaw07_known.f kj9).bind fun t387 => (some t387)) = some r := by rw [if_pos rfl] at H; exact H
                                      clear H
                                      have H := H1
                                      clear H1
                                      replace H := Option.bind_eq_some_iff.mp H
                                      obtain ⟨t387, A360, H⟩ := H
                                      replace H : (some t387) = some r := H
                                      have A36 := Aside0.mk A360
                                      clear A360
                                      obtain rfl := Option.some.inj H
                                      obtain ⟨Ao37, co37, eo37⟩ := Kd.R_slice HO_5.out
                                      subst eo37
                                      have p355 : 0 ≤ ((ji19) : Int) := of_decide_eq_true (by first | (with_reducible assumption) | assumption)
                                      have q355 : (ji19) < (t346.length : Int) := of_decide_eq_true (by first | (with_reducible assumption) | assumption)
                                      obtain ⟨ad355, e355, hx355_0⟩ := Kd.at_string (Kd.R_reads' HO_5.out).2.2 (ji19) p355 q355
                                      cases e355
                                      replace p355 := eq_true p355
                                      replace q355 := eq_true q355
                                      go_wp2_with (first | ((with_reducible refine gate_dst (N := 54) rfl ?_); (try (refine gate_guard (by rfl) ?_; dsimp only)); refine Kd.R_lit k37 _ 37 ?hg (N := 54) ?hd (xs := ([] : List (S37))) (inner := []) (ok := fun _ => True) (okp := fun _ => True) ?hr ?hp (fun _ hk => hk) trivial (Below.refl _ _) (Nat.le_refl _) (by simp) ?_; (case hd => rfl); (case hg => rfl); (case hr => first | (go_simp; done) | (go_simp; rfl)); (case hp => exact (Reps.none _ _)); intro v357 w38 ho39 hb hg_ hnew_; clear hg_ hnew_; (first | rw [← Ny356.out] at ho39 | (simp only [Int.reduceToNat] at ho39; rw [← Ny356.out] at ho39)); have n0_ := Aside0.mk (Kd.R_below (by (with_reducible repeat (first | apply Kd.R_alloc | apply Kd.R_drewN | apply Kd.R_drew)); exact HO_5.out) hb); have n1_ := Aside0.mk (Kd.R_below (by (with_reducible repeat (first | apply Kd.R_alloc | apply Kd.R_drewN | apply Kd.R_drew)); exact HO_7.out) hb); have n2_ := Aside0.mk (Kd.R_lower ho39 (below_size (by repeat (first | (with_reducible first | exact HB.out | apply below_alloc | apply pw_below_drewN | apply below_drew1) | exact HB.out)))); have n3_ := Aside0.mk (below_step (by repeat (first | (with_reducible first | exact HB.out | apply below_alloc | apply pw_below_drewN | apply below_drew1) | exact HB.out)) hb); clear HO_5; clear HO_7; clear HB; have HO_5 := n0_; have HO_7 := n1_; have HO358 := n2_; have HB := n3_; clear n0_ n1_ n2_ n3_; clear hb ho39; have q40 : ((ji23) : Int) ≤ ((l0.length : Int) : Int) := of_decide_eq_true (by first | (with_reducible assumption) | assumption); obtain ⟨i040, hi040, _, hsz40, _⟩ := info_parts info37; have hroom40 : l0.length ≤ c0 := HC0.out; have hC40 : Kd.C k37 _ A0 l0.length l0 := HR0.out; have hcut40 := cut_to (P := Try.prog) 22 37 .i64 Try.underlying22 hi040 A0 l0.length c0 (ji23) (of_decide_eq_true (by first | (with_reducible assumption) | assumption)) q40 hroom40; have hr40 := Kd.C_take (m := ((ji23) : Int).toNat) hC40 (by omega); have hy40 : y359.length = ((ji23) : Int).toNat := (by rw [Ny359.out, List.length_take]; omega); rw [← Ny359.out] at hr40; rw [← hy40] at hcut40; have HR362 := Aside0.mk hr40; have HC362 := Aside0.mk (show y359.length ≤ c0 from by omega); clear hr40 hC40 hroom40 hi040 hsz40; have KY40 := Aside0.mk hy40; clear hy40; replace q40 := eq_true q40) | ((with_reducible refine gate_builtin (b := .append) (xs := #[.tmp 54, .tmp 59]) rfl ?_); (try (refine gate_guard (by rfl) ?_; dsimp only)); at_builtin; refine Kd.R_append_rows k37 (w0 := w) w.heap.size rfl (.tmp 54) (.tmp 59) 22 37 (.agg #[(.int .i64 0), (.int .i64 0), (.int .i64 0)]) 24 rfl Try.underlying22 info37 rfl (by decide) (by omega) v357 y356 y359 _ _ _ (fun _ => True) (fun _ => False) rfl rfl ?aO ?aR (fun _ _ h => h) (fun _ h => h.elim) ?aF ?aB ?aS ?aL ?_; (case aR => repeat (first | exact (Kd.C_below HR362.out HB.out) | (with_reducible refine Kd.C_alloc ?_ _) | (with_reducible refine Kd.C_drewN ?_ _) | (with_reducible refine Kd.C_drew ?_))); (case aB => exact (by repeat (first | (with_reducible first | exact HB.out | apply below_alloc | apply pw_below_drewN | apply below_drew1) | exact HB.out))); (case aF => exact (fun _ _ => trivial)); (case aO => exact (by (with_reducible repeat (first | apply Kd.R_alloc | apply Kd.R_drewN | apply Kd.R_drew)); exact HO358.out)); (case aS => exact (below_size (by repeat (first | (with_reducible first | exact HB.out | apply below_alloc | apply pw_below_drewN | apply below_drew1) | exact HB.out)))); (case aL => have := LMc26.out; omega); intro v364 w41 ho hb hg hat; rw [← Ny363.out] at ho; have n0_ := Aside0.mk (Kd.R_over' (by (with_reducible repeat (first | apply Kd.R_alloc | apply Kd.R_drewN | apply Kd.R_drew)); exact HO_5.out) (Kd.R_typed (by (with_reducible repeat (first | apply Kd.R_alloc | apply Kd.R_drewN | apply Kd.R_drew)); exact HO358.out)) (by decide) hg); have n1_ := Aside0.mk (Kd.R_over' (by (with_reducible repeat (first | apply Kd.R_alloc | apply Kd.R_drewN | apply Kd.R_drew)); exact HO_7.out) (Kd.R_typed (by (with_reducible repeat (first | apply Kd.R_alloc | apply Kd.R_drewN | apply Kd.R_drew)); exact HO358.out)) (by decide) hg); have n2_ := Aside0.mk (hb); have n3_ := Aside0.mk (ho); clear HO_5; clear HO_7; clear HB; clear HO358; have HO_5 := n0_; have HO_7 := n1_; have HB := n2_; have HO365 := n3_; clear n0_ n1_ n2_ n3_; clear ho hb hg hat) | ((with_reducible refine gate_builtin (b := .append) (xs := #[.tmp 60, .tmp 61]) rfl ?_); (try (refine gate_guard (by rfl) ?_; dsimp only)); at_builtin; refine Kd.R_append_rows k37 (w0 := w) w.heap.size rfl (.tmp 60) (.tmp 61) 22 37 (.agg #[(.int .i64 0), (.int .i64 0), (.int .i64 0)]) 24 rfl Try.underlying22 info37 rfl (by decide) (by omega) v364 y363 l1 _ _ _ (fun _ => True) (fun _ => False) rfl rfl ?aO ?aR (fun _ _ h => h) (fun _ h => h.elim) ?aF ?aB ?aS ?aL ?_; (case aR => repeat (first | exact (Kd.C_below HR1.out HB.out) | (with_reducible refine Kd.C_alloc ?_ _) | (with_reducible refine Kd.C_drewN ?_ _) | (with_reducible refine Kd.C_drew ?_))); (case aB => exact (by repeat (first | (with_reducible first | exact HB.out | apply below_alloc | apply pw_below_drewN | apply below_drew1) | exact HB.out))); (case aF => exact (fun _ _ => trivial)); (case aO => exact (by (with_reducible repeat (first | apply Kd.R_alloc | apply Kd.R_drewN | apply Kd.R_drew)); exact HO365.out)); (case aS => exact (below_size (by repeat (first | (with_reducible first | exact HB.out | apply below_alloc | apply pw_below_drewN | apply below_drew1) | exact HB.out)))); (case aL => have := LMc27.out; omega); intro v367 w42 ho hb hg hat; rw [← Ny366.out] at ho; have n0_ := Aside0.mk (Kd.R_over' (by (with_reducible repeat (first | apply Kd.R_alloc | apply Kd.R_drewN | apply Kd.R_drew)); exact HO_5.out) (Kd.R_typed (by (with_reducible repeat (first | apply Kd.R_alloc | apply Kd.R_drewN | apply Kd.R_drew)); exact HO365.out)) (by decide) hg); have n1_ := Aside0.mk (Kd.R_over' (by (with_reducible repeat (first | apply Kd.R_alloc | apply Kd.R_drewN | apply Kd.R_drew)); exact HO_7.out) (Kd.R_typed (by (with_reducible repeat (first | apply Kd.R_alloc | apply Kd.R_drewN | apply Kd.R_drew)); exact HO365.out)) (by decide) hg); have n2_ := Aside0.mk (hb); have n3_ := Aside0.mk (ho); clear HO_5; clear HO_7; clear HB; clear HO365; have HO_5 := n0_; have HO_7 := n1_; have HB := n2_; have HO368 := n3_; clear n0_ n1_ n2_ n3_; clear ho hb hg hat; obtain ⟨Ao43, co43, eo43⟩ := Kd.R_slice HO368.out; subst eo43) | ((with_reducible refine gate_callee (f := 9) rfl ?_); refine goesL_ (some 65) rfl rfl Try.func9 (by kernel_rfl) rfl #[.slice Ao43 y366.length co43] rfl (by (try simp only [List.map_toArray, List.map_cons, List.map_nil]); first | done | rfl | (simp only [List.length_drop, List.length_take]; rfl)) ?_; (with_reducible refine (types_Stacks.calls kj9 _ _ y366 t369 t370 _ ?side1 ?side2 A28.out).mono ?_); (case side1 => repeat (first | exact (Kd.R_reads' HO368.out).2.2 | (with_reducible refine Kd.C_alloc ?_ _) | (with_reducible refine Kd.C_drewN ?_ _) | (with_reducible refine Kd.C_drew ?_))); (case side2 => exact (Kd.R_reads' HO368.out).2.1); rintro e w44 ⟨v371, rfl, ho0, hb⟩; refine ⟨_, rfl, ?_⟩; have n0_ := Aside0.mk (Kd.R_elder' (by (with_reducible repeat (first | apply Kd.R_alloc | apply Kd.R_drewN | apply Kd.R_drew)); exact HO_5.out) (Kd.R_base ho0) hb); have n1_ := Aside0.mk (Kd.R_elder' (by (with_reducible repeat (first | apply Kd.R_alloc | apply Kd.R_drewN | apply Kd.R_drew)); exact HO_7.out) (Kd.R_base ho0) hb); have n2_ := Aside0.mk (Kd.R_below (by (with_reducible repeat (first | apply Kd.R_alloc | apply Kd.R_drewN | apply Kd.R_drew)); exact HO368.out) hb); have n3_ := Aside0.mk (Kd.R_lower (Kd.R_new' (Kd.R_new' ho0 (Kd.R_lt (by (with_reducible repeat (first | apply Kd.R_alloc | apply Kd.R_drewN | apply Kd.R_drew)); exact HO_5.out))) (Kd.R_lt (by (with_reducible repeat (first | apply Kd.R_alloc | apply Kd.R_drewN | apply Kd.R_drew)); exact HO_7.out))) (below_size (by repeat (first | (with_reducible first | exact HB.out | apply below_alloc | apply pw_below_drewN | apply below_drew1) | exact HB.out)))); have n4_ := Aside0.mk (below_step (by repeat (first | (with_reducible first | exact HB.out | apply below_alloc | apply pw_below_drewN | apply below_drew1) | exact HB.out)) hb); clear HO_5; clear HO_7; clear HO368; clear HB; have HO_5 := n0_; have HO_7 := n1_; have HO368 := n2_; have HO372 := n3_; have HB := n4_; clear n0_ n1_ n2_ n3_ n4_; (try clear hb); (try clear hb2); (try clear hk); (try clear hi); (try clear ho0)) | ((with_reducible refine gate_dst (N := 72) rfl ?_); (try (refine gate_guard (by rfl) ?_; dsimp only)); refine Kd.R_lit Kd.string _ 9 ?hg (N := 72) ?hd (xs := ([] : List ByteArray)) (inner := []) (ok := fun _ => True) (okp := fun _ => True) ?hr ?hp (fun _ hk => hk) trivial (Below.refl _ _) (Nat.le_refl _) (by simp) ?_; (case hd => rfl); (case hg => rfl); (case hr => first | (go_simp; done) | (go_simp; rfl)); (case hp => exact (Reps.none _ _)); intro v374 w45 ho46 hb hg_ hnew_; clear hg_ hnew_; (first | rw [← Ny373.out] at ho46 | (simp only [Int.reduceToNat] at ho46; rw [← Ny373.out] at ho46)); have n0_ := Aside0.mk (Kd.R_elder' (by (with_reducible repeat (first | apply Kd.R_alloc | apply Kd.R_drewN | apply Kd.R_drew)); exact HO_5.out) (Kd.R_base ho46) hb); have n1_ := Aside0.mk (Kd.R_elder' (by (with_reducible repeat (first | apply Kd.R_alloc | apply Kd.R_drewN | apply Kd.R_drew)); exact HO_7.out) (Kd.R_base ho46) hb); have n2_ := Aside0.mk (Kd.R_below (by (with_reducible repeat (first | apply Kd.R_alloc | apply Kd.R_drewN | apply Kd.R_drew)); exact HO368.out) hb); have n3_ := Aside0.mk (Kd.R_elder' (by (with_reducible repeat (first | apply Kd.R_alloc | apply Kd.R_drewN | apply Kd.R_drew)); exact HO372.out) (Kd.R_base ho46) hb); have n4_ := Aside0.mk (Kd.R_lower (Kd.R_new' (Kd.R_new' (Kd.R_new' ho46 (Kd.R_lt (by (with_reducible repeat (first | apply Kd.R_alloc | apply Kd.R_drewN | apply Kd.R_drew)); exact HO_5.out))) (Kd.R_lt (by (with_reducible repeat (first | apply Kd.R_alloc | apply Kd.R_drewN | apply Kd.R_drew)); exact HO_7.out))) (Kd.R_lt (by (with_reducible repeat (first | apply Kd.R_alloc | apply Kd.R_drewN | apply Kd.R_drew)); exact HO372.out))) (below_size (by repeat (first | (with_reducible first | exact HB.out | apply below_alloc | apply pw_below_drewN | apply below_drew1) | exact HB.out)))); have n5_ := Aside0.mk (below_step (by repeat (first | (with_reducible first | exact HB.out | apply below_alloc | apply pw_below_drewN | apply below_drew1) | exact HB.out)) hb); clear HO_5; clear HO_7; clear HO368; clear HO372; clear HB; have HO_5 := n0_; have HO_7 := n1_; have HO368 := n2_; have HO372 := n3_; have HO375 := n4_; have HB := n5_; clear n0_ n1_ n2_ n3_ n4_ n5_; clear hb ho46; have q47 : ((ji19) : Int) ≤ ((t346.length : Int) : Int) := of_decide_eq_true (by first | (with_reducible assumption) | assumption); obtain ⟨i047, hi047, _, hsz47, _⟩ := info_parts info9; have hroom47 : t346.length ≤ co37 := (Kd.R_reads' HO_5.out).2.1; have hC47 : Kd.C Kd.string _ (some ad355) t346.length t346 := (Kd.R_reads' HO_5.out).2.2; have hcut47 := cut_to (P := Try.prog) 24 9 .i64 Try.underlying24 hi047 (some ad355) t346.length co37 (ji19) (of_decide_eq_true (by first | (with_reducible assumption) | assumption)) q47 hroom47; have hr47 := Kd.C_take (m := ((ji19) : Int).toNat) hC47 (by omega); have hy47 : y376.length = ((ji19) : Int).toNat := (by rw [Ny376.out, List.length_take]; omega); rw [← Ny376.out] at hr47; rw [← hy47] at hcut47; have HR379 := Aside0.mk hr47; have HC379 := Aside0.mk (show y376.length ≤ co37 from by omega); clear hr47 hC47 hroom47 hi047 hsz47; have KY47 := Aside0.mk hy47; clear hy47; have KL47 := Aside0.mk (show ((ji19) : Int).toNat ≤ t346.length from by omega); replace q47 := eq_true q47) | ((with_reducible refine gate_builtin (b := .append) (xs := #[.tmp 72, .tmp 77]) rfl ?_); (try (refine gate_guard (by rfl) ?_; dsimp only)); at_builtin; refine Kd.R_append_rows Kd.string (w0 := w) w.heap.size rfl (.tmp 72) (.tmp 77) 24 9 (.string ⟨#[]⟩) 16 rfl Try.underlying24 info9 rfl (by decide) (by omega) v374 y373 y376 _ _ _ (fun k_ => some k_ ≠ (.slice (some ad355) t346.length co37 : Value).ownBlock ∧ some k_ ≠ (v352 : Value).ownBlock ∧ some k_ ≠ (v371 : Value).ownBlock) (fun _ => False) rfl rfl ?aO ?aR (fun _ _ h => h) (fun _ h => h.elim) ?aF ?aB ?aS ?aL ?_; (case aR => repeat (first | exact (by repeat (first | (with_reducible exact HR379.out) | (with_reducible refine Kd.C_alloc ?_ _) | (with_reducible refine Kd.C_drewN ?_ _) | (with_reducible refine Kd.C_drew ?_) | exact HR379.out)) | (with_reducible refine Kd.C_alloc ?_ _) | (with_reducible refine Kd.C_drewN ?_ _) | (with_reducible refine Kd.C_drew ?_))); (case aB => exact (by repeat (first | (with_reducible first | exact HB.out | apply below_alloc | apply pw_below_drewN | apply below_drew1) | exact HB.out))); (case aF => exact (fun k_ hk => ⟨Kd.fresh' (Kd.R_lt (by (with_reducible repeat (first | apply Kd.R_alloc | apply Kd.R_drewN | apply Kd.R_drew)); exact HO_5.out)) k_ hk, Kd.fresh' (Kd.R_lt (by (with_reducible repeat (first | apply Kd.R_alloc | apply Kd.R_drewN | apply Kd.R_drew)); exact HO_7.out)) k_ hk, Kd.fresh' (Kd.R_lt (by (with_reducible repeat (first | apply Kd.R_alloc | apply Kd.R_drewN | apply Kd.R_drew)); exact HO372.out)) k_ hk⟩)); (case aO => exact (by (with_reducible repeat (first | apply Kd.R_alloc | apply Kd.R_drewN | apply Kd.R_drew)); exact Kd.R_mono HO375.out (fun _ hk => ⟨hk.1.1.2, ⟨hk.1.2, hk.2⟩⟩))); (case aS => exact (below_size (by repeat (first | (with_reducible first | exact HB.out | apply below_alloc | apply pw_below_drewN | apply below_drew1) | exact HB.out)))); (case aL => have := LMc32.out; omega); intro v381 w48 ho hb hg hat; rw [← Ny380.out] at ho; have n0_ := Aside0.mk (Kd.R_after (ok := (fun k_ => some k_ ≠ (v352 : Value).ownBlock ∧ some k_ ≠ (v371 : Value).ownBlock)) (by (with_reducible repeat (first | apply Kd.R_alloc | apply Kd.R_drewN | apply Kd.R_drew)); exact HO_5.out) hg hat); have n1_ := Aside0.mk (Kd.R_after (ok := (fun k_ => some k_ ≠ (.slice (some ad355) t346.length co37 : Value).ownBlock ∧ some k_ ≠ (v371 : Value).ownBlock)) (by (with_reducible repeat (first | apply Kd.R_alloc | apply Kd.R_drewN | apply Kd.R_drew)); exact HO_7.out) hg hat); have n2_ := Aside0.mk (Kd.R_over' (by (with_reducible repeat (first | apply Kd.R_alloc | apply Kd.R_drewN | apply Kd.R_drew)); exact HO368.out) (Kd.R_typed (by (with_reducible repeat (first | apply Kd.R_alloc | apply Kd.R_drewN | apply Kd.R_drew)); exact HO375.out)) (by decide) hg); have n3_ := Aside0.mk (Kd.R_after (ok := (fun k_ => some k_ ≠ (.slice (some ad355) t346.length co37 : Value).ownBlock ∧ some k_ ≠ (v352 : Value).ownBlock)) (by (with_reducible repeat (first | apply Kd.R_alloc | apply Kd.R_drewN | apply Kd.R_drew)); exact Kd.R_mono HO372.out (fun _ hk => ⟨⟨hk.1.1.2, hk.1.2⟩, hk.2⟩)) hg hat); have n4_ := Aside0.mk (hb); have n5_ := Aside0.mk ((show Kd.C Kd.string w48 (some ad355) y376.length y376 from by rw [Ny376.out]; exact Kd.C_take (m := ((ji19) : Int).toNat) ((Kd.R_reads' (Kd.R_after (ok := (fun k_ => some k_ ≠ (v352 : Value).ownBlock ∧ some k_ ≠ (v371 : Value).ownBlock)) (by (with_reducible repeat (first | apply Kd.R_alloc | apply Kd.R_drewN | apply Kd.R_drew)); exact HO_5.out) hg hat)).2.2) KL47.out)); have n6_ := Aside0.mk (ho); clear HO_5; clear HO_7; clear HO368; clear HO372; clear HB; clear HR379; clear HO375; have HO_5 := n0_; have HO_7 := n1_; have HO368 := n2_; have HO372 := n3_; have HB := n4_; have HR379 := n5_; have HO382 := n6_; clear n0_ n1_ n2_ n3_ n4_ n5_ n6_; clear ho hb hg hat; obtain ⟨Ao50, co50, eo50⟩ := Kd.R_slice HO_7.out; subst eo50) | ((with_reducible refine gate_builtin (b := .append) (xs := #[.tmp 78, .tmp 79]) rfl ?_); (try (refine gate_guard (by rfl) ?_; dsimp only)); at_builtin; refine Kd.R_append_rows Kd.string (w0 := w) w.heap.size rfl (.tmp 78) (.tmp 79) 24 9 (.string ⟨#[]⟩) 16 rfl Try.underlying24 info9 rfl (by decide) (by omega) v381 y380 t350 _ _ _ (fun k_ => some k_ ≠ (.slice (some ad355) t346.length co37 : Value).ownBlock ∧ some k_ ≠ (.slice Ao50 t350.length co50 : Value).ownBlock ∧ some k_ ≠ (v371 : Value).ownBlock) (fun _ => False) rfl rfl ?aO ?aR (fun _ _ h => h) (fun _ h => h.elim) ?aF ?aB ?aS ?aL ?_; (case aR => repeat (first | exact (Kd.R_reads' HO_7.out).2.2 | (with_reducible refine Kd.C_alloc ?_ _) | (with_reducible refine Kd.C_drewN ?_ _) | (with_reducible refine Kd.C_drew ?_))); (case aB => exact (by repeat (first | (with_reducible first | exact HB.out | apply below_alloc | apply pw_below_drewN | apply below_drew1) | exact HB.out))); (case aF => exact (fun k_ hk => ⟨Kd.fresh' (Kd.R_lt (by (with_reducible repeat (first | apply Kd.R_alloc | apply Kd.R_drewN | apply Kd.R_drew)); exact HO_5.out)) k_ hk, Kd.fresh' (Kd.R_lt (by (with_reducible repeat (first | apply Kd.R_alloc | apply Kd.R_drewN | apply Kd.R_drew)); exact HO_7.out)) k_ hk, Kd.fresh' (Kd.R_lt (by (with_reducible repeat (first | apply Kd.R_alloc | apply Kd.R_drewN | apply Kd.R_drew)); exact HO372.out)) k_ hk⟩)); (case aO => exact (by (with_reducible repeat (first | apply Kd.R_alloc | apply Kd.R_drewN | apply Kd.R_drew)); exact HO382.out)); (case aS => exact (below_size (by repeat (first | (with_reducible first | exact HB.out | apply below_alloc | apply pw_below_drewN | apply below_drew1) | exact HB.out)))); (case aL => have := LMc33.out; omega); intro v384 w49 ho hb hg hat; rw [← Ny383.out] at ho; have n0_ := Aside0.mk (Kd.R_after (ok := (fun k_ => some k_ ≠ (.slice Ao50 t350.length co50 : Value).ownBlock ∧ some k_ ≠ (v371 : Value).ownBlock)) (by (with_reducible repeat (first | apply Kd.R_alloc | apply Kd.R_drewN | apply Kd.R_drew)); exact HO_5.out) hg hat); have n1_ := Aside0.mk (Kd.R_after (ok := (fun k_ => some k_ ≠ (.slice (some ad355) t346.length co37 : Value).ownBlock ∧ some k_ ≠ (v371 : Value).ownBlock)) (by (with_reducible repeat (first | apply Kd.R_alloc | apply Kd.R_drewN | apply Kd.R_drew)); exact HO_7.out) hg hat); have n2_ := Aside0.mk (Kd.R_over' (by (with_reducible repeat (first | apply Kd.R_alloc | apply Kd.R_drewN | apply Kd.R_drew)); exact HO368.out) (Kd.R_typed (by (with_reducible repeat (first | apply Kd.R_alloc | apply Kd.R_drewN | apply Kd.R_drew)); exact HO382.out)) (by decide) hg); have n3_ := Aside0.mk (Kd.R_after (ok := (fun k_ => some k_ ≠ (.slice (some ad355) t346.length co37 : Value).ownBlock ∧ some k_ ≠ (.slice Ao50 t350.length co50 : Value).ownBlock)) (by (with_reducible repeat (first | apply Kd.R_alloc | apply Kd.R_drewN | apply Kd.R_drew)); exact HO372.out) hg hat); have n4_ := Aside0.mk (hb); have n5_ := Aside0.mk ((show Kd.C Kd.string w49 (some ad355) y376.length y376 from by rw [Ny376.out]; exact Kd.C_take (m := ((ji19) : Int).toNat) ((Kd.R_reads' (Kd.R_after (ok := (fun k_ => some k_ ≠ (.slice Ao50 t350.length co50 : Value).ownBlock ∧ some k_ ≠ (v371 : Value).ownBlock)) (by (with_reducible repeat (first | apply Kd.R_alloc | apply Kd.R_drewN | apply Kd.R_drew)); exact HO_5.out) hg hat)).2.2) KL47.out)); have n6_ := Aside0.mk (ho); clear HO_5; clear HO_7; clear HO368; clear HO372; clear HB; clear HR379; clear HO382; have HO_5 := n0_; have HO_7 := n1_; have HO368 := n2_; have HO372 := n3_; have HB := n4_; have HR379 := n5_; have HO385 := n6_; clear n0_ n1_ n2_ n3_ n4_ n5_ n6_; clear ho hb hg hat; obtain ⟨Ao51, co51, eo51⟩ := Kd.R_slice HO372.out; subst eo51; obtain ⟨Ao52, co52, eo52⟩ := Kd.R_slice HO385.out; subst eo52) | (go_at_call 13; (with_reducible refine (camshaftref07_Same.calls kj9 _ _ t369 _ _ y383 true _ ?side1 ?side2 ?side3 ?side4 A34.out).mono ?_); (case side1 => repeat (first | exact (Kd.R_reads' HO372.out).2.2 | (with_reducible refine Kd.C_alloc ?_ _) | (with_reducible refine Kd.C_drewN ?_ _) | (with_reducible refine Kd.C_drew ?_))); (case side2 => exact (Kd.R_reads' HO372.out).2.1); (case side3 => repeat (first | exact (Kd.R_reads' HO385.out).2.2 | (with_reducible refine Kd.C_alloc ?_ _) | (with_reducible refine Kd.C_drewN ?_ _) | (with_reducible refine Kd.C_drew ?_))); (case side4 => exact (Kd.R_reads' HO385.out).2.1); rintro e w' ⟨rfl, ⟨nd, rfl⟩⟩) | (go_at_call 8; (with_reducible refine (camshaftlaw07_known.calls kj9  t387 _ A36.out).mono ?_); rintro e w53 ⟨rfl, hb⟩; have n0_ := Aside0.mk (Kd.R_below (by (with_reducible repeat (first | apply Kd.R_alloc | apply Kd.R_drewN | apply Kd.R_drew)); exact HO_5.out) hb); have n1_ := Aside0.mk (Kd.R_below (by (with_reducible repeat (first | apply Kd.R_alloc | apply Kd.R_drewN | apply Kd.R_drew)); exact HO_7.out) hb); have n2_ := Aside0.mk (Kd.R_below (by (with_reducible repeat (first | apply Kd.R_alloc | apply Kd.R_drewN | apply Kd.R_drew)); exact HO368.out) hb); have n3_ := Aside0.mk (Kd.R_below (by (with_reducible repeat (first | apply Kd.R_alloc | apply Kd.R_drewN | apply Kd.R_drew)); exact HO372.out) hb); have n4_ := Aside0.mk (Kd.R_below (by (with_reducible repeat (first | apply Kd.R_alloc | apply Kd.R_drewN | apply Kd.R_drew)); exact HO385.out) hb); have n5_ := Aside0.mk (Kd.C_below (by repeat (first | (with_reducible exact HR379.out) | (with_reducible refine Kd.C_alloc ?_ _) | (with_reducible refine Kd.C_drewN ?_ _) | (with_reducible refine Kd.C_drew ?_) | exact HR379.out)) hb); have n6_ := Aside0.mk (below_step (by repeat (first | (with_reducible first | exact HB.out | apply below_alloc | apply pw_below_drewN | apply below_drew1) | exact HB.out)) hb); clear HO_5; clear HO_7; clear HO368; clear HO372; clear HO385; clear HR379; clear HB; have HO_5 := n0_; have HO_7 := n1_; have HO368 := n2_; have HO372 := n3_; have HO385 := n4_; have HR379 := n5_; have HB := n6_; clear n0_ n1_ n2_ n3_ n4_ n5_ n6_; (try clear hb); (try clear hb2); (try clear hk); (try clear hi)))
                                      go_ret
                                      exact ⟨by first | rfl | (rw [bne_nil_eq]; rfl) | (simp [bne_nil_eq]; done) | (simp [errW_none, errW_some] <;> rfl) | (simp only [← hji19, ← hji23]; first | rfl | (simp [errW_none, errW_some] <;> rfl)) | (simp [*, errW_none, errW_some] <;> rfl), by repeat (first | (with_reducible first | exact HB.out | apply below_alloc | apply pw_below_drewN | apply below_drew1) | exact HB.out | exact Below.refl _ _)⟩
                                    · replace c35 := Bool.eq_false_iff.mpr c35
                                      subst c35
                                      have H1 : (some false) = some r := by rw [if_neg (show ¬ (false = true) by decide)] at H; exact H
                                      clear H
                                      have H := H1
                                      clear H1
                                      exact absurd ((Option.some.inj H).trans HT.out) (by decide)
                                  · rw [if_neg c33] at H
                                    exact absurd H (by simp)
                                · rw [if_neg c32] at H
                                  exact absurd H (by simp)
                              · rw [if_neg c31] at H
                                exact absurd H (by simp)
                            · rw [if_neg c29] at H
                              have c29b0 : (t370 == 0) = false := beq_eq_false_iff_ne.mpr c29
                              have c29b1 : (t370 != 0) = true := bne_iff_ne.mpr c29
                              exact absurd ((Option.some.inj H).trans HT.out) (by decide)
                          · rw [if_neg c27] at H
                            exact absurd H (by simp)
                        · rw [if_neg c26] at H
                          exact absurd H (by simp)
                      · rw [if_neg c25] at H
                        exact absurd H (by simp)
                    · rw [if_neg c24] at H
                      exact absurd H (by simp)
                  · rw [if_neg c22] at H
                    have c22b0 : ((rdOf ByteArray.empty t346 (ji19)).toList == ([] : List UInt8)) = false := beq_eq_false_iff_ne.mpr c22
                    have c22b1 : ((rdOf ByteArray.empty t346 (ji19)).toList != ([] : List UInt8)) = true := bne_iff_ne.mpr c22
                    replace H := Option.bind_eq_some_iff.mp H
                    obtain ⟨t388, A540, H⟩ := H
                    replace H : (some t388) = some r := H
                    have A54 := Aside0.mk A540
                    clear A540
                    obtain rfl := Option.some.inj H
                    obtain ⟨Ao55, co55, eo55⟩ := Kd.R_slice HO_5.out
                    subst eo55
                    have p355 : 0 ≤ ((ji19) : Int) := of_decide_eq_true (by first | (with_reducible assumption) | assumption)
                    have q355 : (ji19) < (t346.length : Int) := of_decide_eq_true (by first | (with_reducible assumption) | assumption)
                    obtain ⟨ad355, e355, hx355_0⟩ := Kd.at_string (Kd.R_reads' HO_5.out).2.2 (ji19) p355 q355
                    cases e355
                    replace p355 := eq_true p355
                    replace q355 := eq_true q355
                    go_wp2_with (first | ((with_reducible refine gate_callee (f := 8) rfl ?_); refine goesL_ (some 53) rfl rfl Try.func8 (by kernel_rfl) rfl #[] rfl (by (try simp only [List.map_toArray, List.map_cons, List.map_nil]); first | done | rfl | (simp only [List.length_drop, List.length_take]; rfl)) ?_; (with_reducible refine (camshaftlaw07_known.calls kj9  t388 _ A54.out).mono ?_); rintro e w56 ⟨rfl, hb⟩; refine ⟨_, rfl, ?_⟩; have n0_ := Aside0.mk (Kd.R_below (by (with_reducible repeat (first | apply Kd.R_alloc | apply Kd.R_drewN | apply Kd.R_drew)); exact HO_5.out) hb); have n1_ := Aside0.mk (Kd.R_below (by (with_reducible repeat (first | apply Kd.R_alloc | apply Kd.R_drewN | apply Kd.R_drew)); exact HO_7.out) hb); have n2_ := Aside0.mk (below_step (by repeat (first | (with_reducible first | exact HB.out | apply below_alloc | apply pw_below_drewN | apply below_drew1) | exact HB.out)) hb); clear HO_5; clear HO_7; clear HB; have HO_5 := n0_; have HO_7 := n1_; have HB := n2_; clear n0_ n1_ n2_; (try clear hb); (try clear hb2); (try clear hk); (try clear hi)))
                    go_ret
                    exact ⟨by first | rfl | (rw [bne_nil_eq]; rfl) | (simp [bne_nil_eq]; done) | (simp [errW_none, errW_some] <;> rfl) | (simp only [← hji19]; first | rfl | (simp [errW_none, errW_some] <;> rfl)) | (simp [*, errW_none, errW_some] <;> rfl), by repeat (first | (with_reducible first | exact HB.out | apply below_alloc | apply pw_below_drewN | apply below_drew1) | exact HB.out | exact Below.refl _ _)⟩
                · rw [if_neg c21] at H
                  exact absurd H (by simp)
              · rw [if_neg c20] at H
                exact absurd H (by simp)

/-- THE ONE PURE STATEMENT of camshaftlaw07_TypesMore. -/
def camshaftlaw07_TypesMore.Pure : Prop := ∀ (l0 : List S37) (l1 : List S37), l0.length * 24 ≤ 140737488351232 → (∀ x ∈ l0, (Lit.int .i64 x.f0).wf = true ∧ (Lit.int .i64 x.f1).wf = true ∧ (Lit.int .i64 x.f2).wf = true) → l1.length * 24 ≤ 140737488351232 → (∀ x ∈ l1, (Lit.int .i64 x.f0).wf = true ∧ (Lit.int .i64 x.f1).wf = true ∧ (Lit.int .i64 x.f2).wf = true) → ∃ k, camshaftlaw07_TypesMore.f k l0 l1 = some true
theorem camshaftlaw07_TypesMore.walk (P : camshaftlaw07_TypesMore.Pure) (A0 : Option Addr) (c0 : Nat) (l0 : List S37) (A1 : Option Addr) (c1 : Nat) (l1 : List S37) (w : World) (hr0 : Kd.C k37 w A0 l0.length l0) (hc0 : l0.length ≤ c0) (y0 : l0.length * 24 ≤ 140737488351232) (hw0 : ∀ x ∈ l0, (Lit.int .i64 x.f0).wf = true ∧ (Lit.int .i64 x.f1).wf = true ∧ (Lit.int .i64 x.f2).wf = true) (hr1 : Kd.C k37 w A1 l1.length l1) (hc1 : l1.length ≤ c1) (y1 : l1.length * 24 ≤ 140737488351232) (hw1 : ∀ x ∈ l1, (Lit.int .i64 x.f0).wf = true ∧ (Lit.int .i64 x.f1).wf = true ∧ (Lit.int .i64 x.f2).wf = true) :
    Calls Try.prog 5 #[.slice A0 l0.length c0, .slice A1 l1.length c1] w fun e w' => e = .returned (.bool true) ∧ Below w.heap.size w w' := by
  obtain ⟨k, h⟩ := P l0 l1 y0 hw0 y1 hw1
  refine (camshaftlaw07_TypesMore.calls k A0 c0 l0 A1 c1 l1 true w hr0 hc0 hr1 hc1 h rfl).mono ?_
  rintro e w' ⟨rfl, hd⟩
  exact ⟨rfl, hd⟩

end Go.Proofs.Ytdhlhbhclggheaa.P
