/- types.fits, types.Takes, types.Gives: closed forms, without rounds. No conditions. -/
import Derived.Test.YtdhlhbhclggheaaE0
import Derived.Deep.QuietTactic
import Derived.BigQuiet
namespace Go.Proofs.Ytdhlhbhclggheaa.P
open Go.RowKit Go.Maps Go.ChangeMaps Go.Proofs.YtdhlhbhclggheaaW.PrintWords Go.Proofs.YtdhlhbhclggheaaW.PrintLast Go.Proofs.YtdhlhbhclggheaaW.PrintMore
set_option linter.unusedVariables false
set_option linter.unusedSimpArgs false

theorem behindL {w1 w2 : World} (hb : Below w1.heap.size w1 w2) {g j : Nat} {v : Value} (hg : g < w1.heap.size) (h : w1.cell? ⟨g, j, none⟩ = some v) : w2.cell? ⟨g, j, none⟩ = some v := (hb.cell (p := ⟨g, j, none⟩) hg).trans h
/-- What was taken is what is taken: from a place on. -/
def fitsFrom (t u : ByteArray) : Nat → Int → Bool
  | 0, _ => true
  | f + 1, k => if bt u k = 32 then fitsFrom t u f (k + 1) else if bt u k = bt t k then fitsFrom t u f (k + 1) else false
def fitsS (t u : ByteArray) : Bool := decide (t.size = u.size) && fitsFrom t u u.size 0
theorem bt32 : bt (⟨#[32]⟩ : ByteArray) 0 = 32 := by decide
set_option maxHeartbeats 4000000 in
theorem fits_calls (t u : ByteArray) (hs : u.size ≤ 9223372036854775806) (w : World) : Calls Try.prog 29 #[.string t, .string u] w fun e w' => e = .returned (.bool (fitsS t u)) ∧ Below w.heap.size w w' := by
  by_cases c3 : (t.size : Int) = (u.size : Int)
  · have c3b0 : ((t.size : Int) == (u.size : Int)) = true := beq_iff_eq.mpr c3
    have c3b1 : ((t.size : Int) != (u.size : Int)) = false := bne_eq_false_iff_eq.mpr c3
    have c3n : t.size = u.size := by omega
    have c3b2 : (t.size == u.size) = true := beq_iff_eq.mpr c3n
    have C3 := Aside0.mk c3n
    have hS : Aside0 (fitsS t u = fitsFrom t u u.size 0) := ⟨by unfold fitsS; rw [decide_eq_true c3n, Bool.true_and]⟩
    have HS := Aside0.mk hs
    clear c3 c3n hs
    go_enter Try.func29, Try.ntmps29
    go_wp2_with (fail)
    go_loopw [13] (fun v13 wr => ∃ (k : Int) (f : Nat), v13 = .int .i64 k ∧ Aside0 (0 ≤ k ∧ k + f = u.size ∧ fitsFrom t u f k = fitsS t u) ∧ Aside0 (Below w.heap.size w wr))
      (fun v13 _ => ((u.size : Int) - intOf v13).toNat)
    case atStart => exact ⟨0, u.size, rfl, ⟨by omega, by omega, hS.out.symm⟩, ⟨Below.refl _ _⟩⟩
    case round =>
      try clear c3b0
      try clear c3b1
      try clear c3b2
      obtain ⟨k, f, rfl, H, HB⟩ := hrel
      cases f with
      | zero =>
        have c1 : decide (k < (u.size : Int)) = false := decide_eq_false (by have := H.out; omega)
        go_wp2_with (fail)
        go_ret
        exact ⟨by rw [← H.out.2.2]; rfl, HB.out⟩
      | succ f =>
        have c1 : decide (k < (u.size : Int)) = true := decide_eq_true (by have := H.out; omega)
        have c2 : decide (k < (t.size : Int)) = true := decide_eq_true (by have := H.out; have := C3.out; omega)
        have c0 : decide (0 ≤ k) = true := decide_eq_true (by have := H.out; omega)
        have hw : wrap64 (k + 1) = k + 1 := by have := H.out; have := HS.out; unfold wrap64; omega
        have HM : Aside0 (0 ≤ k + 1 ∧ k + 1 + f = u.size) := ⟨by have := H.out; omega⟩
        have HF : Aside0 (fitsS t u = if bt u k = 32 then fitsFrom t u f (k + 1) else if bt u k = bt t k then fitsFrom t u f (k + 1) else false) := ⟨by rw [← H.out.2.2]; rfl⟩
        have p7 : (0 ≤ k) = True := eq_true (by have := H.out; omega)
        have q7 : (k < (u.size : Int)) = True := eq_true (by have := H.out; omega)
        have q8 : (k < (t.size : Int)) = True := eq_true (by have := H.out; have := C3.out; omega)
        have hx7 := bt_at u k
        have hx8 := bt_at t k
        have hx9 : ((((⟨#[32]⟩ : ByteArray)[0]'(by decide)).toNat : Nat) : Int) = 32 := by decide
        have p9 : (0 ≤ (0 : Int)) = True := eq_true (by omega)
        have q9 : (0 < (1 : Int)) = True := eq_true (by omega)
        clear H
        by_cases d1 : bt u k = 32
        · have d1b : (bt u k == 32) = true := beq_iff_eq.mpr d1
          have d1c : (bt u k != 32) = false := bne_eq_false_iff_eq.mpr d1
          have HF2 : Aside0 (fitsFrom t u f (k + 1) = fitsS t u) := ⟨by rw [HF.out, if_pos d1]⟩
          clear d1 HF
          go_wp2_with (fail)
          go_quiet (fail)
          go_wp2_with (fail)
          go_roundw
          case measure => have := HM.out; simp [intOf]; omega
          case rel => exact ⟨k + 1, f, by first | rfl | (simp [*]; done), ⟨HM.out.1, HM.out.2, HF2.out⟩, ⟨pw_below_drewN HB.out _⟩⟩
        · have d1b : (bt u k == 32) = false := beq_eq_false_iff_ne.mpr d1
          have d1c : (bt u k != 32) = true := bne_iff_ne.mpr d1
          have d1' := d1
          by_cases d2 : bt u k = bt t k
          · have d2b : (bt u k == bt t k) = true := beq_iff_eq.mpr d2
            have d2c : (bt u k != bt t k) = false := bne_eq_false_iff_eq.mpr d2
            have HF2 : Aside0 (fitsFrom t u f (k + 1) = fitsS t u) := ⟨by rw [HF.out, if_neg d1', if_pos d2]⟩
            clear d1 d1' d2 HF
            go_wp2_with (fail)
            go_quiet (fail)
            go_wp2_with (fail)
            go_roundw
            case measure => have := HM.out; simp [intOf]; omega
            case rel => exact ⟨k + 1, f, by first | rfl | (simp [*]; done), ⟨HM.out.1, HM.out.2, HF2.out⟩, ⟨pw_below_drewN HB.out _⟩⟩
          · have d2b : (bt u k == bt t k) = false := beq_eq_false_iff_ne.mpr d2
            have d2c : (bt u k != bt t k) = true := bne_iff_ne.mpr d2
            have hr : fitsS t u = false := by rw [HF.out, if_neg d1', if_neg d2]
            clear d1 d1' d2 HF
            go_wp2_with (fail)
            go_quiet (fail)
            go_wp2_with (fail)
            go_ret
            exact ⟨by rw [hr]; rfl, pw_below_drewN HB.out _⟩
  · have c3b0 : ((t.size : Int) == (u.size : Int)) = false := beq_eq_false_iff_ne.mpr c3
    have c3b1 : ((t.size : Int) != (u.size : Int)) = true := bne_iff_ne.mpr c3
    have c3b2 : (t.size == u.size) = false := by simp; omega
    have hS : fitsS t u = false := by unfold fitsS; rw [decide_eq_false (by omega), Bool.false_and]
    rw [hS]
    clear hS
    go_enter Try.func29, Try.ntmps29
    go_wp2_with (fail)
    go_ret
    exact ⟨rfl, Below.refl _ _⟩

/-! ### types.Takes -/
def tkS : Option Eff → ByteArray
  | none => ByteArray.empty
  | some e => e.1
def takesS (a b c : Int) : ByteArray := if rightK (kindOf a) b c = true then tkS (keyE a) else ByteArray.empty
theorem OfX.tk {B : Nat} {w : World} {e : Option Eff} {v : Value} (h : OfX B w e v) : ∃ f, v = .agg #[.string (tkS e), f] := by
  cases e with
  | none => exact ⟨_, h⟩
  | some e => obtain ⟨f, e1, _⟩ := h; exact ⟨f, e1⟩
theorem right_I64 {a b c : Int} (h : rightK (kindOf a) b c = true) : (Lit.int .i64 a).wf = true := by
  have h1 : 1 ≤ a ∧ a ≤ 25 := by
    refine Decidable.byContradiction fun hn => ?_
    unfold kindOf at h; rw [if_neg hn] at h
    simp [rightK] at h
  have h2 : IntKind.i64.min = -9223372036854775808 := rfl
  have h3 : IntKind.i64.max = 9223372036854775807 := rfl
  simp [Lit.wf, h2, h3]; omega
theorem field0 (s : ByteArray) (f : Value) (w : World) : (Instr.field 54 (.agg #[.string s, f]) 0).run Try.prog w = .ok (.string s) w := by kernel_rfl
set_option maxHeartbeats 4000000 in
theorem takes_calls (a b c : Int) (w : World) : Calls Try.prog 15 #[.agg #[.int .i64 a, .int .i64 b, .int .i64 c]] w fun e w' => e = .returned (.string (takesS a b c)) ∧ Below w.heap.size w w' := by
  cases hR : rightK (kindOf a) b c with
  | false =>
    have ht : takesS a b c = ByteArray.empty := by unfold takesS; rw [hR]; rfl
    rw [ht]
    have HR : Aside0 (op_Right.f a b c = some false) := ⟨congrArg some hR⟩
    clear hR ht
    go_enter Try.func15, Try.ntmps15
    go_wp2_with (go_at_call 27; (with_reducible refine (op_Right.calls a b c false _ HR.out).mono ?_); rintro e w1 ⟨rfl, hb⟩; obtain ⟨k0, k1, k2, hsz⟩ := box_kept hb; replace hb := Aside0.mk (below_box hb))
    go_ret
    exact ⟨rfl, hb.out⟩
  | true =>
    have hwf := right_I64 hR
    have ht : takesS a b c = tkS (keyE a) := by unfold takesS; rw [hR]; rfl
    rw [ht]
    have HR : Aside0 (op_Right.f a b c = some true) := ⟨congrArg some hR⟩
    have HWF := Aside0.mk hwf
    have hfd := field0
    clear hR ht hwf
    go_enter Try.func15, Try.ntmps15
    go_wp2_with (go_at_call 27; (with_reducible refine (op_Right.calls a b c true _ HR.out).mono ?_); rintro e w1 ⟨rfl, hb⟩; obtain ⟨k0, k1, k2, hsz⟩ := box_kept hb; replace hb := Aside0.mk (below_box hb))
    go_region_with (go_at_call 28; refine (types_effects_calls _).mono ?_; rintro e w2 ⟨⟨m, rfl, hm⟩, hb2⟩; replace k0 := behindL hb2 hsz k0; obtain ⟨v, hv, hr⟩ := hm.look HWF.out; obtain ⟨f, rfl⟩ := hv.tk; have r1 := (hr _ (Below.refl _ _)).1; replace hb := Aside0.mk (below_step (by first | exact hb.out | exact hb.out.drew) hb2))
    all_goals go_wp2_with (fail)
    all_goals go_ret
    all_goals exact ⟨rfl, hb.out⟩
end Go.Proofs.Ytdhlhbhclggheaa.P
