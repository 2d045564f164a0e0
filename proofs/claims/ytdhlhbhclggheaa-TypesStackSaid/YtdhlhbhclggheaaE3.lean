/- types.after: a closed form, without rounds; (*flow).hand. No conditions. -/
import Derived.Test.YtdhlhbhclggheaaE2
namespace Go.Proofs.Ytdhlhbhclggheaa.P
open Go.RowKit Go.Maps Go.ChangeMaps Go.Proofs.YtdhlhbhclggheaaW.PrintWords Go.Proofs.YtdhlhbhclggheaaW.PrintLast Go.Proofs.YtdhlhbhclggheaaW.PrintMore
set_option linter.unusedVariables false
set_option linter.unusedSimpArgs false

theorem take_size_le (a b c : Int) : (takesS a b c).size ≤ 2 := by
  unfold takesS
  split
  · cases hk : keyE a with
    | none => decide
    | some e => exact keyE_size hk
  · decide
theorem gives_size_le (a b c : Int) (took : ByteArray) (h : took.size ≤ 16) : (givesS a b c took).size ≤ 32 := by
  unfold givesS
  cases hk : keyE a with
  | none => exact Nat.zero_le _
  | some e =>
    dsimp only
    split
    · split
      · obtain ⟨tk, x⟩ := e
        cases x with
        | inl s =>
          have : ∀ s tk, keyE a = some (tk, .inl s) → s.size ≤ 2 := by
            have hp : ∀ p tk s, pk p = (tk, .inl s) → s.size ≤ 2 := by
              intro p tk s h2
              unfold pk at h2
              by_cases h3 : p = 1
              · rw [if_pos h3] at h2; cases h2; decide
              · rw [if_neg h3] at h2
                by_cases h4 : p = 2
                · rw [if_pos h4] at h2; cases h2; decide
                · rw [if_neg h4] at h2; cases h2; decide
            intro s tk h
            unfold keyE at h
            repeat' split at h
            all_goals first
              | exact hp _ _ _ (Option.some.inj h)
              | (cases h; done)
              | (cases h; decide)
          have := this s tk hk
          show s.size ≤ 32
          omega
        | inr n =>
          show (if n = _ then took ++ took else if n = _ then took.extract 1 took.size ++ took.extract 0 1 else twoS b).size ≤ 32
          split
          · rw [ByteArray.size_append]; omega
          · split
            · rw [ByteArray.size_append, ByteArray.size_extract, ByteArray.size_extract]; omega
            · unfold twoS; split <;> decide
      · decide
    · decide
/-- What stands behind an instruction, or what is wrong. -/
def afterS (a b c : Int) (s : ByteArray) : ByteArray × Int :=
  if s.size < (takesS a b c).size then (ByteArray.empty, 9) else
  if fitsS (s.extract (s.size - (takesS a b c).size) s.size) (takesS a b c) = true then
    (if (s.extract 0 (s.size - (takesS a b c).size)).size + (givesS a b c (s.extract (s.size - (takesS a b c).size) s.size)).size > 16 then (ByteArray.empty, 9) else
      (s.extract 0 (s.size - (takesS a b c).size) ++ givesS a b c (s.extract (s.size - (takesS a b c).size) s.size), 0))
  else (ByteArray.empty, 10)
set_option maxHeartbeats 8000000 in
theorem after_calls (a b c : Int) (s : ByteArray) (hs : s.size ≤ 16) (hw : (Lit.int .i64 a).wf = true) (w : World) :
    Calls Try.prog 30 #[.agg #[.int .i64 a, .int .i64 b, .int .i64 c], .string s] w fun e w' => e = .returned (.tuple #[.string (afterS a b c s).1, .int .i64 (afterS a b c s).2]) ∧ Below w.heap.size w w' := by
  obtain ⟨tk, htk⟩ : ∃ tk, tk = takesS a b c := ⟨_, rfl⟩
  have h2 := take_size_le a b c
  rw [← htk] at h2
  have HTK : Aside0 (types_Takes.f a b c = some tk) := ⟨congrArg some htk.symm⟩
  obtain ⟨q0, q1, q2⟩ := box3 w a b c 37
  have hlt : w.heap.size < (w.alloc (.cells #[.int .i64 a, .int .i64 b, .int .i64 c] 37)).heap.size := by simp
  have hb := Aside0.mk (below_alloc (Below.refl w.heap.size w) (.cells #[.int .i64 a, .int .i64 b, .int .i64 c] 37))
  obtain ⟨r, hr⟩ : ∃ r, r = afterS a b c s := ⟨_, rfl⟩
  rw [← hr]
  have HW := Aside0.mk hw
  clear hw
  by_cases c1 : s.size < tk.size
  · have hr' : r = (ByteArray.empty, 9) := by rw [hr]; unfold afterS; rw [← htk, if_pos c1]
    obtain ⟨n, hn⟩ : ∃ n : Int, n = (s.size : Int) - tk.size := ⟨_, rfl⟩
    have hwr : wrap64 ((s.size : Int) - tk.size) = n := by rw [hn]; unfold wrap64; omega
    have d1 : decide (n < 0) = true := decide_eq_true (by omega)
    have HR := Aside0.mk hr'
    clear hr hr' c1 h2 htk hs hn
    go_enter Try.func30, Try.ntmps30
    go_wp2_with ((go_at_call 15; (with_reducible refine (types_Takes.calls a b c tk _ HTK.out).mono ?_); rintro e w3 ⟨rfl, hb2⟩; replace q0 := behindL hb2 hlt q0; replace q1 := behindL hb2 hlt q1; replace q2 := behindL hb2 hlt q2; replace hlt := Nat.lt_of_lt_of_le hlt hb2.size; replace hb := Aside0.mk (below_step (by first | exact hb.out | exact hb.out.drew) hb2); clear hb2))
    go_ret2
    exact ⟨by rw [HR.out]; rfl, hb.out⟩
  · obtain ⟨j, hj⟩ : ∃ j : Nat, j = s.size - tk.size := ⟨_, rfl⟩
    have hwr : wrap64 ((s.size : Int) - tk.size) = (j : Int) := by rw [hj]; unfold wrap64; omega
    have hwr2 : IntKind.i64.wrap ((s.size : Int) - tk.size) = (j : Int) := (i64_w _).trans hwr
    have d1 : decide ((j : Int) < 0) = false := decide_eq_false (by omega)
    have d2 : (0 ≤ (j : Int)) = True := eq_true (by omega)
    have d3 : ((j : Int) ≤ (s.size : Int)) = True := eq_true (by omega)
    have d3' : (j ≤ s.size) = True := eq_true (by omega)
    have hr' : r = if fitsS (s.extract j s.size) tk = true then (if (s.extract 0 j).size + (givesS a b c (s.extract j s.size)).size > 16 then (ByteArray.empty, 9) else (s.extract 0 j ++ givesS a b c (s.extract j s.size), 0)) else (ByteArray.empty, 10) := by
      rw [hr]; unfold afterS; rw [← htk, if_neg c1, ← hj]
    have hx : (s.extract 0 j).size = j := by rw [ByteArray.size_extract]; omega
    have hxs : (s.extract j s.size).size ≤ 16 := by rw [ByteArray.size_extract]; omega
    cases hF : fitsS (s.extract j s.size) tk with
    | false =>
      have HF : Aside0 (types_fits.f (s.extract j s.size) tk = some false) := ⟨by unfold types_fits.f; rw [if_pos (by omega), hF]⟩
      have HR : Aside0 (r = (ByteArray.empty, 10)) := ⟨by rw [hr', hF]; rfl⟩
      clear hr hr' c1 h2 htk hs hj hF hx hxs
      go_enter Try.func30, Try.ntmps30
      go_wp2_with ((go_at_call 15; (with_reducible refine (types_Takes.calls a b c tk _ HTK.out).mono ?_); rintro e w3 ⟨rfl, hb2⟩; replace q0 := behindL hb2 hlt q0; replace q1 := behindL hb2 hlt q1; replace q2 := behindL hb2 hlt q2; replace hlt := Nat.lt_of_lt_of_le hlt hb2.size; replace hb := Aside0.mk (below_step (by first | exact hb.out | exact hb.out.drew) hb2); clear hb2))
      go_region_with (first
        | (go_at_call 15; (with_reducible refine (types_Takes.calls a b c tk _ HTK.out).mono ?_); rintro e w3 ⟨rfl, hb2⟩; replace q0 := behindL hb2 hlt q0; replace q1 := behindL hb2 hlt q1; replace q2 := behindL hb2 hlt q2; replace hlt := Nat.lt_of_lt_of_le hlt hb2.size; replace hb := Aside0.mk (below_step (by first | exact hb.out | exact hb.out.drew) hb2); clear hb2)
        | (go_at_call 29; (with_reducible refine (types_fits.calls _ tk _ _ HF.out).mono ?_); rintro e w4 ⟨rfl, hb2⟩; replace q0 := behindL hb2 hlt q0; replace q1 := behindL hb2 hlt q1; replace q2 := behindL hb2 hlt q2; replace hlt := Nat.lt_of_lt_of_le hlt hb2.size; replace hb := Aside0.mk (below_step (by first | exact hb.out | exact hb.out.drew) hb2); clear hb2))
      all_goals go_wp2_with (fail)
      all_goals go_ret2
      all_goals exact ⟨by rw [HR.out]; rfl, hb.out⟩
    | true =>
      have HF : Aside0 (types_fits.f (s.extract j s.size) tk = some true) := ⟨by unfold types_fits.f; rw [if_pos (by omega), hF]⟩
      obtain ⟨g, hg⟩ : ∃ g, g = givesS a b c (s.extract j s.size) := ⟨_, rfl⟩
      have hgz := gives_size_le a b c (s.extract j s.size) hxs
      rw [← hg] at hgz
      have HG : Aside0 (types_Gives.f a b c (s.extract j s.size) = some g) := ⟨by unfold types_Gives.f; rw [if_pos HW.out, hg]⟩
      have HI : Aside0 (r = if j + g.size > 16 then (ByteArray.empty, 9) else (s.extract 0 j ++ g, 0)) := ⟨by rw [hr', hF, ← hg, hx]; rfl⟩
      have d4 : (9223372036854775807 < j + g.size) = False := eq_false (by omega)
      have d5 : (9223372036854775807 < (s.extract 0 j).size + g.size) = False := eq_false (by rw [hx]; omega)
      have hz : ((s.extract 0 j ++ g).size : Int) = (j : Int) + g.size := by rw [ByteArray.size_append, hx]; omega
      by_cases c6 : j + g.size > 16
      · have d6 : decide (16 < (j : Int) + g.size) = true := decide_eq_true (by omega)
        have d7 : decide (16 < j + g.size) = true := decide_eq_true (by omega)
        have d8 : (16 < j + g.size) = True := eq_true (by omega)
        have HR : Aside0 (r = (ByteArray.empty, 9)) := ⟨by rw [HI.out, if_pos c6]⟩
        clear hr hr' c1 h2 htk hs hj hF hx hxs hg hgz c6 HI
        go_enter Try.func30, Try.ntmps30
        go_wp2_with ((go_at_call 15; (with_reducible refine (types_Takes.calls a b c tk _ HTK.out).mono ?_); rintro e w3 ⟨rfl, hb2⟩; replace q0 := behindL hb2 hlt q0; replace q1 := behindL hb2 hlt q1; replace q2 := behindL hb2 hlt q2; replace hlt := Nat.lt_of_lt_of_le hlt hb2.size; replace hb := Aside0.mk (below_step (by first | exact hb.out | exact hb.out.drew) hb2); clear hb2))
        go_region_with (first
          | (go_at_call 15; (with_reducible refine (types_Takes.calls a b c tk _ HTK.out).mono ?_); rintro e w3 ⟨rfl, hb2⟩; replace q0 := behindL hb2 hlt q0; replace q1 := behindL hb2 hlt q1; replace q2 := behindL hb2 hlt q2; replace hlt := Nat.lt_of_lt_of_le hlt hb2.size; replace hb := Aside0.mk (below_step (by first | exact hb.out | exact hb.out.drew) hb2); clear hb2)
          | (go_at_call 29; (with_reducible refine (types_fits.calls _ tk _ _ HF.out).mono ?_); rintro e w4 ⟨rfl, hb2⟩; replace q0 := behindL hb2 hlt q0; replace q1 := behindL hb2 hlt q1; replace q2 := behindL hb2 hlt q2; replace hlt := Nat.lt_of_lt_of_le hlt hb2.size; replace hb := Aside0.mk (below_step (by first | exact hb.out | exact hb.out.drew) hb2); clear hb2))
        all_goals go_wp2_with (fail)
        all_goals go_region_with ((go_at_call 16; (with_reducible refine (types_Gives.calls a b c _ g _ HG.out).mono ?_); rintro e w5 ⟨rfl, hb2⟩; replace hb := Aside0.mk (below_step (by first | exact hb.out | exact hb.out.drew) hb2); clear hb2))
        all_goals go_wp2_with (fail)
        all_goals go_ret2
        all_goals exact ⟨by rw [HR.out]; rfl, hb.out⟩
      · have d6 : decide (16 < (j : Int) + g.size) = false := decide_eq_false (by omega)
        have d7 : decide (16 < j + g.size) = false := decide_eq_false (by omega)
        have d8 : (16 < j + g.size) = False := eq_false (by omega)
        have HR : Aside0 (r = (s.extract 0 j ++ g, 0)) := ⟨by rw [HI.out, if_neg c6]⟩
        clear hr hr' c1 h2 htk hs hj hF hx hxs hg hgz c6 HI
        go_enter Try.func30, Try.ntmps30
        go_wp2_with ((go_at_call 15; (with_reducible refine (types_Takes.calls a b c tk _ HTK.out).mono ?_); rintro e w3 ⟨rfl, hb2⟩; replace q0 := behindL hb2 hlt q0; replace q1 := behindL hb2 hlt q1; replace q2 := behindL hb2 hlt q2; replace hlt := Nat.lt_of_lt_of_le hlt hb2.size; replace hb := Aside0.mk (below_step (by first | exact hb.out | exact hb.out.drew) hb2); clear hb2))
        go_region_with (first
          | (go_at_call 15; (with_reducible refine (types_Takes.calls a b c tk _ HTK.out).mono ?_); rintro e w3 ⟨rfl, hb2⟩; replace q0 := behindL hb2 hlt q0; replace q1 := behindL hb2 hlt q1; replace q2 := behindL hb2 hlt q2; replace hlt := Nat.lt_of_lt_of_le hlt hb2.size; replace hb := Aside0.mk (below_step (by first | exact hb.out | exact hb.out.drew) hb2); clear hb2)
          | (go_at_call 29; (with_reducible refine (types_fits.calls _ tk _ _ HF.out).mono ?_); rintro e w4 ⟨rfl, hb2⟩; replace q0 := behindL hb2 hlt q0; replace q1 := behindL hb2 hlt q1; replace q2 := behindL hb2 hlt q2; replace hlt := Nat.lt_of_lt_of_le hlt hb2.size; replace hb := Aside0.mk (below_step (by first | exact hb.out | exact hb.out.drew) hb2); clear hb2))
        all_goals go_wp2_with (fail)
        all_goals go_region_with ((go_at_call 16; (with_reducible refine (types_Gives.calls a b c _ g _ HG.out).mono ?_); rintro e w5 ⟨rfl, hb2⟩; replace hb := Aside0.mk (below_step (by first | exact hb.out | exact hb.out.drew) hb2); clear hb2))
        all_goals go_wp2_with (fail)
        all_goals go_ret2
        all_goals exact ⟨by rw [HR.out]; rfl, hb.out⟩
end Go.Proofs.Ytdhlhbhclggheaa.P
