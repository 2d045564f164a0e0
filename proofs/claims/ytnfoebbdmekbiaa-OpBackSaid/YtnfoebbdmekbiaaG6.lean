/- op.Decode's contract, in the form that the printed functions call; for all bytes and places. No conditions. -/
import Derived.Test.YtnfoebbdmekbiaaG5
namespace Go.Proofs.Ytnfoebbdmekbiaa.P
open Go.RowKit Go.Proofs.Ytnfoebbdmekbiaa.C Go.Proofs.YtnfoebbdmekbiaaW.PrintWords Go.Proofs.YtnfoebbdmekbiaaW.PrintLast Go.Proofs.YtnfoebbdmekbiaaW.PrintMore

/-- An instruction, if it can be. -/
def finI (o b c nx : Int) : Int × Int × Int × Int × Int := if rightK (kindOf o) b c = true then (o, b, c, nx, 0) else (0, 0, 0, 0, 6)
/-- The instruction at a place: its three numbers, the place behind it, what is wrong. -/
def op_Decode.f (k : Nat) (a0 : ByteArray) (a1 : Int) : Option (Int × Int × Int × Int × Int) :=
  if a1 < 0 then some (0, 0, 0, 0, 1) else if (a0.size : Int) < a1 then some (0, 0, 0, 0, 1) else if a1 = (a0.size : Int) then some (0, 0, 0, 0, 2) else
    if (kindOf (bt a0 a1)).2.1 ≤ 0 then some (finI (bt a0 a1) 0 0 (wrap64 (a1 + 1))) else
      (code_Get.f k a0 (wrap64 (a1 + 1))).bind fun g => if g.2.2 = 0 then
        (if (kindOf (bt a0 a1)).2.1 ≤ 1 then some (finI (bt a0 a1) g.1 0 g.2.1) else
          (code_Get.f k a0 g.2.1).bind fun q => if q.2.2 = 0 then some (finI (bt a0 a1) g.1 q.1 q.2.1) else some (0, 0, 0, 0, q.2.2))
        else some (0, 0, 0, 0, g.2.2)
theorem op_Decode.mono : ∀ a0 a1 k, LeO (op_Decode.f k a0 a1) (op_Decode.f (k + 1) a0 a1) := by
  intro a0 a1 k
  unfold op_Decode.f
  repeat' first
      | (with_reducible exact code_Get.mono _ _ _)
      | (with_reducible exact LeO.refl _)
      | (with_reducible exact LeO.none _)
      | (with_reducible refine LeO.ite ?_ ?_)
      | (with_reducible refine LeO.bind ?_ (fun _ => ?_))
theorem op_Decode.calls (k : Nat) (a0 : ByteArray) (a1 : Int) (r1 : Int) (r2 : Int) (r3 : Int) (r4 : Int) (r5 : Int) (w : World) (h : op_Decode.f k a0 a1 = some (r1, r2, r3, r4, r5)) :
    Calls Try.prog 19 #[.string a0, .int .i64 a1] w fun e w' => e = .returned (.tuple #[.agg #[.int .i64 r1, .int .i64 r2, .int .i64 r3], .int .i64 r4, .int .i64 r5]) ∧ Below w.heap.size w w' := by
  unfold op_Decode.f at h
  by_cases h0 : a1 < 0
  · rw [if_pos h0] at h
    simp only [Option.some.injEq, Prod.mk.injEq] at h
    obtain ⟨rfl, rfl, rfl, rfl, rfl⟩ := h
    exact dec_neg a0 a1 w h0
  rw [if_neg h0] at h
  by_cases h1 : (a0.size : Int) < a1
  · rw [if_pos h1] at h
    simp only [Option.some.injEq, Prod.mk.injEq] at h
    obtain ⟨rfl, rfl, rfl, rfl, rfl⟩ := h
    exact dec_past a0 a1 w h0 h1
  rw [if_neg h1] at h
  by_cases h2 : a1 = (a0.size : Int)
  · rw [if_pos h2] at h
    simp only [Option.some.injEq, Prod.mk.injEq] at h
    obtain ⟨rfl, rfl, rfl, rfl, rfl⟩ := h
    exact dec_end a0 a1 w h0 h1 (beq_iff_eq.2 h2)
  rw [if_neg h2] at h
  have q0 : 0 ≤ a1 := by omega
  have q1 : a1 < (a0.size : Int) := by omega
  have hbt := bt_at a0 a1
  obtain ⟨b0, b1⟩ := bt_range a0 a1
  generalize bt a0 a1 = o at *
  have hA : op_Args.f o = some (kindOf o).2.1 := rfl
  generalize hka : (kindOf o).2.1 = ka at *
  have fin : ∀ b c nx : Int, finI o b c nx = (r1, r2, r3, r4, r5) → (op_Right.f o b c = some true ∧ r1 = o ∧ r2 = b ∧ r3 = c ∧ r4 = nx ∧ r5 = 0) ∨ (op_Right.f o b c = some false ∧ r1 = 0 ∧ r2 = 0 ∧ r3 = 0 ∧ r4 = 0 ∧ r5 = 6) := by
    intro b c nx hf
    unfold finI at hf
    unfold op_Right.f
    cases hR : rightK (kindOf o) b c
    · rw [hR, if_neg (by decide)] at hf
      simp only [Prod.mk.injEq] at hf
      exact .inr ⟨rfl, hf.1.symm, hf.2.1.symm, hf.2.2.1.symm, hf.2.2.2.1.symm, hf.2.2.2.2.symm⟩
    · rw [hR, if_pos rfl] at hf
      simp only [Prod.mk.injEq] at hf
      exact .inl ⟨rfl, hf.1.symm, hf.2.1.symm, hf.2.2.1.symm, hf.2.2.2.1.symm, hf.2.2.2.2.symm⟩
  by_cases k0 : ka ≤ 0
  · rw [if_pos k0] at h
    rcases fin _ _ _ (Option.some.inj h) with ⟨hR, rfl, rfl, rfl, rfl, rfl⟩ | ⟨hR, rfl, rfl, rfl, rfl, rfl⟩
    · exact dec_0_true a0 a1 _ w q0 q1 hbt b0 b1 ka hA k0 hR
    · exact dec_0_false a0 a1 o w q0 q1 hbt b0 b1 ka hA k0 hR
  rw [if_neg k0] at h
  obtain ⟨⟨n1, x1, e1⟩, G1, h⟩ := Option.bind_eq_some_iff.1 h
  simp only at h
  by_cases he : e1 = 0
  · rw [if_pos he] at h
    have he' : (e1 != 0) = false := bne_eq_false_iff_eq.2 he
    by_cases k1 : ka ≤ 1
    · rw [if_pos k1] at h
      rcases fin _ _ _ (Option.some.inj h) with ⟨hR, rfl, rfl, rfl, rfl, rfl⟩ | ⟨hR, rfl, rfl, rfl, rfl, rfl⟩
      · exact dec_1_true a0 a1 _ w q0 q1 hbt b0 b1 ka hA k0 k1 k _ _ e1 G1 he' hR
      · exact dec_1_false a0 a1 o w q0 q1 hbt b0 b1 ka hA k0 k1 k n1 x1 e1 G1 he' hR
    · rw [if_neg k1] at h
      obtain ⟨⟨n2, x2, e2⟩, G2, h⟩ := Option.bind_eq_some_iff.1 h
      simp only at h
      by_cases hf : e2 = 0
      · rw [if_pos hf] at h
        have hf' : (e2 != 0) = false := bne_eq_false_iff_eq.2 hf
        rcases fin _ _ _ (Option.some.inj h) with ⟨hR, rfl, rfl, rfl, rfl, rfl⟩ | ⟨hR, rfl, rfl, rfl, rfl, rfl⟩
        · exact dec_2_true a0 a1 _ w q0 q1 hbt b0 b1 ka hA k0 k1 k _ x1 e1 G1 he' _ _ e2 G2 hf' hR
        · exact dec_2_false a0 a1 o w q0 q1 hbt b0 b1 ka hA k0 k1 k n1 x1 e1 G1 he' n2 x2 e2 G2 hf' hR
      · rw [if_neg hf] at h
        simp only [Option.some.injEq, Prod.mk.injEq] at h
        obtain ⟨rfl, rfl, rfl, rfl, rfl⟩ := h
        exact dec_err2 a0 a1 o w q0 q1 hbt b0 b1 ka hA k0 k1 k n1 x1 e1 G1 he' n2 x2 _ G2 (bne_iff_ne.2 hf)
  · rw [if_neg he] at h
    simp only [Option.some.injEq, Prod.mk.injEq] at h
    obtain ⟨rfl, rfl, rfl, rfl, rfl⟩ := h
    exact dec_err1 a0 a1 o w q0 q1 hbt b0 b1 ka hA k0 k n1 x1 _ G1 (bne_iff_ne.2 he)

end Go.Proofs.Ytnfoebbdmekbiaa.P
