/- The reference's Right is the program's: for every instruction of ints. -/
import Derived.Test.YtdhlhbhclggheaaG3
import Derived.Test.YtdhlhbhclggheaaQx3
import Derived.Test.YtdhlhbhclggheaaQx2
namespace Go.Proofs.Ytdhlhbhclggheaa.NL
open Go.RowKit Go.Proofs.Ytdhlhbhclggheaa.P Go.Proofs.Ytdhlhbhclggheaa.D Go.Proofs.Ytdhlhbhclggheaa.Q Go.Proofs.YtdhlhbhclggheaaW.PrintWords Go.Proofs.YtdhlhbhclggheaaW.PrintLast Go.Proofs.YtdhlhbhclggheaaW.PrintMore

def I64 (n : Int) : Prop := -9223372036854775808 ≤ n ∧ n ≤ 9223372036854775807
def argsOf (a : Int) : Int := (kindOf a).2.1
def rightI (a b c : Int) : Bool := rightK (kindOf a) b c
theorem right_range {a b c : Int} (h : rightI a b c = true) : 1 ≤ a ∧ a ≤ 25 := by
  by_cases h1 : 1 ≤ a ∧ a ≤ 25
  · exact h1
  · unfold rightI rightK at h
    rw [kindOf_none (by omega)] at h
    simp at h
theorem toList_bl (s : ByteArray) : s.toList = s.data.toList := ByteArray.toList_eq s
theorem name_ne {a : Int} (h : 1 ≤ a ∧ a ≤ 25) : (kindOf a).1.data.toList ≠ [] := by
  rcases op_cases h.1 h.2 with rfl | rfl | rfl | rfl | rfl | rfl | rfl | rfl | rfl | rfl | rfl | rfl | rfl | rfl | rfl | rfl | rfl | rfl | rfl | rfl | rfl | rfl | rfl | rfl | rfl <;> decide
theorem name_no {a : Int} (h : ¬ (1 ≤ a ∧ a ≤ 25)) : (kindOf a).1.data.toList = [] := by rw [kindOf_none (by omega)]; rfl
theorem name_nil (a : Int) : (kindOf a).1.toList = ([] : List UInt8) ↔ ¬ (1 ≤ a ∧ a ≤ 25) := by
  rw [toList_bl]
  exact ⟨fun h h1 => name_ne h1 h, name_no⟩
theorem args_nonneg (a : Int) : 0 ≤ argsOf a ↔ 1 ≤ a ∧ a ≤ 25 := by
  unfold argsOf
  by_cases h1 : 1 ≤ a ∧ a ≤ 25
  · refine ⟨fun _ => h1, fun _ => ?_⟩
    rcases op_cases h1.1 h1.2 with rfl | rfl | rfl | rfl | rfl | rfl | rfl | rfl | rfl | rfl | rfl | rfl | rfl | rfl | rfl | rfl | rfl | rfl | rfl | rfl | rfl | rfl | rfl | rfl | rfl <;> decide
  · rw [kindOf_none (by omega)]
    exact ⟨fun h => by simp at h, fun h => absurd h h1⟩
theorem kind_none {a : Int} (h : ¬ (1 ≤ a ∧ a ≤ 25)) : kindOf a = (ByteArray.empty, -1, 0, 0) := kindOf_none (by omega)
theorem rname_eq (a : Int) : camshaftref04_Name.f a = some (kindOf a).1 := by
  by_cases h : 1 ≤ a ∧ a ≤ 25
  · rcases op_cases h.1 h.2 with rfl | rfl | rfl | rfl | rfl | rfl | rfl | rfl | rfl | rfl | rfl | rfl | rfl | rfl | rfl | rfl | rfl | rfl | rfl | rfl | rfl | rfl | rfl | rfl | rfl <;> kernel_rfl
  · rw [kind_none h]
    unfold camshaftref04_Name.f
    by_cases h1 : a < 1
    · rw [if_pos h1]; rfl
    · rw [if_neg h1, if_pos (by omega)]; rfl
theorem name_ne' {a : Int} (h : 1 ≤ a ∧ a ≤ 25) : ¬ (kindOf a).1.toList = ([] : List UInt8) := by rw [toList_bl]; exact name_ne h
theorem name_no' {a : Int} (h : ¬ (1 ≤ a ∧ a ≤ 25)) : (kindOf a).1.toList = ([] : List UInt8) := by rw [kind_none h, toList_bl]; rfl
theorem rargs_tab (a : Int) (h : 1 ≤ a ∧ a ≤ 25) : ((some (([1, 0, 0, 0, 1, 0, 0, 0, 0, 0, 1, 1, 1, 1, 1, 1, 2, 2, 1, 1, 1, 0, 1, 1, 0] : List Int) : List Int)).bind fun y106 => (if 0 ≤ (wrap64 (a - 1)) then (if (wrap64 (a - 1)) < (y106.length : Int) then (some (rd y106 (wrap64 (a - 1)))) else (none)) else (none))) = some (kindOf a).2.1 := by
  rcases op_cases h.1 h.2 with rfl | rfl | rfl | rfl | rfl | rfl | rfl | rfl | rfl | rfl | rfl | rfl | rfl | rfl | rfl | rfl | rfl | rfl | rfl | rfl | rfl | rfl | rfl | rfl | rfl <;> kernel_rfl
theorem rargs_eq (a : Int) : camshaftref04_Args.f a = some (kindOf a).2.1 := by
  unfold camshaftref04_Args.f
  refine Option.bind_eq_some_iff.2 ⟨_, rname_eq a, ?_⟩
  by_cases h : 1 ≤ a ∧ a ≤ 25
  · rw [if_neg (name_ne' h)]
    exact rargs_tab a h
  · rw [if_pos (name_no' h), kind_none h]
theorem beqd (a b : Int) : (a == b) = decide (a = b) := by
  by_cases h : a = b
  · rw [decide_eq_true h]; exact beq_iff_eq.2 h
  · rw [decide_eq_false h]; exact beq_eq_false_iff_ne.2 h
theorem numName_eq (b : Int) : ∃ t, camshaftref01_Name.f b = some t ∧ (t.toList != ([] : List UInt8)) = inB 1 12 b := by
  by_cases h : 1 ≤ b ∧ b ≤ 12
  · have : b = 1 ∨ b = 2 ∨ b = 3 ∨ b = 4 ∨ b = 5 ∨ b = 6 ∨ b = 7 ∨ b = 8 ∨ b = 9 ∨ b = 10 ∨ b = 11 ∨ b = 12 := by omega
    refine ⟨(camshaftref01_Name.f b).getD ByteArray.empty, ?_, ?_⟩
    · rcases this with rfl | rfl | rfl | rfl | rfl | rfl | rfl | rfl | rfl | rfl | rfl | rfl <;> kernel_rfl
    · rw [toList_bl]; rcases this with rfl | rfl | rfl | rfl | rfl | rfl | rfl | rfl | rfl | rfl | rfl | rfl <;> kernel_rfl
  · refine ⟨⟨#[]⟩, ?_, ?_⟩
    · unfold camshaftref01_Name.f
      by_cases h1 : b < 1
      · rw [if_pos h1]
      · rw [if_neg h1, if_pos (by omega)]
    · rw [toList_bl]
      unfold inB
      rcases Classical.not_and_iff_not_or_not.1 h with h1 | h1
      · rw [decide_eq_false h1]; rfl
      · rw [decide_eq_false h1]; simp
/-- The reference's last tests, of an operation whose counts are told. -/
def lastR (a b c : Int) : Bool :=
  if a = 5 then inB 1 12 b else if a = 11 ∨ a = 12 ∨ a = 13 ∨ a = 14 ∨ a = 17 ∨ a = 18 ∨ a = 23 ∨ a = 24 then inB 0 7 b && inB 0 7 c else if a = 15 ∨ a = 16 then inB 0 15 b
  else if a = 19 ∨ a = 20 then inB 0 199 b else if a = 21 then inB 1 1000 b else true
theorem and_of (p q : Prop) [Decidable p] [Decidable q] : (if p then (some (decide q)) else (some false) : Option Bool) = some (decide p && decide q) := by
  by_cases h : p
  · rw [if_pos h, decide_eq_true h]; rfl
  · rw [if_neg h, decide_eq_false h]; rfl
theorem rj3 (k : Nat) (a a' b c : Int) (x : Bool) (hx : x = decide (a = 19 ∨ a = 20)) : camshaftref04_Right.j3 (k + 1) a x a' b c = some (if a = 19 ∨ a = 20 then inB 0 199 b else if a = 21 then inB 1 1000 b else true) := by
  simp only [camshaftref04_Right.j3]
  subst hx
  by_cases h : a = 19 ∨ a = 20
  · rw [if_pos (decide_eq_true h), if_pos h]
    exact and_of _ _
  · rw [if_neg (by simpa using h), if_neg h]
    by_cases h2 : a = 21
    · rw [if_pos h2, if_pos h2]
      exact and_of _ _
    · rw [if_neg h2, if_neg h2]
theorem rj2 (k : Nat) (a a' b c : Int) (x : Bool) (hx : x = decide (a = 15 ∨ a = 16)) : camshaftref04_Right.j2 (k + 2) a x a' b c = some (if a = 15 ∨ a = 16 then inB 0 15 b else if a = 19 ∨ a = 20 then inB 0 199 b else if a = 21 then inB 1 1000 b else true) := by
  rw [show camshaftref04_Right.j2 (k + 2) a x a' b c = (if x = true then (if b ≥ 0 then (some (decide (b ≤ 15))) else (some false)) else (if a = 19 then (camshaftref04_Right.j3 (k + 1) a (a == 19) a' b c) else (camshaftref04_Right.j3 (k + 1) a (a == 20) a' b c))) from rfl]
  subst hx
  by_cases h : a = 15 ∨ a = 16
  · rw [if_pos (decide_eq_true h), if_pos h]
    exact and_of _ _
  · rw [if_neg (by simpa using h), if_neg h]
    by_cases h2 : a = 19
    · rw [if_pos h2]; exact rj3 k a a' b c _ (by simp [h2])
    · rw [if_neg h2]; exact rj3 k a a' b c _ (by rw [beqd]; simp [h2])
theorem rj1 (k : Nat) (a a' b c : Int) (x : Bool) (hx : x = decide (a = 11 ∨ a = 12 ∨ a = 13 ∨ a = 14 ∨ a = 17 ∨ a = 18 ∨ a = 23 ∨ a = 24)) : camshaftref04_Right.j1 (k + 3) a x a' b c = some (if a = 11 ∨ a = 12 ∨ a = 13 ∨ a = 14 ∨ a = 17 ∨ a = 18 ∨ a = 23 ∨ a = 24 then inB 0 7 b && inB 0 7 c else if a = 15 ∨ a = 16 then inB 0 15 b else if a = 19 ∨ a = 20 then inB 0 199 b else if a = 21 then inB 1 1000 b else true) := by
  rw [show camshaftref04_Right.j1 (k + 3) a x a' b c = (if x = true then (if b ≥ 0 then (if b ≤ 7 then (if c ≥ 0 then (some (decide (c ≤ 7))) else (some false)) else (some false)) else (some false)) else (if a = 15 then (camshaftref04_Right.j2 (k + 2) a (a == 15) a' b c) else (camshaftref04_Right.j2 (k + 2) a (a == 16) a' b c))) from rfl]
  subst hx
  by_cases h : a = 11 ∨ a = 12 ∨ a = 13 ∨ a = 14 ∨ a = 17 ∨ a = 18 ∨ a = 23 ∨ a = 24
  · rw [if_pos (decide_eq_true h), if_pos h, and_of]
    unfold inB
    by_cases p1 : b ≥ 0
    · rw [if_pos p1]
      by_cases p2 : b ≤ 7
      · rw [if_pos p2]; simp [p1, p2]
      · rw [if_neg p2]; simp [p2]
    · rw [if_neg p1]; simp [p1]
  · rw [if_neg (by simpa using h), if_neg h]
    by_cases h2 : a = 15
    · rw [if_pos h2]; exact rj2 k a a' b c _ (by simp [h2])
    · rw [if_neg h2]; exact rj2 k a a' b c _ (by rw [beqd]; simp [h2])
theorem rj0 (k : Nat) (a b c : Int) : camshaftref04_Right.j0 (k + 4) false a b c = some (lastR a b c) := by
  rw [show camshaftref04_Right.j0 (k + 4) false a b c = (if a = 5 then ((camshaftref01_Name.f b).bind fun t119 => (some (t119.toList != ([] : List UInt8)))) else (if a = 11 then (camshaftref04_Right.j1 (k + 3) a (a == 11) a b c) else (if a = 12 then (camshaftref04_Right.j1 (k + 3) a (a == 12) a b c) else (if a = 13 then (camshaftref04_Right.j1 (k + 3) a (a == 13) a b c) else (if a = 14 then (camshaftref04_Right.j1 (k + 3) a (a == 14) a b c) else (if a = 17 then (camshaftref04_Right.j1 (k + 3) a (a == 17) a b c) else (if a = 18 then (camshaftref04_Right.j1 (k + 3) a (a == 18) a b c) else (if a = 23 then (camshaftref04_Right.j1 (k + 3) a (a == 23) a b c) else (camshaftref04_Right.j1 (k + 3) a (a == 24) a b c))))))))) from rfl]
  unfold lastR
  by_cases h5 : a = 5
  · rw [if_pos h5, if_pos h5]
    obtain ⟨t, e1, e2⟩ := numName_eq b
    rw [e1, ← e2]
    rfl
  rw [if_neg h5, if_neg h5]
  by_cases g1 : a = 11
  · rw [if_pos g1]; exact rj1 k a a b c _ (by simp [g1])
  rw [if_neg g1]
  by_cases g2 : a = 12
  · rw [if_pos g2]; exact rj1 k a a b c _ (by simp [g2])
  rw [if_neg g2]
  by_cases g3 : a = 13
  · rw [if_pos g3]; exact rj1 k a a b c _ (by simp [g3])
  rw [if_neg g3]
  by_cases g4 : a = 14
  · rw [if_pos g4]; exact rj1 k a a b c _ (by simp [g4])
  rw [if_neg g4]
  by_cases g5 : a = 17
  · rw [if_pos g5]; exact rj1 k a a b c _ (by simp [g5])
  rw [if_neg g5]
  by_cases g6 : a = 18
  · rw [if_pos g6]; exact rj1 k a a b c _ (by simp [g6])
  rw [if_neg g6]
  by_cases g7 : a = 23
  · rw [if_pos g7]; exact rj1 k a a b c _ (by simp [g7])
  rw [if_neg g7]
  exact rj1 k a a b c _ (by rw [beqd]; simp [g1, g2, g3, g4, g5, g6, g7])
theorem rj0_true (k : Nat) (a b c : Int) : camshaftref04_Right.j0 (k + 1) true a b c = some false := by
  simp only [camshaftref04_Right.j0, if_true]

/-- What the reference asks ahead of the last tests. -/
def firstR (a b c : Int) : Bool := decide (argsOf a < 2 ∧ c ≠ 0) || decide (argsOf a < 1 ∧ b ≠ 0)
theorem right_core {a b c : Int} (h : 1 ≤ a ∧ a ≤ 25) (hb : I64 b) : rightI a b c = (!firstR a b c && lastR a b c) := by
  unfold I64 at hb
  rcases op_cases h.1 h.2 with rfl | rfl | rfl | rfl | rfl | rfl | rfl | rfl | rfl | rfl | rfl | rfl | rfl | rfl | rfl | rfl | rfl | rfl | rfl | rfl | rfl | rfl | rfl | rfl | rfl <;>
    (rw [Bool.eq_iff_iff]; simp [rightI, rightK, firstR, argsOf, lastR, inB, kindOf, tab] <;> omega)
theorem rright_eq {a b c : Int} (hb : I64 b) {k : Nat} : camshaftref04_Right.f (k + 4) a b c = some (rightI a b c) := by
  unfold camshaftref04_Right.f
  refine Option.bind_eq_some_iff.2 ⟨_, rname_eq a, ?_⟩
  by_cases h : 1 ≤ a ∧ a ≤ 25
  · rw [if_neg (fun e => (name_nil a).1 e h)]
    refine Option.bind_eq_some_iff.2 ⟨argsOf a, rargs_eq a, ?_⟩
    have core := right_core (c := c) h hb
    have ha := (args_nonneg a).2 h
    by_cases h2 : argsOf a < 2
    · rw [if_pos h2]
      by_cases hc : c = 0
      · rw [if_pos hc]
        refine Option.bind_eq_some_iff.2 ⟨argsOf a, rargs_eq a, ?_⟩
        by_cases h1 : argsOf a < 1
        · rw [if_pos h1]
          by_cases hb0 : b = 0
          · rw [show (b != 0) = false from bne_eq_false_iff_eq.2 hb0, rj0, core, show firstR a b c = false by simp [firstR, hc, hb0]]; rfl
          · rw [show (b != 0) = true from bne_iff_ne.2 hb0, rj0_true, core, show firstR a b c = true by simp [firstR, hb0, h1]]; rfl
        · rw [if_neg h1, rj0, core, show firstR a b c = false by simp [firstR, hc, h1]]; rfl
      · rw [if_neg hc, rj0_true, core, show firstR a b c = true by simp [firstR, hc, h2]]; rfl
    · rw [if_neg h2]
      refine Option.bind_eq_some_iff.2 ⟨argsOf a, rargs_eq a, ?_⟩
      have h1 : ¬ argsOf a < 1 := by omega
      rw [if_neg h1, rj0, core, show firstR a b c = false by simp [firstR, h1, h2]]; rfl
  · rw [if_pos ((name_nil a).2 h), rj0_true]
    congr 1
    symm
    exact Bool.eq_false_iff.2 (fun e => h (right_range e))

end Go.Proofs.Ytdhlhbhclggheaa.NL
