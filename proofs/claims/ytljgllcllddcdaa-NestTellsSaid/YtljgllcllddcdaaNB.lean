/- Eight blocks as the bits of a number: what the program's bit operations make of them. No conditions beyond those that each lemma states. -/
import Derived.Test.YtljgllcllddcdaaNS
namespace Go.Proofs.Ytljgllcllddcdaa.NL
open Go.RowKit Go.Proofs.Ytljgllcllddcdaa.P Go.Proofs.YtljgllcllddcdaaW.PrintWords Go.Proofs.YtljgllcllddcdaaW.PrintLast Go.Proofs.YtljgllcllddcdaaW.PrintMore

def m8 (b0 b1 b2 b3 b4 b5 b6 b7 : Bool) : Int := (if b0 then 1 else 0) + (if b1 then 2 else 0) + (if b2 then 4 else 0) + (if b3 then 8 else 0) + (if b4 then 16 else 0) + (if b5 then 32 else 0) + (if b6 then 64 else 0) + (if b7 then 128 else 0)
def mk8 (p : Int → Bool) : Int := m8 (p 0) (p 1) (p 2) (p 3) (p 4) (p 5) (p 6) (p 7)
theorem eight {A : Int} (h : 0 ≤ A ∧ A ≤ 7) : A = 0 ∨ A = 1 ∨ A = 2 ∨ A = 3 ∨ A = 4 ∨ A = 5 ∨ A = 6 ∨ A = 7 := by omega
theorem or_0 : ∀ b0 b1 b2 b3 b4 b5 b6 b7, Go.bits .or .i64 (m8 b0 b1 b2 b3 b4 b5 b6 b7) (shl .i64 1 0) = m8 true b1 b2 b3 b4 b5 b6 b7 := by decide +kernel
theorem or_1 : ∀ b0 b1 b2 b3 b4 b5 b6 b7, Go.bits .or .i64 (m8 b0 b1 b2 b3 b4 b5 b6 b7) (shl .i64 1 1) = m8 b0 true b2 b3 b4 b5 b6 b7 := by decide +kernel
theorem or_2 : ∀ b0 b1 b2 b3 b4 b5 b6 b7, Go.bits .or .i64 (m8 b0 b1 b2 b3 b4 b5 b6 b7) (shl .i64 1 2) = m8 b0 b1 true b3 b4 b5 b6 b7 := by decide +kernel
theorem or_3 : ∀ b0 b1 b2 b3 b4 b5 b6 b7, Go.bits .or .i64 (m8 b0 b1 b2 b3 b4 b5 b6 b7) (shl .i64 1 3) = m8 b0 b1 b2 true b4 b5 b6 b7 := by decide +kernel
theorem or_4 : ∀ b0 b1 b2 b3 b4 b5 b6 b7, Go.bits .or .i64 (m8 b0 b1 b2 b3 b4 b5 b6 b7) (shl .i64 1 4) = m8 b0 b1 b2 b3 true b5 b6 b7 := by decide +kernel
theorem or_5 : ∀ b0 b1 b2 b3 b4 b5 b6 b7, Go.bits .or .i64 (m8 b0 b1 b2 b3 b4 b5 b6 b7) (shl .i64 1 5) = m8 b0 b1 b2 b3 b4 true b6 b7 := by decide +kernel
theorem or_6 : ∀ b0 b1 b2 b3 b4 b5 b6 b7, Go.bits .or .i64 (m8 b0 b1 b2 b3 b4 b5 b6 b7) (shl .i64 1 6) = m8 b0 b1 b2 b3 b4 b5 true b7 := by decide +kernel
theorem or_7 : ∀ b0 b1 b2 b3 b4 b5 b6 b7, Go.bits .or .i64 (m8 b0 b1 b2 b3 b4 b5 b6 b7) (shl .i64 1 7) = m8 b0 b1 b2 b3 b4 b5 b6 true := by decide +kernel
theorem mk8_or (p : Int → Bool) {A : Int} (h : 0 ≤ A ∧ A ≤ 7) : Go.bits .or .i64 (mk8 p) (shl .i64 1 A) = mk8 (fun b => A == b || p b) := by
  rcases eight h with rfl | rfl | rfl | rfl | rfl | rfl | rfl | rfl
  · exact or_0 _ _ _ _ _ _ _ _
  · exact or_1 _ _ _ _ _ _ _ _
  · exact or_2 _ _ _ _ _ _ _ _
  · exact or_3 _ _ _ _ _ _ _ _
  · exact or_4 _ _ _ _ _ _ _ _
  · exact or_5 _ _ _ _ _ _ _ _
  · exact or_6 _ _ _ _ _ _ _ _
  · exact or_7 _ _ _ _ _ _ _ _
theorem shr_all : ∀ b0 b1 b2 b3 b4 b5 b6 b7, decide (shr .i64 (m8 b0 b1 b2 b3 b4 b5 b6 b7) 0 = 0) = !(b0 || b1 || b2 || b3 || b4 || b5 || b6 || b7) ∧ decide (shr .i64 (m8 b0 b1 b2 b3 b4 b5 b6 b7) 1 = 0) = !(b1 || b2 || b3 || b4 || b5 || b6 || b7) ∧ decide (shr .i64 (m8 b0 b1 b2 b3 b4 b5 b6 b7) 2 = 0) = !(b2 || b3 || b4 || b5 || b6 || b7) ∧ decide (shr .i64 (m8 b0 b1 b2 b3 b4 b5 b6 b7) 3 = 0) = !(b3 || b4 || b5 || b6 || b7) ∧ decide (shr .i64 (m8 b0 b1 b2 b3 b4 b5 b6 b7) 4 = 0) = !(b4 || b5 || b6 || b7) ∧ decide (shr .i64 (m8 b0 b1 b2 b3 b4 b5 b6 b7) 5 = 0) = !(b5 || b6 || b7) ∧ decide (shr .i64 (m8 b0 b1 b2 b3 b4 b5 b6 b7) 6 = 0) = !(b6 || b7) ∧ decide (shr .i64 (m8 b0 b1 b2 b3 b4 b5 b6 b7) 7 = 0) = !b7 := by decide +kernel
/-- Shifted by A it is 0: none from A on is there. -/
theorem mk8_shr (p : Int → Bool) {A : Int} (h : 0 ≤ A ∧ A ≤ 7) : shr .i64 (mk8 p) A = 0 ↔ ∀ b, A ≤ b → b ≤ 7 → p b = false := by
  obtain ⟨s0, s1, s2, s3, s4, s5, s6, s7⟩ := shr_all (p 0) (p 1) (p 2) (p 3) (p 4) (p 5) (p 6) (p 7)
  have T : ∀ b : Int, 0 ≤ b → b ≤ 7 → b = 0 ∨ b = 1 ∨ b = 2 ∨ b = 3 ∨ b = 4 ∨ b = 5 ∨ b = 6 ∨ b = 7 := fun b h1 h2 => eight ⟨h1, h2⟩
  have D : ∀ {q : Prop} [Decidable q] {c : Bool}, decide q = !c → (q ↔ c = false) := by
    intro q _ c e
    rw [← decide_eq_true_iff (p := q), e]
    cases c <;> simp
  have e0 := D s0; have e1 := D s1; have e2 := D s2; have e3 := D s3; have e4 := D s4; have e5 := D s5; have e6 := D s6; have e7 := D s7
  clear D s0 s1 s2 s3 s4 s5 s6 s7
  simp only [Bool.or_eq_false_iff] at e0 e1 e2 e3 e4 e5 e6 e7
  unfold mk8
  rcases eight h with rfl | rfl | rfl | rfl | rfl | rfl | rfl | rfl
  · rw [e0]
    exact ⟨fun g b h1 h2 => by rcases T b (by omega) h2 with rfl | rfl | rfl | rfl | rfl | rfl | rfl | rfl <;> simp_all, fun g => by simp [g]⟩
  · rw [e1]
    exact ⟨fun g b h1 h2 => by rcases T b (by omega) h2 with rfl | rfl | rfl | rfl | rfl | rfl | rfl | rfl <;> simp_all, fun g => by simp [g]⟩
  · rw [e2]
    exact ⟨fun g b h1 h2 => by rcases T b (by omega) h2 with rfl | rfl | rfl | rfl | rfl | rfl | rfl | rfl <;> simp_all, fun g => by simp [g]⟩
  · rw [e3]
    exact ⟨fun g b h1 h2 => by rcases T b (by omega) h2 with rfl | rfl | rfl | rfl | rfl | rfl | rfl | rfl <;> simp_all, fun g => by simp [g]⟩
  · rw [e4]
    exact ⟨fun g b h1 h2 => by rcases T b (by omega) h2 with rfl | rfl | rfl | rfl | rfl | rfl | rfl | rfl <;> simp_all, fun g => by simp [g]⟩
  · rw [e5]
    exact ⟨fun g b h1 h2 => by rcases T b (by omega) h2 with rfl | rfl | rfl | rfl | rfl | rfl | rfl | rfl <;> simp_all, fun g => by simp [g]⟩
  · rw [e6]
    exact ⟨fun g b h1 h2 => by rcases T b (by omega) h2 with rfl | rfl | rfl | rfl | rfl | rfl | rfl | rfl <;> simp_all, fun g => by simp [g]⟩
  · rw [e7]
    exact ⟨fun g b h1 h2 => by rcases T b (by omega) h2 with rfl | rfl | rfl | rfl | rfl | rfl | rfl | rfl <;> simp_all, fun g => by simp [g]⟩
theorem one_all : ∀ b0 b1 b2 b3 b4 b5 b6 b7, decide (Go.bits .and .i64 (shr .i64 (m8 b0 b1 b2 b3 b4 b5 b6 b7) 0) 1 = 1) = b0 ∧ decide (Go.bits .and .i64 (shr .i64 (m8 b0 b1 b2 b3 b4 b5 b6 b7) 1) 1 = 1) = b1 ∧ decide (Go.bits .and .i64 (shr .i64 (m8 b0 b1 b2 b3 b4 b5 b6 b7) 2) 1 = 1) = b2 ∧ decide (Go.bits .and .i64 (shr .i64 (m8 b0 b1 b2 b3 b4 b5 b6 b7) 3) 1 = 1) = b3 ∧ decide (Go.bits .and .i64 (shr .i64 (m8 b0 b1 b2 b3 b4 b5 b6 b7) 4) 1 = 1) = b4 ∧ decide (Go.bits .and .i64 (shr .i64 (m8 b0 b1 b2 b3 b4 b5 b6 b7) 5) 1 = 1) = b5 ∧ decide (Go.bits .and .i64 (shr .i64 (m8 b0 b1 b2 b3 b4 b5 b6 b7) 6) 1 = 1) = b6 ∧ decide (Go.bits .and .i64 (shr .i64 (m8 b0 b1 b2 b3 b4 b5 b6 b7) 7) 1 = 1) = b7 := by decide +kernel
theorem mk8_one (p : Int → Bool) {A : Int} (h : 0 ≤ A ∧ A ≤ 7) : Go.bits .and .i64 (shr .i64 (mk8 p) A) 1 = 1 ↔ p A = true := by
  obtain ⟨s0, s1, s2, s3, s4, s5, s6, s7⟩ := one_all (p 0) (p 1) (p 2) (p 3) (p 4) (p 5) (p 6) (p 7)
  rw [← decide_eq_true_iff (p := (Go.bits .and .i64 (shr .i64 (mk8 p) A) 1 = 1))]
  unfold mk8
  rcases eight h with rfl | rfl | rfl | rfl | rfl | rfl | rfl | rfl
  · rw [s0]
  · rw [s1]
  · rw [s2]
  · rw [s3]
  · rw [s4]
  · rw [s5]
  · rw [s6]
  · rw [s7]
theorem and_all : ∀ b0 b1 b2 b3 b4 b5 b6 b7, decide (Go.bits .and .i64 (m8 b0 b1 b2 b3 b4 b5 b6 b7) (shl .i64 1 0) = 0) = !b0 ∧ decide (Go.bits .and .i64 (m8 b0 b1 b2 b3 b4 b5 b6 b7) (shl .i64 1 1) = 0) = !b1 ∧ decide (Go.bits .and .i64 (m8 b0 b1 b2 b3 b4 b5 b6 b7) (shl .i64 1 2) = 0) = !b2 ∧ decide (Go.bits .and .i64 (m8 b0 b1 b2 b3 b4 b5 b6 b7) (shl .i64 1 3) = 0) = !b3 ∧ decide (Go.bits .and .i64 (m8 b0 b1 b2 b3 b4 b5 b6 b7) (shl .i64 1 4) = 0) = !b4 ∧ decide (Go.bits .and .i64 (m8 b0 b1 b2 b3 b4 b5 b6 b7) (shl .i64 1 5) = 0) = !b5 ∧ decide (Go.bits .and .i64 (m8 b0 b1 b2 b3 b4 b5 b6 b7) (shl .i64 1 6) = 0) = !b6 ∧ decide (Go.bits .and .i64 (m8 b0 b1 b2 b3 b4 b5 b6 b7) (shl .i64 1 7) = 0) = !b7 := by decide +kernel
theorem mk8_and (p : Int → Bool) {A : Int} (h : 0 ≤ A ∧ A ≤ 7) : decide (Go.bits .and .i64 (mk8 p) (shl .i64 1 A) = 0) = !p A := by
  obtain ⟨s0, s1, s2, s3, s4, s5, s6, s7⟩ := and_all (p 0) (p 1) (p 2) (p 3) (p 4) (p 5) (p 6) (p 7)
  unfold mk8
  rcases eight h with rfl | rfl | rfl | rfl | rfl | rfl | rfl | rfl
  · exact s0
  · exact s1
  · exact s2
  · exact s3
  · exact s4
  · exact s5
  · exact s6
  · exact s7
theorem add_all : ∀ b0 b1 b2 b3 b4 b5 b6 b7, (b0 = false → m8 b0 b1 b2 b3 b4 b5 b6 b7 + shl .i64 1 0 = m8 true b1 b2 b3 b4 b5 b6 b7) ∧ (b1 = false → m8 b0 b1 b2 b3 b4 b5 b6 b7 + shl .i64 1 1 = m8 b0 true b2 b3 b4 b5 b6 b7) ∧ (b2 = false → m8 b0 b1 b2 b3 b4 b5 b6 b7 + shl .i64 1 2 = m8 b0 b1 true b3 b4 b5 b6 b7) ∧ (b3 = false → m8 b0 b1 b2 b3 b4 b5 b6 b7 + shl .i64 1 3 = m8 b0 b1 b2 true b4 b5 b6 b7) ∧ (b4 = false → m8 b0 b1 b2 b3 b4 b5 b6 b7 + shl .i64 1 4 = m8 b0 b1 b2 b3 true b5 b6 b7) ∧ (b5 = false → m8 b0 b1 b2 b3 b4 b5 b6 b7 + shl .i64 1 5 = m8 b0 b1 b2 b3 b4 true b6 b7) ∧ (b6 = false → m8 b0 b1 b2 b3 b4 b5 b6 b7 + shl .i64 1 6 = m8 b0 b1 b2 b3 b4 b5 true b7) ∧ (b7 = false → m8 b0 b1 b2 b3 b4 b5 b6 b7 + shl .i64 1 7 = m8 b0 b1 b2 b3 b4 b5 b6 true) := by decide +kernel
theorem mk8_add (p : Int → Bool) {A : Int} (h : 0 ≤ A ∧ A ≤ 7) (hp : p A = false) : mk8 p + shl .i64 1 A = mk8 (fun b => A == b || p b) := by
  obtain ⟨s0, s1, s2, s3, s4, s5, s6, s7⟩ := add_all (p 0) (p 1) (p 2) (p 3) (p 4) (p 5) (p 6) (p 7)
  rcases eight h with rfl | rfl | rfl | rfl | rfl | rfl | rfl | rfl
  · exact s0 hp
  · exact s1 hp
  · exact s2 hp
  · exact s3 hp
  · exact s4 hp
  · exact s5 hp
  · exact s6 hp
  · exact s7 hp
theorem mk8_range (p : Int → Bool) : 0 ≤ mk8 p ∧ mk8 p ≤ 255 := by
  unfold mk8 m8
  repeat' split
  all_goals omega
theorem sub_all : ∀ t0 t1 t2 t3 t4 t5 t6 t7 : Fin 3, Go.bits .and .i64 (m8 (t0 == 2) (t1 == 2) (t2 == 2) (t3 == 2) (t4 == 2) (t5 == 2) (t6 == 2) (t7 == 2)) (m8 (t0 != 0) (t1 != 0) (t2 != 0) (t3 != 0) (t4 != 0) (t5 != 0) (t6 != 0) (t7 != 0)) = m8 (t0 == 2) (t1 == 2) (t2 == 2) (t3 == 2) (t4 == 2) (t5 == 2) (t6 == 2) (t7 == 2) := by decide +kernel
theorem mk8_sub (p q : Int → Bool) (h : ∀ b, p b = true → q b = true) : Go.bits .and .i64 (mk8 p) (mk8 q) = mk8 p := by
  have T : ∀ b, ∃ t : Fin 3, (t == 2) = p b ∧ (t != 0) = q b := by
    intro b
    have := h b
    cases hp : p b <;> cases hq : q b
    · exact ⟨0, rfl, rfl⟩
    · exact ⟨1, rfl, rfl⟩
    · rw [hp, hq] at this; exact absurd (this rfl) (by decide)
    · exact ⟨2, rfl, rfl⟩
  obtain ⟨t0, a0, c0⟩ := T 0; obtain ⟨t1, a1, c1⟩ := T 1; obtain ⟨t2, a2, c2⟩ := T 2; obtain ⟨t3, a3, c3⟩ := T 3; obtain ⟨t4, a4, c4⟩ := T 4; obtain ⟨t5, a5, c5⟩ := T 5; obtain ⟨t6, a6, c6⟩ := T 6; obtain ⟨t7, a7, c7⟩ := T 7
  have := sub_all t0 t1 t2 t3 t4 t5 t6 t7
  unfold mk8
  rw [← a0, ← a1, ← a2, ← a3, ← a4, ← a5, ← a6, ← a7, ← c0, ← c1, ← c2, ← c3, ← c4, ← c5, ← c6, ← c7]
  exact this

end Go.Proofs.Ytljgllcllddcdaa.NL
