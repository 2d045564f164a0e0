/- op.Right: whether an instruction can be; for every instruction. No conditions. -/
import Derived.Test.YtdhlhbhclggheaaG2
import Derived.Outline
namespace Go.Proofs.Ytdhlhbhclggheaa.P
open Go.RowKit Go.Proofs.YtdhlhbhclggheaaW.PrintWords Go.Proofs.YtdhlhbhclggheaaW.PrintLast Go.Proofs.YtdhlhbhclggheaaW.PrintMore

/-- A number lies in its operation's bounds. -/
def inB (lo hi n : Int) : Bool := decide (lo ≤ n) && decide (n ≤ hi)
/-- The program's own test, by the kind of the operation. -/
def rightK (k : ByteArray × Int × Int × Int) (b c : Int) : Bool :=
  if k.2.1 = 0 then decide (b = 0) && decide (c = 0) else if k.2.1 = 1 then inB k.2.2.1 k.2.2.2 b && decide (c = 0) else if k.2.1 = 2 then inB k.2.2.1 k.2.2.2 b && inB k.2.2.1 k.2.2.2 c else false
theorem mkFn (fn : Fn) (first cap : Array Value) (w : World) : (Instr.makeFunc fn first cap).run Try.prog w = .ok (.func fn first cap) w := rfl
theorem inB_lo {lo hi n : Int} (h : lo ≤ n) : inB lo hi n = decide (n ≤ hi) := by unfold inB; rw [decide_eq_true h]; rfl
theorem inB_no {lo hi n : Int} (h : ¬ lo ≤ n) : inB lo hi n = false := by unfold inB; rw [decide_eq_false h]; rfl
theorem lit_any (n lo hi : Int) (g : Nat) (w : World) (h2 : w.cell? ⟨g, 2, none⟩ = some (.int .i64 lo)) (h3 : w.cell? ⟨g, 3, none⟩ = some (.int .i64 hi)) :
    Calls Try.prog 40 #[.int .i64 n, .pointer (some ⟨g, 0, none⟩)] w fun e w' => e = .returned (.bool (inB lo hi n)) ∧ Below w.heap.size w w' := by
  by_cases c1 : lo ≤ n
  · rw [inB_lo c1]
    have d1 := decide_eq_true c1
    go_enter Try.func40, Try.ntmps40
    go_wp2
    go_ret
    exact ⟨rfl, Below.refl _ _⟩
  · rw [inB_no c1]
    have d1 := decide_eq_false c1
    go_enter Try.func40, Try.ntmps40
    go_wp2
    go_ret
    exact ⟨rfl, Below.refl _ _⟩
/-- An instruction in memory. -/
theorem box3 (w : World) (a b c : Int) (t : Nat) : (w.alloc (.cells #[.int .i64 a, .int .i64 b, .int .i64 c] t)).cell? ⟨w.heap.size, 0, none⟩ = some (.int .i64 a) ∧
    (w.alloc (.cells #[.int .i64 a, .int .i64 b, .int .i64 c] t)).cell? ⟨w.heap.size, 1, none⟩ = some (.int .i64 b) ∧ (w.alloc (.cells #[.int .i64 a, .int .i64 b, .int .i64 c] t)).cell? ⟨w.heap.size, 2, none⟩ = some (.int .i64 c) := by
  refine ⟨?_, ?_, ?_⟩ <;> simp [go_sem]
theorem box_kept {w w1 : World} {a b c : Int} {t : Nat} (hb : Below (w.alloc (.cells #[.int .i64 a, .int .i64 b, .int .i64 c] t)).heap.size (w.alloc (.cells #[.int .i64 a, .int .i64 b, .int .i64 c] t)) w1) :
    w1.cell? ⟨w.heap.size, 0, none⟩ = some (.int .i64 a) ∧ w1.cell? ⟨w.heap.size, 1, none⟩ = some (.int .i64 b) ∧ w1.cell? ⟨w.heap.size, 2, none⟩ = some (.int .i64 c) ∧ w.heap.size < w1.heap.size := by
  obtain ⟨h0, h1, h2⟩ := box3 w a b c t
  have hs : w.heap.size < (w.alloc (.cells #[.int .i64 a, .int .i64 b, .int .i64 c] t)).heap.size := by simp
  exact ⟨(hb.cell (p := ⟨w.heap.size, 0, none⟩) hs).trans h0, (hb.cell (p := ⟨w.heap.size, 1, none⟩) hs).trans h1, (hb.cell (p := ⟨w.heap.size, 2, none⟩) hs).trans h2, Nat.lt_of_lt_of_le hs hb.size⟩
theorem below_box {w w1 : World} {o : Obj} (hb : Below (w.alloc o).heap.size (w.alloc o) w1) : Below w.heap.size w w1 := below_then (below_alloc (Below.refl _ _) o) (below_size (below_alloc (Below.refl _ _) o)) hb
set_option maxHeartbeats 1000000 in
theorem right_0 (a b c kl kh : Int) (kn : ByteArray) (w : World) (HO : Aside0 (∀ w, Calls Try.prog 39 #[.int .i64 a] w fun e w' => e = .returned (.agg #[.string kn, .int .i64 0, .int .i64 kl, .int .i64 kh]) ∧ Below w.heap.size w w')) :
    Calls Try.prog 27 #[.agg #[.int .i64 a, .int .i64 b, .int .i64 c]] w fun e w' => e = .returned (.bool (decide (b = 0) && decide (c = 0))) ∧ Below w.heap.size w w' := by
  have hz := zeroKind
  have hmf := mkFn
  by_cases h : b = 0
  · have hd : (b == 0) = true := beq_iff_eq.2 h
    rw [decide_eq_true h, Bool.true_and]
    clear h
    go_enter Try.func27, Try.ntmps27
    go_wp2_with ((go_at_call 39; refine (HO.out _).mono ?_; rintro e w1 ⟨rfl, hb⟩; obtain ⟨k0, k1, k2, hsz⟩ := box_kept hb; replace hb := Aside0.mk (below_box hb)))
    go_ret
    exact ⟨rfl, ((hb.out.alloc hb.out.size _))⟩
  · have hd : (b == 0) = false := beq_eq_false_iff_ne.2 h
    rw [decide_eq_false h, Bool.false_and]
    clear h
    go_enter Try.func27, Try.ntmps27
    go_wp2_with ((go_at_call 39; refine (HO.out _).mono ?_; rintro e w1 ⟨rfl, hb⟩; obtain ⟨k0, k1, k2, hsz⟩ := box_kept hb; replace hb := Aside0.mk (below_box hb)))
    go_ret
    exact ⟨rfl, ((hb.out.alloc hb.out.size _))⟩

theorem lit_true (n lo hi : Int) (hn : inB lo hi n = true) (g : Nat) (w : World) (h2 : w.cell? ⟨g, 2, none⟩ = some (.int .i64 lo)) (h3 : w.cell? ⟨g, 3, none⟩ = some (.int .i64 hi)) :
    Calls Try.prog 40 #[.int .i64 n, .pointer (some ⟨g, 0, none⟩)] w fun e w' => e = .returned (.bool true) ∧ Below w.heap.size w w' := by
  have := lit_any n lo hi g w h2 h3
  rwa [hn] at this
theorem lit_false (n lo hi : Int) (hn : inB lo hi n = false) (g : Nat) (w : World) (h2 : w.cell? ⟨g, 2, none⟩ = some (.int .i64 lo)) (h3 : w.cell? ⟨g, 3, none⟩ = some (.int .i64 hi)) :
    Calls Try.prog 40 #[.int .i64 n, .pointer (some ⟨g, 0, none⟩)] w fun e w' => e = .returned (.bool false) ∧ Below w.heap.size w w' := by
  have := lit_any n lo hi g w h2 h3
  rwa [hn] at this
theorem kind4 (w : World) (kn : ByteArray) (ka kl kh : Int) (t : Nat) : (w.alloc (.cells #[.string kn, .int .i64 ka, .int .i64 kl, .int .i64 kh] t)).cell? ⟨w.heap.size, 2, none⟩ = some (.int .i64 kl) ∧
    (w.alloc (.cells #[.string kn, .int .i64 ka, .int .i64 kl, .int .i64 kh] t)).cell? ⟨w.heap.size, 3, none⟩ = some (.int .i64 kh) := by
  refine ⟨?_, ?_⟩ <;> simp [go_sem]
/-- What was known ahead of a call is known behind it. -/
theorem behind {w1 w2 : World} {o : Obj} (hb : Below (w1.alloc o).heap.size (w1.alloc o) w2) {g j : Nat} {v : Value} (hg : g < w1.heap.size) (h : w1.cell? ⟨g, j, none⟩ = some v) : w2.cell? ⟨g, j, none⟩ = some v := by
  have h1 : (w1.alloc o).cell? ⟨g, j, none⟩ = some v := by
    rw [← h]; exact (below_alloc (Below.refl _ _) o).cell (p := ⟨g, j, none⟩) hg
  exact (hb.cell (p := ⟨g, j, none⟩) (by simp; omega)).trans h1
theorem behind_new {w1 w2 : World} {o : Obj} (hb : Below (w1.alloc o).heap.size (w1.alloc o) w2) {j : Nat} {v : Value} (h : (w1.alloc o).cell? ⟨w1.heap.size, j, none⟩ = some v) : w2.cell? ⟨w1.heap.size, j, none⟩ = some v :=
  (hb.cell (p := ⟨w1.heap.size, j, none⟩) (by simp)).trans h
theorem below_two {w w1 w2 : World} {o : Obj} (h : Below w.heap.size w w1) (hb : Below (w1.alloc o).heap.size (w1.alloc o) w2) : Below w.heap.size w w2 := below_then (below_alloc h o) (below_size (below_alloc h o)) hb

set_option maxHeartbeats 1000000 in
theorem right_1 (a b c kl kh : Int) (kn : ByteArray) (w : World) (HO : Aside0 (∀ w, Calls Try.prog 39 #[.int .i64 a] w fun e w' => e = .returned (.agg #[.string kn, .int .i64 1, .int .i64 kl, .int .i64 kh]) ∧ Below w.heap.size w w')) :
    Calls Try.prog 27 #[.agg #[.int .i64 a, .int .i64 b, .int .i64 c]] w fun e w' => e = .returned (.bool (inB kl kh b && decide (c = 0))) ∧ Below w.heap.size w w' := by
  have hz := zeroKind
  have hmf := mkFn
  cases hB : inB kl kh b
  · have HB := Aside0.mk hB
    clear hB
    rw [Bool.false_and]
    go_enter Try.func27, Try.ntmps27
    go_wp2_with (first
      | (go_at_call 39; refine (HO.out _).mono ?_; rintro e w1 ⟨rfl, hb⟩; obtain ⟨k0, k1, k2, hsz⟩ := box_kept hb; replace hb := Aside0.mk (below_box hb))
      | (go_at_call 40; refine (lit_false b kl kh HB.out w1.heap.size _ (kind4 w1 kn 1 kl kh _).1 (kind4 w1 kn 1 kl kh _).2).mono ?_; rintro e w2 ⟨rfl, hb2⟩; replace hb2 := Aside0.mk (below_two hb.out hb2)))
    go_ret
    exact ⟨rfl, hb2.out⟩
  · have HB := Aside0.mk hB
    clear hB
    rw [Bool.true_and]
    go_enter Try.func27, Try.ntmps27
    go_wp2_with (first
      | (go_at_call 39; refine (HO.out _).mono ?_; rintro e w1 ⟨rfl, hb⟩; obtain ⟨k0, k1, k2, hsz⟩ := box_kept hb; replace hb := Aside0.mk (below_box hb))
      | (go_at_call 40; refine (lit_true b kl kh HB.out w1.heap.size _ (kind4 w1 kn 1 kl kh _).1 (kind4 w1 kn 1 kl kh _).2).mono ?_; rintro e w2 ⟨rfl, hb2⟩; have k2' := behind hb2 hsz k2; replace hb2 := Aside0.mk (below_two hb.out hb2)))
    go_ret
    exact ⟨rfl, hb2.out⟩
set_option maxHeartbeats 1000000 in
theorem right_2 (a b c kl kh : Int) (kn : ByteArray) (w : World) (HO : Aside0 (∀ w, Calls Try.prog 39 #[.int .i64 a] w fun e w' => e = .returned (.agg #[.string kn, .int .i64 2, .int .i64 kl, .int .i64 kh]) ∧ Below w.heap.size w w')) :
    Calls Try.prog 27 #[.agg #[.int .i64 a, .int .i64 b, .int .i64 c]] w fun e w' => e = .returned (.bool (inB kl kh b && inB kl kh c)) ∧ Below w.heap.size w w' := by
  have hz := zeroKind
  have hmf := mkFn
  cases hB : inB kl kh b
  · have HB := Aside0.mk hB
    clear hB
    rw [Bool.false_and]
    go_enter Try.func27, Try.ntmps27
    go_wp2_with (first
      | (go_at_call 39; refine (HO.out _).mono ?_; rintro e w1 ⟨rfl, hb⟩; obtain ⟨k0, k1, k2, hsz⟩ := box_kept hb; replace hb := Aside0.mk (below_box hb))
      | (go_at_call 40; refine (lit_false b kl kh HB.out w1.heap.size _ (kind4 w1 kn 2 kl kh _).1 (kind4 w1 kn 2 kl kh _).2).mono ?_; rintro e w2 ⟨rfl, hb2⟩; replace hb2 := Aside0.mk (below_two hb.out hb2)))
    go_ret
    exact ⟨rfl, hb2.out⟩
  · have HB := Aside0.mk hB
    clear hB
    rw [Bool.true_and]
    go_enter Try.func27, Try.ntmps27
    go_wp2_with (first
      | (go_at_call 39; refine (HO.out _).mono ?_; rintro e w1 ⟨rfl, hb⟩; obtain ⟨k0, k1, k2, hsz⟩ := box_kept hb; replace hb := Aside0.mk (below_box hb))
      | (go_at_call 40; (with_reducible refine (lit_true b kl kh HB.out w1.heap.size _ (kind4 w1 kn 2 kl kh _).1 (kind4 w1 kn 2 kl kh _).2).mono ?_); rintro e w2 ⟨rfl, hb2⟩; have k2' := behind hb2 hsz k2; have q2 := Aside0.mk (behind_new hb2 (kind4 w1 kn 2 kl kh _).1); have q3 := Aside0.mk (behind_new hb2 (kind4 w1 kn 2 kl kh _).2); replace hb2 := Aside0.mk (below_two hb.out hb2))
      | (go_at_call 40; refine (lit_any c kl kh w1.heap.size _ q2.out q3.out).mono ?_; rintro e w3 ⟨rfl, hb3⟩; replace hb3 := Aside0.mk (below_then hb2.out (below_size hb2.out) hb3)))
    go_ret
    exact ⟨rfl, hb3.out⟩
set_option maxHeartbeats 1000000 in
theorem right_no (a b c ka kl kh : Int) (kn : ByteArray) (h0 : (ka == 0) = false) (h1 : (ka == 1) = false) (h2 : (ka == 2) = false) (w : World) (HO : Aside0 (∀ w, Calls Try.prog 39 #[.int .i64 a] w fun e w' => e = .returned (.agg #[.string kn, .int .i64 ka, .int .i64 kl, .int .i64 kh]) ∧ Below w.heap.size w w')) :
    Calls Try.prog 27 #[.agg #[.int .i64 a, .int .i64 b, .int .i64 c]] w fun e w' => e = .returned (.bool false) ∧ Below w.heap.size w w' := by
  have hz := zeroKind
  have hmf := mkFn
  go_enter Try.func27, Try.ntmps27
  go_wp2_with ((go_at_call 39; refine (HO.out _).mono ?_; rintro e w1 ⟨rfl, hb⟩; obtain ⟨k0, k1, k2, hsz⟩ := box_kept hb; replace hb := Aside0.mk (below_box hb)))
  go_ret
  exact ⟨rfl, ((hb.out.alloc hb.out.size _))⟩
def op_Right.f (a0_0 : Int) (a0_1 : Int) (a0_2 : Int) : Option (Bool) := some (rightK (kindOf a0_0) a0_1 a0_2)
theorem op_Right.calls (a0_0 : Int) (a0_1 : Int) (a0_2 : Int) (r : Bool) (w : World) (h : op_Right.f a0_0 a0_1 a0_2 = some r) :
    Calls Try.prog 27 #[.agg #[.int .i64 a0_0, .int .i64 a0_1, .int .i64 a0_2]] w fun e w' => e = .returned (.bool r) ∧ Below w.heap.size w w' := by
  have ho := of_any a0_0
  unfold op_Right.f at h
  obtain rfl := Option.some.inj h
  clear h
  obtain ⟨⟨kn, ka, kl, kh⟩, hk⟩ : ∃ k, kindOf a0_0 = k := ⟨_, rfl⟩
  rw [hk] at ho ⊢
  simp only [kindV] at ho
  unfold rightK
  by_cases c0 : ka = 0
  · subst c0
    exact right_0 a0_0 a0_1 a0_2 kl kh kn w ⟨ho⟩
  · rw [if_neg c0]
    by_cases c1 : ka = 1
    · subst c1
      exact right_1 a0_0 a0_1 a0_2 kl kh kn w ⟨ho⟩
    · rw [if_neg c1]
      by_cases c2 : ka = 2
      · subst c2
        exact right_2 a0_0 a0_1 a0_2 kl kh kn w ⟨ho⟩
      · rw [if_neg c2]
        exact right_no a0_0 a0_1 a0_2 ka kl kh kn (beq_eq_false_iff_ne.2 c0) (beq_eq_false_iff_ne.2 c1) (beq_eq_false_iff_ne.2 c2) w ⟨ho⟩

end Go.Proofs.Ytdhlhbhclggheaa.P
