/- op.Decode: the instruction at a place; for all bytes and places. No conditions. -/
import Derived.Test.YtnfoebbdmekbiaaG4
import Derived.Test.YtnfoebbdmekbiaaCx1
namespace Go.Proofs.Ytnfoebbdmekbiaa.P
open Go.RowKit Go.Proofs.Ytnfoebbdmekbiaa.C Go.Proofs.YtnfoebbdmekbiaaW.PrintWords Go.Proofs.YtnfoebbdmekbiaaW.PrintLast Go.Proofs.YtnfoebbdmekbiaaW.PrintMore

theorem zeroInstr (w : World) : (zeroValue 23).run Try.prog w = .ok (.agg #[.int .i64 0, .int .i64 0, .int .i64 0]) w := by kernel_rfl
theorem ptrAt0 (p q : Option Addr) (w : World) : (Instr.index 52 (.agg #[.pointer p, .pointer q]) (.int .i64 0)).run Try.prog w = .ok (.pointer p) w := by kernel_rfl
theorem ptrAt1 (p q : Option Addr) (w : World) : (Instr.index 52 (.agg #[.pointer p, .pointer q]) (.int .i64 1)).run Try.prog w = .ok (.pointer q) w := by kernel_rfl
/-- Two rows of three numbers in memory, made one behind the other. -/
structure Two (g : Nat) (W : World) (x0 x1 x2 y0 y1 y2 : Int) : Prop where mk ::
  (c0 : W.cell? ⟨g, 0, none⟩ = some (.int .i64 x0)) (c1 : W.cell? ⟨g, 1, none⟩ = some (.int .i64 x1)) (c2 : W.cell? ⟨g, 2, none⟩ = some (.int .i64 x2))
  (d0 : W.cell? ⟨g + 1, 0, none⟩ = some (.int .i64 y0)) (d1 : W.cell? ⟨g + 1, 1, none⟩ = some (.int .i64 y1)) (d2 : W.cell? ⟨g + 1, 2, none⟩ = some (.int .i64 y2))
  (f0 : W.frozen? ⟨g, 0, none⟩ = false) (f1 : W.frozen? ⟨g, 1, none⟩ = false) (f2 : W.frozen? ⟨g, 2, none⟩ = false)
  (e1 : W.frozen? ⟨g + 1, 1, none⟩ = false) (e2 : W.frozen? ⟨g + 1, 2, none⟩ = false) (sz : g + 1 < W.heap.size)
theorem Two.start (w : World) (x0 x1 x2 y0 y1 y2 : Int) (t : Nat) : Two w.heap.size ((w.alloc (.cells #[.int .i64 x0, .int .i64 x1, .int .i64 x2] t)).alloc (.cells #[.int .i64 y0, .int .i64 y1, .int .i64 y2] t)) x0 x1 x2 y0 y1 y2 := by
  refine ⟨?_, ?_, ?_, ?_, ?_, ?_, ?_, ?_, ?_, ?_, ?_, ?_⟩ <;> simp [go_sem]
theorem Two.behind {g : Nat} {W w2 : World} {x0 x1 x2 y0 y1 y2 : Int} (h : Two g W x0 x1 x2 y0 y1 y2) (hb : Below W.heap.size W w2) : Two g w2 x0 x1 x2 y0 y1 y2 :=
  have s1 := h.sz
  have s0 : g < W.heap.size := by omega
  ⟨(hb.cell (p := ⟨g, 0, none⟩) s0).trans h.c0, (hb.cell (p := ⟨g, 1, none⟩) s0).trans h.c1, (hb.cell (p := ⟨g, 2, none⟩) s0).trans h.c2,
   (hb.cell (p := ⟨g + 1, 0, none⟩) s1).trans h.d0, (hb.cell (p := ⟨g + 1, 1, none⟩) s1).trans h.d1, (hb.cell (p := ⟨g + 1, 2, none⟩) s1).trans h.d2,
   (hb.frozen (p := ⟨g, 0, none⟩) s0).trans h.f0, (hb.frozen (p := ⟨g, 1, none⟩) s0).trans h.f1, (hb.frozen (p := ⟨g, 2, none⟩) s0).trans h.f2,
   (hb.frozen (p := ⟨g + 1, 1, none⟩) s1).trans h.e1, (hb.frozen (p := ⟨g + 1, 2, none⟩) s1).trans h.e2, Nat.lt_of_lt_of_le s1 hb.size⟩
theorem Two.drewN {g : Nat} {W : World} {x0 x1 x2 y0 y1 y2 : Int} (h : Two g W x0 x1 x2 y0 y1 y2) (n : Nat) : Two g (W.drewN n) x0 x1 x2 y0 y1 y2 :=
  h.behind (pw_below_drewN (Below.refl _ _) n)
theorem Two.set1 {g : Nat} {W : World} {x0 x1 x2 y0 y1 y2 : Int} (h : Two g W x0 x1 x2 y0 y1 y2) (n : Int) : Two g (W.setCell ⟨g + 1, 1, none⟩ (.int .i64 n)) x0 x1 x2 y0 n y2 := by
  obtain ⟨c0, c1, c2, d0, d1, d2, f0, f1, f2, e1, e2, sz⟩ := h
  refine ⟨?_, ?_, ?_, ?_, ?_, ?_, ?_, ?_, ?_, ?_, ?_, ?_⟩ <;> simp [go_sem, c0, c1, c2, d0, d1, d2, f0, f1, f2, e1, e2, sz]
theorem Two.set2 {g : Nat} {W : World} {x0 x1 x2 y0 y1 y2 : Int} (h : Two g W x0 x1 x2 y0 y1 y2) (n : Int) : Two g (W.setCell ⟨g + 1, 2, none⟩ (.int .i64 n)) x0 x1 x2 y0 y1 n := by
  obtain ⟨c0, c1, c2, d0, d1, d2, f0, f1, f2, e1, e2, sz⟩ := h
  refine ⟨?_, ?_, ?_, ?_, ?_, ?_, ?_, ?_, ?_, ?_, ?_, ?_⟩ <;> simp [go_sem, c0, c1, c2, d0, d1, d2, f0, f1, f2, e1, e2, sz]

theorem dec_neg (s : ByteArray) (a : Int) (w : World) (h : a < 0) :
    Calls Try.prog 19 #[.string s, .int .i64 a] w fun e w' => e = .returned (.tuple #[.agg #[.int .i64 0, .int .i64 0, .int .i64 0], .int .i64 0, .int .i64 1]) ∧ Below w.heap.size w w' := by
  have hz := zeroInstr
  go_enter Try.func19, Try.ntmps19
  go_wp2_with (fail)
  refine bodyPost_ret (v := .tuple #[.agg #[.int .i64 0, .int .i64 0, .int .i64 0], .int .i64 0, .int .i64 1]) ?_ rfl ⟨rfl, ?_⟩
  · simp [results, Try.results19, go_sem]
  · exact (Below.refl _ _).alloc (Nat.le_refl _) _
theorem dec_past (s : ByteArray) (a : Int) (w : World) (h0 : ¬ a < 0) (h : (s.size : Int) < a) :
    Calls Try.prog 19 #[.string s, .int .i64 a] w fun e w' => e = .returned (.tuple #[.agg #[.int .i64 0, .int .i64 0, .int .i64 0], .int .i64 0, .int .i64 1]) ∧ Below w.heap.size w w' := by
  have hz := zeroInstr
  go_enter Try.func19, Try.ntmps19
  go_wp2_with (fail)
  refine bodyPost_ret (v := .tuple #[.agg #[.int .i64 0, .int .i64 0, .int .i64 0], .int .i64 0, .int .i64 1]) ?_ rfl ⟨rfl, ?_⟩
  · simp [results, Try.results19, go_sem]
  · exact (Below.refl _ _).alloc (Nat.le_refl _) _
theorem dec_end (s : ByteArray) (a : Int) (w : World) (h0 : ¬ a < 0) (h1 : ¬ (s.size : Int) < a) (h : (a == (s.size : Int)) = true) :
    Calls Try.prog 19 #[.string s, .int .i64 a] w fun e w' => e = .returned (.tuple #[.agg #[.int .i64 0, .int .i64 0, .int .i64 0], .int .i64 0, .int .i64 2]) ∧ Below w.heap.size w w' := by
  have hz := zeroInstr
  go_enter Try.func19, Try.ntmps19
  go_wp2_with (fail)
  refine bodyPost_ret (v := .tuple #[.agg #[.int .i64 0, .int .i64 0, .int .i64 0], .int .i64 0, .int .i64 2]) ?_ rfl ⟨rfl, ?_⟩
  · simp [results, Try.results19, go_sem]
  · exact (Below.refl _ _).alloc (Nat.le_refl _) _
set_option maxHeartbeats 2000000 in
theorem dec_0_true (s : ByteArray) (a o : Int) (w : World) (h0 : 0 ≤ a) (h1 : a < (s.size : Int)) (hbt : ∀ h : a.toNat < s.size, ((s[a.toNat]'h).toNat : Int) = o) (ho0 : 0 ≤ o) (ho1 : o ≤ 255) (ka : Int) (hA : op_Args.f o = some ka) (hk : ka ≤ 0) (hR : op_Right.f o 0 0 = some true) :
    Calls Try.prog 19 #[.string s, .int .i64 a] w fun e w' => e = .returned (.tuple #[.agg #[.int .i64 o, .int .i64 0, .int .i64 0], .int .i64 (wrap64 (a + 1)), .int .i64 0]) ∧ Below w.heap.size w w' := by
  have hz := zeroInstr
  have i0 := ptrAt0
  have i1 := ptrAt1
  have HA := Aside0.mk hA
  clear hA
  have hd : decide (ka ≤ 0) = true := decide_eq_true hk
  have HR := Aside0.mk hR
  clear hR
  go_enter Try.func19, Try.ntmps19
  go_wp2_with (fail)
  refine wp_loop_rounds 3 ?_
  rw [rounds_succ]
  go_wp2_with (first | (go_at_call 16; refine (op_Args.calls o ka _ HA.out).mono ?_; rintro e w1 ⟨rfl, hb⟩; have T := Aside0.mk ((Two.start w 0 0 0 o 0 0 23).behind hb); obtain ⟨c0, c1, c2, d0, d1, d2, f0, f1, f2, e1, e2, sz⟩ := T.out; have hB := Aside0.mk (below_then (below_alloc (below_alloc (Below.refl _ _) _) _) (below_size (below_alloc (below_alloc (Below.refl _ _) _) _)) hb); clear hb) | (go_at_call 10; (with_reducible refine (op_Right.calls o 0 0 true _ HR.out).mono ?_); rintro e w2 ⟨rfl, hb⟩; replace T := Aside0.mk (T.out.behind hb); obtain ⟨c0, c1, c2, d0, d1, d2, f0, f1, f2, e1, e2, sz⟩ := T.out; replace hB := Aside0.mk (below_step hB.out hb); clear hb))
  refine bodyPost_ret (v := .tuple #[.agg #[.int .i64 o, .int .i64 0, .int .i64 0], .int .i64 (wrap64 (a + 1)), .int .i64 0]) ?_ rfl ⟨rfl, ?_⟩
  · simp [results, Try.results19, go_sem, c0, c1, c2]
  · exact below_set (below_set (below_set (by first | exact hB.out | exact pw_below_drewN hB.out _) (Nat.le_refl _)) (Nat.le_refl _)) (Nat.le_refl _)
set_option maxHeartbeats 2000000 in
theorem dec_0_false (s : ByteArray) (a o : Int) (w : World) (h0 : 0 ≤ a) (h1 : a < (s.size : Int)) (hbt : ∀ h : a.toNat < s.size, ((s[a.toNat]'h).toNat : Int) = o) (ho0 : 0 ≤ o) (ho1 : o ≤ 255) (ka : Int) (hA : op_Args.f o = some ka) (hk : ka ≤ 0) (hR : op_Right.f o 0 0 = some false) :
    Calls Try.prog 19 #[.string s, .int .i64 a] w fun e w' => e = .returned (.tuple #[.agg #[.int .i64 0, .int .i64 0, .int .i64 0], .int .i64 0, .int .i64 6]) ∧ Below w.heap.size w w' := by
  have hz := zeroInstr
  have i0 := ptrAt0
  have i1 := ptrAt1
  have HA := Aside0.mk hA
  clear hA
  have hd : decide (ka ≤ 0) = true := decide_eq_true hk
  have HR := Aside0.mk hR
  clear hR
  go_enter Try.func19, Try.ntmps19
  go_wp2_with (fail)
  refine wp_loop_rounds 3 ?_
  rw [rounds_succ]
  go_wp2_with (first | (go_at_call 16; refine (op_Args.calls o ka _ HA.out).mono ?_; rintro e w1 ⟨rfl, hb⟩; have T := Aside0.mk ((Two.start w 0 0 0 o 0 0 23).behind hb); obtain ⟨c0, c1, c2, d0, d1, d2, f0, f1, f2, e1, e2, sz⟩ := T.out; have hB := Aside0.mk (below_then (below_alloc (below_alloc (Below.refl _ _) _) _) (below_size (below_alloc (below_alloc (Below.refl _ _) _) _)) hb); clear hb) | (go_at_call 10; (with_reducible refine (op_Right.calls o 0 0 false _ HR.out).mono ?_); rintro e w2 ⟨rfl, hb⟩; replace T := Aside0.mk (T.out.behind hb); obtain ⟨c0, c1, c2, d0, d1, d2, f0, f1, f2, e1, e2, sz⟩ := T.out; replace hB := Aside0.mk (below_step hB.out hb); clear hb))
  refine bodyPost_ret (v := .tuple #[.agg #[.int .i64 0, .int .i64 0, .int .i64 0], .int .i64 0, .int .i64 6]) ?_ rfl ⟨rfl, ?_⟩
  · simp [results, Try.results19, go_sem, c0, c1, c2]
  · exact below_set (below_set (below_set (by first | exact hB.out | exact pw_below_drewN hB.out _) (Nat.le_refl _)) (Nat.le_refl _)) (Nat.le_refl _)
set_option maxHeartbeats 2000000 in
theorem dec_err1 (s : ByteArray) (a o : Int) (w : World) (h0 : 0 ≤ a) (h1 : a < (s.size : Int)) (hbt : ∀ h : a.toNat < s.size, ((s[a.toNat]'h).toNat : Int) = o) (ho0 : 0 ≤ o) (ho1 : o ≤ 255) (ka : Int) (hA : op_Args.f o = some ka) (hk0 : ¬ ka ≤ 0) (k : Nat) (n1 x1 e1' : Int) (hG1 : code_Get.f k s (wrap64 (a + 1)) = some (n1, x1, e1')) (he : (e1' != 0) = true) :
    Calls Try.prog 19 #[.string s, .int .i64 a] w fun e w' => e = .returned (.tuple #[.agg #[.int .i64 0, .int .i64 0, .int .i64 0], .int .i64 0, .int .i64 e1']) ∧ Below w.heap.size w w' := by
  have hz := zeroInstr
  have i0 := ptrAt0
  have i1 := ptrAt1
  have HA := Aside0.mk hA
  clear hA
  have hd : decide (ka ≤ 0) = false := decide_eq_false hk0
  have HG1 := Aside0.mk hG1
  clear hG1
  go_enter Try.func19, Try.ntmps19
  go_wp2_with (fail)
  refine wp_loop_rounds 3 ?_
  rw [rounds_succ]
  go_wp2_with (first | (go_at_call 16; refine (op_Args.calls o ka _ HA.out).mono ?_; rintro e w1 ⟨rfl, hb⟩; have T := Aside0.mk ((Two.start w 0 0 0 o 0 0 23).behind hb); obtain ⟨c0, c1, c2, d0, d1, d2, f0, f1, f2, e1, e2, sz⟩ := T.out; have hB := Aside0.mk (below_then (below_alloc (below_alloc (Below.refl _ _) _) _) (below_size (below_alloc (below_alloc (Below.refl _ _) _) _)) hb); clear hb) | (go_at_call 31; (with_reducible refine (code_Get.calls k s (wrap64 (a + 1)) n1 x1 e1' _ HG1.out).mono ?_); rintro e w' ⟨rfl, ⟨nd, rfl⟩⟩))
  refine bodyPost_ret (v := .tuple #[.agg #[.int .i64 0, .int .i64 0, .int .i64 0], .int .i64 0, .int .i64 e1']) ?_ rfl ⟨rfl, ?_⟩
  · simp [results, Try.results19, go_sem, c0, c1, c2]
  · exact below_set (below_set (below_set (by first | exact hB.out | exact pw_below_drewN hB.out _) (Nat.le_refl _)) (Nat.le_refl _)) (Nat.le_refl _)
set_option maxHeartbeats 2000000 in
theorem dec_1_true (s : ByteArray) (a o : Int) (w : World) (h0 : 0 ≤ a) (h1 : a < (s.size : Int)) (hbt : ∀ h : a.toNat < s.size, ((s[a.toNat]'h).toNat : Int) = o) (ho0 : 0 ≤ o) (ho1 : o ≤ 255) (ka : Int) (hA : op_Args.f o = some ka) (hk0 : ¬ ka ≤ 0) (hk : ka ≤ 1) (k : Nat) (n1 x1 e1' : Int) (hG1 : code_Get.f k s (wrap64 (a + 1)) = some (n1, x1, e1')) (he : (e1' != 0) = false) (hR : op_Right.f o n1 0 = some true) :
    Calls Try.prog 19 #[.string s, .int .i64 a] w fun e w' => e = .returned (.tuple #[.agg #[.int .i64 o, .int .i64 n1, .int .i64 0], .int .i64 x1, .int .i64 0]) ∧ Below w.heap.size w w' := by
  have hz := zeroInstr
  have i0 := ptrAt0
  have i1 := ptrAt1
  have HA := Aside0.mk hA
  clear hA
  have hd : decide (ka ≤ 0) = false := decide_eq_false hk0
  have hd1 : decide (ka ≤ 1) = true := decide_eq_true hk
  have HG1 := Aside0.mk hG1
  clear hG1
  have HR := Aside0.mk hR
  clear hR
  go_enter Try.func19, Try.ntmps19
  go_wp2_with (fail)
  refine wp_loop_rounds 3 ?_
  rw [rounds_succ]
  go_wp2_with (first | (go_at_call 16; refine (op_Args.calls o ka _ HA.out).mono ?_; rintro e w1 ⟨rfl, hb⟩; have T := Aside0.mk ((Two.start w 0 0 0 o 0 0 23).behind hb); obtain ⟨c0, c1, c2, d0, d1, d2, f0, f1, f2, e1, e2, sz⟩ := T.out; have hB := Aside0.mk (below_then (below_alloc (below_alloc (Below.refl _ _) _) _) (below_size (below_alloc (below_alloc (Below.refl _ _) _) _)) hb); clear hb) | (go_at_call 16; refine (op_Args.calls o ka _ HA.out).mono ?_; rintro e w3 ⟨rfl, hb⟩; replace T := Aside0.mk (((T.out.drewN nd).set1 n1).behind hb); obtain ⟨c0, c1, c2, d0, d1, d2, f0, f1, f2, e1, e2, sz⟩ := T.out; replace hB := Aside0.mk (below_step (below_set (pw_below_drewN hB.out nd) (Nat.le_succ _)) hb); clear hb) | (go_at_call 31; (with_reducible refine (code_Get.calls k s (wrap64 (a + 1)) n1 x1 e1' _ HG1.out).mono ?_); rintro e w' ⟨rfl, ⟨nd, rfl⟩⟩) | (go_at_call 10; (with_reducible refine (op_Right.calls o n1 0 true _ HR.out).mono ?_); rintro e w2 ⟨rfl, hb⟩; replace T := Aside0.mk (T.out.behind hb); obtain ⟨c0, c1, c2, d0, d1, d2, f0, f1, f2, e1, e2, sz⟩ := T.out; replace hB := Aside0.mk (below_step hB.out hb); clear hb))
  rw [rounds_succ]
  go_wp2_with (first | (go_at_call 16; refine (op_Args.calls o ka _ HA.out).mono ?_; rintro e w1 ⟨rfl, hb⟩; have T := Aside0.mk ((Two.start w 0 0 0 o 0 0 23).behind hb); obtain ⟨c0, c1, c2, d0, d1, d2, f0, f1, f2, e1, e2, sz⟩ := T.out; have hB := Aside0.mk (below_then (below_alloc (below_alloc (Below.refl _ _) _) _) (below_size (below_alloc (below_alloc (Below.refl _ _) _) _)) hb); clear hb) | (go_at_call 16; refine (op_Args.calls o ka _ HA.out).mono ?_; rintro e w3 ⟨rfl, hb⟩; replace T := Aside0.mk (((T.out.drewN nd).set1 n1).behind hb); obtain ⟨c0, c1, c2, d0, d1, d2, f0, f1, f2, e1, e2, sz⟩ := T.out; replace hB := Aside0.mk (below_step (below_set (pw_below_drewN hB.out nd) (Nat.le_succ _)) hb); clear hb) | (go_at_call 31; (with_reducible refine (code_Get.calls k s (wrap64 (a + 1)) n1 x1 e1' _ HG1.out).mono ?_); rintro e w' ⟨rfl, ⟨nd, rfl⟩⟩) | (go_at_call 10; (with_reducible refine (op_Right.calls o n1 0 true _ HR.out).mono ?_); rintro e w2 ⟨rfl, hb⟩; replace T := Aside0.mk (T.out.behind hb); obtain ⟨c0, c1, c2, d0, d1, d2, f0, f1, f2, e1, e2, sz⟩ := T.out; replace hB := Aside0.mk (below_step hB.out hb); clear hb))
  refine bodyPost_ret (v := .tuple #[.agg #[.int .i64 o, .int .i64 n1, .int .i64 0], .int .i64 x1, .int .i64 0]) ?_ rfl ⟨rfl, ?_⟩
  · simp [results, Try.results19, go_sem, c0, c1, c2]
  · exact below_set (below_set (below_set (by first | exact hB.out | exact pw_below_drewN hB.out _) (Nat.le_refl _)) (Nat.le_refl _)) (Nat.le_refl _)
set_option maxHeartbeats 2000000 in
theorem dec_1_false (s : ByteArray) (a o : Int) (w : World) (h0 : 0 ≤ a) (h1 : a < (s.size : Int)) (hbt : ∀ h : a.toNat < s.size, ((s[a.toNat]'h).toNat : Int) = o) (ho0 : 0 ≤ o) (ho1 : o ≤ 255) (ka : Int) (hA : op_Args.f o = some ka) (hk0 : ¬ ka ≤ 0) (hk : ka ≤ 1) (k : Nat) (n1 x1 e1' : Int) (hG1 : code_Get.f k s (wrap64 (a + 1)) = some (n1, x1, e1')) (he : (e1' != 0) = false) (hR : op_Right.f o n1 0 = some false) :
    Calls Try.prog 19 #[.string s, .int .i64 a] w fun e w' => e = .returned (.tuple #[.agg #[.int .i64 0, .int .i64 0, .int .i64 0], .int .i64 0, .int .i64 6]) ∧ Below w.heap.size w w' := by
  have hz := zeroInstr
  have i0 := ptrAt0
  have i1 := ptrAt1
  have HA := Aside0.mk hA
  clear hA
  have hd : decide (ka ≤ 0) = false := decide_eq_false hk0
  have hd1 : decide (ka ≤ 1) = true := decide_eq_true hk
  have HG1 := Aside0.mk hG1
  clear hG1
  have HR := Aside0.mk hR
  clear hR
  go_enter Try.func19, Try.ntmps19
  go_wp2_with (fail)
  refine wp_loop_rounds 3 ?_
  rw [rounds_succ]
  go_wp2_with (first | (go_at_call 16; refine (op_Args.calls o ka _ HA.out).mono ?_; rintro e w1 ⟨rfl, hb⟩; have T := Aside0.mk ((Two.start w 0 0 0 o 0 0 23).behind hb); obtain ⟨c0, c1, c2, d0, d1, d2, f0, f1, f2, e1, e2, sz⟩ := T.out; have hB := Aside0.mk (below_then (below_alloc (below_alloc (Below.refl _ _) _) _) (below_size (below_alloc (below_alloc (Below.refl _ _) _) _)) hb); clear hb) | (go_at_call 16; refine (op_Args.calls o ka _ HA.out).mono ?_; rintro e w3 ⟨rfl, hb⟩; replace T := Aside0.mk (((T.out.drewN nd).set1 n1).behind hb); obtain ⟨c0, c1, c2, d0, d1, d2, f0, f1, f2, e1, e2, sz⟩ := T.out; replace hB := Aside0.mk (below_step (below_set (pw_below_drewN hB.out nd) (Nat.le_succ _)) hb); clear hb) | (go_at_call 31; (with_reducible refine (code_Get.calls k s (wrap64 (a + 1)) n1 x1 e1' _ HG1.out).mono ?_); rintro e w' ⟨rfl, ⟨nd, rfl⟩⟩) | (go_at_call 10; (with_reducible refine (op_Right.calls o n1 0 false _ HR.out).mono ?_); rintro e w2 ⟨rfl, hb⟩; replace T := Aside0.mk (T.out.behind hb); obtain ⟨c0, c1, c2, d0, d1, d2, f0, f1, f2, e1, e2, sz⟩ := T.out; replace hB := Aside0.mk (below_step hB.out hb); clear hb))
  rw [rounds_succ]
  go_wp2_with (first | (go_at_call 16; refine (op_Args.calls o ka _ HA.out).mono ?_; rintro e w1 ⟨rfl, hb⟩; have T := Aside0.mk ((Two.start w 0 0 0 o 0 0 23).behind hb); obtain ⟨c0, c1, c2, d0, d1, d2, f0, f1, f2, e1, e2, sz⟩ := T.out; have hB := Aside0.mk (below_then (below_alloc (below_alloc (Below.refl _ _) _) _) (below_size (below_alloc (below_alloc (Below.refl _ _) _) _)) hb); clear hb) | (go_at_call 16; refine (op_Args.calls o ka _ HA.out).mono ?_; rintro e w3 ⟨rfl, hb⟩; replace T := Aside0.mk (((T.out.drewN nd).set1 n1).behind hb); obtain ⟨c0, c1, c2, d0, d1, d2, f0, f1, f2, e1, e2, sz⟩ := T.out; replace hB := Aside0.mk (below_step (below_set (pw_below_drewN hB.out nd) (Nat.le_succ _)) hb); clear hb) | (go_at_call 31; (with_reducible refine (code_Get.calls k s (wrap64 (a + 1)) n1 x1 e1' _ HG1.out).mono ?_); rintro e w' ⟨rfl, ⟨nd, rfl⟩⟩) | (go_at_call 10; (with_reducible refine (op_Right.calls o n1 0 false _ HR.out).mono ?_); rintro e w2 ⟨rfl, hb⟩; replace T := Aside0.mk (T.out.behind hb); obtain ⟨c0, c1, c2, d0, d1, d2, f0, f1, f2, e1, e2, sz⟩ := T.out; replace hB := Aside0.mk (below_step hB.out hb); clear hb))
  refine bodyPost_ret (v := .tuple #[.agg #[.int .i64 0, .int .i64 0, .int .i64 0], .int .i64 0, .int .i64 6]) ?_ rfl ⟨rfl, ?_⟩
  · simp [results, Try.results19, go_sem, c0, c1, c2]
  · exact below_set (below_set (below_set (by first | exact hB.out | exact pw_below_drewN hB.out _) (Nat.le_refl _)) (Nat.le_refl _)) (Nat.le_refl _)
set_option maxHeartbeats 2000000 in
theorem dec_err2 (s : ByteArray) (a o : Int) (w : World) (h0 : 0 ≤ a) (h1 : a < (s.size : Int)) (hbt : ∀ h : a.toNat < s.size, ((s[a.toNat]'h).toNat : Int) = o) (ho0 : 0 ≤ o) (ho1 : o ≤ 255) (ka : Int) (hA : op_Args.f o = some ka) (hk0 : ¬ ka ≤ 0) (hk : ¬ ka ≤ 1) (k : Nat) (n1 x1 e1' : Int) (hG1 : code_Get.f k s (wrap64 (a + 1)) = some (n1, x1, e1')) (he : (e1' != 0) = false) (n2 x2 e2' : Int) (hG2 : code_Get.f k s x1 = some (n2, x2, e2')) (he2 : (e2' != 0) = true) :
    Calls Try.prog 19 #[.string s, .int .i64 a] w fun e w' => e = .returned (.tuple #[.agg #[.int .i64 0, .int .i64 0, .int .i64 0], .int .i64 0, .int .i64 e2']) ∧ Below w.heap.size w w' := by
  have hz := zeroInstr
  have i0 := ptrAt0
  have i1 := ptrAt1
  have HA := Aside0.mk hA
  clear hA
  have hd : decide (ka ≤ 0) = false := decide_eq_false hk0
  have hd1 : decide (ka ≤ 1) = false := decide_eq_false hk
  have HG1 := Aside0.mk hG1
  clear hG1
  have HG2 := Aside0.mk hG2
  clear hG2
  go_enter Try.func19, Try.ntmps19
  go_wp2_with (fail)
  refine wp_loop_rounds 3 ?_
  rw [rounds_succ]
  go_wp2_with (first | (go_at_call 16; refine (op_Args.calls o ka _ HA.out).mono ?_; rintro e w1 ⟨rfl, hb⟩; have T := Aside0.mk ((Two.start w 0 0 0 o 0 0 23).behind hb); obtain ⟨c0, c1, c2, d0, d1, d2, f0, f1, f2, e1, e2, sz⟩ := T.out; have hB := Aside0.mk (below_then (below_alloc (below_alloc (Below.refl _ _) _) _) (below_size (below_alloc (below_alloc (Below.refl _ _) _) _)) hb); clear hb) | (go_at_call 16; refine (op_Args.calls o ka _ HA.out).mono ?_; rintro e w3 ⟨rfl, hb⟩; replace T := Aside0.mk (((T.out.drewN nd).set1 n1).behind hb); obtain ⟨c0, c1, c2, d0, d1, d2, f0, f1, f2, e1, e2, sz⟩ := T.out; replace hB := Aside0.mk (below_step (below_set (pw_below_drewN hB.out nd) (Nat.le_succ _)) hb); clear hb) | (go_at_call 31; (with_reducible refine (code_Get.calls k s (wrap64 (a + 1)) n1 x1 e1' _ HG1.out).mono ?_); rintro e w' ⟨rfl, ⟨nd, rfl⟩⟩) | (go_at_call 31; (with_reducible refine (code_Get.calls k s x1 n2 x2 e2' _ HG2.out).mono ?_); rintro e w' ⟨rfl, ⟨nd2, rfl⟩⟩))
  rw [rounds_succ]
  go_wp2_with (first | (go_at_call 16; refine (op_Args.calls o ka _ HA.out).mono ?_; rintro e w1 ⟨rfl, hb⟩; have T := Aside0.mk ((Two.start w 0 0 0 o 0 0 23).behind hb); obtain ⟨c0, c1, c2, d0, d1, d2, f0, f1, f2, e1, e2, sz⟩ := T.out; have hB := Aside0.mk (below_then (below_alloc (below_alloc (Below.refl _ _) _) _) (below_size (below_alloc (below_alloc (Below.refl _ _) _) _)) hb); clear hb) | (go_at_call 16; refine (op_Args.calls o ka _ HA.out).mono ?_; rintro e w3 ⟨rfl, hb⟩; replace T := Aside0.mk (((T.out.drewN nd).set1 n1).behind hb); obtain ⟨c0, c1, c2, d0, d1, d2, f0, f1, f2, e1, e2, sz⟩ := T.out; replace hB := Aside0.mk (below_step (below_set (pw_below_drewN hB.out nd) (Nat.le_succ _)) hb); clear hb) | (go_at_call 31; (with_reducible refine (code_Get.calls k s (wrap64 (a + 1)) n1 x1 e1' _ HG1.out).mono ?_); rintro e w' ⟨rfl, ⟨nd, rfl⟩⟩) | (go_at_call 31; (with_reducible refine (code_Get.calls k s x1 n2 x2 e2' _ HG2.out).mono ?_); rintro e w' ⟨rfl, ⟨nd2, rfl⟩⟩))
  refine bodyPost_ret (v := .tuple #[.agg #[.int .i64 0, .int .i64 0, .int .i64 0], .int .i64 0, .int .i64 e2']) ?_ rfl ⟨rfl, ?_⟩
  · simp [results, Try.results19, go_sem, c0, c1, c2]
  · exact below_set (below_set (below_set (by first | exact hB.out | exact pw_below_drewN hB.out _) (Nat.le_refl _)) (Nat.le_refl _)) (Nat.le_refl _)
set_option maxHeartbeats 2000000 in
theorem dec_2_true (s : ByteArray) (a o : Int) (w : World) (h0 : 0 ≤ a) (h1 : a < (s.size : Int)) (hbt : ∀ h : a.toNat < s.size, ((s[a.toNat]'h).toNat : Int) = o) (ho0 : 0 ≤ o) (ho1 : o ≤ 255) (ka : Int) (hA : op_Args.f o = some ka) (hk0 : ¬ ka ≤ 0) (hk : ¬ ka ≤ 1) (k : Nat) (n1 x1 e1' : Int) (hG1 : code_Get.f k s (wrap64 (a + 1)) = some (n1, x1, e1')) (he : (e1' != 0) = false) (n2 x2 e2' : Int) (hG2 : code_Get.f k s x1 = some (n2, x2, e2')) (he2 : (e2' != 0) = false) (hR : op_Right.f o n1 n2 = some true) :
    Calls Try.prog 19 #[.string s, .int .i64 a] w fun e w' => e = .returned (.tuple #[.agg #[.int .i64 o, .int .i64 n1, .int .i64 n2], .int .i64 x2, .int .i64 0]) ∧ Below w.heap.size w w' := by
  have hz := zeroInstr
  have i0 := ptrAt0
  have i1 := ptrAt1
  have HA := Aside0.mk hA
  clear hA
  have hd : decide (ka ≤ 0) = false := decide_eq_false hk0
  have hd1 : decide (ka ≤ 1) = false := decide_eq_false hk
  have HG1 := Aside0.mk hG1
  clear hG1
  have HG2 := Aside0.mk hG2
  clear hG2
  have HR := Aside0.mk hR
  clear hR
  go_enter Try.func19, Try.ntmps19
  go_wp2_with (fail)
  refine wp_loop_rounds 3 ?_
  rw [rounds_succ]
  go_wp2_with (first | (go_at_call 16; refine (op_Args.calls o ka _ HA.out).mono ?_; rintro e w1 ⟨rfl, hb⟩; have T := Aside0.mk ((Two.start w 0 0 0 o 0 0 23).behind hb); obtain ⟨c0, c1, c2, d0, d1, d2, f0, f1, f2, e1, e2, sz⟩ := T.out; have hB := Aside0.mk (below_then (below_alloc (below_alloc (Below.refl _ _) _) _) (below_size (below_alloc (below_alloc (Below.refl _ _) _) _)) hb); clear hb) | (go_at_call 16; refine (op_Args.calls o ka _ HA.out).mono ?_; rintro e w3 ⟨rfl, hb⟩; replace T := Aside0.mk (((T.out.drewN nd).set1 n1).behind hb); obtain ⟨c0, c1, c2, d0, d1, d2, f0, f1, f2, e1, e2, sz⟩ := T.out; replace hB := Aside0.mk (below_step (below_set (pw_below_drewN hB.out nd) (Nat.le_succ _)) hb); clear hb) | (go_at_call 31; (with_reducible refine (code_Get.calls k s (wrap64 (a + 1)) n1 x1 e1' _ HG1.out).mono ?_); rintro e w' ⟨rfl, ⟨nd, rfl⟩⟩) | (go_at_call 31; (with_reducible refine (code_Get.calls k s x1 n2 x2 e2' _ HG2.out).mono ?_); rintro e w' ⟨rfl, ⟨nd2, rfl⟩⟩) | (go_at_call 10; (with_reducible refine (op_Right.calls o n1 n2 true _ HR.out).mono ?_); rintro e w2 ⟨rfl, hb⟩; replace T := Aside0.mk (((T.out.drewN nd2).set2 n2).behind hb); obtain ⟨c0, c1, c2, d0, d1, d2, f0, f1, f2, e1, e2, sz⟩ := T.out; replace hB := Aside0.mk (below_step (below_set (pw_below_drewN hB.out nd2) (Nat.le_succ _)) hb); clear hb))
  rw [rounds_succ]
  go_wp2_with (first | (go_at_call 16; refine (op_Args.calls o ka _ HA.out).mono ?_; rintro e w1 ⟨rfl, hb⟩; have T := Aside0.mk ((Two.start w 0 0 0 o 0 0 23).behind hb); obtain ⟨c0, c1, c2, d0, d1, d2, f0, f1, f2, e1, e2, sz⟩ := T.out; have hB := Aside0.mk (below_then (below_alloc (below_alloc (Below.refl _ _) _) _) (below_size (below_alloc (below_alloc (Below.refl _ _) _) _)) hb); clear hb) | (go_at_call 16; refine (op_Args.calls o ka _ HA.out).mono ?_; rintro e w3 ⟨rfl, hb⟩; replace T := Aside0.mk (((T.out.drewN nd).set1 n1).behind hb); obtain ⟨c0, c1, c2, d0, d1, d2, f0, f1, f2, e1, e2, sz⟩ := T.out; replace hB := Aside0.mk (below_step (below_set (pw_below_drewN hB.out nd) (Nat.le_succ _)) hb); clear hb) | (go_at_call 31; (with_reducible refine (code_Get.calls k s (wrap64 (a + 1)) n1 x1 e1' _ HG1.out).mono ?_); rintro e w' ⟨rfl, ⟨nd, rfl⟩⟩) | (go_at_call 31; (with_reducible refine (code_Get.calls k s x1 n2 x2 e2' _ HG2.out).mono ?_); rintro e w' ⟨rfl, ⟨nd2, rfl⟩⟩) | (go_at_call 10; (with_reducible refine (op_Right.calls o n1 n2 true _ HR.out).mono ?_); rintro e w2 ⟨rfl, hb⟩; replace T := Aside0.mk (((T.out.drewN nd2).set2 n2).behind hb); obtain ⟨c0, c1, c2, d0, d1, d2, f0, f1, f2, e1, e2, sz⟩ := T.out; replace hB := Aside0.mk (below_step (below_set (pw_below_drewN hB.out nd2) (Nat.le_succ _)) hb); clear hb))
  rw [rounds_succ]
  go_wp2_with (first | (go_at_call 16; refine (op_Args.calls o ka _ HA.out).mono ?_; rintro e w1 ⟨rfl, hb⟩; have T := Aside0.mk ((Two.start w 0 0 0 o 0 0 23).behind hb); obtain ⟨c0, c1, c2, d0, d1, d2, f0, f1, f2, e1, e2, sz⟩ := T.out; have hB := Aside0.mk (below_then (below_alloc (below_alloc (Below.refl _ _) _) _) (below_size (below_alloc (below_alloc (Below.refl _ _) _) _)) hb); clear hb) | (go_at_call 16; refine (op_Args.calls o ka _ HA.out).mono ?_; rintro e w3 ⟨rfl, hb⟩; replace T := Aside0.mk (((T.out.drewN nd).set1 n1).behind hb); obtain ⟨c0, c1, c2, d0, d1, d2, f0, f1, f2, e1, e2, sz⟩ := T.out; replace hB := Aside0.mk (below_step (below_set (pw_below_drewN hB.out nd) (Nat.le_succ _)) hb); clear hb) | (go_at_call 31; (with_reducible refine (code_Get.calls k s (wrap64 (a + 1)) n1 x1 e1' _ HG1.out).mono ?_); rintro e w' ⟨rfl, ⟨nd, rfl⟩⟩) | (go_at_call 31; (with_reducible refine (code_Get.calls k s x1 n2 x2 e2' _ HG2.out).mono ?_); rintro e w' ⟨rfl, ⟨nd2, rfl⟩⟩) | (go_at_call 10; (with_reducible refine (op_Right.calls o n1 n2 true _ HR.out).mono ?_); rintro e w2 ⟨rfl, hb⟩; replace T := Aside0.mk (((T.out.drewN nd2).set2 n2).behind hb); obtain ⟨c0, c1, c2, d0, d1, d2, f0, f1, f2, e1, e2, sz⟩ := T.out; replace hB := Aside0.mk (below_step (below_set (pw_below_drewN hB.out nd2) (Nat.le_succ _)) hb); clear hb))
  refine bodyPost_ret (v := .tuple #[.agg #[.int .i64 o, .int .i64 n1, .int .i64 n2], .int .i64 x2, .int .i64 0]) ?_ rfl ⟨rfl, ?_⟩
  · simp [results, Try.results19, go_sem, c0, c1, c2]
  · exact below_set (below_set (below_set (by first | exact hB.out | exact pw_below_drewN hB.out _) (Nat.le_refl _)) (Nat.le_refl _)) (Nat.le_refl _)
set_option maxHeartbeats 2000000 in
theorem dec_2_false (s : ByteArray) (a o : Int) (w : World) (h0 : 0 ≤ a) (h1 : a < (s.size : Int)) (hbt : ∀ h : a.toNat < s.size, ((s[a.toNat]'h).toNat : Int) = o) (ho0 : 0 ≤ o) (ho1 : o ≤ 255) (ka : Int) (hA : op_Args.f o = some ka) (hk0 : ¬ ka ≤ 0) (hk : ¬ ka ≤ 1) (k : Nat) (n1 x1 e1' : Int) (hG1 : code_Get.f k s (wrap64 (a + 1)) = some (n1, x1, e1')) (he : (e1' != 0) = false) (n2 x2 e2' : Int) (hG2 : code_Get.f k s x1 = some (n2, x2, e2')) (he2 : (e2' != 0) = false) (hR : op_Right.f o n1 n2 = some false) :
    Calls Try.prog 19 #[.string s, .int .i64 a] w fun e w' => e = .returned (.tuple #[.agg #[.int .i64 0, .int .i64 0, .int .i64 0], .int .i64 0, .int .i64 6]) ∧ Below w.heap.size w w' := by
  have hz := zeroInstr
  have i0 := ptrAt0
  have i1 := ptrAt1
  have HA := Aside0.mk hA
  clear hA
  have hd : decide (ka ≤ 0) = false := decide_eq_false hk0
  have hd1 : decide (ka ≤ 1) = false := decide_eq_false hk
  have HG1 := Aside0.mk hG1
  clear hG1
  have HG2 := Aside0.mk hG2
  clear hG2
  have HR := Aside0.mk hR
  clear hR
  go_enter Try.func19, Try.ntmps19
  go_wp2_with (fail)
  refine wp_loop_rounds 3 ?_
  rw [rounds_succ]
  go_wp2_with (first | (go_at_call 16; refine (op_Args.calls o ka _ HA.out).mono ?_; rintro e w1 ⟨rfl, hb⟩; have T := Aside0.mk ((Two.start w 0 0 0 o 0 0 23).behind hb); obtain ⟨c0, c1, c2, d0, d1, d2, f0, f1, f2, e1, e2, sz⟩ := T.out; have hB := Aside0.mk (below_then (below_alloc (below_alloc (Below.refl _ _) _) _) (below_size (below_alloc (below_alloc (Below.refl _ _) _) _)) hb); clear hb) | (go_at_call 16; refine (op_Args.calls o ka _ HA.out).mono ?_; rintro e w3 ⟨rfl, hb⟩; replace T := Aside0.mk (((T.out.drewN nd).set1 n1).behind hb); obtain ⟨c0, c1, c2, d0, d1, d2, f0, f1, f2, e1, e2, sz⟩ := T.out; replace hB := Aside0.mk (below_step (below_set (pw_below_drewN hB.out nd) (Nat.le_succ _)) hb); clear hb) | (go_at_call 31; (with_reducible refine (code_Get.calls k s (wrap64 (a + 1)) n1 x1 e1' _ HG1.out).mono ?_); rintro e w' ⟨rfl, ⟨nd, rfl⟩⟩) | (go_at_call 31; (with_reducible refine (code_Get.calls k s x1 n2 x2 e2' _ HG2.out).mono ?_); rintro e w' ⟨rfl, ⟨nd2, rfl⟩⟩) | (go_at_call 10; (with_reducible refine (op_Right.calls o n1 n2 false _ HR.out).mono ?_); rintro e w2 ⟨rfl, hb⟩; replace T := Aside0.mk (((T.out.drewN nd2).set2 n2).behind hb); obtain ⟨c0, c1, c2, d0, d1, d2, f0, f1, f2, e1, e2, sz⟩ := T.out; replace hB := Aside0.mk (below_step (below_set (pw_below_drewN hB.out nd2) (Nat.le_succ _)) hb); clear hb))
  rw [rounds_succ]
  go_wp2_with (first | (go_at_call 16; refine (op_Args.calls o ka _ HA.out).mono ?_; rintro e w1 ⟨rfl, hb⟩; have T := Aside0.mk ((Two.start w 0 0 0 o 0 0 23).behind hb); obtain ⟨c0, c1, c2, d0, d1, d2, f0, f1, f2, e1, e2, sz⟩ := T.out; have hB := Aside0.mk (below_then (below_alloc (below_alloc (Below.refl _ _) _) _) (below_size (below_alloc (below_alloc (Below.refl _ _) _) _)) hb); clear hb) | (go_at_call 16; refine (op_Args.calls o ka _ HA.out).mono ?_; rintro e w3 ⟨rfl, hb⟩; replace T := Aside0.mk (((T.out.drewN nd).set1 n1).behind hb); obtain ⟨c0, c1, c2, d0, d1, d2, f0, f1, f2, e1, e2, sz⟩ := T.out; replace hB := Aside0.mk (below_step (below_set (pw_below_drewN hB.out nd) (Nat.le_succ _)) hb); clear hb) | (go_at_call 31; (with_reducible refine (code_Get.calls k s (wrap64 (a + 1)) n1 x1 e1' _ HG1.out).mono ?_); rintro e w' ⟨rfl, ⟨nd, rfl⟩⟩) | (go_at_call 31; (with_reducible refine (code_Get.calls k s x1 n2 x2 e2' _ HG2.out).mono ?_); rintro e w' ⟨rfl, ⟨nd2, rfl⟩⟩) | (go_at_call 10; (with_reducible refine (op_Right.calls o n1 n2 false _ HR.out).mono ?_); rintro e w2 ⟨rfl, hb⟩; replace T := Aside0.mk (((T.out.drewN nd2).set2 n2).behind hb); obtain ⟨c0, c1, c2, d0, d1, d2, f0, f1, f2, e1, e2, sz⟩ := T.out; replace hB := Aside0.mk (below_step (below_set (pw_below_drewN hB.out nd2) (Nat.le_succ _)) hb); clear hb))
  rw [rounds_succ]
  go_wp2_with (first | (go_at_call 16; refine (op_Args.calls o ka _ HA.out).mono ?_; rintro e w1 ⟨rfl, hb⟩; have T := Aside0.mk ((Two.start w 0 0 0 o 0 0 23).behind hb); obtain ⟨c0, c1, c2, d0, d1, d2, f0, f1, f2, e1, e2, sz⟩ := T.out; have hB := Aside0.mk (below_then (below_alloc (below_alloc (Below.refl _ _) _) _) (below_size (below_alloc (below_alloc (Below.refl _ _) _) _)) hb); clear hb) | (go_at_call 16; refine (op_Args.calls o ka _ HA.out).mono ?_; rintro e w3 ⟨rfl, hb⟩; replace T := Aside0.mk (((T.out.drewN nd).set1 n1).behind hb); obtain ⟨c0, c1, c2, d0, d1, d2, f0, f1, f2, e1, e2, sz⟩ := T.out; replace hB := Aside0.mk (below_step (below_set (pw_below_drewN hB.out nd) (Nat.le_succ _)) hb); clear hb) | (go_at_call 31; (with_reducible refine (code_Get.calls k s (wrap64 (a + 1)) n1 x1 e1' _ HG1.out).mono ?_); rintro e w' ⟨rfl, ⟨nd, rfl⟩⟩) | (go_at_call 31; (with_reducible refine (code_Get.calls k s x1 n2 x2 e2' _ HG2.out).mono ?_); rintro e w' ⟨rfl, ⟨nd2, rfl⟩⟩) | (go_at_call 10; (with_reducible refine (op_Right.calls o n1 n2 false _ HR.out).mono ?_); rintro e w2 ⟨rfl, hb⟩; replace T := Aside0.mk (((T.out.drewN nd2).set2 n2).behind hb); obtain ⟨c0, c1, c2, d0, d1, d2, f0, f1, f2, e1, e2, sz⟩ := T.out; replace hB := Aside0.mk (below_step (below_set (pw_below_drewN hB.out nd2) (Nat.le_succ _)) hb); clear hb))
  refine bodyPost_ret (v := .tuple #[.agg #[.int .i64 0, .int .i64 0, .int .i64 0], .int .i64 0, .int .i64 6]) ?_ rfl ⟨rfl, ?_⟩
  · simp [results, Try.results19, go_sem, c0, c1, c2]
  · exact below_set (below_set (below_set (by first | exact hB.out | exact pw_below_drewN hB.out _) (Nat.le_refl _)) (Nat.le_refl _)) (Nat.le_refl _)

end Go.Proofs.Ytnfoebbdmekbiaa.P
