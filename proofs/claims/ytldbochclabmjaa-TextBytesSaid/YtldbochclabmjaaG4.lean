/- op.Encode: an instruction's bytes; for every instruction. No conditions. -/
import Derived.Test.YtldbochclabmjaaG3
import Derived.Test.YtldbochclabmjaaCx1
import Derived.LoopN
namespace Go.Proofs.Ytldbochclabmjaa.P
open Go.RowKit Go.Proofs.Ytldbochclabmjaa.C Go.Proofs.YtldbochclabmjaaW.PrintWords Go.Proofs.YtldbochclabmjaaW.PrintLast Go.Proofs.YtldbochclabmjaaW.PrintMore

theorem behind0 {w1 w2 : World} (hb : Below w1.heap.size w1 w2) {g j : Nat} {v : Value} (hg : g < w1.heap.size) (h : w1.cell? ⟨g, j, none⟩ = some v) : w2.cell? ⟨g, j, none⟩ = some v := (hb.cell (p := ⟨g, j, none⟩) hg).trans h
theorem pairAt0 (b c : Int) (w : World) : (Instr.index 41 (.agg #[.int .i64 b, .int .i64 c]) (.int .i64 0)).run Try.prog w = .ok (.int .i64 b) w := by kernel_rfl
theorem pairAt1 (b c : Int) (w : World) : (Instr.index 41 (.agg #[.int .i64 b, .int .i64 c]) (.int .i64 1)).run Try.prog w = .ok (.int .i64 c) w := by kernel_rfl
set_option maxHeartbeats 1000000 in
theorem enc_no (a b c : Int) (w : World) (hR : op_Right.f a b c = some false) :
    Calls Try.prog 33 #[.agg #[.int .i64 a, .int .i64 b, .int .i64 c]] w fun e w' => e = .returned (.string ⟨#[]⟩) ∧ Below w.heap.size w w' := by
  have HR := Aside0.mk hR
  clear hR
  go_enter Try.func33, Try.ntmps33
  go_wp2_with (go_at_call 21; refine (op_Right.calls a b c false _ HR.out).mono ?_; rintro e w1 ⟨rfl, hb⟩; obtain ⟨k0, k1, k2, hsz⟩ := box_kept hb; replace hb := Aside0.mk (below_box hb))
  go_ret
  exact ⟨rfl, hb.out⟩
set_option maxHeartbeats 2000000 in
theorem enc_0 (a b c : Int) (w : World) (hR : op_Right.f a b c = some true) (hA : op_Args.f a = some 0) :
    Calls Try.prog 33 #[.agg #[.int .i64 a, .int .i64 b, .int .i64 c]] w fun e w' => e = .returned (.string (strOfNums [a % 256])) ∧ Below w.heap.size w w' := by
  have HR := Aside0.mk hR
  have HA := Aside0.mk hA
  clear hR hA
  have i0 := pairAt0
  have i1 := pairAt1
  go_enter Try.func33, Try.ntmps33
  go_wp2_with (first
    | (go_at_call 21; refine (op_Right.calls a b c true _ HR.out).mono ?_; rintro e w1 ⟨rfl, hb⟩; obtain ⟨k0, k1, k2, hsz⟩ := box_kept hb; replace hb := Aside0.mk (below_box hb))
    | ((with_reducible refine gate_dst (N := 12) rfl ?_); refine Kd.R_lit (Kd.int .u8) _ 5 ?hg (N := 12) ?hd (xs := ([a % 256] : List Int)) (inner := [.int .u8 (a % 256)]) (ok := fun _ => True) (okp := fun _ => True) ?hr ?hp (fun _ hk => hk) trivial (Below.refl _ _) (Nat.le_refl _) (by simp) ?_; (case hd => rfl); (case hg => rfl); (case hr => first | (go_simp; done) | (go_simp; rfl)); (case hp => exact (Reps.one (show Kd.M (Kd.int .u8) _ _ _ (a % 256) [.int .u8 (a % 256)] from rfl) (Reps.none _ _))); intro v2 w2 ho2 hb2 hg_ hnew_; clear hg_ hnew_; replace k0 := behind0 hb2 hsz k0; replace k1 := behind0 hb2 hsz k1; replace k2 := behind0 hb2 hsz k2; replace hsz := Nat.lt_of_lt_of_le hsz hb2.size; replace hb := Aside0.mk (below_step hb.out hb2); have hcv := own_string (P := Try.prog) Try.underlying43 Try.underlying5 Try.underlying9 (Kd.own_of_R ho2); clear ho2 hb2))
  refine wp_loop_rounds 3 ?_
  rw [rounds_succ]
  go_wp2_with (first | (go_at_call 23; refine (op_Args.calls a 0 _ HA.out).mono ?_; rintro e w3 ⟨rfl, hb2⟩; replace k0 := behind0 hb2 hsz k0; replace k1 := behind0 hb2 hsz k1; replace k2 := behind0 hb2 hsz k2; replace hsz := Nat.lt_of_lt_of_le hsz hb2.size; replace hb := Aside0.mk (below_step hb.out hb2); clear hb2))
  rw [rounds_succ]
  go_wp2_with (first | (go_at_call 23; refine (op_Args.calls a 0 _ HA.out).mono ?_; rintro e w3 ⟨rfl, hb2⟩; replace k0 := behind0 hb2 hsz k0; replace k1 := behind0 hb2 hsz k1; replace k2 := behind0 hb2 hsz k2; replace hsz := Nat.lt_of_lt_of_le hsz hb2.size; replace hb := Aside0.mk (below_step hb.out hb2); clear hb2))
  rw [rounds_succ]
  go_wp2_with (fail)
  go_ret
  exact ⟨rfl, hb.out⟩
set_option maxHeartbeats 2000000 in
theorem enc_1 (k : Nat) (a b c : Int) (w : World) (hR : op_Right.f a b c = some true) (hA : op_Args.f a = some 1) (t1 : ByteArray) (P1 : Aside0 (code_Put.f k b = some t1)) (hs1 : (strOfNums [a % 256]).size + t1.size ≤ 9223372036854775807) :
    Calls Try.prog 33 #[.agg #[.int .i64 a, .int .i64 b, .int .i64 c]] w fun e w' => e = .returned (.string (strOfNums [a % 256] ++ t1)) ∧ Below w.heap.size w w' := by
  have HR := Aside0.mk hR
  have HA := Aside0.mk hA
  clear hR hA
  have i0 := pairAt0
  have i1 := pairAt1
  have ds1 := decide_eq_true hs1
  go_enter Try.func33, Try.ntmps33
  go_wp2_with (first
    | (go_at_call 21; refine (op_Right.calls a b c true _ HR.out).mono ?_; rintro e w1 ⟨rfl, hb⟩; obtain ⟨k0, k1, k2, hsz⟩ := box_kept hb; replace hb := Aside0.mk (below_box hb))
    | ((with_reducible refine gate_dst (N := 12) rfl ?_); refine Kd.R_lit (Kd.int .u8) _ 5 ?hg (N := 12) ?hd (xs := ([a % 256] : List Int)) (inner := [.int .u8 (a % 256)]) (ok := fun _ => True) (okp := fun _ => True) ?hr ?hp (fun _ hk => hk) trivial (Below.refl _ _) (Nat.le_refl _) (by simp) ?_; (case hd => rfl); (case hg => rfl); (case hr => first | (go_simp; done) | (go_simp; rfl)); (case hp => exact (Reps.one (show Kd.M (Kd.int .u8) _ _ _ (a % 256) [.int .u8 (a % 256)] from rfl) (Reps.none _ _))); intro v2 w2 ho2 hb2 hg_ hnew_; clear hg_ hnew_; replace k0 := behind0 hb2 hsz k0; replace k1 := behind0 hb2 hsz k1; replace k2 := behind0 hb2 hsz k2; replace hsz := Nat.lt_of_lt_of_le hsz hb2.size; replace hb := Aside0.mk (below_step hb.out hb2); have hcv := own_string (P := Try.prog) Try.underlying43 Try.underlying5 Try.underlying9 (Kd.own_of_R ho2); clear ho2 hb2))
  refine wp_loop_rounds 3 ?_
  rw [rounds_succ]
  go_wp2_with (first | (go_at_call 23; refine (op_Args.calls a 1 _ HA.out).mono ?_; rintro e w3 ⟨rfl, hb2⟩; replace k0 := behind0 hb2 hsz k0; replace k1 := behind0 hb2 hsz k1; replace k2 := behind0 hb2 hsz k2; replace hsz := Nat.lt_of_lt_of_le hsz hb2.size; replace hb := Aside0.mk (below_step hb.out hb2); clear hb2) | (go_at_call 39; (with_reducible refine (code_Put.calls k b t1 _ P1.out).mono ?_); rintro e w3 ⟨rfl, hb2⟩; replace k0 := behind0 hb2 hsz k0; replace k1 := behind0 hb2 hsz k1; replace k2 := behind0 hb2 hsz k2; replace hsz := Nat.lt_of_lt_of_le hsz hb2.size; replace hb := Aside0.mk (below_step hb.out hb2); clear hb2))
  rw [rounds_succ]
  go_wp2_with (first | (go_at_call 23; refine (op_Args.calls a 1 _ HA.out).mono ?_; rintro e w3 ⟨rfl, hb2⟩; replace k0 := behind0 hb2 hsz k0; replace k1 := behind0 hb2 hsz k1; replace k2 := behind0 hb2 hsz k2; replace hsz := Nat.lt_of_lt_of_le hsz hb2.size; replace hb := Aside0.mk (below_step hb.out hb2); clear hb2) | (go_at_call 39; (with_reducible refine (code_Put.calls k b t1 _ P1.out).mono ?_); rintro e w3 ⟨rfl, hb2⟩; replace k0 := behind0 hb2 hsz k0; replace k1 := behind0 hb2 hsz k1; replace k2 := behind0 hb2 hsz k2; replace hsz := Nat.lt_of_lt_of_le hsz hb2.size; replace hb := Aside0.mk (below_step hb.out hb2); clear hb2))
  rw [rounds_succ]
  go_wp2_with (fail)
  go_ret
  exact ⟨rfl, hb.out⟩
set_option maxHeartbeats 2000000 in
theorem enc_2 (k : Nat) (a b c : Int) (w : World) (hR : op_Right.f a b c = some true) (hA : op_Args.f a = some 2) (t1 : ByteArray) (P1 : Aside0 (code_Put.f k b = some t1)) (hs1 : (strOfNums [a % 256]).size + t1.size ≤ 9223372036854775807) (t2 : ByteArray) (P2 : Aside0 (code_Put.f k c = some t2)) (hs2 : (strOfNums [a % 256] ++ t1).size + t2.size ≤ 9223372036854775807) :
    Calls Try.prog 33 #[.agg #[.int .i64 a, .int .i64 b, .int .i64 c]] w fun e w' => e = .returned (.string (strOfNums [a % 256] ++ t1 ++ t2)) ∧ Below w.heap.size w w' := by
  have HR := Aside0.mk hR
  have HA := Aside0.mk hA
  clear hR hA
  have i0 := pairAt0
  have i1 := pairAt1
  have ds1 := decide_eq_true hs1
  have ds2 := decide_eq_true hs2
  go_enter Try.func33, Try.ntmps33
  go_wp2_with (first
    | (go_at_call 21; refine (op_Right.calls a b c true _ HR.out).mono ?_; rintro e w1 ⟨rfl, hb⟩; obtain ⟨k0, k1, k2, hsz⟩ := box_kept hb; replace hb := Aside0.mk (below_box hb))
    | ((with_reducible refine gate_dst (N := 12) rfl ?_); refine Kd.R_lit (Kd.int .u8) _ 5 ?hg (N := 12) ?hd (xs := ([a % 256] : List Int)) (inner := [.int .u8 (a % 256)]) (ok := fun _ => True) (okp := fun _ => True) ?hr ?hp (fun _ hk => hk) trivial (Below.refl _ _) (Nat.le_refl _) (by simp) ?_; (case hd => rfl); (case hg => rfl); (case hr => first | (go_simp; done) | (go_simp; rfl)); (case hp => exact (Reps.one (show Kd.M (Kd.int .u8) _ _ _ (a % 256) [.int .u8 (a % 256)] from rfl) (Reps.none _ _))); intro v2 w2 ho2 hb2 hg_ hnew_; clear hg_ hnew_; replace k0 := behind0 hb2 hsz k0; replace k1 := behind0 hb2 hsz k1; replace k2 := behind0 hb2 hsz k2; replace hsz := Nat.lt_of_lt_of_le hsz hb2.size; replace hb := Aside0.mk (below_step hb.out hb2); have hcv := own_string (P := Try.prog) Try.underlying43 Try.underlying5 Try.underlying9 (Kd.own_of_R ho2); clear ho2 hb2))
  refine wp_loop_rounds 3 ?_
  rw [rounds_succ]
  go_wp2_with (first | (go_at_call 23; refine (op_Args.calls a 2 _ HA.out).mono ?_; rintro e w3 ⟨rfl, hb2⟩; replace k0 := behind0 hb2 hsz k0; replace k1 := behind0 hb2 hsz k1; replace k2 := behind0 hb2 hsz k2; replace hsz := Nat.lt_of_lt_of_le hsz hb2.size; replace hb := Aside0.mk (below_step hb.out hb2); clear hb2) | (go_at_call 39; (with_reducible refine (code_Put.calls k b t1 _ P1.out).mono ?_); rintro e w3 ⟨rfl, hb2⟩; replace k0 := behind0 hb2 hsz k0; replace k1 := behind0 hb2 hsz k1; replace k2 := behind0 hb2 hsz k2; replace hsz := Nat.lt_of_lt_of_le hsz hb2.size; replace hb := Aside0.mk (below_step hb.out hb2); clear hb2) | (go_at_call 39; (with_reducible refine (code_Put.calls k c t2 _ P2.out).mono ?_); rintro e w3 ⟨rfl, hb2⟩; replace k0 := behind0 hb2 hsz k0; replace k1 := behind0 hb2 hsz k1; replace k2 := behind0 hb2 hsz k2; replace hsz := Nat.lt_of_lt_of_le hsz hb2.size; replace hb := Aside0.mk (below_step hb.out hb2); clear hb2))
  rw [rounds_succ]
  go_wp2_with (first | (go_at_call 23; refine (op_Args.calls a 2 _ HA.out).mono ?_; rintro e w3 ⟨rfl, hb2⟩; replace k0 := behind0 hb2 hsz k0; replace k1 := behind0 hb2 hsz k1; replace k2 := behind0 hb2 hsz k2; replace hsz := Nat.lt_of_lt_of_le hsz hb2.size; replace hb := Aside0.mk (below_step hb.out hb2); clear hb2) | (go_at_call 39; (with_reducible refine (code_Put.calls k b t1 _ P1.out).mono ?_); rintro e w3 ⟨rfl, hb2⟩; replace k0 := behind0 hb2 hsz k0; replace k1 := behind0 hb2 hsz k1; replace k2 := behind0 hb2 hsz k2; replace hsz := Nat.lt_of_lt_of_le hsz hb2.size; replace hb := Aside0.mk (below_step hb.out hb2); clear hb2) | (go_at_call 39; (with_reducible refine (code_Put.calls k c t2 _ P2.out).mono ?_); rintro e w3 ⟨rfl, hb2⟩; replace k0 := behind0 hb2 hsz k0; replace k1 := behind0 hb2 hsz k1; replace k2 := behind0 hb2 hsz k2; replace hsz := Nat.lt_of_lt_of_le hsz hb2.size; replace hb := Aside0.mk (below_step hb.out hb2); clear hb2))
  rw [rounds_succ]
  go_wp2_with (fail)
  go_ret
  exact ⟨rfl, hb.out⟩
/-- An instruction's bytes, by the bytes of its numbers. -/
def op_Encode.f (k : Nat) (a0_0 : Int) (a0_1 : Int) (a0_2 : Int) : Option (ByteArray) :=
  if rightK (kindOf a0_0) a0_1 a0_2 = true then
    (if (kindOf a0_0).2.1 = 0 then some (strOfNums [a0_0 % 256]) else
      (code_Put.f k a0_1).bind fun t1 => if (strOfNums [a0_0 % 256]).size + t1.size ≤ 9223372036854775807 then
        (if (kindOf a0_0).2.1 = 1 then some (strOfNums [a0_0 % 256] ++ t1) else
          (code_Put.f k a0_2).bind fun t2 => if (strOfNums [a0_0 % 256] ++ t1).size + t2.size ≤ 9223372036854775807 then some (strOfNums [a0_0 % 256] ++ t1 ++ t2) else none) else none)
  else some (⟨#[]⟩ : ByteArray)
theorem op_Encode.mono : ∀ a0 a1 a2 k, LeO (op_Encode.f k a0 a1 a2) (op_Encode.f (k + 1) a0 a1 a2) := by
  intro a0 a1 a2 k
  unfold op_Encode.f
  repeat' first
      | (with_reducible exact code_Put.mono _ _)
      | (with_reducible exact LeO.refl _)
      | (with_reducible exact LeO.none _)
      | (with_reducible refine LeO.ite ?_ ?_)
      | (with_reducible refine LeO.bind ?_ (fun _ => ?_))
theorem right_args {a b c : Int} (h : rightK (kindOf a) b c = true) : (kindOf a).2.1 = 0 ∨ (kindOf a).2.1 = 1 ∨ (kindOf a).2.1 = 2 := by
  unfold rightK at h
  split at h
  · exact .inl ‹_›
  · split at h
    · exact .inr (.inl ‹_›)
    · split at h
      · exact .inr (.inr ‹_›)
      · cases h
theorem op_Encode.calls (k : Nat) (a0_0 : Int) (a0_1 : Int) (a0_2 : Int) (r : ByteArray) (w : World) (h : op_Encode.f k a0_0 a0_1 a0_2 = some r) :
    Calls Try.prog 33 #[.agg #[.int .i64 a0_0, .int .i64 a0_1, .int .i64 a0_2]] w fun e w' => e = .returned (.string r) ∧ Below w.heap.size w w' := by
  unfold op_Encode.f at h
  by_cases hR : rightK (kindOf a0_0) a0_1 a0_2 = true
  · have hR' : op_Right.f a0_0 a0_1 a0_2 = some true := congrArg some hR
    rw [if_pos hR] at h
    by_cases h0 : (kindOf a0_0).2.1 = 0
    · rw [if_pos h0] at h
      obtain rfl := Option.some.inj h
      exact enc_0 a0_0 a0_1 a0_2 w hR' (congrArg some h0)
    · rw [if_neg h0] at h
      obtain ⟨t1, P1, h⟩ := Option.bind_eq_some_iff.1 h
      by_cases hs1 : (strOfNums [a0_0 % 256]).size + t1.size ≤ 9223372036854775807
      · rw [if_pos hs1] at h
        by_cases h1 : (kindOf a0_0).2.1 = 1
        · rw [if_pos h1] at h
          obtain rfl := Option.some.inj h
          exact enc_1 k a0_0 a0_1 a0_2 w hR' (congrArg some h1) t1 ⟨P1⟩ hs1
        · rw [if_neg h1] at h
          obtain ⟨t2, P2, h⟩ := Option.bind_eq_some_iff.1 h
          have h2 : (kindOf a0_0).2.1 = 2 := by
            rcases right_args hR with h' | h' | h'
            · exact absurd h' h0
            · exact absurd h' h1
            · exact h'
          by_cases hs2 : (strOfNums [a0_0 % 256] ++ t1).size + t2.size ≤ 9223372036854775807
          · rw [if_pos hs2] at h
            obtain rfl := Option.some.inj h
            exact enc_2 k a0_0 a0_1 a0_2 w hR' (congrArg some h2) t1 ⟨P1⟩ hs1 t2 ⟨P2⟩ hs2
          · rw [if_neg hs2] at h
            cases h
      · rw [if_neg hs1] at h
        cases h
  · rw [if_neg hR] at h
    obtain rfl := Option.some.inj h
    exact enc_no a0_0 a0_1 a0_2 w (congrArg some (by cases hh : rightK (kindOf a0_0) a0_1 a0_2 <;> simp_all))

end Go.Proofs.Ytldbochclabmjaa.P
