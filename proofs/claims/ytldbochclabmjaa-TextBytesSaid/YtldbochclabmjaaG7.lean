/- text.Line: an instruction's line; for every instruction. No conditions. -/
import Derived.Test.YtldbochclabmjaaG3
import Derived.Test.YtldbochclabmjaaCx1
import Derived.LoopN
import Derived.Deep.RegionWith
namespace Go.Proofs.Ytldbochclabmjaa.P
open Go.RowKit Go.Proofs.Ytldbochclabmjaa.C Go.Proofs.YtldbochclabmjaaW.PrintWords Go.Proofs.YtldbochclabmjaaW.PrintLast Go.Proofs.YtldbochclabmjaaW.PrintMore

theorem behindL {w1 w2 : World} (hb : Below w1.heap.size w1 w2) {g j : Nat} {v : Value} (hg : g < w1.heap.size) (h : w1.cell? ⟨g, j, none⟩ = some v) : w2.cell? ⟨g, j, none⟩ = some v := (hb.cell (p := ⟨g, j, none⟩) hg).trans h
theorem pairLAt0 (b c : Int) (w : World) : (Instr.index 41 (.agg #[.int .i64 b, .int .i64 c]) (.int .i64 0)).run Try.prog w = .ok (.int .i64 b) w := by kernel_rfl
theorem pairLAt1 (b c : Int) (w : World) : (Instr.index 41 (.agg #[.int .i64 b, .int .i64 c]) (.int .i64 1)).run Try.prog w = .ok (.int .i64 c) w := by kernel_rfl
theorem conv_own (w : World) (x : Int) : (convert 43 9 (.slice (some ⟨w.heap.size, 0, none⟩) 1 1)).run Try.prog (w.alloc (.cells #[.int .u8 x] 5)) = .ok (.string (strOfNums [x])) (w.alloc (.cells #[.int .u8 x] 5)) :=
  own_string Try.underlying43 Try.underlying5 Try.underlying9 (World.ownsRow_lit (base := 0) (e := 5) (size := 1) w #[.int .u8 x] 1 (Nat.zero_le _) (by decide) rfl)
theorem conv_drew (w : World) (x : Int) : (convert 43 9 (.slice (some ⟨w.heap.size, 0, none⟩) 1 1)).run Try.prog (w.alloc (.cells #[.int .u8 x] 5)).drew = .ok (.string (strOfNums [x])) (w.alloc (.cells #[.int .u8 x] 5)).drew :=
  own_string Try.underlying43 Try.underlying5 Try.underlying9 (show ((w.alloc (.cells #[.int .u8 x] 5)).drew).ownsRow 0 5 1 _ 1 _ from World.ownsRow_lit (base := 0) (e := 5) (size := 1) w #[.int .u8 x] 1 (Nat.zero_le _) (by decide) rfl)
theorem own_belowL {w w' : World} {B e size n : Nat} {v : Value} {xs : List Value} (h : w.ownsRow B e size v n xs) (hb : Below w.heap.size w w') : w'.ownsRow B e size v n xs := by
  refine ⟨h.1, ?_⟩
  rcases h.2 with hn | ⟨g, cap, cur, rfl, hg, hgg, rest⟩
  · exact .inl hn
  · exact .inr ⟨g, cap, cur, rfl, hg, by rw [hb.block g (Array.getElem?_eq_some_iff.1 hgg).1]; exact hgg, rest⟩
theorem conv_after {w w5 : World} (x : Int) (hb : Below ((w.alloc (.cells #[.int .u8 x] 5)).drew).heap.size ((w.alloc (.cells #[.int .u8 x] 5)).drew) w5) : (convert 43 9 (.slice (some ⟨w.heap.size, 0, none⟩) 1 1)).run Try.prog w5 = .ok (.string (strOfNums [x])) w5 := by
  have h : ((w.alloc (.cells #[.int .u8 x] 5)).drew).ownsRow 0 5 1 (.slice (some ⟨w.heap.size, 0, none⟩) 1 1) 1 [.int .u8 x] := World.ownsRow_lit (base := 0) (e := 5) (size := 1) w #[.int .u8 x] 1 (Nat.zero_le _) (by decide) rfl
  exact own_string Try.underlying43 Try.underlying5 Try.underlying9 (own_belowL h hb)
theorem below_ad {b : Nat} {w w3 : World} (h : Below b w w3) (hle : b ≤ w3.heap.size) (o : Obj) : Below b w (w3.alloc o).drew := (h.alloc hle o).drew
theorem kept_ad {w : World} {g j : Nat} {v : Value} (hg : g < w.heap.size) (h : w.cell? ⟨g, j, none⟩ = some v) (o : Obj) : ((w.alloc o).drew).cell? ⟨g, j, none⟩ = some v := ((Below.refl w.heap.size w).alloc (Nat.le_refl _) o |>.cell (p := ⟨g, j, none⟩) hg).trans h
theorem lt_ad {w : World} {g : Nat} (hg : g < w.heap.size) (o : Obj) : g < ((w.alloc o).drew).heap.size := by
  show g < (w.heap.push o).size
  simp; omega
set_option maxHeartbeats 1000000 in
theorem line_no (a b c : Int) (w : World) (hR : op_Right.f a b c = some false) :
    Calls Try.prog 11 #[.agg #[.int .i64 a, .int .i64 b, .int .i64 c]] w fun e w' => e = .returned (.string ⟨#[]⟩) ∧ Below w.heap.size w w' := by
  have HR := Aside0.mk hR
  clear hR
  go_enter Try.func11, Try.ntmps11
  go_wp2_with (go_at_call 21; refine (op_Right.calls a b c false _ HR.out).mono ?_; rintro e w1 ⟨rfl, hb⟩; obtain ⟨k0, k1, k2, hsz⟩ := box_kept hb; replace hb := Aside0.mk (below_box hb))
  go_ret
  exact ⟨rfl, hb.out⟩
set_option maxHeartbeats 4000000 in
theorem line_0 (a b c : Int) (t0 : ByteArray) (w : World) (hR : op_Right.f a b c = some true) (hN : op_Name.f a = some t0) (hA : op_Args.f a = some 0) (hz : (t0).size + (strOfNums [10]).size ≤ 9223372036854775807) :
    Calls Try.prog 11 #[.agg #[.int .i64 a, .int .i64 b, .int .i64 c]] w fun e w' => e = .returned (.string (t0 ++ strOfNums [10])) ∧ Below w.heap.size w w' := by
  have HR := Aside0.mk hR
  have HA := Aside0.mk hA
  have HN := Aside0.mk hN
  clear hR hA hN
  have i0 := pairLAt0
  have i1 := pairLAt1
  have dz := decide_eq_true hz
  go_enter Try.func11, Try.ntmps11
  go_wp2_with (first
    | (go_at_call 21; refine (op_Right.calls a b c true _ HR.out).mono ?_; rintro e w1 ⟨rfl, hb⟩; obtain ⟨k0, k1, k2, hsz⟩ := box_kept hb; replace hb := Aside0.mk (below_box hb))
    | (go_at_call 22; refine (op_Name.calls a t0 _ HN.out).mono ?_; rintro e w3 ⟨rfl, hb2⟩; replace k0 := behindL hb2 hsz k0; replace k1 := behindL hb2 hsz k1; replace k2 := behindL hb2 hsz k2; replace hsz := Nat.lt_of_lt_of_le hsz hb2.size; replace hb := Aside0.mk (below_step hb.out hb2); clear hb2))
  refine wp_loop_rounds 3 ?_
  rw [rounds_succ]
  go_wp2_with (first | (go_at_call 23; refine (op_Args.calls a 0 _ HA.out).mono ?_; rintro e w3 ⟨rfl, hb2⟩; replace k0 := behindL hb2 hsz k0; replace k1 := behindL hb2 hsz k1; replace k2 := behindL hb2 hsz k2; replace hsz := Nat.lt_of_lt_of_le hsz hb2.size; replace hb := Aside0.mk (below_step hb.out hb2); clear hb2))
  all_goals (rw [rounds_succ]; go_wp2_with (first | (go_at_call 23; refine (op_Args.calls a 0 _ HA.out).mono ?_; rintro e w3 ⟨rfl, hb2⟩; replace k0 := behindL hb2 hsz k0; replace k1 := behindL hb2 hsz k1; replace k2 := behindL hb2 hsz k2; replace hsz := Nat.lt_of_lt_of_le hsz hb2.size; replace hb := Aside0.mk (below_step hb.out hb2); clear hb2)))
  all_goals (rw [rounds_succ]; go_wp2_with (first | ((with_reducible refine gate_dst (N := 35) rfl ?_); refine Kd.R_lit (Kd.int .u8) _ 5 ?hg (N := 35) ?hd (xs := ([10] : List Int)) (inner := [.int .u8 10]) (ok := fun _ => True) (okp := fun _ => True) ?hr ?hp (fun _ hk => hk) trivial (Below.refl _ _) (Nat.le_refl _) (by simp) ?_; (case hd => rfl); (case hg => rfl); (case hr => first | (go_simp; done) | (go_simp; rfl)); (case hp => exact (Reps.one (show Kd.M (Kd.int .u8) _ _ _ 10 [.int .u8 10] from rfl) (Reps.none _ _))); intro v2 w2 ho2 hb2 hg_ hnew_; clear hg_ hnew_; replace k0 := behindL hb2 hsz k0; replace k1 := behindL hb2 hsz k1; replace k2 := behindL hb2 hsz k2; replace hsz := Nat.lt_of_lt_of_le hsz hb2.size; replace hb := Aside0.mk (below_step hb.out hb2); have hcv := own_string (P := Try.prog) Try.underlying43 Try.underlying5 Try.underlying9 (Kd.own_of_R ho2); clear ho2 hb2)))
  all_goals (go_ret; exact ⟨rfl, hb.out⟩)
set_option maxHeartbeats 4000000 in
theorem line_1 (k : Nat) (a b c : Int) (t0 : ByteArray) (w : World) (hR : op_Right.f a b c = some true) (hN : op_Name.f a = some t0) (hA : op_Args.f a = some 1) (d1 : ByteArray) (P1 : Aside0 (text_digits.f k b = some d1)) (hs1 : (strOfNums [32]).size + d1.size ≤ 9223372036854775807) (ht1 : (t0).size + (strOfNums [32] ++ d1).size ≤ 9223372036854775807) (hz : ((t0 ++ (strOfNums [32] ++ d1))).size + (strOfNums [10]).size ≤ 9223372036854775807) :
    Calls Try.prog 11 #[.agg #[.int .i64 a, .int .i64 b, .int .i64 c]] w fun e w' => e = .returned (.string ((t0 ++ (strOfNums [32] ++ d1)) ++ strOfNums [10])) ∧ Below w.heap.size w w' := by
  have HR := Aside0.mk hR
  have HA := Aside0.mk hA
  have HN := Aside0.mk hN
  clear hR hA hN
  have i0 := pairLAt0
  have i1 := pairLAt1
  have ds1 := decide_eq_true hs1
  have dt1 := decide_eq_true ht1
  have ht1b : t0.size + ((strOfNums [32]).size + d1.size) ≤ 9223372036854775807 := by simpa only [ByteArray.size_append] using ht1
  have dt1b := decide_eq_true ht1b
  have dz := decide_eq_true hz
  have hcv0 := fun w => conv_own w 32
  have hcv1 := fun w => conv_drew w 32
  go_enter Try.func11, Try.ntmps11
  go_wp2_with (first
    | (go_at_call 21; refine (op_Right.calls a b c true _ HR.out).mono ?_; rintro e w1 ⟨rfl, hb⟩; obtain ⟨k0, k1, k2, hsz⟩ := box_kept hb; replace hb := Aside0.mk (below_box hb))
    | (go_at_call 22; refine (op_Name.calls a t0 _ HN.out).mono ?_; rintro e w3 ⟨rfl, hb2⟩; replace k0 := behindL hb2 hsz k0; replace k1 := behindL hb2 hsz k1; replace k2 := behindL hb2 hsz k2; replace hsz := Nat.lt_of_lt_of_le hsz hb2.size; replace hb := Aside0.mk (below_step hb.out hb2); clear hb2))
  refine wp_loop_rounds 3 ?_
  rw [rounds_succ]
  go_wp2_with (first | (go_at_call 23; refine (op_Args.calls a 1 _ HA.out).mono ?_; rintro e w3 ⟨rfl, hb2⟩; replace k0 := behindL hb2 hsz k0; replace k1 := behindL hb2 hsz k1; replace k2 := behindL hb2 hsz k2; replace hsz := Nat.lt_of_lt_of_le hsz hb2.size; replace hb := Aside0.mk (below_step hb.out hb2); clear hb2))
  go_region_with (first | (go_at_call 24; (with_reducible refine (text_digits.calls k b d1 _ P1.out).mono ?_); rintro e w3 ⟨rfl, hb2⟩; replace k0 := behindL hb2 (by first | exact hsz | exact lt_ad hsz _) (by first | exact k0 | exact kept_ad hsz k0 _); replace k1 := behindL hb2 (by first | exact hsz | exact lt_ad hsz _) (by first | exact k1 | exact kept_ad hsz k1 _); replace k2 := behindL hb2 (by first | exact hsz | exact lt_ad hsz _) (by first | exact k2 | exact kept_ad hsz k2 _); (try have hc5 := conv_after _ hb2); replace hb := Aside0.mk (below_step (by first | exact hb.out | exact hb.out.drew | exact below_ad hb.out (Nat.le_of_lt (Nat.lt_of_le_of_lt (Nat.le_refl _) hsz)) _) hb2); replace hsz := Nat.lt_of_lt_of_le (by first | exact hsz | exact lt_ad hsz _) hb2.size; clear hb2))
  all_goals (try clear hc5)
  all_goals (try (obtain ⟨wz, hwz⟩ : ∃ wz : World, wz = w3.alloc (.cells #[.int .u8 32] 5) := ⟨_, rfl⟩; rw [← hwz]; replace k0 : wz.cell? ⟨w.heap.size, 0, none⟩ = some (.int .i64 a) := (by rw [hwz]; exact kept_ad hsz k0 _); replace k1 : wz.cell? ⟨w.heap.size, 1, none⟩ = some (.int .i64 b) := (by rw [hwz]; exact kept_ad hsz k1 _); replace k2 : wz.cell? ⟨w.heap.size, 2, none⟩ = some (.int .i64 c) := (by rw [hwz]; exact kept_ad hsz k2 _); replace hb : Aside0 (Below w.heap.size w wz) := ⟨by rw [hwz]; exact hb.out.alloc (Nat.le_of_lt hsz) _⟩; replace hsz : w.heap.size < wz.heap.size := (by rw [hwz]; exact lt_ad hsz _); clear hwz))
  all_goals go_wp2_with (fail)
  all_goals (rw [rounds_succ]; go_wp2_with (first | (go_at_call 23; refine (op_Args.calls a 1 _ HA.out).mono ?_; rintro e w3 ⟨rfl, hb2⟩; replace k0 := behindL hb2 hsz k0; replace k1 := behindL hb2 hsz k1; replace k2 := behindL hb2 hsz k2; replace hsz := Nat.lt_of_lt_of_le hsz hb2.size; replace hb := Aside0.mk (below_step hb.out hb2); clear hb2)))
  all_goals (rw [rounds_succ]; go_wp2_with (first | ((with_reducible refine gate_dst (N := 35) rfl ?_); refine Kd.R_lit (Kd.int .u8) _ 5 ?hg (N := 35) ?hd (xs := ([10] : List Int)) (inner := [.int .u8 10]) (ok := fun _ => True) (okp := fun _ => True) ?hr ?hp (fun _ hk => hk) trivial (Below.refl _ _) (Nat.le_refl _) (by simp) ?_; (case hd => rfl); (case hg => rfl); (case hr => first | (go_simp; done) | (go_simp; rfl)); (case hp => exact (Reps.one (show Kd.M (Kd.int .u8) _ _ _ 10 [.int .u8 10] from rfl) (Reps.none _ _))); intro v2 w2 ho2 hb2 hg_ hnew_; clear hg_ hnew_; replace k0 := behindL hb2 hsz k0; replace k1 := behindL hb2 hsz k1; replace k2 := behindL hb2 hsz k2; replace hsz := Nat.lt_of_lt_of_le hsz hb2.size; replace hb := Aside0.mk (below_step hb.out hb2); have hcv := own_string (P := Try.prog) Try.underlying43 Try.underlying5 Try.underlying9 (Kd.own_of_R ho2); clear ho2 hb2)))
  all_goals (go_ret; exact ⟨rfl, hb.out⟩)
set_option maxHeartbeats 4000000 in
theorem line_2 (k : Nat) (a b c : Int) (t0 : ByteArray) (w : World) (hR : op_Right.f a b c = some true) (hN : op_Name.f a = some t0) (hA : op_Args.f a = some 2) (d1 : ByteArray) (P1 : Aside0 (text_digits.f k b = some d1)) (hs1 : (strOfNums [32]).size + d1.size ≤ 9223372036854775807) (ht1 : (t0).size + (strOfNums [32] ++ d1).size ≤ 9223372036854775807) (d2 : ByteArray) (P2 : Aside0 (text_digits.f k c = some d2)) (hs2 : (strOfNums [32]).size + d2.size ≤ 9223372036854775807) (ht2 : ((t0 ++ (strOfNums [32] ++ d1))).size + (strOfNums [32] ++ d2).size ≤ 9223372036854775807) (hz : (((t0 ++ (strOfNums [32] ++ d1)) ++ (strOfNums [32] ++ d2))).size + (strOfNums [10]).size ≤ 9223372036854775807) :
    Calls Try.prog 11 #[.agg #[.int .i64 a, .int .i64 b, .int .i64 c]] w fun e w' => e = .returned (.string (((t0 ++ (strOfNums [32] ++ d1)) ++ (strOfNums [32] ++ d2)) ++ strOfNums [10])) ∧ Below w.heap.size w w' := by
  have HR := Aside0.mk hR
  have HA := Aside0.mk hA
  have HN := Aside0.mk hN
  clear hR hA hN
  have i0 := pairLAt0
  have i1 := pairLAt1
  have ds1 := decide_eq_true hs1
  have dt1 := decide_eq_true ht1
  have ht1b : t0.size + ((strOfNums [32]).size + d1.size) ≤ 9223372036854775807 := by simpa only [ByteArray.size_append] using ht1
  have dt1b := decide_eq_true ht1b
  have ds2 := decide_eq_true hs2
  have dt2 := decide_eq_true ht2
  have ht2b : t0.size + ((strOfNums [32]).size + d1.size) + ((strOfNums [32]).size + d2.size) ≤ 9223372036854775807 := by simpa only [ByteArray.size_append] using ht2
  have dt2b := decide_eq_true ht2b
  have dz := decide_eq_true hz
  have hcv0 := fun w => conv_own w 32
  have hcv1 := fun w => conv_drew w 32
  go_enter Try.func11, Try.ntmps11
  go_wp2_with (first
    | (go_at_call 21; refine (op_Right.calls a b c true _ HR.out).mono ?_; rintro e w1 ⟨rfl, hb⟩; obtain ⟨k0, k1, k2, hsz⟩ := box_kept hb; replace hb := Aside0.mk (below_box hb))
    | (go_at_call 22; refine (op_Name.calls a t0 _ HN.out).mono ?_; rintro e w3 ⟨rfl, hb2⟩; replace k0 := behindL hb2 hsz k0; replace k1 := behindL hb2 hsz k1; replace k2 := behindL hb2 hsz k2; replace hsz := Nat.lt_of_lt_of_le hsz hb2.size; replace hb := Aside0.mk (below_step hb.out hb2); clear hb2))
  refine wp_loop_rounds 3 ?_
  rw [rounds_succ]
  go_wp2_with (first | (go_at_call 23; refine (op_Args.calls a 2 _ HA.out).mono ?_; rintro e w3 ⟨rfl, hb2⟩; replace k0 := behindL hb2 hsz k0; replace k1 := behindL hb2 hsz k1; replace k2 := behindL hb2 hsz k2; replace hsz := Nat.lt_of_lt_of_le hsz hb2.size; replace hb := Aside0.mk (below_step hb.out hb2); clear hb2))
  go_region_with (first | (go_at_call 24; (with_reducible refine (text_digits.calls k b d1 _ P1.out).mono ?_); rintro e w3 ⟨rfl, hb2⟩; replace k0 := behindL hb2 (by first | exact hsz | exact lt_ad hsz _) (by first | exact k0 | exact kept_ad hsz k0 _); replace k1 := behindL hb2 (by first | exact hsz | exact lt_ad hsz _) (by first | exact k1 | exact kept_ad hsz k1 _); replace k2 := behindL hb2 (by first | exact hsz | exact lt_ad hsz _) (by first | exact k2 | exact kept_ad hsz k2 _); (try have hc5 := conv_after _ hb2); replace hb := Aside0.mk (below_step (by first | exact hb.out | exact hb.out.drew | exact below_ad hb.out (Nat.le_of_lt (Nat.lt_of_le_of_lt (Nat.le_refl _) hsz)) _) hb2); replace hsz := Nat.lt_of_lt_of_le (by first | exact hsz | exact lt_ad hsz _) hb2.size; clear hb2))
  all_goals (try clear hc5)
  all_goals (try (obtain ⟨wz, hwz⟩ : ∃ wz : World, wz = w3.alloc (.cells #[.int .u8 32] 5) := ⟨_, rfl⟩; rw [← hwz]; replace k0 : wz.cell? ⟨w.heap.size, 0, none⟩ = some (.int .i64 a) := (by rw [hwz]; exact kept_ad hsz k0 _); replace k1 : wz.cell? ⟨w.heap.size, 1, none⟩ = some (.int .i64 b) := (by rw [hwz]; exact kept_ad hsz k1 _); replace k2 : wz.cell? ⟨w.heap.size, 2, none⟩ = some (.int .i64 c) := (by rw [hwz]; exact kept_ad hsz k2 _); replace hb : Aside0 (Below w.heap.size w wz) := ⟨by rw [hwz]; exact hb.out.alloc (Nat.le_of_lt hsz) _⟩; replace hsz : w.heap.size < wz.heap.size := (by rw [hwz]; exact lt_ad hsz _); clear hwz))
  all_goals go_wp2_with (fail)
  all_goals (rw [rounds_succ]; go_wp2_with (first | (go_at_call 23; refine (op_Args.calls a 2 _ HA.out).mono ?_; rintro e w3 ⟨rfl, hb2⟩; replace k0 := behindL hb2 hsz k0; replace k1 := behindL hb2 hsz k1; replace k2 := behindL hb2 hsz k2; replace hsz := Nat.lt_of_lt_of_le hsz hb2.size; replace hb := Aside0.mk (below_step hb.out hb2); clear hb2)))
  all_goals go_region_with (first | (go_at_call 24; (with_reducible refine (text_digits.calls k c d2 _ P2.out).mono ?_); rintro e w3 ⟨rfl, hb2⟩; replace k0 := behindL hb2 (by first | exact hsz | exact lt_ad hsz _) (by first | exact k0 | exact kept_ad hsz k0 _); replace k1 := behindL hb2 (by first | exact hsz | exact lt_ad hsz _) (by first | exact k1 | exact kept_ad hsz k1 _); replace k2 := behindL hb2 (by first | exact hsz | exact lt_ad hsz _) (by first | exact k2 | exact kept_ad hsz k2 _); (try have hc5 := conv_after _ hb2); replace hb := Aside0.mk (below_step (by first | exact hb.out | exact hb.out.drew | exact below_ad hb.out (Nat.le_of_lt (Nat.lt_of_le_of_lt (Nat.le_refl _) hsz)) _) hb2); replace hsz := Nat.lt_of_lt_of_le (by first | exact hsz | exact lt_ad hsz _) hb2.size; clear hb2))
  all_goals (try clear hc5)
  all_goals (try (obtain ⟨wz, hwz⟩ : ∃ wz : World, wz = w3.alloc (.cells #[.int .u8 32] 5) := ⟨_, rfl⟩; rw [← hwz]; replace k0 : wz.cell? ⟨w.heap.size, 0, none⟩ = some (.int .i64 a) := (by rw [hwz]; exact kept_ad hsz k0 _); replace k1 : wz.cell? ⟨w.heap.size, 1, none⟩ = some (.int .i64 b) := (by rw [hwz]; exact kept_ad hsz k1 _); replace k2 : wz.cell? ⟨w.heap.size, 2, none⟩ = some (.int .i64 c) := (by rw [hwz]; exact kept_ad hsz k2 _); replace hb : Aside0 (Below w.heap.size w wz) := ⟨by rw [hwz]; exact hb.out.alloc (Nat.le_of_lt hsz) _⟩; replace hsz : w.heap.size < wz.heap.size := (by rw [hwz]; exact lt_ad hsz _); clear hwz))
  all_goals go_wp2_with (fail)
  all_goals (rw [rounds_succ]; go_wp2_with (first | ((with_reducible refine gate_dst (N := 35) rfl ?_); refine Kd.R_lit (Kd.int .u8) _ 5 ?hg (N := 35) ?hd (xs := ([10] : List Int)) (inner := [.int .u8 10]) (ok := fun _ => True) (okp := fun _ => True) ?hr ?hp (fun _ hk => hk) trivial (Below.refl _ _) (Nat.le_refl _) (by simp) ?_; (case hd => rfl); (case hg => rfl); (case hr => first | (go_simp; done) | (go_simp; rfl)); (case hp => exact (Reps.one (show Kd.M (Kd.int .u8) _ _ _ 10 [.int .u8 10] from rfl) (Reps.none _ _))); intro v2 w2 ho2 hb2 hg_ hnew_; clear hg_ hnew_; replace k0 := behindL hb2 hsz k0; replace k1 := behindL hb2 hsz k1; replace k2 := behindL hb2 hsz k2; replace hsz := Nat.lt_of_lt_of_le hsz hb2.size; replace hb := Aside0.mk (below_step hb.out hb2); have hcv := own_string (P := Try.prog) Try.underlying43 Try.underlying5 Try.underlying9 (Kd.own_of_R ho2); clear ho2 hb2)))
  all_goals (go_ret; exact ⟨rfl, hb.out⟩)

end Go.Proofs.Ytldbochclabmjaa.P
