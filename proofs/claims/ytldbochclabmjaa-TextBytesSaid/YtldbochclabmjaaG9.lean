/- text.which, text.Number: the operation whose name a word is; a text's number; for every text. No conditions. -/
import Derived.Test.YtldbochclabmjaaG3
import Derived.Test.YtldbochclabmjaaCx1
import Derived.Lib.ConvBytes
import Derived.Deep.LoopGhost
namespace Go.Proofs.Ytldbochclabmjaa.P
open Go.RowKit Go.Proofs.Ytldbochclabmjaa.C Go.Proofs.YtldbochclabmjaaW.PrintWords Go.Proofs.YtldbochclabmjaaW.PrintLast Go.Proofs.YtldbochclabmjaaW.PrintMore
set_option linter.unusedVariables false
set_option linter.unusedSimpArgs false

theorem toList_inj {s t : ByteArray} (h : s.toList = t.toList) : s = t := by
  rw [ByteArray.toList_eq, ByteArray.toList_eq] at h
  cases s; cases t
  exact congrArg _ (Array.toList_inj.1 h)
/-- The operation whose name a word is, from one on; 0: none. -/
def whichFrom : Nat → Int → ByteArray → Int
  | 0, _, _ => 0
  | f + 1, o, s => if (kindOf o).1 = s then o else whichFrom f (o + 1) s
def whichS (s : ByteArray) : Int := whichFrom 25 1 s
set_option maxHeartbeats 2000000 in
theorem which_calls (s : ByteArray) (w : World) : Calls Try.prog 38 #[.string s] w fun e w' => e = .returned (.int .i64 (whichS s)) ∧ Below w.heap.size w w' := by
  go_enter Try.func38, Try.ntmps38
  go_wp2_with (fail)
  go_loopw [3] (fun v3 wr => ∃ (o : Int) (f : Nat), v3 = .int .i64 o ∧ Aside0 (1 ≤ o ∧ o + f = 26 ∧ whichFrom f o s = whichS s) ∧ Aside0 (Below w.heap.size w wr))
    (fun v3 _ => (26 - intOf v3).toNat)
  case atStart => exact ⟨1, 25, rfl, ⟨by omega, by omega, rfl⟩, ⟨Below.refl _ _⟩⟩
  case round =>
    obtain ⟨o, f, rfl, H, HB⟩ := hrel
    cases f with
    | zero =>
      have c1 : decide (o ≤ 25) = false := decide_eq_false (by have := H.out; omega)
      go_wp2_with (fail)
      go_ret
      exact ⟨by rw [← H.out.2.2]; rfl, HB.out⟩
    | succ f =>
      have c1 : decide (o ≤ 25) = true := decide_eq_true (by have := H.out; omega)
      have hw : wrap64 (o + 1) = o + 1 := by have := H.out; unfold wrap64; omega
      obtain ⟨nm, hn⟩ : ∃ nm, (kindOf o).1 = nm := ⟨_, rfl⟩
      have HN : Aside0 (op_Name.f o = some nm) := ⟨congrArg some hn⟩
      have HW : Aside0 (whichS s = if nm = s then o else whichFrom f (o + 1) s) := ⟨by rw [← H.out.2.2, ← hn]; rfl⟩
      have HM : Aside0 (1 ≤ o + 1 ∧ o + 1 + f = 26) := ⟨by have := H.out; omega⟩
      clear H hn
      by_cases hq : nm = s
      · have d0 : (nm.toList == s.toList) = true := by rw [hq]; exact beq_self_eq_true _
        have hr : whichS s = o := by rw [HW.out, if_pos hq]
        clear hq HM
        go_wp2_with (go_at_call 22; refine (op_Name.calls o nm _ HN.out).mono ?_; rintro e w3 ⟨rfl, hb⟩; have HB2 := Aside0.mk (below_step HB.out hb); clear hb)
        go_ret
        exact ⟨by rw [hr]; rfl, HB2.out⟩
      · have d0 : (nm.toList == s.toList) = false := beq_eq_false_iff_ne.2 (fun e => hq (toList_inj e))
        replace HW := Aside0.mk (HW.out.trans (if_neg hq))
        clear hq
        go_wp2_with (go_at_call 22; refine (op_Name.calls o nm _ HN.out).mono ?_; rintro e w3 ⟨rfl, hb⟩; have HB2 := Aside0.mk (below_step HB.out hb); clear hb)
        go_roundw
        case rel => exact ⟨o + 1, f, by rw [hw], ⟨HM.out.1, HM.out.2, HW.out.symm⟩, HB2⟩
        case measure => rw [hw]; have := HM.out; simp [intOf]; omega

/-! ### text.Number -/
/-- The digits' number, nearer to zero first: as the program reckons it. -/
def numAcc : Int → List UInt8 → Option Int
  | n, [] => some n
  | n, c :: cs => if 48 ≤ (c.toNat : Int) ∧ (c.toNat : Int) ≤ 57 then numAcc (wrap64 (wrap64 (10 * n) - ((c.toNat : Int) - 48))) cs else none
/-- Behind the digits: the number whose text it is. -/
def numEnd (k : Nat) (s : ByteArray) (n : Int) : Option (Int × Int) := (text_digits.f k n).bind fun d => some (if d.toList = s.toList then (n, 0) else (0, 3))
def numOf (k : Nat) (s : ByteArray) (minus : Bool) (rest : List UInt8) : Option (Int × Int) :=
  match numAcc 0 rest with
  | none => some (0, 3)
  | some n => numEnd k s (if minus = true then n else wrap64 (-n))
def numK.f (k : Nat) (a0 : ByteArray) : Option (Int × Int) :=
  if a0.size ≤ 9223372036854775807 then (if a0.data.toList.head? = some 45 then numOf k a0 true a0.data.toList.tail else numOf k a0 false a0.data.toList) else none
theorem numEnd.mono (s : ByteArray) (n : Int) (k : Nat) : LeO (numEnd k s n) (numEnd (k + 1) s n) := LeO.bind (text_digits.mono _ _) (fun _ => LeO.refl _)
theorem numOf.mono (s : ByteArray) (b : Bool) (l : List UInt8) (k : Nat) : LeO (numOf k s b l) (numOf (k + 1) s b l) := by
  unfold numOf
  split
  · exact LeO.refl _
  · exact numEnd.mono _ _ _
theorem numK.mono : ∀ a0 k, LeO (numK.f k a0) (numK.f (k + 1) a0) := fun _ _ => LeO.ite (LeO.ite (numOf.mono _ _ _ _) (numOf.mono _ _ _ _)) (LeO.refl _)
theorem rest_below (w : World) (e : TypeId) (s : ByteArray) : Below w.heap.size w (Lib.bytesWorld w e s) :=
  ⟨rfl, rfl, rfl, by rw [Lib.bytesWorld_size]; omega, fun j hj => Lib.bytesWorld_at_old w e s j hj⟩
theorem wrap_u8_id {c : Int} (h0 : 0 ≤ c) (h1 : c ≤ 255) : IntKind.u8.wrap c = c := by
  rw [IntKind.wrap_u8]; omega

/-- One byte more. -/
theorem numAcc_step {bs : List UInt8} {i : Nat} (hi : i < bs.length) (n : Int) : numAcc n (bs.drop i) = if 48 ≤ ((bs.getD i 0).toNat : Int) ∧ ((bs.getD i 0).toNat : Int) ≤ 57 then numAcc (wrap64 (wrap64 (10 * n) - (((bs.getD i 0).toNat : Int) - 48))) (bs.drop (i + 1)) else none := by
  rw [List.drop_eq_getElem_cons hi]
  simp only [numAcc, List.getD, List.getElem?_eq_getElem hi, Option.getD_some]
theorem num_bad {k : Nat} {s : ByteArray} {b : Bool} {l : List UInt8} {r1 r2 : Int} (h : numOf k s b l = some (r1, r2)) (hn : numAcc 0 l = none) : 0 = r1 ∧ 3 = r2 := by
  unfold numOf at h
  rw [hn] at h
  exact Prod.mk.inj (Option.some.inj h)
theorem num_good {k : Nat} {s : ByteArray} {b : Bool} {l : List UInt8} {r1 r2 n : Int} (h : numOf k s b l = some (r1, r2)) (hn : numAcc 0 l = numAcc n []) :
    ∃ d, text_digits.f k (if b = true then n else wrap64 (-n)) = some d ∧ (if d.toList = s.toList then ((if b = true then n else wrap64 (-n)), 0) else (0, 3)) = (r1, r2) := by
  unfold numOf at h
  rw [hn] at h
  simp only [numAcc, numEnd] at h
  obtain ⟨d, hd, h⟩ := Option.bind_eq_some_iff.1 h
  exact ⟨d, hd, Option.some.inj h⟩
theorem wrap_succ {i m : Nat} (h : i < m) (hm : m ≤ 9223372036854775807) : wrap64 ((i : Int) + 1) = ((i + 1 : Nat) : Int) := by unfold wrap64; omega
set_option maxHeartbeats 4000000 in
theorem number_minus (k : Nat) (s : ByteArray) (r1 r2 : Int) (w : World) (hsz : s.size ≤ 9223372036854775807) (hz : 0 < s.size) (hb : ∀ h : 0 < s.size, ((s[0]'h).toNat : Int) = 45) (h : numOf k s true (s.extract 1 s.size).data.toList = some (r1, r2)) :
    Calls Try.prog 17 #[.string s] w fun e w' => e = .returned (.tuple #[.int .i64 r1, .int .i64 r2]) ∧ Below w.heap.size w w' := by
  have HH := Aside0.mk h
  clear h
  have z0 : decide (0 < s.size) = true := decide_eq_true hz
  have z1 : (0 : Int) < (s.size : Int) := by omega
  have z2 : decide ((0 : Int) < (s.size : Int)) = true := decide_eq_true z1
  have hb' := hb hz
  have z3 : (1 : Int) ≤ (s.size : Int) := by omega
  go_enter Try.func17, Try.ntmps17
  go_wp2_with (fail)
  go_region
  have hm : (s.extract 1 s.size).size = s.size - 1 := by simp
  have hcv := Lib.run_convert_string_bytes (P := Try.prog) w.drew 9 43 5 (s.extract 1 s.size) (u := .string) Try.underlying9 Try.underlying43 Try.underlying5
  have hB : Aside0 (∀ j, j < s.size - 1 → (Lib.bytesWorld w.drew 5 (s.extract 1 s.size)).cell? ⟨w.heap.size, j, none⟩ = some (.int .u8 ((s.extract 1 s.size).data.toList.getD j 0).toNat)) := ⟨fun j hj => Lib.bytesWorld_cell w.drew 5 (s.extract 1 s.size) j (by rw [hm]; exact hj)⟩
  have HB : Aside0 (Below w.heap.size w (Lib.bytesWorld w.drew 5 (s.extract 1 s.size))) := ⟨((Below.refl w.heap.size w).drew).trans (rest_below w.drew 5 (s.extract 1 s.size))⟩
  rw [show w.drew.heap.size = w.heap.size from rfl] at hcv
  obtain ⟨W1, hW1⟩ : ∃ W1, W1 = Lib.bytesWorld w.drew 5 (s.extract 1 s.size) := ⟨_, rfl⟩
  rw [← hW1] at hcv hB HB
  clear hW1
  generalize grownCap w.drew (s.extract 1 s.size).size 0 5 = cap at hcv
  go_wp2_with (fail)
  clear hcv
  have hl : (s.extract 1 s.size).data.toList.length = s.size - 1 := by first | (rw [← hm]; simp; done) | simp
  clear hm
  generalize (s.extract 1 s.size).data.toList = bs at HH hB hl
  go_loop [6, 24] (fun v6 v24 => ∃ (n : Int) (i : Nat), v6 = .int .i64 n ∧ v24 = .int .i64 i ∧ Aside0 (i ≤ s.size - 1 ∧ numAcc 0 bs = numAcc n (bs.drop i)))
    (fun _ v24 => s.size - 1 - (intOf v24).toNat)
  case atStart => exact ⟨0, 0, rfl, rfl, ⟨Nat.zero_le _, rfl⟩⟩
  case round =>
    obtain ⟨n, i, rfl, rfl, H⟩ := hrel
    by_cases hi : i < s.size - 1
    · have q1 : decide (i < s.size - 1) = true := decide_eq_true hi
      have hc := hB.out i hi
      have H2 := H.out.2
      rw [numAcc_step (hl.symm ▸ hi)] at H2
      have hc0 : (0 : Int) ≤ ((bs.getD i 0).toNat : Int) := Int.natCast_nonneg _
      have hc1 : ((bs.getD i 0).toNat : Int) ≤ 255 := by have := (bs.getD i 0).toNat_lt; omega
      generalize ((bs.getD i 0).toNat : Int) = c at hc H2 hc0 hc1
      have H2' := Aside0.mk H2
      clear H2 H hB
      by_cases hlo : c < 48
      · have d0 : decide (c < 48) = true := decide_eq_true hlo
        have HR : Aside0 ((0 : Int) = r1 ∧ (3 : Int) = r2) := ⟨num_bad HH.out (H2'.out.trans (if_neg (by omega)))⟩
        clear H2' HH
        go_wp2_with (fail)
        go_ret2
        obtain ⟨rfl, rfl⟩ := HR.out
        exact ⟨rfl, HB.out⟩
      · have d0 : decide (c < 48) = false := decide_eq_false hlo
        by_cases hhi : 57 < c
        · have d1 : decide (57 < c) = true := decide_eq_true hhi
          have HR : Aside0 ((0 : Int) = r1 ∧ (3 : Int) = r2) := ⟨num_bad HH.out (H2'.out.trans (if_neg (by omega)))⟩
          clear H2' HH
          go_wp2_with (fail)
          go_ret2
          obtain ⟨rfl, rfl⟩ := HR.out
          exact ⟨rfl, HB.out⟩
        · have d1 : decide (57 < c) = false := decide_eq_false hhi
          have H3 := Aside0.mk (H2'.out.trans (if_pos ⟨by omega, by omega⟩))
          clear H2'
          go_wp2_with (fail)
          go_round
          case rel => exact ⟨_, i + 1, rfl, by first | rfl | rw [wrap_succ hi (by omega)], ⟨hi, H3.out⟩⟩
          case measure => first | (rw [wrap_succ hi (by omega)]; simp [intOf]; omega) | (simp [intOf]; omega)
    · have q1 : decide (i < s.size - 1) = false := decide_eq_false hi
      have H2 := H.out.2
      rw [List.drop_eq_nil_of_le (by rw [hl]; omega)] at H2
      obtain ⟨d, hd, hr⟩ := num_good HH.out H2
      have HD : Aside0 (text_digits.f k n = some d) := ⟨hd⟩
      clear H2 H HH hB hd
      by_cases hq : d.toList = s.toList
      · have d0 : (d.toList == s.toList) = true := beq_iff_eq.2 hq
        have d1 : (d.toList != s.toList) = false := bne_eq_false_iff_eq.2 hq
        rw [if_pos hq] at hr
        have HR : Aside0 ((n, (0 : Int)) = (r1, r2)) := ⟨hr⟩
        clear hr hq
        go_wp2_with (go_at_call 24; (with_reducible refine (text_digits.calls k n d _ HD.out).mono ?_); rintro e w3 ⟨rfl, hb⟩; have HB2 := Aside0.mk (below_step HB.out hb); clear hb)
        go_ret2
        obtain ⟨rfl, rfl⟩ := Prod.mk.inj HR.out
        exact ⟨rfl, HB2.out⟩
      · have d0 : (d.toList == s.toList) = false := beq_eq_false_iff_ne.2 hq
        have d1 : (d.toList != s.toList) = true := bne_iff_ne.2 hq
        rw [if_neg hq] at hr
        have HR := Aside0.mk hr
        clear hr hq
        go_wp2_with (go_at_call 24; (with_reducible refine (text_digits.calls k n d _ HD.out).mono ?_); rintro e w3 ⟨rfl, hb⟩; have HB2 := Aside0.mk (below_step HB.out hb); clear hb)
        go_ret2
        obtain ⟨rfl, rfl⟩ := Prod.mk.inj HR.out
        exact ⟨rfl, HB2.out⟩
set_option maxHeartbeats 4000000 in
theorem number_plus (k : Nat) (s : ByteArray) (r1 r2 : Int) (w : World) (hsz : s.size ≤ 9223372036854775807) (hz : 0 < s.size) (c0 : Int) (hb : ∀ h : 0 < s.size, ((s[0]'h).toNat : Int) = c0) (hne : (c0 == 45) = false) (h : numOf k s false (s).data.toList = some (r1, r2)) :
    Calls Try.prog 17 #[.string s] w fun e w' => e = .returned (.tuple #[.int .i64 r1, .int .i64 r2]) ∧ Below w.heap.size w w' := by
  have HH := Aside0.mk h
  clear h
  have z0 : decide (0 < s.size) = true := decide_eq_true hz
  have z1 : (0 : Int) < (s.size : Int) := by omega
  have z2 : decide ((0 : Int) < (s.size : Int)) = true := decide_eq_true z1
  have hb' := hb hz
  have z3 : (1 : Int) ≤ (s.size : Int) := by omega
  go_enter Try.func17, Try.ntmps17
  go_wp2_with (fail)
  go_region
  have hm : (s).size = s.size := rfl
  have hcv := Lib.run_convert_string_bytes (P := Try.prog) w.drew 9 43 5 (s) (u := .string) Try.underlying9 Try.underlying43 Try.underlying5
  have hB : Aside0 (∀ j, j < s.size → (Lib.bytesWorld w.drew 5 (s)).cell? ⟨w.heap.size, j, none⟩ = some (.int .u8 ((s).data.toList.getD j 0).toNat)) := ⟨fun j hj => Lib.bytesWorld_cell w.drew 5 (s) j (by rw [hm]; exact hj)⟩
  have HB : Aside0 (Below w.heap.size w (Lib.bytesWorld w.drew 5 (s))) := ⟨((Below.refl w.heap.size w).drew).trans (rest_below w.drew 5 (s))⟩
  rw [show w.drew.heap.size = w.heap.size from rfl] at hcv
  obtain ⟨W1, hW1⟩ : ∃ W1, W1 = Lib.bytesWorld w.drew 5 (s) := ⟨_, rfl⟩
  rw [← hW1] at hcv hB HB
  clear hW1
  generalize grownCap w.drew (s).size 0 5 = cap at hcv
  go_wp2_with (fail)
  clear hcv
  have hl : (s).data.toList.length = s.size := by first | (rw [← hm]; simp; done) | simp
  clear hm
  generalize (s).data.toList = bs at HH hB hl
  go_loop [6, 24] (fun v6 v24 => ∃ (n : Int) (i : Nat), v6 = .int .i64 n ∧ v24 = .int .i64 i ∧ Aside0 (i ≤ s.size ∧ numAcc 0 bs = numAcc n (bs.drop i)))
    (fun _ v24 => s.size - (intOf v24).toNat)
  case atStart => exact ⟨0, 0, rfl, rfl, ⟨Nat.zero_le _, rfl⟩⟩
  case round =>
    obtain ⟨n, i, rfl, rfl, H⟩ := hrel
    by_cases hi : i < s.size
    · have q1 : decide (i < s.size) = true := decide_eq_true hi
      have hc := hB.out i hi
      have H2 := H.out.2
      rw [numAcc_step (hl.symm ▸ hi)] at H2
      have hc0 : (0 : Int) ≤ ((bs.getD i 0).toNat : Int) := Int.natCast_nonneg _
      have hc1 : ((bs.getD i 0).toNat : Int) ≤ 255 := by have := (bs.getD i 0).toNat_lt; omega
      generalize ((bs.getD i 0).toNat : Int) = c at hc H2 hc0 hc1
      have H2' := Aside0.mk H2
      clear H2 H hB
      by_cases hlo : c < 48
      · have d0 : decide (c < 48) = true := decide_eq_true hlo
        have HR : Aside0 ((0 : Int) = r1 ∧ (3 : Int) = r2) := ⟨num_bad HH.out (H2'.out.trans (if_neg (by omega)))⟩
        clear H2' HH
        go_wp2_with (fail)
        go_ret2
        obtain ⟨rfl, rfl⟩ := HR.out
        exact ⟨rfl, HB.out⟩
      · have d0 : decide (c < 48) = false := decide_eq_false hlo
        by_cases hhi : 57 < c
        · have d1 : decide (57 < c) = true := decide_eq_true hhi
          have HR : Aside0 ((0 : Int) = r1 ∧ (3 : Int) = r2) := ⟨num_bad HH.out (H2'.out.trans (if_neg (by omega)))⟩
          clear H2' HH
          go_wp2_with (fail)
          go_ret2
          obtain ⟨rfl, rfl⟩ := HR.out
          exact ⟨rfl, HB.out⟩
        · have d1 : decide (57 < c) = false := decide_eq_false hhi
          have H3 := Aside0.mk (H2'.out.trans (if_pos ⟨by omega, by omega⟩))
          clear H2'
          go_wp2_with (fail)
          go_round
          case rel => exact ⟨_, i + 1, rfl, by first | rfl | rw [wrap_succ hi (by omega)], ⟨hi, H3.out⟩⟩
          case measure => first | (rw [wrap_succ hi (by omega)]; simp [intOf]; omega) | (simp [intOf]; omega)
    · have q1 : decide (i < s.size) = false := decide_eq_false hi
      have H2 := H.out.2
      rw [List.drop_eq_nil_of_le (by rw [hl]; omega)] at H2
      obtain ⟨d, hd, hr⟩ := num_good HH.out H2
      have HD : Aside0 (text_digits.f k (wrap64 (-n)) = some d) := ⟨hd⟩
      clear H2 H HH hB hd
      by_cases hq : d.toList = s.toList
      · have d0 : (d.toList == s.toList) = true := beq_iff_eq.2 hq
        have d1 : (d.toList != s.toList) = false := bne_eq_false_iff_eq.2 hq
        rw [if_pos hq] at hr
        have HR : Aside0 (((wrap64 (-n)), (0 : Int)) = (r1, r2)) := ⟨hr⟩
        clear hr hq
        go_wp2_with (go_at_call 24; (with_reducible refine (text_digits.calls k (wrap64 (-n)) d _ HD.out).mono ?_); rintro e w3 ⟨rfl, hb⟩; have HB2 := Aside0.mk (below_step HB.out hb); clear hb)
        go_ret2
        obtain ⟨rfl, rfl⟩ := Prod.mk.inj HR.out
        exact ⟨rfl, HB2.out⟩
      · have d0 : (d.toList == s.toList) = false := beq_eq_false_iff_ne.2 hq
        have d1 : (d.toList != s.toList) = true := bne_iff_ne.2 hq
        rw [if_neg hq] at hr
        have HR := Aside0.mk hr
        clear hr hq
        go_wp2_with (go_at_call 24; (with_reducible refine (text_digits.calls k (wrap64 (-n)) d _ HD.out).mono ?_); rintro e w3 ⟨rfl, hb⟩; have HB2 := Aside0.mk (below_step HB.out hb); clear hb)
        go_ret2
        obtain ⟨rfl, rfl⟩ := Prod.mk.inj HR.out
        exact ⟨rfl, HB2.out⟩
set_option maxHeartbeats 4000000 in
theorem number_none (k : Nat) (s : ByteArray) (r1 r2 : Int) (w : World) (hz : s.size = 0) (h : numOf k s false (s).data.toList = some (r1, r2)) :
    Calls Try.prog 17 #[.string s] w fun e w' => e = .returned (.tuple #[.int .i64 r1, .int .i64 r2]) ∧ Below w.heap.size w w' := by
  have HH := Aside0.mk h
  clear h
  have z0 : decide (0 < s.size) = false := decide_eq_false (by omega)
  have z1 : ¬ (0 : Int) < (s.size : Int) := by omega
  have z2 : decide ((0 : Int) < (s.size : Int)) = false := decide_eq_false z1
  go_enter Try.func17, Try.ntmps17
  go_wp2_with (fail)
  go_region
  have hm : (s).size = 0 := hz
  have hcv := Lib.run_convert_string_bytes (P := Try.prog) w.drew 9 43 5 (s) (u := .string) Try.underlying9 Try.underlying43 Try.underlying5
  have hB : Aside0 (∀ j, j < 0 → (Lib.bytesWorld w.drew 5 (s)).cell? ⟨w.heap.size, j, none⟩ = some (.int .u8 ((s).data.toList.getD j 0).toNat)) := ⟨fun j hj => Lib.bytesWorld_cell w.drew 5 (s) j (by rw [hm]; exact hj)⟩
  have HB : Aside0 (Below w.heap.size w (Lib.bytesWorld w.drew 5 (s))) := ⟨((Below.refl w.heap.size w).drew).trans (rest_below w.drew 5 (s))⟩
  rw [show w.drew.heap.size = w.heap.size from rfl] at hcv
  obtain ⟨W1, hW1⟩ : ∃ W1, W1 = Lib.bytesWorld w.drew 5 (s) := ⟨_, rfl⟩
  rw [← hW1] at hcv hB HB
  clear hW1
  generalize grownCap w.drew (s).size 0 5 = cap at hcv
  go_wp2_with (fail)
  clear hcv
  have hl : (s).data.toList.length = 0 := by first | (rw [← hm]; simp; done) | simp
  clear hm
  generalize (s).data.toList = bs at HH hB hl
  go_loop [6, 24] (fun v6 v24 => ∃ (n : Int) (i : Nat), v6 = .int .i64 n ∧ v24 = .int .i64 i ∧ Aside0 (i ≤ 0 ∧ numAcc 0 bs = numAcc n (bs.drop i)))
    (fun _ v24 => 0 - (intOf v24).toNat)
  case atStart => exact ⟨0, 0, rfl, rfl, ⟨Nat.zero_le _, rfl⟩⟩
  case round =>
    obtain ⟨n, i, rfl, rfl, H⟩ := hrel
    · have q0 : decide ((i : Int) < 0) = false := decide_eq_false (by omega)
      have q1 : i = 0 := by have := H.out.1; omega
      have H2 := H.out.2
      rw [List.drop_eq_nil_of_le (by rw [hl]; omega)] at H2
      obtain ⟨d, hd, hr⟩ := num_good HH.out H2
      have HD : Aside0 (text_digits.f k (wrap64 (-n)) = some d) := ⟨hd⟩
      clear H2 H HH hB hd
      by_cases hq : d.toList = s.toList
      · have d0 : (d.toList == s.toList) = true := beq_iff_eq.2 hq
        have d1 : (d.toList != s.toList) = false := bne_eq_false_iff_eq.2 hq
        rw [if_pos hq] at hr
        have HR : Aside0 (((wrap64 (-n)), (0 : Int)) = (r1, r2)) := ⟨hr⟩
        clear hr hq
        go_wp2_with (go_at_call 24; (with_reducible refine (text_digits.calls k (wrap64 (-n)) d _ HD.out).mono ?_); rintro e w3 ⟨rfl, hb⟩; have HB2 := Aside0.mk (below_step HB.out hb); clear hb)
        go_ret2
        obtain ⟨rfl, rfl⟩ := Prod.mk.inj HR.out
        exact ⟨rfl, HB2.out⟩
      · have d0 : (d.toList == s.toList) = false := beq_eq_false_iff_ne.2 hq
        have d1 : (d.toList != s.toList) = true := bne_iff_ne.2 hq
        rw [if_neg hq] at hr
        have HR := Aside0.mk hr
        clear hr hq
        go_wp2_with (go_at_call 24; (with_reducible refine (text_digits.calls k (wrap64 (-n)) d _ HD.out).mono ?_); rintro e w3 ⟨rfl, hb⟩; have HB2 := Aside0.mk (below_step HB.out hb); clear hb)
        go_ret2
        obtain ⟨rfl, rfl⟩ := Prod.mk.inj HR.out
        exact ⟨rfl, HB2.out⟩
theorem ext_tail (s : ByteArray) : (s.extract 1 s.size).data.toList = s.data.toList.tail := by
  rw [ByteArray.data_extract, Array.toList_extract, List.extract_eq_take_drop]
  have h : s.size = s.data.toList.length := by simp
  rw [h, ← List.drop_one, List.take_of_length_le (by simp)]
theorem numK.calls (k : Nat) (a0 : ByteArray) (r1 : Int) (r2 : Int) (w : World) (h : numK.f k a0 = some (r1, r2)) :
    Calls Try.prog 17 #[.string a0] w fun e w' => e = .returned (.tuple #[.int .i64 r1, .int .i64 r2]) ∧ Below w.heap.size w w' := by
  unfold numK.f at h
  by_cases hsz : a0.size ≤ 9223372036854775807
  · rw [if_pos hsz] at h
    by_cases hz : a0.size = 0
    · have hl : a0.data.toList = [] := by
        have : a0.data.toList.length = 0 := by rw [← hz]; simp
        exact List.length_eq_zero_iff.1 this
      rw [if_neg (by rw [hl]; simp)] at h
      exact number_none k a0 r1 r2 w hz h
    · have hp : 0 < a0.size := by omega
      have hh : a0.data.toList.head? = some (a0[0]'hp) := by
        rw [List.head?_eq_getElem?, List.getElem?_eq_getElem (by simpa using hp)]
        rfl
      rw [hh] at h
      by_cases hc : (a0[0]'hp) = 45
      · rw [hc, if_pos rfl, ← ext_tail] at h
        exact number_minus k a0 r1 r2 w hsz hp (fun _ => by rw [hc]; rfl) h
      · rw [if_neg (by simpa using hc)] at h
        exact number_plus k a0 r1 r2 w hsz hp ((a0[0]'hp).toNat : Int) (fun _ => rfl) (beq_eq_false_iff_ne.2 fun e => hc (UInt8.toNat_inj.1 (show (a0[0]).toNat = 45 by omega))) h
  · rw [if_neg hsz] at h
    cases h

end Go.Proofs.Ytldbochclabmjaa.P
