/- TypesFlow: the walk, by hand: what the law's own loop asks is told for each place. No conditions beyond those that each lemma states. -/
import Derived.Test.YtdhlhbhclggheaaPx2
import Derived.Test.YtdhlhbhclggheaaE3
import Derived.Deep.DeepCutAuto
import Derived.Deep.QuietTactic
import Derived.BigQuiet
namespace Go.Proofs.Ytdhlhbhclggheaa.P
open Go.RowKit Go.Proofs.YtdhlhbhclggheaaW.PrintWords Go.Proofs.YtdhlhbhclggheaaW.PrintLast Go.Proofs.YtdhlhbhclggheaaW.PrintMore
set_option linter.unusedVariables false
set_option linter.unusedSimpArgs false

theorem keepC {W W' : World} (hb : Below W.heap.size W W') {a : Addr} {v : Value} (h : W.cell? a = some v) : W'.cell? a = some v := (hb.cell (World.block_lt_of_cell? W _ h)).trans h
/-- What is left, and what is given, at a place. -/
def leftS (x : S37) (s : ByteArray) : ByteArray := s.extract 0 (s.size - (takesS x.f0 x.f1 x.f2).size) ++ givesS x.f0 x.f1 x.f2 (s.extract (s.size - (takesS x.f0 x.f1 x.f2).size) s.size)
structure FA (l : List S37) (ss : List ByteArray) (ms : List Int) (i : Nat) (x : S37) (s : ByteArray) : Prop where
  wf : (Lit.int .i64 x.f0).wf = true
  z16 : s.size ≤ 16
  le : (takesS x.f0 x.f1 x.f2).size ≤ s.size
  fall : x.f0 ≠ 19 → x.f0 ≠ 25 → i + 1 < l.length ∧ ss.getD (i + 1) ByteArray.empty = leftS x s
  lead : x.f0 = 19 ∨ x.f0 = 20 → ∃ t : Nat, t < l.length ∧ (i : Int) + 1 + x.f1 = t ∧ ss.getD t ByteArray.empty = leftS x s
  back : x.f0 = 22 → ∃ q : Nat, q < l.length ∧ ms.getD i 0 = (q : Int) ∧ ss.getD q ByteArray.empty = s
theorem known_call {k : Nat} (hk : 60 ≤ k) (w : World) : Calls Try.prog 8 #[] w fun e w' => e = .returned (.bool true) ∧ Below w.heap.size w w' :=
  camshaftlaw07_known.calls k true w (at_rounds camshaftlaw07_known.mono hk camshaftlaw07_known.run)
set_option maxHeartbeats 8000000 in
set_option maxRecDepth 100000 in
theorem flow_long {k : Nat} (hk : 60 ≤ k) (A0 : Option Addr) (c0 : Nat) (l0 : List S37) (w : World) (h : 200 < l0.length) :
    Calls Try.prog 4 #[.slice A0 l0.length c0] w fun e w' => e = .returned (.bool true) ∧ Below w.heap.size w w' := by
  have c1 : decide ((200 : Int) < (l0.length : Int)) = true := decide_eq_true (by omega)
  have c2 : decide (200 < l0.length) = true := decide_eq_true h
  clear h
  go_enter Try.func4, Try.ntmps4
  go_wp2_with (go_at_call 8; (with_reducible refine (known_call hk _).mono ?_); rintro e w1 ⟨rfl, hb⟩)
  go_ret
  exact ⟨rfl, hb⟩
set_option maxHeartbeats 8000000 in
set_option maxRecDepth 100000 in
theorem flow_wrong {k : Nat} (hk : 60 ≤ k) (A0 : Option Addr) (c0 : Nat) (l0 : List S37) (w : World) (hr0 : Kd.C k37 w A0 l0.length l0) (hc0 : l0.length ≤ c0) (h : l0.length ≤ 200) (er : Int) (he : er ≠ 0) (hs : types_Stacks.f k l0 = some ([], er)) :
    Calls Try.prog 4 #[.slice A0 l0.length c0] w fun e w' => e = .returned (.bool true) ∧ Below w.heap.size w w' := by
  have c1 : decide ((200 : Int) < (l0.length : Int)) = false := decide_eq_false (by omega)
  have c2 : decide (200 < l0.length) = false := decide_eq_false (by omega)
  have e1 : (er == 0) = false := beq_eq_false_iff_ne.2 he
  have e2 : (er != 0) = true := bne_iff_ne.2 he
  have HS := Aside0.mk hs
  clear h he hs
  go_enter Try.func4, Try.ntmps4
  go_wp2_with (first
    | (go_at_call 9; (with_reducible refine (types_Stacks.calls k A0 c0 l0 [] er _ hr0 hc0 HS.out).mono ?_); rintro e w1 ⟨v, rfl, hv, hb⟩; obtain ⟨A, c, hsl⟩ := Kd.R_slice hv; rw [List.length_nil] at hsl; subst hsl; have HB := Aside0.mk hb; clear hb hv)
    | (go_at_call 8; (with_reducible refine (known_call hk _).mono ?_); rintro e w2 ⟨rfl, hb⟩; replace HB := Aside0.mk (below_step HB.out hb); clear hb))
  go_ret
  exact ⟨rfl, HB.out⟩
theorem intOf_one (k : IntKind) (q : Int) : intOf (.int k q) = q := rfl
theorem ms_one {n i i1 : Nat} (hi : i < n) (h1 : i1 = i + 1) : ((n : Int) - (i1 : Int)).toNat < ((n : Int) - (i : Int)).toNat := by omega
set_option maxHeartbeats 16000000 in
set_option maxRecDepth 100000 in
theorem flow_good {k : Nat} (hk : 60 ≤ k) (A0 : Option Addr) (c0 : Nat) (l0 : List S37) (w : World) (hr0 : Kd.C k37 w A0 l0.length l0) (hc0 : l0.length ≤ c0) (h : l0.length ≤ 200) (hp : 0 < l0.length) (ss : List ByteArray) (ms : List Int)
    (hs : types_Stacks.f k l0 = some (ss, 0)) (hm : nest_Match.f k l0 = some (ms, 0)) (hsl : ss.length = l0.length) (hml : ms.length = l0.length) (hz : ss.getD 0 ByteArray.empty = ByteArray.empty) (hf : ∀ i, i < l0.length → FA l0 ss ms i (rd_T37 l0 (i : Int)) (ss.getD i ByteArray.empty)) :
    Calls Try.prog 4 #[.slice A0 l0.length c0] w fun e w' => e = .returned (.bool true) ∧ Below w.heap.size w w' := by
  have c1 : decide ((200 : Int) < (l0.length : Int)) = false := decide_eq_false (by omega)
  have c2 : decide (200 < l0.length) = false := decide_eq_false (by omega)
  have HS := Aside0.mk hs
  have HM := Aside0.mk hm
  have HR0 := Aside0.mk hr0
  have HC0 := Aside0.mk hc0
  have HL := Aside0.mk (And.intro hp (And.intro h (And.intro hsl hml)))
  have HZ := Aside0.mk hz
  have HF := Aside0.mk hf
  clear hs hm hr0 hc0 hz hf h hp hsl hml
  go_enter Try.func4, Try.ntmps4
  go_upto_region 7 with (first
    | (go_at_call 9; (with_reducible refine (types_Stacks.calls k A0 c0 l0 ss 0 _ HR0.out HC0.out HS.out).mono ?_); rintro e w1 ⟨v, rfl, hv, hb⟩; have HB := Aside0.mk hb; have HV := Aside0.mk hv; clear hb hv)
    | (go_at_call 14; (with_reducible refine (nest_Match.calls k A0 c0 l0 ms 0 _ (Kd.C_below HR0.out HB.out) HC0.out HM.out).mono ?_); rintro e w2 ⟨vm, rfl, hv, hb⟩; have HVM := Aside0.mk hv; replace HV := Aside0.mk (Kd.R_below HV.out hb); replace HB := Aside0.mk (below_step HB.out hb); clear hb hv))
  obtain ⟨gs, cs, rfl, hgs1, hgs2, hgsc⟩ := Kd.R_form HV.out (by rw [HL.out.2.2.1]; exact HL.out.1)
  obtain ⟨gm, cm, rfl, hgm1, hgm2, hgmc⟩ := Kd.R_form HVM.out (by rw [HL.out.2.2.2]; exact HL.out.1)
  clear hgs1 hgs2 hgsc hgm1 hgm2 hgmc
  have SC : Aside0 (∀ i, i < l0.length → w2.cell? ⟨gs, i, none⟩ = some (.string (ss.getD i ByteArray.empty))) := ⟨fun i hi => by
    have := (Kd.R_cell (d := ByteArray.empty) HV.out (i : Int) (by omega) (by rw [HL.out.2.2.1]; omega)).1
    simpa [rdOf] using this⟩
  have MC : Aside0 (∀ i, i < l0.length → w2.cell? ⟨gm, i, none⟩ = some (.int .i64 (ms.getD i 0))) := ⟨fun i hi => by
    have := (Kd.R_cell (d := (0 : Int)) HVM.out (i : Int) (by omega) (by rw [HL.out.2.2.2]; omega)).1
    simpa [rdOf] using this⟩
  clear HV HVM
  have n1 : ss.length = l0.length := HL.out.2.2.1
  have n2 : ms.length = l0.length := HL.out.2.2.2
  obtain ⟨n, hn⟩ : ∃ n, n = l0.length := ⟨_, rfl⟩
  rw [n1, n2, ← hn]
  have HN := Aside0.mk hn
  have p0 : ((0 : Int) < (n : Int)) = True := eq_true (by have := HL.out.1; omega)
  have p0' : (0 < n) = True := eq_true (by have := HL.out.1; omega)
  have s0 : w2.cell? ⟨gs, 0, none⟩ = some (.string ByteArray.empty) := by rw [SC.out 0 HL.out.1, HZ.out]
  clear n1 n2 hn
  go_wp2_with (fail)
  go_loopw [7] (fun v7 wr => ∃ (i : Nat), v7 = .int .i64 (i : Int) ∧ Aside0 (i ≤ n) ∧ Aside0 (Below w2.heap.size w2 wr))
    (fun v7 _ => ((n : Int) - intOf v7).toNat)
  case atStart => exact ⟨0, rfl, ⟨Nat.zero_le _⟩, ⟨Below.refl _ _⟩⟩
  case round =>
    clear s0
    obtain ⟨i, rfl, HI, HBr⟩ := hrel
    by_cases hi : i < n
    · have q1 : decide ((i : Int) < (n : Int)) = true := decide_eq_true (by omega)
      have q1' : decide (i < n) = true := decide_eq_true hi
      have q2 : ((i : Int) < (n : Int)) = True := eq_true (by omega)
      have q2' : (i < n) = True := eq_true hi
      have q3 : (0 ≤ (i : Int)) = True := eq_true (by omega)
      have HI2 := Aside0.mk hi
      have hiL : i < l0.length := by have := HN.out; omega
      have HIL := Aside0.mk hiL
      obtain ⟨x, hx⟩ : ∃ x, rd_T37 l0 (i : Int) = x := ⟨_, rfl⟩
      obtain ⟨s, hs⟩ : ∃ s, ss.getD i ByteArray.empty = s := ⟨_, rfl⟩
      have fa := HF.out i hiL
      rw [hx, hs] at fa
      have FAI := Aside0.mk fa
      obtain ⟨ad, e101, x0, x1, x2⟩ := at_T37 HR0.out (i : Int) (by omega) (by omega)
      cases e101
      rw [hx] at x0 x1 x2
      simp only [Int.toNat_natCast] at x0 x1 x2
      have HBw : Aside0 (Below w.heap.size w wr) := ⟨below_step HB.out HBr.out⟩
      replace x0 := keepC (below_step HB.out HBr.out) x0
      replace x1 := keepC (below_step HB.out HBr.out) x1
      replace x2 := keepC (below_step HB.out HBr.out) x2
      have si := keepC HBr.out (SC.out i hiL)
      have mi := Aside0.mk (keepC HBr.out (MC.out i hiL))
      rw [hs] at si
      obtain ⟨tk, htk⟩ : ∃ tk, tk = takesS x.f0 x.f1 x.f2 := ⟨_, rfl⟩
      have HTK : Aside0 (types_Takes.f x.f0 x.f1 x.f2 = some tk) := ⟨congrArg some htk.symm⟩
      obtain ⟨j, hj⟩ : ∃ j : Nat, j = s.size - tk.size := ⟨_, rfl⟩
      have hle := fa.le
      have hz16 := fa.z16
      rw [← htk] at hle
      have w1 : wrap64 ((s.size : Int) - tk.size) = (j : Int) := by rw [hj]; unfold wrap64; omega
      have w2' : IntKind.i64.wrap ((s.size : Int) - tk.size) = (j : Int) := (i64_w _).trans w1
      have r1 : decide ((j : Int) < 0) = false := decide_eq_false (by omega)
      have r2 : decide ((16 : Int) < (s.size : Int)) = false := decide_eq_false (by omega)
      have r2' : decide (16 < s.size) = false := decide_eq_false (by omega)
      have r3 : (0 ≤ (j : Int)) = True := eq_true (by omega)
      have r4 : ((j : Int) ≤ (s.size : Int)) = True := eq_true (by omega)
      have r4' : (j ≤ s.size) = True := eq_true (by omega)
      obtain ⟨g, hg⟩ : ∃ g, g = givesS x.f0 x.f1 x.f2 (s.extract j s.size) := ⟨_, rfl⟩
      have hgz := gives_size_le x.f0 x.f1 x.f2 (s.extract j s.size) (by rw [ByteArray.size_extract]; omega)
      rw [← hg] at hgz
      have HG : Aside0 (types_Gives.f x.f0 x.f1 x.f2 (s.extract j s.size) = some g) := ⟨by unfold types_Gives.f; rw [if_pos fa.wf, hg]⟩
      have hx1 : (s.extract 0 j).size = j := by rw [ByteArray.size_extract]; omega
      have d4 : (9223372036854775807 < j + g.size) = False := eq_false (by omega)
      have d5 : (9223372036854775807 < (s.extract 0 j).size + g.size) = False := eq_false (by rw [hx1]; omega)
      have HLS : Aside0 (leftS x s = s.extract 0 j ++ g) := ⟨by unfold leftS; rw [← htk, ← hj, hg]⟩
      clear hx hs fa htk hj hle hz16 hg hgz hx1 hi hiL
      go_upto_region 16 with (go_at_call 15; (with_reducible refine (types_Takes.calls x.f0 x.f1 x.f2 tk _ HTK.out).mono ?_); rintro e w3 ⟨rfl, hb⟩; replace x0 := keepC hb x0; replace x1 := keepC hb x1; replace x2 := keepC hb x2; replace si := keepC hb si; replace HBr := Aside0.mk (below_step HBr.out hb); replace HBw := Aside0.mk (below_step HBw.out hb); clear hb)
      go_cut [10] (fun v10 wx => v10 = .string (s.extract 0 j ++ g) ∧ Aside0 (Below w3.heap.size w3 wx))
      case first =>
        have HB3 := Aside0.mk (Below.refl w3.heap.size w3)
        go_region_with (go_at_call 16; (with_reducible refine (types_Gives.calls x.f0 x.f1 x.f2 _ g _ HG.out).mono ?_); rintro e w5 ⟨rfl, hb⟩; replace x0 := keepC hb x0; replace x1 := keepC hb x1; replace x2 := keepC hb x2; replace si := keepC hb si; replace HB3 := Aside0.mk (below_step (by first | exact HB3.out | exact HB3.out.drew) hb); clear hb)
        all_goals (go_wp2_with (fail); go_meet; exact ⟨rfl, HB3⟩)
      case rest =>
        obtain ⟨rfl, HB5⟩ := hcut
        replace x0 := keepC HB5.out x0
        replace x1 := keepC HB5.out x1
        replace si := keepC HB5.out si
        replace HBr := Aside0.mk (below_step HBr.out HB5.out)
        have MI := Aside0.mk (keepC HBr.out (MC.out i HIL.out))
        have hls := HLS.out
        clear mi HLS x2 w1 w2' r1 r2 r2' r3 r4 r4' d4 d5 HG HTK HB5 HBw
        generalize s.extract 0 j ++ g = X at hls ⊢
        have bX : (X.toList != X.toList) = false := by simp
        have bX' : (X.toList == X.toList) = true := beq_self_eq_true _
        have fa := FAI.out
        obtain ⟨i1, hi1⟩ : ∃ i1 : Nat, i1 = i + 1 := ⟨_, rfl⟩
        have wI : wrap64 ((i : Int) + 1) = (i1 : Int) := by have := HI2.out; have := HN.out; have := HL.out.2.1; rw [hi1]; unfold wrap64; omega
        have wI2 : IntKind.i64.wrap ((i : Int) + 1) = (i1 : Int) := (i64_w _).trans wI
        have HI1 := Aside0.mk hi1
        by_cases h19 : x.f0 = 19
        · rw [h19] at x0
          obtain ⟨tj, t1, t2, t3⟩ := fa.lead (.inl h19)
          have st := keepC HBr.out (SC.out tj t1)
          rw [t3, hls] at st
          have a1 : ((tj : Int) < (n : Int)) = True := eq_true (by have := HN.out; omega)
          have a2 : (tj < n) = True := eq_true (by have := HN.out; omega)
          have a3 : (0 ≤ (tj : Int)) = True := eq_true (by omega)
          have wT : wrap64 ((i1 : Int) + x.f1) = (tj : Int) := by have := HN.out; have := HL.out.2.1; rw [show (i1 : Int) + x.f1 = (tj : Int) by rw [hi1]; omega]; unfold wrap64; omega
          have wT2 : IntKind.i64.wrap ((i1 : Int) + x.f1) = (tj : Int) := (i64_w _).trans wT
          clear t1 t2 t3
          clear fa hi1 hls h19
          go_wp2_with (fail)
          go_quiet (fail)
          go_wp2_with (fail)
          have HBQ := Aside0.mk (pw_below_drewN HBr.out nq)
          go_roundw
          case measure => rw [intOf_one, intOf_one]; exact ms_one HI2.out HI1.out
          case rel => exact ⟨i1, rfl, ⟨by have := HI2.out; have := HI1.out; omega⟩, HBQ⟩
        by_cases h25 : x.f0 = 25
        · rw [h25] at x0
          clear fa hi1 hls h25 h19
          go_wp2_with (fail)
          go_quiet (fail)
          go_wp2_with (fail)
          have HBQ := Aside0.mk (pw_below_drewN HBr.out nq)
          go_roundw
          case measure => rw [intOf_one, intOf_one]; exact ms_one HI2.out HI1.out
          case rel => exact ⟨i1, rfl, ⟨by have := HI2.out; have := HI1.out; omega⟩, HBQ⟩
        obtain ⟨g1, g2⟩ := fa.fall h19 h25
        have sn := keepC HBr.out (SC.out (i + 1) g1)
        rw [g2, hls, ← hi1] at sn
        have b1 : ((i1 : Int) < (n : Int)) = True := eq_true (by have := HN.out; omega)
        have b2 : (i1 < n) = True := eq_true (by have := HN.out; omega)
        have b3 : (0 ≤ (i1 : Int)) = True := eq_true (by omega)
        clear g1 g2
        by_cases h20 : x.f0 = 20
        · rw [h20] at x0
          obtain ⟨tj, t1, t2, t3⟩ := fa.lead (.inr h20)
          have st := keepC HBr.out (SC.out tj t1)
          rw [t3, hls] at st
          have a1 : ((tj : Int) < (n : Int)) = True := eq_true (by have := HN.out; omega)
          have a2 : (tj < n) = True := eq_true (by have := HN.out; omega)
          have a3 : (0 ≤ (tj : Int)) = True := eq_true (by omega)
          have wT : wrap64 ((i1 : Int) + x.f1) = (tj : Int) := by have := HN.out; have := HL.out.2.1; rw [show (i1 : Int) + x.f1 = (tj : Int) by rw [hi1]; omega]; unfold wrap64; omega
          have wT2 : IntKind.i64.wrap ((i1 : Int) + x.f1) = (tj : Int) := (i64_w _).trans wT
          clear t1 t2 t3
          clear fa hi1 hls h20 h19 h25
          go_wp2_with (fail)
          go_quiet (fail)
          go_wp2_with (fail)
          have HBQ := Aside0.mk (pw_below_drewN HBr.out nq)
          go_roundw
          case measure => rw [intOf_one, intOf_one]; exact ms_one HI2.out HI1.out
          case rel => exact ⟨i1, rfl, ⟨by have := HI2.out; have := HI1.out; omega⟩, HBQ⟩
        by_cases h22 : x.f0 = 22
        · rw [h22] at x0
          obtain ⟨q, k1, k2, k3⟩ := fa.back h22
          have sq := keepC HBr.out (SC.out q k1)
          rw [k3] at sq
          have mi := MI.out
          rw [k2] at mi
          have z1 : ((q : Int) < (n : Int)) = True := eq_true (by have := HN.out; omega)
          have z2 : (q < n) = True := eq_true (by have := HN.out; omega)
          have z3 : (0 ≤ (q : Int)) = True := eq_true (by omega)
          have bs : (s.toList != s.toList) = false := by simp
          clear k1 k2 k3 fa hi1 hls h19 h20 h22 h25
          go_wp2_with (fail)
          go_quiet (fail)
          go_wp2_with (fail)
          have HBQ := Aside0.mk (pw_below_drewN HBr.out nq)
          go_roundw
          case measure => rw [intOf_one, intOf_one]; exact ms_one HI2.out HI1.out
          case rel => exact ⟨i1, rfl, ⟨by have := HI2.out; have := HI1.out; omega⟩, HBQ⟩
        have v19 : (x.f0 == 19) = false := beq_eq_false_iff_ne.2 h19
        have u19 : (x.f0 != 19) = true := bne_iff_ne.2 h19
        have v20 : (x.f0 == 20) = false := beq_eq_false_iff_ne.2 h20
        have v22 : (x.f0 == 22) = false := beq_eq_false_iff_ne.2 h22
        have v25 : (x.f0 == 25) = false := beq_eq_false_iff_ne.2 h25
        have u25 : (x.f0 != 25) = true := bne_iff_ne.2 h25
        clear fa hi1 hls h19 h20 h22 h25
        go_wp2_with (fail)
        go_quiet (fail)
        go_wp2_with (fail)
        have HBQ := Aside0.mk (pw_below_drewN HBr.out nq)
        go_roundw
        case measure => rw [intOf_one, intOf_one]; exact ms_one HI2.out HI1.out
        case rel => exact ⟨i1, rfl, ⟨by have := HI2.out; have := HI1.out; omega⟩, HBQ⟩
    · have q1 : decide ((i : Int) < (n : Int)) = false := decide_eq_false (by omega)
      have q1' : decide (i < n) = false := decide_eq_false hi
      clear hi
      go_wp2_with (go_at_call 8; (with_reducible refine (known_call hk _).mono ?_); rintro e w3 ⟨rfl, hb⟩; replace HBr := Aside0.mk (below_step HBr.out hb); clear hb)
      go_ret
      exact ⟨rfl, below_step HB.out HBr.out⟩
end Go.Proofs.Ytdhlhbhclggheaa.P
