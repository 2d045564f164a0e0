/- types.Stacks. No conditions. -/
import Derived.Test.YtdhlhbhclggheaaE5
import Derived.Test.YtdhlhbhclggheaaDx5
import Derived.Test.YtdhlhbhclggheaaDx4
namespace Go.Proofs.Ytdhlhbhclggheaa.P
open Go.RowKit Go.Maps Go.ChangeMaps Go.Proofs.Ytdhlhbhclggheaa.D Go.Proofs.YtdhlhbhclggheaaW.PrintWords Go.Proofs.YtdhlhbhclggheaaW.PrintLast Go.Proofs.YtdhlhbhclggheaaW.PrintMore
set_option linter.unusedVariables false
set_option linter.unusedSimpArgs false

theorem one_calls {W : World} {fb bo bs bc n gm ln cm : Nat} {F : Fl} (h : FLW W fb bo bs bc n F) (i : Nat) (hi : i < n) (hl : i < ln) (hn : n ≤ 1099511627776) (a b c m : Int) (hm : W.cell? ⟨gm, i, none⟩ = some (.int .i64 m)) (F' : Fl) (er : Int) (hf : oneF F i a b c m = some (F', er)) :
    Calls Try.prog 19 #[.pointer (some ⟨fb, 0, none⟩), .int .i64 (i : Int), .agg #[.int .i64 a, .int .i64 b, .int .i64 c], .slice (some ⟨gm, 0, none⟩) ln cm] W fun e W' => e = .returned (.int .i64 er) ∧ FLW W' fb bo bs bc n F' ∧ Fr bo bs bc W W' := by
  have hlo := h.lo
  unfold oneF at hf
  by_cases hs : F.s.getD i false = false
  · rw [if_pos hs] at hf
    cases hf
    exact one_p1 h i hi hl hn a b c m hm hs
  rw [if_neg hs] at hf
  have hs' : F.s.getD i false = true := by simpa using hs
  by_cases hc : F.c.getD i false = true
  · rw [if_pos hc] at hf
    cases hf
    exact one_p2 h i hi hl hn a b c m hm hs' hc
  rw [if_neg hc] at hf
  have hc' : F.c.getD i false = false := by simpa using hc
  have hG : (a = 22 → 0 ≤ m ∧ m < n ∧ F.o.getD m.toNat ByteArray.empty = F.o.getD i ByteArray.empty) → oneG F i a b c = some (F', er) → Calls Try.prog 19 #[.pointer (some ⟨fb, 0, none⟩), .int .i64 (i : Int), .agg #[.int .i64 a, .int .i64 b, .int .i64 c], .slice (some ⟨gm, 0, none⟩) ln cm] W fun e W' => e = .returned (.int .i64 er) ∧ FLW W' fb bo bs bc n F' ∧ Fr bo bs bc W W' := by
    intro h22 hg
    unfold oneG at hg
    by_cases hx : (F.o.getD i ByteArray.empty).size ≤ 16 ∧ (Lit.int .i64 a).wf = true
    · rw [if_pos hx] at hg
      obtain ⟨t, e0, hr⟩ : ∃ t e0, afterS a b c (F.o.getD i ByteArray.empty) = (t, e0) := ⟨_, _, rfl⟩
      rw [hr] at hg
      dsimp only at hg
      by_cases h0 : e0 = 0
      · rw [if_pos h0] at hg
        obtain ⟨F1, hF1, hg⟩ := Option.bind_eq_some_iff.1 hg
        obtain ⟨F2, hF2, hg⟩ := Option.bind_eq_some_iff.1 hg
        cases hg
        unfold fallF at hF1
        unfold leadF at hF2
        by_cases a19 : a = 19
        · rw [if_pos (.inl a19)] at hF1
          cases hF1
          rw [if_pos (.inl a19)] at hF2
          by_cases hb : 0 ≤ (i : Int) + 1 + b ∧ (i : Int) + 1 + b < F.o.length
          · rw [if_pos hb] at hF2
            cases hF2
            exact one_19 h i hi hl hn a b c m hm hs' hc' a19 hb.1 (by omega) hx.1 hx.2 t e0 hr h0
          · rw [if_neg hb] at hF2; cases hF2
        · by_cases a25 : a = 25
          · rw [if_pos (.inr a25)] at hF1
            cases hF1
            rw [if_neg (by omega)] at hF2
            cases hF2
            exact one_25 h i hi hl hn a b c m hm hs' hc' a25 hx.1 hx.2 t e0 hr h0
          · rw [if_neg (by omega)] at hF1
            by_cases hi1 : i + 1 < F.o.length
            · rw [if_pos hi1] at hF1
              cases hF1
              by_cases a20 : a = 20
              · rw [if_pos (.inr a20), handS_len] at hF2
                by_cases hb : 0 ≤ (i : Int) + 1 + b ∧ (i : Int) + 1 + b < F.o.length
                · rw [if_pos hb] at hF2
                  cases hF2
                  exact one_20 h i hi hl hn a b c m hm hs' hc' a20 hb.1 (by omega) (by omega) hx.1 hx.2 t e0 hr h0
                · rw [if_neg hb] at hF2; cases hF2
              · rw [if_neg (by omega)] at hF2
                cases hF2
                by_cases a22 : a = 22
                · obtain ⟨g1, g2, g3⟩ := h22 a22
                  exact one_B h i hi hl hn a b c m hm hs' hc' a22 g1 g2 g3 (by omega) hx.1 hx.2 t e0 hr h0
                · exact one_A h i hi hl hn a b c m hm hs' hc' a22 a19 a20 a25 (by omega) hx.1 hx.2 t e0 hr h0
            · rw [if_neg hi1] at hF1; cases hF1
      · rw [if_neg h0] at hg
        cases hg
        by_cases a22 : a = 22
        · obtain ⟨g1, g2, g3⟩ := h22 a22
          exact one_eB h i hi hl hn a b c m hm hs' hc' a22 g1 g2 g3 hx.1 hx.2 t er hr h0
        · exact one_eA h i hi hl hn a b c m hm hs' hc' a22 hx.1 hx.2 t er hr h0
    · rw [if_neg hx] at hg; cases hg
  by_cases a22 : a = 22
  · rw [if_pos a22] at hf
    by_cases hm2 : 0 ≤ m ∧ m < F.o.length
    · rw [if_pos hm2] at hf
      by_cases he : F.o.getD m.toNat ByteArray.empty = F.o.getD i ByteArray.empty
      · rw [if_pos he] at hf
        exact hG (fun _ => ⟨hm2.1, by omega, he⟩) hf
      · rw [if_neg he] at hf
        cases hf
        exact one_p3 h i hi hl hn a b c m hm hs' hc' a22 hm2.1 (by omega) he
    · rw [if_neg hm2] at hf; cases hf
  · rw [if_neg a22] at hf
    exact hG (fun h => absurd h a22) hf

/-! ### Stacks -/
def stkF : Fl → List S37 → List Int → Nat → Option (List ByteArray × Int)
  | F, [], _, _ => some (F.o, 0)
  | F, x :: xs, ms, i => (oneF F i x.f0 x.f1 x.f2 (ms.getD i 0)).bind fun r => if r.2 = 0 then stkF r.1 xs ms (i + 1) else some ([], r.2)
def flow0 (n : Nat) : Fl := ⟨List.replicate n ByteArray.empty, List.replicate n false, List.replicate n false⟩
def stacksF (k : Nat) (l : List S37) : Option (List ByteArray × Int) :=
  (nest_Whole.f k l).bind fun e => if e = 0 then (nest_Match.f k l).bind fun m =>
    if 0 < l.length ∧ m.1.length = l.length ∧ l.length ≤ 1000 then stkF (handS (flow0 l.length) 0 ByteArray.empty) l m.1 0 else none
  else some ([], e)
theorem infoS : (Try.prog.info? 9).map (fun i => (i.zero, i.size, i.bytes)) = some (some (.string ByteArray.empty), 1, 16) := by kernel_rfl
theorem infoB : (Try.prog.info? 4).map (fun i => (i.zero, i.size, i.bytes)) = some (some (.bool false), 1, 1) := by kernel_rfl
theorem made_one (z : Value) (hz : z.cells = #[z]) (n : Nat) : madeCells z.cells (n * 1) = Array.replicate n z := by
  rw [hz]
  apply Array.ext
  · simp [madeCells]
  · intro i h1 h2
    simp [madeCells, Nat.mod_one]
theorem mkO (W : World) (n : Nat) (hn : n ≤ 1000) : (Instr.makeSlice 24 (.int .i64 (n : Int)) (.int .i64 (n : Int))).run Try.prog W = .ok (.slice (some ⟨W.heap.size, 0, none⟩) n n) (W.alloc (.cells (Array.replicate n (.string ByteArray.empty)) 9)) := by
  obtain ⟨i, hi, h3⟩ := Option.map_eq_some_iff.1 infoS
  simp only [Prod.mk.injEq] at h3
  have := run_makeSlice (P := Try.prog) (w := W) 24 9 i (.string ByteArray.empty) Try.underlying24 hi h3.1 .i64 .i64 (n : Int) (n : Int) (by omega) (by omega) (by rw [h3.2.1]; simp; omega) (by rw [h3.2.2]; omega) (by omega)
  rw [this, h3.2.1]
  simp only [Int.toNat_natCast]
  rw [made_one _ rfl]
theorem mkB (W : World) (n : Nat) (hn : n ≤ 1000) : (Instr.makeSlice 40 (.int .i64 (n : Int)) (.int .i64 (n : Int))).run Try.prog W = .ok (.slice (some ⟨W.heap.size, 0, none⟩) n n) (W.alloc (.cells (Array.replicate n (.bool false)) 4)) := by
  obtain ⟨i, hi, h3⟩ := Option.map_eq_some_iff.1 infoB
  simp only [Prod.mk.injEq] at h3
  have := run_makeSlice (P := Try.prog) (w := W) 40 4 i (.bool false) Try.underlying40 hi h3.1 .i64 .i64 (n : Int) (n : Int) (by omega) (by omega) (by rw [h3.2.1]; simp; omega) (by rw [h3.2.2]; omega) (by omega)
  rw [this, h3.2.1]
  simp only [Int.toNat_natCast]
  rw [made_one _ rfl]
theorem bldF (W : World) (a b c n1 n2 n3 m1 m2 m3 : Nat) : (Instr.build 45 #[(0, .slice (some ⟨a, 0, none⟩) n1 m1), (1, .slice (some ⟨b, 0, none⟩) n2 m2), (2, .slice (some ⟨c, 0, none⟩) n3 m3)]).run Try.prog W = .ok (.agg #[.slice (some ⟨a, 0, none⟩) n1 m1, .slice (some ⟨b, 0, none⟩) n2 m2, .slice (some ⟨c, 0, none⟩) n3 m3]) W := run_build W 45 _ _ (by kernel_rfl)
theorem alloc_new (W : World) (o : Obj) : (W.alloc o).heap[W.heap.size]? = some o := by
  show (W.heap.push o)[W.heap.size]? = some o
  simp
theorem Fr.toBelow {bo bs bc B : Nat} {w W W' : World} (h : Below B w W) (k : Fr bo bs bc W W') (hB : B ≤ W.heap.size) (h1 : B ≤ bo) (h2 : B ≤ bs) (h3 : B ≤ bc) : Below B w W' :=
  ⟨k.os.trans h.os, k.tape.trans h.tape, k.output.trans h.output, Nat.le_trans h.size k.size, fun i hi => (k.block i (by omega) (by omega) (by omega) (by omega)).trans (h.block i hi)⟩
theorem FLW.result {W : World} {fb bo bs bc n base : Nat} {F : Fl} (h : FLW W fb bo bs bc n F) (hb : base ≤ bo) (hn : n ≤ 1000) : Kd.R Kd.string 9 W base (fun _ => True) (.slice (some ⟨bo, 0, none⟩) n n) F.o := by
  refine Kd.R_of_own (enc := Value.string) ?_ (fun _ _ => trivial)
  refine ⟨by simp [encs], .inr ⟨bo, n, _, by rw [h.lo], hb, h.o, by rw [h.lo]; exact Nat.le_refl _, by unfold maxLen; omega, by simp [h.lo], by simp only [encs, List.toList_toArray, Nat.mul_one]; exact List.take_of_length_le (by simp)⟩⟩
theorem Fr.gm {bo bs bc : Nat} {W W1 : World} (h : Fr bo bs bc W W1) {k j : Nat} {v : Value} (h1 : k < bo) (h2 : k < bs) (h3 : k < bc) (hc : W.cell? ⟨k, j, none⟩ = some v) : W1.cell? ⟨k, j, none⟩ = some v :=
  (World.cell?_of_block (w := W) (w' := W1) (a := ⟨k, j, none⟩) (h.block k (cell_lt hc) (by omega) (by omega) (by omega))).trans hc
theorem four (W : World) (a b c d : Obj) : ((((W.alloc a).alloc b).alloc c).alloc d).heap[W.heap.size]? = some a ∧ ((((W.alloc a).alloc b).alloc c).alloc d).heap[W.heap.size + 1]? = some b ∧
    ((((W.alloc a).alloc b).alloc c).alloc d).heap[W.heap.size + 1 + 1]? = some c ∧ ((((W.alloc a).alloc b).alloc c).alloc d).heap[W.heap.size + 1 + 1 + 1]? = some d ∧ Below W.heap.size W ((((W.alloc a).alloc b).alloc c).alloc d) := by
  have hp : ∀ {W : World} {k : Nat} {o : Obj} (h : W.heap[k]? = some o) (p : Obj), (W.alloc p).heap[k]? = some o := fun h p => (Below.heap_alloc _ p _ (Array.getElem?_eq_some_iff.1 h).1).trans h
  have n0 : ∀ (W : World) o, (W.alloc o).heap.size = W.heap.size + 1 := fun W o => World.size_alloc W o
  refine ⟨hp (hp (hp (alloc_new _ _) _) _) _, hp (hp (by have := alloc_new (W.alloc a) b; rwa [n0] at this) _) _, hp (by have := alloc_new ((W.alloc a).alloc b) c; rwa [n0, n0] at this) _, ?_, below_alloc (below_alloc (below_alloc (below_alloc (Below.refl _ _) _) _) _) _⟩
  have := alloc_new (((W.alloc a).alloc b).alloc c) d
  rwa [n0, n0, n0] at this
theorem rowsO (n : Nat) : Array.replicate n (Value.string ByteArray.empty) = ((flow0 n).o.map .string).toArray := by simp [flow0]
theorem rowsS (n : Nat) : Array.replicate n (Value.bool false) = ((flow0 n).s.map .bool).toArray := by simp [flow0]
theorem rowsC (n : Nat) : Array.replicate n (Value.bool false) = ((flow0 n).c.map .bool).toArray := by simp [flow0]
theorem intOf_int (k : IntKind) (q : Int) : intOf (.int k q) = q := rfl
theorem ms_lt {n i : Nat} (hi : i < n) (hw : wrap64 ((i : Int) + 1) = (i : Int) + 1) : ((n : Int) - wrap64 ((i : Int) + 1)).toNat < ((n : Int) - (i : Int)).toNat := by
  rw [hw]; omega
set_option maxHeartbeats 8000000 in
theorem stacks_calls (k : Nat) (A0 : Option Addr) (c0 : Nat) (l : List S37) (r : List ByteArray × Int) (w : World) (hr0 : Kd.C k37 w A0 l.length l) (hc0 : l.length ≤ c0) (h : stacksF k l = some r) :
    Calls Try.prog 9 #[.slice A0 l.length c0] w fun e w' => ∃ v0_ : Value, e = .returned (.tuple #[v0_, .int .i64 r.2]) ∧ Kd.R Kd.string 9 w' w.heap.size (fun _ => True) v0_ r.1 ∧ Below w.heap.size w w' := by
  unfold stacksF at h
  obtain ⟨ew, hew, h⟩ := Option.bind_eq_some_iff.1 h
  have HR0 := Aside0.mk hr0
  have HC0 := Aside0.mk hc0
  have HEW := Aside0.mk hew
  clear hr0 hc0 hew
  by_cases he : ew = 0
  · rw [if_pos he] at h
    subst he
    obtain ⟨⟨ms, em⟩, hms, h⟩ := Option.bind_eq_some_iff.1 h
    dsimp only at h
    by_cases hl : 0 < l.length ∧ ms.length = l.length ∧ l.length ≤ 1000
    · rw [if_pos hl] at h
      have HMS := Aside0.mk hms
      have HL := Aside0.mk hl
      have H := Aside0.mk h
      clear hms hl h
      go_enter Try.func9, Try.ntmps9
      go_wp2_with (first
        | (go_at_call 17; (with_reducible refine (nest_Whole.calls k A0 c0 l 0 _ HR0.out HC0.out HEW.out).mono ?_); rintro e w1 ⟨rfl, hb⟩; have HB := Aside0.mk hb)
        | (go_at_call 14; (with_reducible refine (nest_Match.calls k A0 c0 l ms em _ (Kd.C_below HR0.out HB.out) HC0.out HMS.out).mono ?_); rintro e w2 ⟨vm, rfl, hvm, hb2⟩; have HVM := Aside0.mk hvm; replace HB := Aside0.mk (below_step HB.out hb2); clear hvm hb2))
      obtain ⟨gm, cm, rfl, hgm1, hgm2, hgmc⟩ := Kd.R_form HVM.out (by rw [HL.out.2.1]; exact HL.out.1)
      have hmO := fun W => mkO W l.length HL.out.2.2
      have hmB := fun W => mkB W l.length HL.out.2.2
      have hbF := bldF
      go_cut [7] (fun v7 wx => ∃ fb bo bs bc, v7 = .pointer (some ⟨fb, 0, none⟩) ∧ Aside0 (FLW wx fb bo bs bc l.length (flow0 l.length) ∧ w2.heap.size ≤ bo ∧ w2.heap.size ≤ bs ∧ w2.heap.size ≤ bc ∧ Below w2.heap.size w2 wx))
      case first =>
        go_region_with (fail)
        all_goals (go_wp2_with (fail); go_meet)
        all_goals (
          obtain ⟨h1, h2, h3, h4, hb5⟩ := four w2 _ _ _ _
          refine ⟨_, _, _, _, rfl, ⟨⟨h4, ?_, ?_, ?_, by simp [flow0], by simp [flow0], by simp [flow0], by omega⟩, by omega, by omega, by omega, hb5.drew⟩⟩
          · rw [← rowsO]; first | exact h1 | exact h2 | exact h3
          · rw [← rowsS]; first | exact h1 | exact h2 | exact h3
          · rw [← rowsC]; first | exact h3 | exact h2 | exact h1)
      case rest =>
        obtain ⟨fb, bo, bs, bc, rfl, HF⟩ := hcut
        have HMC : Aside0 (∀ i, i < l.length → w2.cell? ⟨gm, i, none⟩ = some (.int .i64 (ms.getD i 0))) := ⟨fun i hi => by
          have := (Kd.R_cell (d := (0 : Int)) HVM.out (i : Int) (by omega) (by rw [HL.out.2.1]; omega)).1
          simpa [rdOf] using this⟩
        have GM := Aside0.mk hgm2
        have hw2 := HB.out.size
        have H2 : Aside0 (w.heap.size ≤ w2.heap.size) := ⟨hw2⟩
        clear HVM hmO hmB hbF hgm1 hgm2 hgmc hw2
        go_wp2_with (go_at_call 18; (with_reducible refine (hand_to HF.out.1 0 0 rfl HL.out.1 (⟨#[]⟩ : ByteArray)).mono ?_); rintro e w3 ⟨rfl, hl3, hf3⟩; have HFL := Aside0.mk hl3; have HFr := Aside0.mk hf3; clear hl3 hf3)
        go_loopw [36] (fun v36 wr => ∃ (i : Nat) (F : Fl), v36 = .int .i64 (i : Int) ∧ Aside0 (i ≤ l.length ∧ stkF F (l.drop i) ms i = some r) ∧ Aside0 (FLW wr fb bo bs bc l.length F) ∧ Aside0 (Fr bo bs bc wc wr))
          (fun v36 _ => ((l.length : Int) - intOf v36).toNat)
        case atStart => exact ⟨0, _, rfl, ⟨Nat.zero_le _, by rw [List.drop_zero]; exact H.out⟩, HFL, HFr⟩
        case round =>
          obtain ⟨i, F, rfl, HA, HL1, HF1⟩ := hrel
          have HBw : Aside0 (Below w.heap.size w wr) := ⟨by
            have h5 := HF.out.2.2.2.2
            have h6 := h5.size
            have h7 := H2.out
            have h8 : Below w.heap.size w2 wr := (h5.mono h7).trans (Fr.toBelow (B := w.heap.size) (w := wc) (Below.refl _ _) HF1.out (by omega) (by have := HF.out.2.1; omega) (by have := HF.out.2.2.1; omega) (by have := HF.out.2.2.2.1; omega))
            exact HB.out.trans h8⟩
          by_cases hi : i < l.length
          · have c1 : decide ((i : Int) < (l.length : Int)) = true := decide_eq_true (by omega)
            have c2 : ((i : Int) < (l.length : Int)) = True := eq_true (by omega)
            have c3 : (0 ≤ (i : Int)) = True := eq_true (by omega)
            have c4 : decide (0 ≤ (i : Int)) = true := decide_eq_true (by omega)
            have hw : wrap64 ((i : Int) + 1) = (i : Int) + 1 := by have := HL.out; unfold wrap64; omega
            obtain ⟨ad, e101, x0, x1, x2⟩ := at_T37 HR0.out (i : Int) (by omega) (by omega)
            cases e101
            obtain ⟨x, hx⟩ : ∃ x, rd_T37 l (i : Int) = x := ⟨_, rfl⟩
            rw [hx] at x0 x1 x2
            simp only [Int.toNat_natCast] at x0 x1 x2
            have hmem : l.drop i = x :: l.drop (i + 1) := by
              rw [← hx]
              have : rd_T37 l (i : Int) = l[i] := by unfold rd_T37; simp [List.getD, hi]
              rw [this]
              exact (List.drop_eq_getElem_cons hi)
            replace x0 := (HBw.out.cell (World.block_lt_of_cell? w _ x0)).trans x0
            replace x1 := (HBw.out.cell (World.block_lt_of_cell? w _ x1)).trans x1
            replace x2 := (HBw.out.cell (World.block_lt_of_cell? w _ x2)).trans x2
            have HS := HA.out.2
            rw [hmem] at HS
            unfold stkF at HS
            obtain ⟨⟨F', er⟩, hone, HS⟩ := Option.bind_eq_some_iff.1 HS
            dsimp only at HS
            have HONE := Aside0.mk hone
            have HI := Aside0.mk hi
            have HHW := Aside0.mk hw
            have HMI : Aside0 (wr.cell? ⟨gm, i, none⟩ = some (.int .i64 (ms.getD i 0))) := ⟨by
              have h9 := GM.out
              have h5 := HF.out.2.2.2.2
              have := HF1.out.gm (by have := HF.out.2.1; omega) (by have := HF.out.2.2.1; omega) (by have := HF.out.2.2.2.1; omega) ((h5.cell (p := ⟨gm, i, none⟩) h9).trans (HMC.out i hi))
              exact this⟩
            clear hone hmem hx hi hw HA
            by_cases h0 : er = 0
            · rw [if_pos h0] at HS
              subst h0
              have HS2 := Aside0.mk HS
              clear HS
              go_wp2_with (go_at_call 19; (have hone := (one_calls (ln := ms.length) (cm := cm) (HL1.out.below (below_alloc (Below.refl _ _) (.cells #[.int .i64 x.f0, .int .i64 x.f1, .int .i64 x.f2] 37))) i HI.out (by have := HL.out.2.1; have := HI.out; omega) (by have := HL.out.2.2; omega) x.f0 x.f1 x.f2 (ms.getD i 0) (keeps_below (below_alloc (Below.refl _ _) _) _ _ _ HMI.out) F' 0 HONE.out)); refine hone.mono ?_; clear hone; rintro e w4 ⟨rfl, hl4, hf4⟩; have HL4 := Aside0.mk hl4; have HF4 := Aside0.mk ((HF1.out.below (below_alloc (Below.refl _ _) _)).trans hf4); clear hl4 hf4)
              go_roundw
              case measure => rw [intOf_int, intOf_int]; exact ms_lt HI.out HHW.out
              case rel => exact ⟨i + 1, F', congrArg (Value.int .i64) (by first | exact HHW.out | exact HHW.out.trans (Int.natCast_succ i).symm), ⟨HI.out, HS2.out⟩, HL4, HF4⟩
            · rw [if_neg h0] at HS
              have HS2 := Aside0.mk (Option.some.inj HS)
              have e1 : (er == 0) = false := beq_eq_false_iff_ne.2 h0
              have e2 : (er != 0) = true := bne_iff_ne.2 h0
              clear HS h0
              go_wp2_with (go_at_call 19; (have hone := (one_calls (ln := ms.length) (cm := cm) (HL1.out.below (below_alloc (Below.refl _ _) (.cells #[.int .i64 x.f0, .int .i64 x.f1, .int .i64 x.f2] 37))) i HI.out (by have := HL.out.2.1; have := HI.out; omega) (by have := HL.out.2.2; omega) x.f0 x.f1 x.f2 (ms.getD i 0) (keeps_below (below_alloc (Below.refl _ _) _) _ _ _ HMI.out) F' er HONE.out)); refine hone.mono ?_; clear hone; rintro e w4 ⟨rfl, hl4, hf4⟩; have HL4 := Aside0.mk hl4; have HF4 := Aside0.mk ((HF1.out.below (below_alloc (Below.refl _ _) _)).trans hf4); clear hl4 hf4)
              go_ret2
              refine ⟨.slice none 0 0, by rw [← HS2.out]; rfl, by rw [← HS2.out]; exact Kd.R_nil _ _ _ _ _, ?_⟩
              have h5 := HF.out.2.2.2.2
              have h6 := h5.size
              have h7 := H2.out
              have h8 : Below w.heap.size w2 w4 := (h5.mono h7).trans (Fr.toBelow (B := w.heap.size) (w := wc) (Below.refl _ _) HF4.out (by omega) (by have := HF.out.2.1; omega) (by have := HF.out.2.2.1; omega) (by have := HF.out.2.2.2.1; omega))
              exact HB.out.trans h8
          · have c1 : decide ((i : Int) < (l.length : Int)) = false := decide_eq_false (by omega)
            have c1n : decide (i < l.length) = false := decide_eq_false hi
            have hS := HA.out.2
            rw [List.drop_eq_nil_of_le (by omega)] at hS
            have hr : (F.o, 0) = r := Option.some.inj hS
            have HR := Aside0.mk hr
            have f0 := cell_of (j := 0) HL1.out.f rfl
            clear hS hr hi HA
            go_wp2_with (fail)
            go_ret2
            refine ⟨.slice (some ⟨bo, 0, none⟩) l.length l.length, by rw [← HR.out]; rfl, ?_, HBw.out⟩
            rw [← HR.out]
            exact HL1.out.result (by have := HF.out.2.1; have := H2.out; omega) HL.out.2.2
    · rw [if_neg hl] at h; cases h
  · rw [if_neg he] at h
    cases h
    have e1 : (ew == 0) = false := beq_eq_false_iff_ne.2 he
    have e2 : (ew != 0) = true := bne_iff_ne.2 he
    clear he
    go_enter Try.func9, Try.ntmps9
    go_wp2_with (go_at_call 17; (with_reducible refine (nest_Whole.calls k A0 c0 l ew _ HR0.out HC0.out HEW.out).mono ?_); rintro e w1 ⟨rfl, hb⟩)
    go_ret2
    exact ⟨_, rfl, Kd.R_nil _ _ _ _ _, hb⟩
theorem stacksF_mono (l : List S37) (k : Nat) : LeO (stacksF k l) (stacksF (k + 1) l) := by
  unfold stacksF
  refine LeO.bind (nest_Whole.mono _ _) (fun _ => LeO.ite (LeO.bind (nest_Match.mono _ _) (fun _ => LeO.refl _)) (LeO.refl _))
end Go.Proofs.Ytdhlhbhclggheaa.P
