/- text.one: the instruction of a line; for every line. No conditions. -/
import Derived.Test.YtldbochclabmjaaG10
namespace Go.Proofs.Ytldbochclabmjaa.P
open Go.RowKit Go.Shelf Go.Proofs.Ytldbochclabmjaa.C Go.Proofs.YtldbochclabmjaaW.PrintWords Go.Proofs.YtldbochclabmjaaW.PrintLast Go.Proofs.YtldbochclabmjaaW.PrintMore
set_option linter.unusedVariables false
set_option linter.unusedSimpArgs false

attribute [local go_sem] Oper.semAt_some

theorem hp_alloc {W : World} {k : Nat} {o : Obj} (h : W.heap[k]? = some o) (p : Obj) : (W.alloc p).heap[k]? = some o := (Below.heap_alloc W p k (pk_lt h)).trans h
theorem one_start (s : ByteArray) (w : World) :
    OneAt w.heap.size ((((((w.alloc (.cells #[.int .i64 0, .int .i64 0, .int .i64 0] 24)).alloc (.cells #[.int .i64 0] 29)).alloc (.cells #[.int .i64 0, .int .i64 0, .int .i64 0] 24)).alloc (.cells #[.int .i64 (-1)] 3)).alloc (.cells #[.string s] 9)).alloc (.cells #[.int .u8 32] 5)) 0 0 0 0 0 0 0 (-1) ∧
    Below w.heap.size w ((((((w.alloc (.cells #[.int .i64 0, .int .i64 0, .int .i64 0] 24)).alloc (.cells #[.int .i64 0] 29)).alloc (.cells #[.int .i64 0, .int .i64 0, .int .i64 0] 24)).alloc (.cells #[.int .i64 (-1)] 3)).alloc (.cells #[.string s] 9)).alloc (.cells #[.int .u8 32] 5)) ∧
    ((((((w.alloc (.cells #[.int .i64 0, .int .i64 0, .int .i64 0] 24)).alloc (.cells #[.int .i64 0] 29)).alloc (.cells #[.int .i64 0, .int .i64 0, .int .i64 0] 24)).alloc (.cells #[.int .i64 (-1)] 3)).alloc (.cells #[.string s] 9)).alloc (.cells #[.int .u8 32] 5)).heap.size = w.heap.size + 1 + 1 + 1 + 1 + 1 + 1 ∧
    ((((((w.alloc (.cells #[.int .i64 0, .int .i64 0, .int .i64 0] 24)).alloc (.cells #[.int .i64 0] 29)).alloc (.cells #[.int .i64 0, .int .i64 0, .int .i64 0] 24)).alloc (.cells #[.int .i64 (-1)] 3)).alloc (.cells #[.string s] 9)).alloc (.cells #[.int .u8 32] 5)).cell? ⟨w.heap.size + 1 + 1 + 1 + 1, 0, none⟩ = some (.string s) ∧
    ((((((w.alloc (.cells #[.int .i64 0, .int .i64 0, .int .i64 0] 24)).alloc (.cells #[.int .i64 0] 29)).alloc (.cells #[.int .i64 0, .int .i64 0, .int .i64 0] 24)).alloc (.cells #[.int .i64 (-1)] 3)).alloc (.cells #[.string s] 9)).alloc (.cells #[.int .u8 32] 5)).cell? ⟨w.heap.size + 1 + 1 + 1 + 1 + 1, 0, none⟩ = some (.int .u8 32) := by
  have n0 : ∀ o, (w.alloc o).heap.size = w.heap.size + 1 := fun o => World.size_alloc w o
  have n1 : ∀ o p, ((w.alloc o).alloc p).heap.size = w.heap.size + 1 + 1 := fun o p => by rw [World.size_alloc, n0]
  have n2 : ∀ o p q, (((w.alloc o).alloc p).alloc q).heap.size = w.heap.size + 1 + 1 + 1 := fun o p q => by rw [World.size_alloc, n1]
  have n3 : ∀ o p q r, ((((w.alloc o).alloc p).alloc q).alloc r).heap.size = w.heap.size + 1 + 1 + 1 + 1 := fun o p q r => by rw [World.size_alloc, n2]
  have n4 : ∀ o p q r u, (((((w.alloc o).alloc p).alloc q).alloc r).alloc u).heap.size = w.heap.size + 1 + 1 + 1 + 1 + 1 := fun o p q r u => by rw [World.size_alloc, n3]
  have n5 : ∀ o p q r u v, ((((((w.alloc o).alloc p).alloc q).alloc r).alloc u).alloc v).heap.size = w.heap.size + 1 + 1 + 1 + 1 + 1 + 1 := fun o p q r u v => by rw [World.size_alloc, n4]
  refine ⟨⟨?_, ?_, ?_, ?_⟩, ?_, n5 _ _ _ _ _ _, ?_, ?_⟩
  · exact hp_alloc (hp_alloc (hp_alloc (hp_alloc (hp_alloc (World.alloc_heap_new w _) _) _) _) _) _
  · exact hp_alloc (hp_alloc (hp_alloc (hp_alloc (by have := World.alloc_heap_new (w.alloc (.cells #[.int .i64 0, .int .i64 0, .int .i64 0] 24)) (.cells #[.int .i64 0] 29); rwa [n0] at this) _) _) _) _
  · exact hp_alloc (hp_alloc (hp_alloc (by have := World.alloc_heap_new ((w.alloc (.cells #[.int .i64 0, .int .i64 0, .int .i64 0] 24)).alloc (.cells #[.int .i64 0] 29)) (.cells #[.int .i64 0, .int .i64 0, .int .i64 0] 24); rwa [n1] at this) _) _) _
  · exact hp_alloc (hp_alloc (by have := World.alloc_heap_new (((w.alloc (.cells #[.int .i64 0, .int .i64 0, .int .i64 0] 24)).alloc (.cells #[.int .i64 0] 29)).alloc (.cells #[.int .i64 0, .int .i64 0, .int .i64 0] 24)) (.cells #[.int .i64 (-1)] 3); rwa [n2] at this) _) _
  · exact (((((((Below.refl _ w).alloc (Nat.le_refl _) _).alloc (by rw [n0]; omega) _).alloc (by rw [n1]; omega) _).alloc (by rw [n2]; omega) _).alloc (by rw [n3]; omega) _).alloc (by rw [n4]; omega) _)
  · exact blk_c (j := 0) (hp_alloc (by have := World.alloc_heap_new ((((w.alloc (.cells #[.int .i64 0, .int .i64 0, .int .i64 0] 24)).alloc (.cells #[.int .i64 0] 29)).alloc (.cells #[.int .i64 0, .int .i64 0, .int .i64 0] 24)).alloc (.cells #[.int .i64 (-1)] 3)) (.cells #[.string s] 9); rwa [n3] at this) _)
  · exact blk_c (j := 0) (by have := World.alloc_heap_new (((((w.alloc (.cells #[.int .i64 0, .int .i64 0, .int .i64 0] 24)).alloc (.cells #[.int .i64 0] 29)).alloc (.cells #[.int .i64 0, .int .i64 0, .int .i64 0] 24)).alloc (.cells #[.int .i64 (-1)] 3)).alloc (.cells #[.string s] 9)) (.cells #[.int .u8 32] 5); rwa [n4] at this)
/-- One round's steps: what is no cells lies as it lay, and the boxes, and all that was there ahead of the call. -/
structure Stp (w : World) (B nb : Nat) (W W' : World) : Prop where mk ::
  (a : KeepsOthers W W') (k : KeepsAt B W W') (b : Below w.heap.size w W') (z : W.heap.size ≤ W'.heap.size)
theorem Stp.refl {w W : World} (B nb : Nat) (h : Below w.heap.size w W) : Stp w B nb W W := ⟨KeepsOthers.refl _, KeepsAt.refl _ _, h, Nat.le_refl _⟩
theorem Stp.set {w W W1 : World} {B nb : Nat} (h : Stp w B nb W W1) (b j : Nat) (v : Value) (h1 : w.heap.size ≤ b) (h2 : b < B) : Stp w B nb W (W1.setCell ⟨b, j, none⟩ v) :=
  ⟨h.a.trans (KeepsOthers.setCell _ _ _), h.k.t (KeepsAt.set _ _ h2), h.b.setCell (p := ⟨b, j, none⟩) h1 _, Nat.le_trans h.z (KeepsWalks.setCell W1 _ v).size⟩
theorem Stp.call {w W W1 W2 : World} {B nb : Nat} (h : Stp w B nb W W1) (hs : B + 1 < W.heap.size) (hb : Below W1.heap.size W1 W2) : Stp w B nb W W2 :=
  ⟨h.a.trans (KeepsOthers.of_below hb), h.k.t (KeepsAt.below (Nat.lt_of_lt_of_le hs h.z) hb), below_step h.b hb, Nat.le_trans h.z hb.size⟩
theorem Stp.drew {w W W1 : World} {B nb : Nat} (h : Stp w B nb W W1) : Stp w B nb W W1.drew :=
  ⟨h.a.trans (KeepsOthers.drew _), h.k.t ⟨rfl, rfl⟩, h.b.drew, h.z⟩
/-- What holds between two words. -/
def OneI (w : World) (pre : List Part) (W : World) : Prop := (∃ o x y, lineOf pre = some (o, x, y) ∧ OneAt w.heap.size W 0 0 0 0 o x y ((pre.length : Int) - 1) ∧ w.heap.size + 6 ≤ W.heap.size) ∧ Below w.heap.size w W
/-- Where a word has ended all. -/
def OneX (w : World) (c : Code) (pre : List Part) (W : World) : Prop := (c = .ret ∧ lineOf pre = none ∧ ∃ o x y n, OneAt w.heap.size W 0 0 0 3 o x y n) ∧ Below w.heap.size w W
theorem oneI_own (w : World) (B : Nat) (hB : w.heap.size ≤ B) : OwnFrom B (OneI w) :=
  OwnFrom.and (Own.from (fun s A B row hs hg hr => by obtain ⟨o, x, y, h, hA, hz⟩ := hs; exact ⟨o, x, y, h, hA.kept hg hr, Nat.le_trans hz hg.size⟩) _) (ownFrom_below (Nat.le_refl _) hB)
theorem oneX_own (w : World) (B : Nat) (hB : w.heap.size ≤ B) (c : Code) : OwnFrom B (OneX w c) :=
  OwnFrom.and (Own.from (fun s A B row hs hg hr => by obtain ⟨hc, h, o, x, y, n, hA⟩ := hs; exact ⟨hc, h, o, x, y, n, hA.kept hg hr⟩) _) (ownFrom_below (Nat.le_refl _) hB)
set_option maxHeartbeats 4000000 in
set_option maxRecDepth 100000 in
theorem one_calls (s : ByteArray) (hsz : s.size ≤ 9223372036854775807) (w : World) :
    Calls Try.prog 30 #[.string s] w fun e w' => e = .returned (.tuple #[.agg #[.int .i64 (oneS s).1.1, .int .i64 (oneS s).1.2.1, .int .i64 (oneS s).1.2.2], .int .i64 (oneS s).2]) ∧ Below w.heap.size w w' := by
  refine (callsIn_wide (n := 6)).1 ?_
  refine callsIn_of_wp_marks Try.func30 rfl trivial ?_ rfl
  simp only [Try.ntmps30, List.size_toArray, List.length_cons, List.length_nil, Nat.reduceAdd, Nat.reduceSub, Array.replicate_succ, Array.replicate_zero, List.push_toArray, List.append_toArray, List.nil_append, List.cons_append]
  gi_wp2_with (refine ⟨trivial, ?_⟩; gi_at_call 29; refine (parts_in _ _ trivial rfl _ _ _).mono ?_; rintro e w' ⟨rfl, rfl⟩)
  obtain ⟨hA0, hB0, hz0, hs0, ha0⟩ := one_start s w
  generalize ((((((w.alloc (.cells #[.int .i64 0, .int .i64 0, .int .i64 0] 24)).alloc (.cells #[.int .i64 0] 29)).alloc (.cells #[.int .i64 0, .int .i64 0, .int .i64 0] 24)).alloc (.cells #[.int .i64 (-1)] 3)).alloc (.cells #[.string s] 9)).alloc (.cells #[.int .u8 32] 5)) = W0 at hA0 hB0 hz0 hs0 ha0 ⊢
  refine wpIn_rangeFunc_ownG rfl (by omega) (gf := 37) (lb := #[.pointer (some ⟨w.heap.size + 1 + 1 + 1 + 1, 0, none⟩), .pointer (some ⟨w.heap.size + 1 + 1 + 1 + 1 + 1, 0, none⟩)]) rfl trivial (enters_of Try.func37 (by kernel_rfl) rfl)
    (parts_stops Fence.wide _ trivial rfl (by omega) (w.heap.size + 1 + 1 + 1 + 1) s 32 hsz W0 (by omega) hs0 ha0) (fun h k => KeepsAt.t h k) (KeepsAt.b (by omega)) (Below.refl _ _) (fun _ => rfl)
    (OneI w) (OneX w) (oneI_own w _ (by omega)) (oneX_own w _ (by omega)) ⟨⟨0, 0, 0, rfl, hA0, by omega⟩, hB0⟩
    (fun x => { tmps := #[.string s, undef, .pointer (some ⟨w.heap.size, 0, none⟩), .pointer (some ⟨w.heap.size + 1, 0, none⟩), .pointer (some ⟨w.heap.size + 1 + 1, 0, none⟩), .pointer (some ⟨w.heap.size + 1 + 1 + 1, 0, none⟩), .string x.1.1, undef, undef, .string s, .func (.func 37) #[] #[.pointer (some ⟨w.heap.size + 1 + 1 + 1 + 1, 0, none⟩), .pointer (some ⟨w.heap.size + 1 + 1 + 1 + 1 + 1, 0, none⟩)], .string x.1.1, .bool x.1.2, undef, undef, undef, undef, undef, undef, undef, undef, undef, undef, undef, undef, undef, undef, undef, undef, undef, undef, undef, undef, undef, undef, undef, undef, undef, undef, undef, undef, undef, undef, undef, undef, undef, undef, undef, undef, undef, undef, undef, undef, undef, undef, undef, undef, undef], defers := [] }) ?assign ?body ?done ?stop
  case assign =>
    intro l x W K hK
    gi_wp2
    exact hK
  case body =>
    rintro l pre x W ⟨⟨o, x1, y1, hl, hA, hz⟩, hB⟩ -
    have hzz : w.heap.size + 1 + 1 + 1 + 1 + 1 < W.heap.size := by omega
    have S0 := Aside0.mk (Stp.refl (w.heap.size + 1 + 1 + 1 + 1) W0.heap.size hB)
    obtain ⟨k0, k1, k2, k3, k4, k5, k6, k7, f0, f1, f2, f3, f4, f5, f6, f7⟩ := hA.facts
    have HN := number_calls x.1.1 x.2
    obtain ⟨⟨v, e⟩, hv⟩ : ∃ q, numberS x.1.1 = q := ⟨_, rfl⟩
    rw [hv] at HN
    dsimp only at HN
    replace HN := Aside0.mk HN
    have HV := Aside0.mk hv
    have HZ := Aside0.mk hz
    have HE := Aside0.mk (numberS_err x.1.1)
    have HA := Aside0.mk hA
    have HL := Aside0.mk hl
    clear hA hl hB hv hz
    match pre with
    | [] =>
      obtain ⟨h1, h2, h3⟩ : 0 = o ∧ 0 = x1 ∧ 0 = y1 := by simpa [lineOf] using HL.out
      subst h1 h2 h3
      replace k7 : W.cell? ⟨w.heap.size + 1 + 1 + 1, 0, none⟩ = some (.int .i64 (-1)) := k7
      gi_wp2_with (refine ⟨trivial, ?_⟩; gi_at_call 38; refine (CallsIn.inRound l (callsIn_wide.2 (which_calls _ _))).mono ?_; rintro e w3 ⟨rfl, hb⟩; have S3 := Aside0.mk ((S0.out.set (w.heap.size + 1 + 1 + 1) 0 (.int .i64 0) (by omega) (by omega)).call hzz hb); have HA3 := Aside0.mk ((HA.out.setN 0).below hb); obtain ⟨m0, m1, m2, m3, m4, m5, m6, m7, g0, g1, g2, g3, g4, g5, g6, g7⟩ := HA3.out.facts; clear hb)
      have S4 := S3.out.set (w.heap.size + 1 + 1) 0 (.int .i64 (whichS x.1.1)) (by omega) (by omega)
      exact ⟨S4.a.from _, S4.k, ⟨_, _, _, rfl, HA3.out.setO _, Nat.le_trans HZ.out S4.z⟩, S4.b⟩
    | [a] =>
      replace k7 : W.cell? ⟨w.heap.size + 1 + 1 + 1, 0, none⟩ = some (.int .i64 0) := k7
      obtain ⟨h1, h2, h3⟩ : whichS a.1.1 = o ∧ 0 = x1 ∧ 0 = y1 := by simpa [lineOf] using HL.out
      subst h2 h3
      have HO := Aside0.mk h1
      clear h1
      by_cases he : e = 0
      · have d0 : (e != 0) = false := bne_eq_false_iff_eq.2 he
        have HE0 := Aside0.mk he
        clear he
        gi_wp2_with (refine ⟨trivial, ?_⟩; gi_at_call 17; refine (CallsIn.inRound l (callsIn_wide.2 (HN.out _))).mono ?_; rintro e w3 ⟨rfl, hb⟩; have S3 := Aside0.mk ((S0.out.set (w.heap.size + 1 + 1 + 1) 0 (.int .i64 1) (by omega) (by omega)).call hzz hb); have HA3 := Aside0.mk ((HA.out.setN 1).below hb); obtain ⟨m0, m1, m2, m3, m4, m5, m6, m7, g0, g1, g2, g3, g4, g5, g6, g7⟩ := HA3.out.facts; clear hb)
        have S4 := S3.out.set (w.heap.size + 1 + 1) 1 (.int .i64 v) (by omega) (by omega)
        exact ⟨S4.a.from _, S4.k, ⟨_, _, _, (by show lineOf [a, x] = _; simp only [lineOf]; rw [HV.out]; exact if_pos HE0.out), by rw [HO.out]; exact HA3.out.setX _, Nat.le_trans HZ.out S4.z⟩, S4.b⟩
      · have d0 : (e != 0) = true := bne_iff_ne.2 he
        have HE0 := Aside0.mk he
        have HE3 : Aside0 (e = 3) := ⟨by have := HE.out (by rw [HV.out]; exact he); rw [HV.out] at this; exact (Prod.mk.inj this).2⟩
        clear he
        gi_wp2_with (refine ⟨trivial, ?_⟩; gi_at_call 17; refine (CallsIn.inRound l (callsIn_wide.2 (HN.out _))).mono ?_; rintro e w3 ⟨rfl, hb⟩; have S3 := Aside0.mk ((S0.out.set (w.heap.size + 1 + 1 + 1) 0 (.int .i64 1) (by omega) (by omega)).call hzz hb); have HA3 := Aside0.mk ((HA.out.setN 1).below hb); obtain ⟨m0, m1, m2, m3, m4, m5, m6, m7, g0, g1, g2, g3, g4, g5, g6, g7⟩ := HA3.out.facts; clear hb)
        obtain rfl : e = 3 := HE3.out
        have S4 := (((S3.out.set w.heap.size 0 (.int .i64 0) (by omega) (by omega)).set w.heap.size 1 (.int .i64 0) (by omega) (by omega)).set w.heap.size 2 (.int .i64 0) (by omega) (by omega)).set (w.heap.size + 1) 0 (.int .i64 3) (by omega) (by omega)
        exact ⟨S4.a.from _, ⟨rfl, (by show lineOf [a, x] = none; simp only [lineOf]; rw [HV.out]; exact if_neg HE0.out), _, _, _, _, (HA3.out.setR 0 0 0).setE 3⟩, S4.b⟩
    | [a, b] =>
      replace k7 : W.cell? ⟨w.heap.size + 1 + 1 + 1, 0, none⟩ = some (.int .i64 1) := k7
      have HB : Aside0 ((numberS b.1.1).2 = 0) := ⟨by have h := HL.out; simp only [lineOf] at h; split at h <;> first | assumption | cases h⟩
      obtain ⟨h1, h2, h3⟩ : whichS a.1.1 = o ∧ (numberS b.1.1).1 = x1 ∧ 0 = y1 := by have h := HL.out; simp only [lineOf, if_pos HB.out] at h; simpa using h
      subst h3
      have HO := Aside0.mk h1
      have HX := Aside0.mk h2
      clear h1 h2
      by_cases he : e = 0
      · have d0 : (e != 0) = false := bne_eq_false_iff_eq.2 he
        have HE0 := Aside0.mk he
        clear he
        gi_wp2_with (refine ⟨trivial, ?_⟩; gi_at_call 17; refine (CallsIn.inRound l (callsIn_wide.2 (HN.out _))).mono ?_; rintro e w3 ⟨rfl, hb⟩; have S3 := Aside0.mk ((S0.out.set (w.heap.size + 1 + 1 + 1) 0 (.int .i64 2) (by omega) (by omega)).call hzz hb); have HA3 := Aside0.mk ((HA.out.setN 2).below hb); obtain ⟨m0, m1, m2, m3, m4, m5, m6, m7, g0, g1, g2, g3, g4, g5, g6, g7⟩ := HA3.out.facts; clear hb)
        have S4 := S3.out.set (w.heap.size + 1 + 1) 2 (.int .i64 v) (by omega) (by omega)
        exact ⟨S4.a.from _, S4.k, ⟨_, _, _, (by show lineOf [a, b, x] = _; simp only [lineOf]; rw [HV.out]; exact if_pos ⟨HB.out, HE0.out⟩), by rw [HO.out, HX.out]; exact HA3.out.setY _, Nat.le_trans HZ.out S4.z⟩, S4.b⟩
      · have d0 : (e != 0) = true := bne_iff_ne.2 he
        have HE0 := Aside0.mk he
        have HE3 : Aside0 (e = 3) := ⟨by have := HE.out (by rw [HV.out]; exact he); rw [HV.out] at this; exact (Prod.mk.inj this).2⟩
        clear he
        gi_wp2_with (refine ⟨trivial, ?_⟩; gi_at_call 17; refine (CallsIn.inRound l (callsIn_wide.2 (HN.out _))).mono ?_; rintro e w3 ⟨rfl, hb⟩; have S3 := Aside0.mk ((S0.out.set (w.heap.size + 1 + 1 + 1) 0 (.int .i64 2) (by omega) (by omega)).call hzz hb); have HA3 := Aside0.mk ((HA.out.setN 2).below hb); obtain ⟨m0, m1, m2, m3, m4, m5, m6, m7, g0, g1, g2, g3, g4, g5, g6, g7⟩ := HA3.out.facts; clear hb)
        obtain rfl : e = 3 := HE3.out
        have S4 := (((S3.out.set w.heap.size 0 (.int .i64 0) (by omega) (by omega)).set w.heap.size 1 (.int .i64 0) (by omega) (by omega)).set w.heap.size 2 (.int .i64 0) (by omega) (by omega)).set (w.heap.size + 1) 0 (.int .i64 3) (by omega) (by omega)
        exact ⟨S4.a.from _, ⟨rfl, (by show lineOf [a, b, x] = none; simp only [lineOf]; rw [HV.out]; exact if_neg (fun q => HE0.out q.2)), _, _, _, _, (HA3.out.setR 0 0 0).setE 3⟩, S4.b⟩
    | [a, b, c] =>
      replace k7 : W.cell? ⟨w.heap.size + 1 + 1 + 1, 0, none⟩ = some (.int .i64 2) := k7
      have S3 := Aside0.mk (S0.out.set (w.heap.size + 1 + 1 + 1) 0 (.int .i64 3) (by omega) (by omega))
      have HA3 := Aside0.mk (HA.out.setN 3)
      gi_wp2
      have S4 := (((S3.out.set w.heap.size 0 (.int .i64 0) (by omega) (by omega)).set w.heap.size 1 (.int .i64 0) (by omega) (by omega)).set w.heap.size 2 (.int .i64 0) (by omega) (by omega)).set (w.heap.size + 1) 0 (.int .i64 3) (by omega) (by omega)
      exact ⟨S4.a.from _, ⟨rfl, rfl, _, _, _, _, (HA3.out.setR 0 0 0).setE 3⟩, S4.b⟩
    | _ :: _ :: _ :: _ :: _ => exact absurd HL.out (by simp [lineOf])
  case done =>
    rintro D ys W hD rfl ⟨⟨o, x, y, hl, hA, -⟩, hB⟩ hK
    have hone : oneS s = if o = 0 ∨ ((partsOf s 32).length : Int) - 1 ≠ (kindOf o).2.1 then ((0, 0, 0), 3) else if rightK (kindOf o) x y = true then ((o, x, y), 0) else ((0, 0, 0), 6) := by unfold oneS; rw [hl]
    generalize ((partsOf s 32).length : Int) - 1 = n at hA hone
    have HL := Aside0.mk hone
    clear hl hone
    obtain ⟨k0, k1, k2, k3, k4, k5, k6, k7, f0, f1, f2, f3, f4, f5, f6, f7⟩ := hA.facts
    have HA := Aside0.mk hA
    have HB := Aside0.mk hB
    have HK := Aside0.mk hK
    clear hA hB hK
    have hmx : Try.prog.follows .mixedOrders = true := by kernel_rfl
    have hzz : w.heap.size + 1 + 1 + 1 + 1 + 1 < W.heap.size := by have := HB.out.size; have := (Array.getElem?_eq_some_iff.1 HK.out).1; omega
    have S0 := Aside0.mk (Stp.refl (w.heap.size + 1 + 1 + 1 + 1) W0.heap.size HB.out)
    by_cases ho : o = 0
    · replace HL := Aside0.mk (HL.out.trans (if_pos (.inl ho)))
      subst ho
      gi_wp2
      first | (gi_region_with (refine ⟨trivial, ?_⟩)) | fail
      all_goals gi_wp2
      all_goals (have S4 := (((((S0.out).set w.heap.size 0 (.int .i64 0) (by omega) (by omega)).set w.heap.size 1 (.int .i64 0) (by omega) (by omega)).set w.heap.size 2 (.int .i64 0) (by omega) (by omega)).set (w.heap.size + 1) 0 (.int .i64 3) (by omega) (by omega)).drew; have A4 := ((HA.out.setR 0 0 0).setE 3).drew)
      all_goals (refine ⟨by simp, .inl ⟨_, _, rfl, run_takeDeferred (S4.a.same D _ HK.out rfl), ?_⟩⟩; obtain ⟨m0, m1, m2, m3, -⟩ := (A4.kept (grownBy_putObj' _ D (.deferred none)) (fun r e => by cases e; exact ⟨_, S4.a.same D _ HK.out rfl, rfl⟩)).facts; exact ⟨.tuple #[.agg #[.int .i64 0, .int .i64 0, .int .i64 0], .int .i64 3], by simp [results, Try.results30, go_sem, m0, m1, m2, m3], by rw [HL.out], S4.b.trans (belowK_b (w := w) (Nat.le_refl _) _ D _ _ (by omega) (S4.a.same D _ HK.out rfl) rfl rfl)⟩)
    · have d0 : (o == 0) = false := beq_eq_false_iff_ne.2 ho
      obtain ⟨ka, hka⟩ : ∃ ka, (kindOf o).2.1 = ka := ⟨_, rfl⟩
      have HG : Aside0 (op_Args.f o = some ka) := ⟨congrArg some hka⟩
      rw [hka] at HL
      by_cases hn : n = ka
      · have d1 : (n != ka) = false := bne_eq_false_iff_eq.2 hn
        replace HL := Aside0.mk (HL.out.trans (if_neg (fun q => q.elim ho (fun q => q hn))))
        clear ho hn hka
        cases hR : rightK (kindOf o) x y
        · have HRt : Aside0 (op_Right.f o x y = some false) := ⟨congrArg some hR⟩
          replace HL := Aside0.mk (HL.out.trans (if_neg (by rw [hR]; decide)))
          clear hR
          gi_wp2
          first | (gi_region_with (refine ⟨trivial, ?_⟩; gi_at_call 23; (with_reducible refine (callsIn_wide.2 (op_Args.calls o ka _ HG.out)).mono ?_); rintro e w3 ⟨rfl, hb⟩; have S3 := Aside0.mk (S0.out.drew.call hzz hb); have HA3 := Aside0.mk (HA.out.drew.below hb); obtain ⟨m0, m1, m2, m3, m4, m5, m6, m7, g0, g1, g2, g3, g4, g5, g6, g7⟩ := HA3.out.facts; clear hb)) | fail
          all_goals (gi_wp2_with (refine ⟨trivial, ?_⟩; gi_at_call 21; (with_reducible refine (callsIn_wide.2 (op_Right.calls o x y false _ HRt.out)).mono ?_); rintro e w4 ⟨rfl, hb⟩; have S5 := Aside0.mk (S3.out.call hzz hb); have HA5 := Aside0.mk (HA3.out.below hb); obtain ⟨p0, p1, p2, p3, p4, p5, p6, p7, q0, q1, q2, q3, q4, q5, q6, q7⟩ := HA5.out.facts; clear hb))
          all_goals (have S4 := ((((S5.out).set w.heap.size 0 (.int .i64 0) (by omega) (by omega)).set w.heap.size 1 (.int .i64 0) (by omega) (by omega)).set w.heap.size 2 (.int .i64 0) (by omega) (by omega)).set (w.heap.size + 1) 0 (.int .i64 6) (by omega) (by omega); have A4 := (HA5.out.setR 0 0 0).setE 6)
          all_goals (refine ⟨by simp, .inl ⟨_, _, rfl, run_takeDeferred (S4.a.same D _ HK.out rfl), ?_⟩⟩; obtain ⟨m0, m1, m2, m3, -⟩ := (A4.kept (grownBy_putObj' _ D (.deferred none)) (fun r e => by cases e; exact ⟨_, S4.a.same D _ HK.out rfl, rfl⟩)).facts; exact ⟨.tuple #[.agg #[.int .i64 0, .int .i64 0, .int .i64 0], .int .i64 6], by simp [results, Try.results30, go_sem, m0, m1, m2, m3], by rw [HL.out], S4.b.trans (belowK_b (w := w) (Nat.le_refl _) _ D _ _ (by omega) (S4.a.same D _ HK.out rfl) rfl rfl)⟩)
        · have HRt : Aside0 (op_Right.f o x y = some true) := ⟨congrArg some hR⟩
          replace HL := Aside0.mk (HL.out.trans (if_pos hR))
          clear hR
          gi_wp2
          first | (gi_region_with (refine ⟨trivial, ?_⟩; gi_at_call 23; (with_reducible refine (callsIn_wide.2 (op_Args.calls o ka _ HG.out)).mono ?_); rintro e w3 ⟨rfl, hb⟩; have S3 := Aside0.mk (S0.out.drew.call hzz hb); have HA3 := Aside0.mk (HA.out.drew.below hb); obtain ⟨m0, m1, m2, m3, m4, m5, m6, m7, g0, g1, g2, g3, g4, g5, g6, g7⟩ := HA3.out.facts; clear hb)) | fail
          all_goals (gi_wp2_with (refine ⟨trivial, ?_⟩; gi_at_call 21; (with_reducible refine (callsIn_wide.2 (op_Right.calls o x y true _ HRt.out)).mono ?_); rintro e w4 ⟨rfl, hb⟩; have S5 := Aside0.mk (S3.out.call hzz hb); have HA5 := Aside0.mk (HA3.out.below hb); obtain ⟨p0, p1, p2, p3, p4, p5, p6, p7, q0, q1, q2, q3, q4, q5, q6, q7⟩ := HA5.out.facts; clear hb))
          all_goals (have S4 := ((((S5.out).set w.heap.size 0 (.int .i64 o) (by omega) (by omega)).set w.heap.size 1 (.int .i64 x) (by omega) (by omega)).set w.heap.size 2 (.int .i64 y) (by omega) (by omega)).set (w.heap.size + 1) 0 (.int .i64 0) (by omega) (by omega); have A4 := (HA5.out.setR o x y).setE 0)
          all_goals (refine ⟨by simp, .inl ⟨_, _, rfl, run_takeDeferred (S4.a.same D _ HK.out rfl), ?_⟩⟩; obtain ⟨m0, m1, m2, m3, -⟩ := (A4.kept (grownBy_putObj' _ D (.deferred none)) (fun r e => by cases e; exact ⟨_, S4.a.same D _ HK.out rfl, rfl⟩)).facts; exact ⟨.tuple #[.agg #[.int .i64 o, .int .i64 x, .int .i64 y], .int .i64 0], by simp [results, Try.results30, go_sem, m0, m1, m2, m3], by rw [HL.out], S4.b.trans (belowK_b (w := w) (Nat.le_refl _) _ D _ _ (by omega) (S4.a.same D _ HK.out rfl) rfl rfl)⟩)
      · have d1 : (n != ka) = true := bne_iff_ne.2 hn
        replace HL := Aside0.mk (HL.out.trans (if_pos (.inr hn)))
        clear ho hn hka
        gi_wp2
        first | (gi_region_with (refine ⟨trivial, ?_⟩; gi_at_call 23; (with_reducible refine (callsIn_wide.2 (op_Args.calls o ka _ HG.out)).mono ?_); rintro e w3 ⟨rfl, hb⟩; have S3 := Aside0.mk (S0.out.drew.call hzz hb); have HA3 := Aside0.mk (HA.out.drew.below hb); obtain ⟨m0, m1, m2, m3, m4, m5, m6, m7, g0, g1, g2, g3, g4, g5, g6, g7⟩ := HA3.out.facts; clear hb)) | fail
        all_goals gi_wp2
        all_goals (have S4 := ((((S3.out).set w.heap.size 0 (.int .i64 0) (by omega) (by omega)).set w.heap.size 1 (.int .i64 0) (by omega) (by omega)).set w.heap.size 2 (.int .i64 0) (by omega) (by omega)).set (w.heap.size + 1) 0 (.int .i64 3) (by omega) (by omega); have A4 := (HA3.out.setR 0 0 0).setE 3)
        all_goals (refine ⟨by simp, .inl ⟨_, _, rfl, run_takeDeferred (S4.a.same D _ HK.out rfl), ?_⟩⟩; obtain ⟨m0, m1, m2, m3, -⟩ := (A4.kept (grownBy_putObj' _ D (.deferred none)) (fun r e => by cases e; exact ⟨_, S4.a.same D _ HK.out rfl, rfl⟩)).facts; exact ⟨.tuple #[.agg #[.int .i64 0, .int .i64 0, .int .i64 0], .int .i64 3], by simp [results, Try.results30, go_sem, m0, m1, m2, m3], by rw [HL.out], S4.b.trans (belowK_b (w := w) (Nat.le_refl _) _ D _ _ (by omega) (S4.a.same D _ HK.out rfl) rfl rfl)⟩)
  case stop =>
    rintro D c pre W hD hp ⟨⟨rfl, hl, o, x, y, n, hA⟩, hB⟩ hK
    have hone : oneS s = ((0, 0, 0), 3) := by
      obtain ⟨r, hr⟩ := hp
      have := lineOf_more hl r
      rw [hr] at this
      unfold oneS; rw [this]
    have HL := Aside0.mk hone
    clear hone
    gi_wp2
    refine ⟨by simp, .inl ⟨_, _, rfl, run_takeDeferred hK, ?_⟩⟩
    rw [HL.out]
    have hlt := (Array.getElem?_eq_some_iff.1 hK).1
    obtain ⟨m0, m1, m2, m3, -⟩ := (hA.kept (grownBy_putObj' W D (.deferred none)) (fun r e => by cases e; exact ⟨_, hK, rfl⟩)).facts
    refine ⟨.tuple #[.agg #[.int .i64 0, .int .i64 0, .int .i64 0], .int .i64 3], ?_, rfl, hB.trans (belowK_b (w := w) (Nat.le_refl _) W D _ _ (by omega) hK rfl rfl)⟩
    simp [results, Try.results30, go_sem, m0, m1, m2, m3]

end Go.Proofs.Ytldbochclabmjaa.P
