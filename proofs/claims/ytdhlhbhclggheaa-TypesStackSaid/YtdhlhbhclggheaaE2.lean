/- types.Gives: a closed form, without rounds. No conditions. -/
import Derived.Test.YtdhlhbhclggheaaE1
import Derived.Deep.DeepCutAuto
namespace Go.Proofs.Ytdhlhbhclggheaa.P
open Go.RowKit Go.Maps Go.ChangeMaps Go.Proofs.YtdhlhbhclggheaaW.PrintWords Go.Proofs.YtdhlhbhclggheaaW.PrintLast Go.Proofs.YtdhlhbhclggheaaW.PrintMore
set_option linter.unusedVariables false
set_option linter.unusedSimpArgs false

/-! ### The functions that give -/
theorem always1_calls (a b c : Int) (took s : ByteArray) (bx : Nat) (w : World) (hs : w.cell? ⟨bx, 0, none⟩ = some (.string s)) :
    Calls Try.prog 49 #[.agg #[.int .i64 a, .int .i64 b, .int .i64 c], .string took, .pointer (some ⟨bx, 0, none⟩)] w fun e w' => e = .returned (.string s) ∧ Below w.heap.size w w' := by
  have hs2 : (w.alloc (.cells #[.int .i64 a, .int .i64 b, .int .i64 c] 37)).cell? ⟨bx, 0, none⟩ = some (.string s) := keeps_below (below_alloc (Below.refl _ _) _) _ _ _ hs
  go_enter Try.func49, Try.ntmps49
  go_wp2_with (fail)
  go_ret
  exact ⟨rfl, below_alloc (Below.refl _ _) _⟩
theorem dup_calls (a b c : Int) (took : ByteArray) (h : took.size + took.size ≤ 9223372036854775807) (w : World) :
    Calls Try.prog 42 #[.agg #[.int .i64 a, .int .i64 b, .int .i64 c], .string took] w fun e w' => e = .returned (.string (took ++ took)) ∧ Below w.heap.size w w' := by
  go_enter Try.func42, Try.ntmps42
  go_wp2_with (fail)
  go_ret
  exact ⟨rfl, below_alloc (Below.refl _ _) _⟩
def twoS (b : Int) : ByteArray := if b = 11 ∨ b = 12 then sB else sI
theorem two_calls (a b c : Int) (took : ByteArray) (w : World) :
    Calls Try.prog 44 #[.agg #[.int .i64 a, .int .i64 b, .int .i64 c], .string took] w fun e w' => e = .returned (.string (twoS b)) ∧ Below w.heap.size w w' := by
  by_cases h1 : b = 11
  · rw [show twoS b = sB from if_pos (.inl h1)]
    have d1 : (b == 11) = true := beq_iff_eq.2 h1
    clear h1
    go_enter Try.func44, Try.ntmps44
    go_wp2_with (fail)
    go_ret
    exact ⟨rfl, below_alloc (Below.refl _ _) _⟩
  · have d1 : (b == 11) = false := beq_eq_false_iff_ne.2 h1
    by_cases h2 : b = 12
    · rw [show twoS b = sB from if_pos (.inr h2)]
      have d2 : (b == 12) = true := beq_iff_eq.2 h2
      clear h1 h2
      go_enter Try.func44, Try.ntmps44
      go_wp2_with (fail)
      go_ret
      exact ⟨rfl, below_alloc (Below.refl _ _) _⟩
    · rw [show twoS b = sI from if_neg (by omega)]
      have d2 : (b == 12) = false := beq_eq_false_iff_ne.2 h2
      clear h1 h2
      go_enter Try.func44, Try.ntmps44
      go_wp2_with (fail)
      go_ret
      exact ⟨rfl, below_alloc (Below.refl _ _) _⟩
set_option maxHeartbeats 4000000 in
theorem swap_calls (a b c : Int) (took : ByteArray) (h : took.size = 2) (w : World) :
    Calls Try.prog 43 #[.agg #[.int .i64 a, .int .i64 b, .int .i64 c], .string took] w fun e w' => e = .returned (.string (took.extract 1 took.size ++ took.extract 0 1)) ∧ Below w.heap.size w w' := by
  rw [show took.extract 1 took.size = took.extract 1 2 by rw [h]]
  have h1 : (1 ≤ (took.size : Int)) = True := eq_true (by omega)
  have d1 : decide (1 ≤ (took.size : Int)) = true := decide_eq_true (by omega)
  have h3 : (took.size ≤ 9223372036854775807) = True := eq_true (by omega)
  have h4 : (took.extract 1 2 ++ took.extract 0 1).size = 2 := by
    rw [ByteArray.size_append, ByteArray.size_extract, ByteArray.size_extract]; omega
  have h5 : ((took.extract 1 2).size + (took.extract 0 1).size ≤ 9223372036854775807) := by
    rw [ByteArray.size_extract, ByteArray.size_extract]; omega
  go_enter Try.func43, Try.ntmps43
  go_wp2_with (fail)
  go_region_with (fail)
  all_goals go_wp2_with (fail)
  all_goals go_ret
  all_goals exact ⟨rfl, (below_alloc (Below.refl _ _) _).drew⟩

/-! ### Gives -/
def resS (b : Int) (x : ByteArray ⊕ Nat) (took : ByteArray) : ByteArray := match x with
  | .inl s => s
  | .inr f => if f = 42 then took ++ took else if f = 43 then took.extract 1 took.size ++ took.extract 0 1 else twoS b
def givesS (a b c : Int) (took : ByteArray) : ByteArray := match keyE a with
  | none => ByteArray.empty
  | some e => if rightK (kindOf a) b c = true then (if fitsS took e.1 = true then resS b e.2 took else ByteArray.empty) else ByteArray.empty
/-- The world behind the first steps of Gives: the instruction's box, the effect's box, and the function that it bears. -/
structure GS (w W : World) (a b c : Int) (g : Nat) (tk : ByteArray) (f : Value) : Prop where
  q0 : W.cell? ⟨w.heap.size, 0, none⟩ = some (.int .i64 a)
  q1 : W.cell? ⟨w.heap.size, 1, none⟩ = some (.int .i64 b)
  q2 : W.cell? ⟨w.heap.size, 2, none⟩ = some (.int .i64 c)
  e0 : W.cell? ⟨g, 0, none⟩ = some (.string tk)
  e1 : W.cell? ⟨g, 1, none⟩ = some f
  below : Below w.heap.size w W
  lt : w.heap.size < W.heap.size
theorem gen_world {P : Program} {c : Code} {Q : Exit → Act → World → Prop} {a : Act} {w : World} (h : ∀ W, W = w → c.wp P Q a W) : c.wp P Q a w := h w rfl
theorem gs_after {w w2 W : World} {a b c : Int} {tk : ByteArray} {f : Value} (q0 : w2.cell? ⟨w.heap.size, 0, none⟩ = some (.int .i64 a)) (q1 : w2.cell? ⟨w.heap.size, 1, none⟩ = some (.int .i64 b)) (q2 : w2.cell? ⟨w.heap.size, 2, none⟩ = some (.int .i64 c))
    (hb : Below w.heap.size w w2) (hW : W = w2.alloc (.cells #[.string tk, f] 54)) : GS w W a b c w2.heap.size tk f ∧ Keeps w2 W := by
  have hk : Keeps w2 W := by rw [hW]; exact keeps_below (below_alloc (Below.refl _ _) _)
  refine ⟨⟨hk _ _ _ q0, hk _ _ _ q1, hk _ _ _ q2, ?_, ?_, ?_, ?_⟩, hk⟩
  · rw [hW]; simp [go_sem]
  · rw [hW]; simp [go_sem]
  · rw [hW]; exact below_alloc hb _
  · have := cell_lt q0
    rw [hW]; simp; omega
theorem zero_box {w1 w2 : World} (hb : Below ((w1.alloc (.cells #[.string ByteArray.empty, .nilFunc] 54)).drew).heap.size ((w1.alloc (.cells #[.string ByteArray.empty, .nilFunc] 54)).drew) w2) :
    w2.cell? ⟨w1.heap.size, 0, none⟩ = some (.string ByteArray.empty) ∧ w2.cell? ⟨w1.heap.size, 1, none⟩ = some .nilFunc ∧ w2.frozen? ⟨w1.heap.size, 0, none⟩ = false ∧ w2.frozen? ⟨w1.heap.size, 1, none⟩ = false := by
  have hlt : w1.heap.size < ((w1.alloc (.cells #[.string ByteArray.empty, .nilFunc] 54)).drew).heap.size := by
    show w1.heap.size < (w1.alloc _).heap.size
    simp
  refine ⟨(hb.cell (p := ⟨w1.heap.size, 0, none⟩) hlt).trans ?_, (hb.cell (p := ⟨w1.heap.size, 1, none⟩) hlt).trans ?_, (hb.frozen (p := ⟨w1.heap.size, 0, none⟩) hlt).trans ?_, (hb.frozen (p := ⟨w1.heap.size, 1, none⟩) hlt).trans ?_⟩ <;> simp [go_sem]
theorem lt_ad {w : World} {g : Nat} (hg : g < w.heap.size) (o : Obj) : g < ((w.alloc o).drew).heap.size := by
  show g < (w.heap.push o).size
  simp; omega
theorem kept_ad {w : World} {g j : Nat} {v : Value} (hg : g < w.heap.size) (h : w.cell? ⟨g, j, none⟩ = some v) (o : Obj) : ((w.alloc o).drew).cell? ⟨g, j, none⟩ = some v := ((Below.refl w.heap.size w).alloc (Nat.le_refl _) o |>.cell (p := ⟨g, j, none⟩) hg).trans h
theorem below_ad {b : Nat} {w w3 : World} (h : Below b w w3) (hle : b ≤ w3.heap.size) (o : Obj) : Below b w (w3.alloc o).drew := (h.alloc hle o).drew

theorem drewK {w W : World} (h : W = w.drew) : Keeps w W ∧ Keeps W w := by
  subst h; exact ⟨fun _ _ _ h => h, fun _ _ _ h => h⟩
theorem gs_before {w w1 w2 W : World} {a b c : Int} {tk : ByteArray} {f : Value} (q0 : w2.cell? ⟨w.heap.size, 0, none⟩ = some (.int .i64 a)) (q1 : w2.cell? ⟨w.heap.size, 1, none⟩ = some (.int .i64 b)) (q2 : w2.cell? ⟨w.heap.size, 2, none⟩ = some (.int .i64 c))
    (hb : Below w.heap.size w w2) (hlt : w.heap.size < w1.heap.size) (z0 : w2.cell? ⟨w1.heap.size, 0, none⟩ = some (.string ByteArray.empty)) (z1 : w2.cell? ⟨w1.heap.size, 1, none⟩ = some .nilFunc)
    (hW : W = (w2.setCell ⟨w1.heap.size, 0, none⟩ (.string tk)).setCell ⟨w1.heap.size, 1, none⟩ f) : GS w W a b c w1.heap.size tk f ∧ ∀ B x, FnX B w2 x f → w1.heap.size < B → FnX 0 W x f := by
  have hn : ∀ j k, (⟨w1.heap.size, j, none⟩ : Addr) ≠ ⟨w.heap.size, k, none⟩ := fun j k h => by injection h; omega
  have hk : ∀ j v, w2.cell? ⟨w.heap.size, j, none⟩ = some v → W.cell? ⟨w.heap.size, j, none⟩ = some v := fun j v h => by
    rw [hW, World.cell?_setCell_other _ _ _ _ (hn _ _), World.cell?_setCell_other _ _ _ _ (hn _ _)]; exact h
  refine ⟨⟨hk _ _ q0, hk _ _ q1, hk _ _ q2, ?_, ?_, ?_, ?_⟩, ?_⟩
  · rw [hW, World.cell?_setCell_other _ _ _ _ (by simp), World.cell?_setCell_same _ _ _ z0]
  · rw [hW, World.cell?_setCell_same _ _ _ ((World.cell?_setCell_other _ _ _ _ (by simp)).trans z1)]
  · rw [hW]; exact (hb.setCell (p := ⟨w1.heap.size, 0, none⟩) (Nat.le_of_lt hlt) _).setCell (p := ⟨w1.heap.size, 1, none⟩) (Nat.le_of_lt hlt) _
  · have := cell_lt q0
    rw [hW]; simpa [World.setCell] using this
  · intro B x hx hB
    cases x with
    | inr f => exact hx
    | inl s =>
      obtain ⟨b, hb, e, hc⟩ := hx
      have hn2 : ∀ j, (⟨w1.heap.size, j, none⟩ : Addr) ≠ ⟨b, 0, none⟩ := fun j h => by injection h; omega
      exact ⟨b, Nat.zero_le _, e, by rw [hW, World.cell?_setCell_other _ _ _ _ (hn2 _), World.cell?_setCell_other _ _ _ _ (hn2 _)]; exact hc⟩
theorem FnX.weak {B : Nat} {w : World} {x : ByteArray ⊕ Nat} {v : Value} (h : FnX B w x v) : FnX 0 w x v := by
  cases x with
  | inl s => obtain ⟨b, _, r⟩ := h; exact ⟨b, Nat.zero_le _, r⟩
  | inr f => exact h
def FnO (w : World) : Option Eff → Value → Prop
  | none, f => f = .nilFunc
  | some e, f => FnX 0 w e.2 f
theorem keyE_inr {a : Int} {tk : ByteArray} {n : Nat} (h : keyE a = some (tk, .inr n)) : n = 42 ∨ (n = 43 ∧ tk.size = 2) ∨ n = 44 := by
  have hp : ∀ p, pk p ≠ (tk, .inr n) := fun p h2 => by
    unfold pk at h2
    by_cases h3 : p = 1
    · rw [if_pos h3] at h2; simp at h2
    · rw [if_neg h3] at h2
      by_cases h4 : p = 2
      · rw [if_pos h4] at h2; simp at h2
      · rw [if_neg h4] at h2; simp at h2
  unfold keyE at h
  repeat' split at h
  all_goals first
    | exact absurd (Option.some.inj h) (hp _)
    | (simp at h; done)
    | (simp only [Option.some.injEq, Prod.mk.injEq, Sum.inr.injEq, reduceCtorEq, and_false] at h; obtain ⟨rfl, rfl⟩ := h; decide)
    | (simp at h)
theorem keyE_size {a : Int} {e : Eff} (h : keyE a = some e) : e.1.size ≤ 2 := by
  have hp : ∀ p, (pk p).1.size ≤ 2 := fun p => by
    unfold pk
    by_cases h3 : p = 1
    · rw [if_pos h3]; decide
    · rw [if_neg h3]
      by_cases h4 : p = 2
      · rw [if_pos h4]; decide
      · rw [if_neg h4]; decide
  unfold keyE at h
  repeat' split at h
  all_goals first
    | (obtain rfl := Option.some.inj h; first | exact hp _ | decide)
    | (simp at h)
theorem fits_size {t u : ByteArray} (h : fitsS t u = true) : t.size = u.size := by
  unfold fitsS at h
  simp only [Bool.and_eq_true, decide_eq_true_eq] at h
  exact h.1
set_option maxHeartbeats 4000000 in
theorem gives_none (a b c : Int) (took : ByteArray) (hw : (Lit.int .i64 a).wf = true) (hk : keyE a = none) (w : World) :
    Calls Try.prog 16 #[.agg #[.int .i64 a, .int .i64 b, .int .i64 c], .string took] w fun e w' => e = .returned (.string ByteArray.empty) ∧ Below w.heap.size w w' := by
  have HK := Aside0.mk hk
  have HW := Aside0.mk hw
  clear hk hw
  have hz := zeroEff
  obtain ⟨q0, q1, q2⟩ := box3 w a b c 37
  go_enter Try.func16, Try.ntmps16
  go_upto_region 1 with (fail)
  have hsz : w.heap.size < (w.alloc (.cells #[.int .i64 a, .int .i64 b, .int .i64 c] 37)).heap.size := by simp
  have hb := Aside0.mk (below_alloc (Below.refl w.heap.size w) (.cells #[.int .i64 a, .int .i64 b, .int .i64 c] 37))
  generalize (w.alloc (.cells #[.int .i64 a, .int .i64 b, .int .i64 c] 37)) = w1 at q0 q1 q2 hsz hb ⊢
  have q0a := kept_ad hsz q0 (.cells #[.string ByteArray.empty, .nilFunc] 54)
  go_cut [5, 6] (fun s5 s6 wx => ∃ (g : Nat) (f : Value), s5 = .pointer (some ⟨g, 0, none⟩) ∧ s6 = .bool false ∧ Aside0 (Below w.heap.size w wx))
  case first =>
    have HS1 := Aside0.mk hsz
    go_region_with (go_at_call 28; refine (types_effects_calls _).mono ?_; rintro e w2 ⟨⟨m, rfl, hm⟩, hb2⟩; (first | (replace q0 := behindL hb2 hsz q0; replace q1 := behindL hb2 hsz q1; replace q2 := behindL hb2 hsz q2; replace hb := Aside0.mk (below_step (by first | exact hb.out | exact hb.out.drew) hb2)) | (replace q0 := behindL hb2 (lt_ad hsz _) (kept_ad hsz q0 _); replace q1 := behindL hb2 (lt_ad hsz _) (kept_ad hsz q1 _); replace q2 := behindL hb2 (lt_ad hsz _) (kept_ad hsz q2 _); replace hb := Aside0.mk (below_step (below_ad hb.out (Nat.le_of_lt hsz) _) hb2); obtain ⟨z0, z1, z2, z3⟩ := zero_box hb2)); obtain ⟨v, hv, hr⟩ := hm.look HW.out; rw [HK.out] at hv hr; simp only [Option.isSome_none, Option.isSome_some] at hr; obtain rfl := hv; have q0b := keeps_below (below_alloc (Below.refl w2.heap.size w2) (.cells #[.string ByteArray.empty, .nilFunc] 54)) _ _ _ q0; have r1 := (hr _ (Below.refl _ _)).2; have r2 := (hr _ (below_alloc (Below.refl _ _) (.cells #[.string ByteArray.empty, .nilFunc] 54))).2)
    all_goals (go_wp2_with (fail); go_meet)
    all_goals first
      | exact ⟨_, .nilFunc, rfl, rfl, ⟨(gs_after q0 q1 q2 hb.out rfl).1.below⟩⟩
      | exact ⟨_, .nilFunc, rfl, rfl, ⟨(gs_before q0 q1 q2 hb.out HS1.out z0 z1 rfl).1.below⟩⟩
  case rest =>
    obtain ⟨g, f, rfl, rfl, HB⟩ := hcut
    go_wp2_with (fail)
    go_ret
    exact ⟨rfl, HB.out⟩
set_option maxHeartbeats 8000000 in
theorem gives_some (a b c : Int) (took tk : ByteArray) (x : ByteArray ⊕ Nat) (hw : (Lit.int .i64 a).wf = true) (hk : keyE a = some (tk, x)) (w : World) :
    Calls Try.prog 16 #[.agg #[.int .i64 a, .int .i64 b, .int .i64 c], .string took] w fun e w' => e = .returned (.string (if rightK (kindOf a) b c = true then (if fitsS took tk = true then resS b x took else ByteArray.empty) else ByteArray.empty)) ∧ Below w.heap.size w w' := by
  have HT : Aside0 (tk.size ≤ 2) := ⟨keyE_size hk⟩
  obtain ⟨res, hres⟩ : ∃ res, res = (if rightK (kindOf a) b c = true then (if fitsS took tk = true then resS b x took else ByteArray.empty) else ByteArray.empty) := ⟨_, rfl⟩
  rw [← hres]
  have HRES := Aside0.mk hres
  clear hres
  have HK := Aside0.mk hk
  have HW := Aside0.mk hw
  clear hk hw
  have hz := zeroEff
  obtain ⟨q0, q1, q2⟩ := box3 w a b c 37
  go_enter Try.func16, Try.ntmps16
  go_upto_region 1 with (fail)
  have hsz : w.heap.size < (w.alloc (.cells #[.int .i64 a, .int .i64 b, .int .i64 c] 37)).heap.size := by simp
  have hb := Aside0.mk (below_alloc (Below.refl w.heap.size w) (.cells #[.int .i64 a, .int .i64 b, .int .i64 c] 37))
  generalize (w.alloc (.cells #[.int .i64 a, .int .i64 b, .int .i64 c] 37)) = w1 at q0 q1 q2 hsz hb ⊢
  have q0a := kept_ad hsz q0 (.cells #[.string ByteArray.empty, .nilFunc] 54)
  go_cut [5, 6] (fun s5 s6 wx => ∃ (g : Nat) (f : Value), s5 = .pointer (some ⟨g, 0, none⟩) ∧ s6 = .bool true ∧ Aside0 (GS w wx a b c g tk f ∧ FnX 0 wx x f))
  case first =>
    have HS1 := Aside0.mk hsz
    go_region_with (go_at_call 28; refine (types_effects_calls _).mono ?_; rintro e w2 ⟨⟨m, rfl, hm⟩, hb2⟩; (first | (replace q0 := behindL hb2 hsz q0; replace q1 := behindL hb2 hsz q1; replace q2 := behindL hb2 hsz q2; replace hb := Aside0.mk (below_step (by first | exact hb.out | exact hb.out.drew) hb2)) | (replace q0 := behindL hb2 (lt_ad hsz _) (kept_ad hsz q0 _); replace q1 := behindL hb2 (lt_ad hsz _) (kept_ad hsz q1 _); replace q2 := behindL hb2 (lt_ad hsz _) (kept_ad hsz q2 _); replace hb := Aside0.mk (below_step (below_ad hb.out (Nat.le_of_lt hsz) _) hb2); obtain ⟨z0, z1, z2, z3⟩ := zero_box hb2)); obtain ⟨v, hv, hr⟩ := hm.look HW.out; rw [HK.out] at hv hr; simp only [Option.isSome_none, Option.isSome_some] at hr; obtain ⟨f, rfl, hx⟩ := (show EfX _ _ _ _ from hv); obtain ⟨fn, cap, rfl⟩ := hx.func; have HX := Aside0.mk hx; clear hx; have q0b := keeps_below (below_alloc (Below.refl w2.heap.size w2) (.cells #[.string ByteArray.empty, .nilFunc] 54)) _ _ _ q0; have r1 := (hr _ (Below.refl _ _)).2; have r2 := (hr _ (below_alloc (Below.refl _ _) (.cells #[.string ByteArray.empty, .nilFunc] 54))).2)
    all_goals (go_wp2_with (fail); go_meet)
    all_goals first
      | exact ⟨_, _, rfl, rfl, ⟨(gs_after q0 q1 q2 hb.out rfl).1, (HX.out.weak).keep (gs_after q0 q1 q2 hb.out rfl).2⟩⟩
      | exact ⟨_, _, rfl, rfl, ⟨(gs_before q0 q1 q2 hb.out HS1.out z0 z1 rfl).1, (gs_before q0 q1 q2 hb.out HS1.out z0 z1 rfl).2 _ _ HX.out (by simp [World.drew])⟩⟩
  case rest =>
    obtain ⟨g, f, rfl, rfl, HG⟩ := hcut
    have e0 := HG.out.1.e0
    have e1 := HG.out.1.e1
    have q0 := HG.out.1.q0
    have q1 := HG.out.1.q1
    have q2 := HG.out.1.q2
    have HB := Aside0.mk HG.out.1.below
    have HX := Aside0.mk HG.out.2
    clear HG
    cases hR : rightK (kindOf a) b c with
    | false =>
      have HR : Aside0 (op_Right.f a b c = some false) := ⟨congrArg some hR⟩
      have Hr : Aside0 (res = ByteArray.empty) := ⟨by rw [HRES.out, hR]; rfl⟩
      clear hR
      go_wp2_with (first
        | (go_at_call 27; (with_reducible refine (op_Right.calls a b c false _ HR.out).mono ?_); rintro e w3 ⟨rfl, hb2⟩; replace e0 := keeps_below hb2 _ _ _ e0; replace e1 := keeps_below hb2 _ _ _ e1; replace q0 := keeps_below hb2 _ _ _ q0; replace q1 := keeps_below hb2 _ _ _ q1; replace q2 := keeps_below hb2 _ _ _ q2; (try replace hc := keeps_below hb2 _ _ _ hc); replace HB := Aside0.mk (below_step HB.out hb2); clear hb2))
      go_ret
      exact ⟨by rw [Hr.out]; rfl, HB.out⟩
    | true =>
      have HR : Aside0 (op_Right.f a b c = some true) := ⟨congrArg some hR⟩
      have HI : Aside0 (res = (if fitsS took tk = true then resS b x took else ByteArray.empty)) := ⟨by rw [HRES.out, hR]; rfl⟩
      clear hR
      cases hF : fitsS took tk with
      | false =>
        have HF := Aside0.mk hF
        have Hr : Aside0 (res = ByteArray.empty) := ⟨by rw [HI.out, hF]; rfl⟩
        clear hF
        go_wp2_with (first
          | (go_at_call 27; (with_reducible refine (op_Right.calls a b c true _ HR.out).mono ?_); rintro e w3 ⟨rfl, hb2⟩; replace e0 := keeps_below hb2 _ _ _ e0; replace e1 := keeps_below hb2 _ _ _ e1; replace q0 := keeps_below hb2 _ _ _ q0; replace q1 := keeps_below hb2 _ _ _ q1; replace q2 := keeps_below hb2 _ _ _ q2; (try replace hc := keeps_below hb2 _ _ _ hc); replace HB := Aside0.mk (below_step HB.out hb2); clear hb2)
          | (go_at_call 29; (with_reducible refine (fits_calls took tk (by have := HT.out; omega) _).mono ?_); rintro e w4 ⟨rfl, hb2⟩; rw [HF.out]; replace e0 := keeps_below hb2 _ _ _ e0; replace e1 := keeps_below hb2 _ _ _ e1; replace q0 := keeps_below hb2 _ _ _ q0; replace q1 := keeps_below hb2 _ _ _ q1; replace q2 := keeps_below hb2 _ _ _ q2; (try replace hc := keeps_below hb2 _ _ _ hc); replace HB := Aside0.mk (below_step HB.out hb2); clear hb2))
        go_ret
        exact ⟨by rw [Hr.out]; rfl, HB.out⟩
      | true =>
        have hS := fits_size hF
        have HS := Aside0.mk hS
        have HF := Aside0.mk hF
        have Hr : Aside0 (res = resS b x took) := ⟨by rw [HI.out, hF]; rfl⟩
        clear hF
        cases x with
        | inl s =>
          clear hS
          obtain ⟨bx, _, rfl, hc⟩ := HX.out
          clear HX
          go_wp2_with (first
            | (go_at_call 27; (with_reducible refine (op_Right.calls a b c true _ HR.out).mono ?_); rintro e w3 ⟨rfl, hb2⟩; replace e0 := keeps_below hb2 _ _ _ e0; replace e1 := keeps_below hb2 _ _ _ e1; replace q0 := keeps_below hb2 _ _ _ q0; replace q1 := keeps_below hb2 _ _ _ q1; replace q2 := keeps_below hb2 _ _ _ q2; (try replace hc := keeps_below hb2 _ _ _ hc); replace HB := Aside0.mk (below_step HB.out hb2); clear hb2)
            | (go_at_call 29; (with_reducible refine (fits_calls took tk (by have := HT.out; omega) _).mono ?_); rintro e w4 ⟨rfl, hb2⟩; rw [HF.out]; replace e0 := keeps_below hb2 _ _ _ e0; replace e1 := keeps_below hb2 _ _ _ e1; replace q0 := keeps_below hb2 _ _ _ q0; replace q1 := keeps_below hb2 _ _ _ q1; replace q2 := keeps_below hb2 _ _ _ q2; (try replace hc := keeps_below hb2 _ _ _ hc); replace HB := Aside0.mk (below_step HB.out hb2); clear hb2)
            | (go_at_call 49; (with_reducible refine (always1_calls a b c took s bx _ hc).mono ?_); rintro e w5 ⟨rfl, hb2⟩; replace HB := Aside0.mk (below_step HB.out hb2); clear hb2))
          go_ret
          exact ⟨by rw [Hr.out]; rfl, HB.out⟩
        | inr n =>
          obtain rfl := (show f = _ from HX.out)
          clear HX
          rcases keyE_inr HK.out with rfl | ⟨rfl, h2⟩ | rfl
          · clear hS
            go_wp2_with (first
              | (go_at_call 27; (with_reducible refine (op_Right.calls a b c true _ HR.out).mono ?_); rintro e w3 ⟨rfl, hb2⟩; replace e0 := keeps_below hb2 _ _ _ e0; replace e1 := keeps_below hb2 _ _ _ e1; replace q0 := keeps_below hb2 _ _ _ q0; replace q1 := keeps_below hb2 _ _ _ q1; replace q2 := keeps_below hb2 _ _ _ q2; (try replace hc := keeps_below hb2 _ _ _ hc); replace HB := Aside0.mk (below_step HB.out hb2); clear hb2)
              | (go_at_call 29; (with_reducible refine (fits_calls took tk (by have := HT.out; omega) _).mono ?_); rintro e w4 ⟨rfl, hb2⟩; rw [HF.out]; replace e0 := keeps_below hb2 _ _ _ e0; replace e1 := keeps_below hb2 _ _ _ e1; replace q0 := keeps_below hb2 _ _ _ q0; replace q1 := keeps_below hb2 _ _ _ q1; replace q2 := keeps_below hb2 _ _ _ q2; (try replace hc := keeps_below hb2 _ _ _ hc); replace HB := Aside0.mk (below_step HB.out hb2); clear hb2)
              | (go_at_call 42; (with_reducible refine (dup_calls a b c took (by have := HT.out; have := HS.out; omega) _).mono ?_); rintro e w5 ⟨rfl, hb2⟩; replace HB := Aside0.mk (below_step HB.out hb2); clear hb2))
            go_ret
            exact ⟨by rw [Hr.out]; rfl, HB.out⟩
          · have H2 : Aside0 (took.size = 2) := ⟨by rw [hS]; exact h2⟩
            clear hS h2
            go_wp2_with (first
              | (go_at_call 27; (with_reducible refine (op_Right.calls a b c true _ HR.out).mono ?_); rintro e w3 ⟨rfl, hb2⟩; replace e0 := keeps_below hb2 _ _ _ e0; replace e1 := keeps_below hb2 _ _ _ e1; replace q0 := keeps_below hb2 _ _ _ q0; replace q1 := keeps_below hb2 _ _ _ q1; replace q2 := keeps_below hb2 _ _ _ q2; (try replace hc := keeps_below hb2 _ _ _ hc); replace HB := Aside0.mk (below_step HB.out hb2); clear hb2)
              | (go_at_call 29; (with_reducible refine (fits_calls took tk (by have := HT.out; omega) _).mono ?_); rintro e w4 ⟨rfl, hb2⟩; rw [HF.out]; replace e0 := keeps_below hb2 _ _ _ e0; replace e1 := keeps_below hb2 _ _ _ e1; replace q0 := keeps_below hb2 _ _ _ q0; replace q1 := keeps_below hb2 _ _ _ q1; replace q2 := keeps_below hb2 _ _ _ q2; (try replace hc := keeps_below hb2 _ _ _ hc); replace HB := Aside0.mk (below_step HB.out hb2); clear hb2)
              | (go_at_call 43; (with_reducible refine (swap_calls a b c took H2.out _).mono ?_); rintro e w5 ⟨rfl, hb2⟩; replace HB := Aside0.mk (below_step HB.out hb2); clear hb2))
            go_ret
            exact ⟨by rw [Hr.out]; rfl, HB.out⟩
          · clear hS
            go_wp2_with (first
              | (go_at_call 27; (with_reducible refine (op_Right.calls a b c true _ HR.out).mono ?_); rintro e w3 ⟨rfl, hb2⟩; replace e0 := keeps_below hb2 _ _ _ e0; replace e1 := keeps_below hb2 _ _ _ e1; replace q0 := keeps_below hb2 _ _ _ q0; replace q1 := keeps_below hb2 _ _ _ q1; replace q2 := keeps_below hb2 _ _ _ q2; (try replace hc := keeps_below hb2 _ _ _ hc); replace HB := Aside0.mk (below_step HB.out hb2); clear hb2)
              | (go_at_call 29; (with_reducible refine (fits_calls took tk (by have := HT.out; omega) _).mono ?_); rintro e w4 ⟨rfl, hb2⟩; rw [HF.out]; replace e0 := keeps_below hb2 _ _ _ e0; replace e1 := keeps_below hb2 _ _ _ e1; replace q0 := keeps_below hb2 _ _ _ q0; replace q1 := keeps_below hb2 _ _ _ q1; replace q2 := keeps_below hb2 _ _ _ q2; (try replace hc := keeps_below hb2 _ _ _ hc); replace HB := Aside0.mk (below_step HB.out hb2); clear hb2)
              | (go_at_call 44; (with_reducible refine (two_calls a b c took _).mono ?_); rintro e w5 ⟨rfl, hb2⟩; replace HB := Aside0.mk (below_step HB.out hb2); clear hb2))
            go_ret
            exact ⟨by rw [Hr.out]; rfl, HB.out⟩

/-! ### The contracts that the printed functions call -/
def types_Takes.f (a0_0 : Int) (a0_1 : Int) (a0_2 : Int) : Option (ByteArray) := some (takesS a0_0 a0_1 a0_2)
theorem types_Takes.calls (a0_0 : Int) (a0_1 : Int) (a0_2 : Int) (r : ByteArray) (w : World) (h : types_Takes.f a0_0 a0_1 a0_2 = some r) :
    Calls Try.prog 15 #[.agg #[.int .i64 a0_0, .int .i64 a0_1, .int .i64 a0_2]] w fun e w' => e = .returned (.string r) ∧ Below w.heap.size w w' := by
  obtain rfl := Option.some.inj h
  exact takes_calls _ _ _ _
def types_Gives.f (a0_0 : Int) (a0_1 : Int) (a0_2 : Int) (a1 : ByteArray) : Option (ByteArray) := if (Lit.int .i64 a0_0).wf = true then some (givesS a0_0 a0_1 a0_2 a1) else none
theorem types_Gives.calls (a0_0 : Int) (a0_1 : Int) (a0_2 : Int) (a1 : ByteArray) (r : ByteArray) (w : World) (h : types_Gives.f a0_0 a0_1 a0_2 a1 = some r) :
    Calls Try.prog 16 #[.agg #[.int .i64 a0_0, .int .i64 a0_1, .int .i64 a0_2], .string a1] w fun e w' => e = .returned (.string r) ∧ Below w.heap.size w w' := by
  unfold types_Gives.f at h
  by_cases hw : (Lit.int .i64 a0_0).wf = true
  · rw [if_pos hw] at h
    obtain rfl := Option.some.inj h
    unfold givesS
    cases hk : keyE a0_0 with
    | none => exact gives_none _ _ _ _ hw hk _
    | some e => exact gives_some _ _ _ _ e.1 e.2 hw hk _
  · rw [if_neg hw] at h; cases h
def types_fits.f (a0 : ByteArray) (a1 : ByteArray) : Option (Bool) := if a1.size ≤ 9223372036854775806 then some (fitsS a0 a1) else none
theorem types_fits.calls (a0 : ByteArray) (a1 : ByteArray) (r : Bool) (w : World) (h : types_fits.f a0 a1 = some r) :
    Calls Try.prog 29 #[.string a0, .string a1] w fun e w' => e = .returned (.bool r) ∧ Below w.heap.size w w' := by
  unfold types_fits.f at h
  by_cases hs : a1.size ≤ 9223372036854775806
  · rw [if_pos hs] at h
    obtain rfl := Option.some.inj h
    exact fits_calls _ _ hs _
  · rw [if_neg hs] at h; cases h
end Go.Proofs.Ytdhlhbhclggheaa.P
