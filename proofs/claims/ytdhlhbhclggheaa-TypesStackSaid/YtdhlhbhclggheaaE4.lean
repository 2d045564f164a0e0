/- types.flow: hand, one. No conditions. -/
import Derived.Test.YtdhlhbhclggheaaE3
namespace Go.Proofs.Ytdhlhbhclggheaa.P
open Go.RowKit Go.Maps Go.ChangeMaps Go.Proofs.YtdhlhbhclggheaaW.PrintWords Go.Proofs.YtdhlhbhclggheaaW.PrintLast Go.Proofs.YtdhlhbhclggheaaW.PrintMore
set_option linter.unusedVariables false
set_option linter.unusedSimpArgs false

/-- The stacks that are known, where they are known, and where two have met that are not the same. -/
structure Fl where
  o : List ByteArray
  s : List Bool
  c : List Bool
theorem cell_of {W : World} {b j t : Nat} {cs : Array Value} {v : Value} (h : W.heap[b]? = some (.cells cs t (0, 0))) (hj : cs[j]? = some v) : W.cell? ⟨b, j, none⟩ = some v := by
  simp [World.cell?, h, hj]
theorem frozen_of {W : World} {b j t : Nat} {cs : Array Value} (h : W.heap[b]? = some (.cells cs t (0, 0))) : W.frozen? ⟨b, j, none⟩ = false := by
  simp [World.frozen?, h]
/-- A flow in memory: its block, and its three rows. -/
structure FLW (W : World) (fb bo bs bc n : Nat) (F : Fl) : Prop where
  f : W.heap[fb]? = some (.cells #[.slice (some ⟨bo, 0, none⟩) n n, .slice (some ⟨bs, 0, none⟩) n n, .slice (some ⟨bc, 0, none⟩) n n] 45 (0, 0))
  o : W.heap[bo]? = some (.cells (F.o.map .string).toArray 9 (0, 0))
  s : W.heap[bs]? = some (.cells (F.s.map .bool).toArray 4 (0, 0))
  c : W.heap[bc]? = some (.cells (F.c.map .bool).toArray 4 (0, 0))
  lo : F.o.length = n
  ls : F.s.length = n
  lc : F.c.length = n
  ne : bs ≠ bc
section
variable {W W' : World} {fb bo bs bc n : Nat} {F : Fl}
theorem typ_ne {b b' t t' : Nat} {cs cs' : Array Value} (h : W.heap[b]? = some (.cells cs t (0, 0))) (h' : W.heap[b']? = some (.cells cs' t' (0, 0))) (ht : t ≠ t') : b ≠ b' := fun e => by
  rw [e, h'] at h
  injection h with h
  injection h with h1 h2
  exact ht h2.symm
theorem FLW.keep (h : FLW W fb bo bs bc n F) (hk : ∀ k, k < W.heap.size → W'.heap[k]? = W.heap[k]?) : FLW W' fb bo bs bc n F := by
  have hl : ∀ {k : Nat} {o : Obj}, W.heap[k]? = some o → k < W.heap.size := fun h => (Array.getElem?_eq_some_iff.1 h).1
  exact ⟨(hk _ (hl h.f)).trans h.f, (hk _ (hl h.o)).trans h.o, (hk _ (hl h.s)).trans h.s, (hk _ (hl h.c)).trans h.c, h.lo, h.ls, h.lc, h.ne⟩
theorem FLW.below (h : FLW W fb bo bs bc n F) (hb : Below W.heap.size W W') : FLW W' fb bo bs bc n F := h.keep hb.block
theorem FLW.fo (h : FLW W fb bo bs bc n F) : fb ≠ bo := typ_ne h.f h.o (by decide)
theorem FLW.fs (h : FLW W fb bo bs bc n F) : fb ≠ bs := typ_ne h.f h.s (by decide)
theorem FLW.fc (h : FLW W fb bo bs bc n F) : fb ≠ bc := typ_ne h.f h.c (by decide)
theorem FLW.os (h : FLW W fb bo bs bc n F) : bo ≠ bs := typ_ne h.o h.s (by decide)
theorem FLW.oc (h : FLW W fb bo bs bc n F) : bo ≠ bc := typ_ne h.o h.c (by decide)
theorem FLW.co (h : FLW W fb bo bs bc n F) {j : Nat} (hj : j < n) : W.cell? ⟨bo, j, none⟩ = some (.string (F.o.getD j ByteArray.empty)) := by
  have hj' : j < F.o.length := by rw [h.lo]; exact hj
  exact cell_of h.o (by simp [List.getD, hj'])
theorem FLW.cs (h : FLW W fb bo bs bc n F) {j : Nat} (hj : j < n) : W.cell? ⟨bs, j, none⟩ = some (.bool (F.s.getD j false)) := by
  have hj' : j < F.s.length := by rw [h.ls]; exact hj
  exact cell_of h.s (by simp [List.getD, hj'])
theorem FLW.cc (h : FLW W fb bo bs bc n F) {j : Nat} (hj : j < n) : W.cell? ⟨bc, j, none⟩ = some (.bool (F.c.getD j false)) := by
  have hj' : j < F.c.length := by rw [h.lc]; exact hj
  exact cell_of h.c (by simp [List.getD, hj'])
theorem FLW.setO (h : FLW W fb bo bs bc n F) (j : Nat) (t : ByteArray) : FLW (W.setCell ⟨bo, j, none⟩ (.string t)) fb bo bs bc n ⟨F.o.set j t, F.s, F.c⟩ := by
  refine ⟨(Below.heap_setCell _ _ _ _ h.fo).trans h.f, ?_, (Below.heap_setCell _ _ _ _ h.os.symm).trans h.s, (Below.heap_setCell _ _ _ _ h.oc.symm).trans h.c, by simpa using h.lo, h.ls, h.lc, h.ne⟩
  rw [heap_setCell_same W bo j _ _ _ h.o]
  simp [List.map_set]
theorem FLW.setS (h : FLW W fb bo bs bc n F) (j : Nat) (t : Bool) : FLW (W.setCell ⟨bs, j, none⟩ (.bool t)) fb bo bs bc n ⟨F.o, F.s.set j t, F.c⟩ := by
  refine ⟨(Below.heap_setCell _ _ _ _ h.fs).trans h.f, (Below.heap_setCell _ _ _ _ h.os).trans h.o, ?_, (Below.heap_setCell _ _ _ _ h.ne.symm).trans h.c, h.lo, by simpa using h.ls, h.lc, h.ne⟩
  rw [heap_setCell_same W bs j _ _ _ h.s]
  simp [List.map_set]
theorem FLW.setC (h : FLW W fb bo bs bc n F) (j : Nat) (t : Bool) : FLW (W.setCell ⟨bc, j, none⟩ (.bool t)) fb bo bs bc n ⟨F.o, F.s, F.c.set j t⟩ := by
  refine ⟨(Below.heap_setCell _ _ _ _ h.fc).trans h.f, (Below.heap_setCell _ _ _ _ h.oc).trans h.o, (Below.heap_setCell _ _ _ _ h.ne).trans h.s, ?_, h.lo, h.ls, by simpa using h.lc, h.ne⟩
  rw [heap_setCell_same W bc j _ _ _ h.c]
  simp [List.map_set]
end
/-- Nothing has turned but the three rows, and what is new. -/
structure Fr (bo bs bc : Nat) (W W' : World) : Prop where
  os : W'.os = W.os
  tape : W'.tape = W.tape
  output : W'.output = W.output
  size : W.heap.size ≤ W'.heap.size
  block : ∀ k, k < W.heap.size → k ≠ bo → k ≠ bs → k ≠ bc → W'.heap[k]? = W.heap[k]?
section
variable {bo bs bc : Nat} {W W1 W2 : World}
theorem Fr.refl (bo bs bc : Nat) (W : World) : Fr bo bs bc W W := ⟨rfl, rfl, rfl, Nat.le_refl _, fun _ _ _ _ _ => rfl⟩
theorem Fr.trans (h : Fr bo bs bc W W1) (k : Fr bo bs bc W1 W2) : Fr bo bs bc W W2 :=
  ⟨k.os.trans h.os, k.tape.trans h.tape, k.output.trans h.output, Nat.le_trans h.size k.size, fun i hi h1 h2 h3 => (k.block i (Nat.lt_of_lt_of_le hi h.size) h1 h2 h3).trans (h.block i hi h1 h2 h3)⟩
theorem Fr.below (h : Fr bo bs bc W W1) (k : Below W1.heap.size W1 W2) : Fr bo bs bc W W2 := h.trans ⟨k.os, k.tape, k.output, k.size, fun i hi _ _ _ => k.block i hi⟩
theorem Fr.set (h : Fr bo bs bc W W1) (b j : Nat) (v : Value) (hb : b = bo ∨ b = bs ∨ b = bc) : Fr bo bs bc W (W1.setCell ⟨b, j, none⟩ v) :=
  h.trans ⟨rfl, rfl, rfl, by simp [World.setCell], fun i hi h1 h2 h3 => Below.heap_setCell _ _ _ _ (by rintro rfl; rcases hb with h | h | h <;> contradiction)⟩
theorem Fr.drew (h : Fr bo bs bc W W1) : Fr bo bs bc W W1.drew := h.trans ⟨rfl, rfl, rfl, Nat.le_refl _, fun _ _ _ _ _ => rfl⟩
end
theorem tl_ne {s t : ByteArray} (h : s ≠ t) : s.toList ≠ t.toList := fun e => h (by
  rw [ByteArray.toList_eq, ByteArray.toList_eq] at e
  cases s; cases t
  exact congrArg _ (Array.toList_inj.1 e))
def handS (F : Fl) (j : Nat) (t : ByteArray) : Fl := ⟨F.o.set j t, F.s.set j true, if F.s.getD j false = true ∧ F.o.getD j ByteArray.empty ≠ t then F.c.set j true else F.c⟩
set_option maxHeartbeats 8000000 in
theorem hand_calls {W : World} {fb bo bs bc n : Nat} {F : Fl} (h : FLW W fb bo bs bc n F) (j : Nat) (hj : j < n) (t : ByteArray) :
    Calls Try.prog 18 #[.pointer (some ⟨fb, 0, none⟩), .int .i64 (j : Int), .string t] W fun e W' => e = .returned (.tuple #[]) ∧ FLW W' fb bo bs bc n (handS F j t) ∧ Fr bo bs bc W W' := by
  have f0 := cell_of (j := 0) h.f rfl
  have f1 := cell_of (j := 1) h.f rfl
  have f2 := cell_of (j := 2) h.f rfl
  have p1 : ((j : Int) < (n : Int)) = True := eq_true (by omega)
  have p2 : (0 ≤ (j : Int)) = True := eq_true (by omega)
  have p3 : decide ((j : Int) < (n : Int)) = true := decide_eq_true (by omega)
  have p4 : decide (0 ≤ (j : Int)) = true := decide_eq_true (by omega)
  have o0 := h.co hj
  have s0 := h.cs hj
  have Hh := Aside0.mk h
  have z0 := frozen_of (j := j) h.o
  have z1 := frozen_of (j := j) h.s
  have z2 := frozen_of (j := j) h.c
  have n1 := h.os
  have n2 := h.oc
  have n3 := h.ne
  have n4 := h.fo
  have n5 := h.fs
  have n6 := h.fc
  cases hs : F.s.getD j false with
  | false =>
    rw [hs] at s0
    have Hr : Aside0 (handS F j t = ⟨F.o.set j t, F.s.set j true, F.c⟩) := ⟨by unfold handS; rw [if_neg (by rw [hs]; simp)]⟩
    clear h hs
    go_enter Try.func18, Try.ntmps18
    go_wp2_with (fail)
    go_region_with (fail)
    all_goals go_wp2_with (fail)
    all_goals refine ⟨rfl, _, results_none rfl _ _ _, rfl, ?_, ?_⟩
    all_goals first
      | exact (Fr.drew ((((Fr.refl bo bs bc W).set bs j _ (.inr (.inl rfl))).set bo j _ (.inl rfl))))
      | exact (Fr.drew ((((Fr.refl bo bs bc W).set bo j _ (.inl rfl)).set bs j _ (.inr (.inl rfl)))))
      | (rw [Hr.out]; exact (((Hh.out.setS j true).setO j t).keep (fun _ _ => rfl)))
      | (rw [Hr.out]; exact (((Hh.out.setO j t).setS j true).keep (fun _ _ => rfl)))
  | true =>
    rw [hs] at s0
    obtain ⟨x, ex⟩ : ∃ x, F.o.getD j ByteArray.empty = x := ⟨_, rfl⟩
    rw [ex] at o0
    by_cases hx : x = t
    · have d0 : (x.toList == t.toList) = true := by rw [hx]; exact beq_self_eq_true _
      have d1 : (x.toList != t.toList) = false := by rw [hx]; simp
      have Hr : Aside0 (handS F j t = ⟨F.o.set j t, F.s.set j true, F.c⟩) := ⟨by unfold handS; rw [if_neg (by rw [ex, hx]; simp)]⟩
      clear h hs hx ex
      go_enter Try.func18, Try.ntmps18
      go_wp2_with (fail)
      go_region_with (fail)
      all_goals go_wp2_with (fail)
      all_goals refine ⟨rfl, _, results_none rfl _ _ _, rfl, ?_, ?_⟩
      all_goals first
        | exact (Fr.drew ((((Fr.refl bo bs bc W).set bs j _ (.inr (.inl rfl))).set bo j _ (.inl rfl))))
        | exact (Fr.drew ((((Fr.refl bo bs bc W).set bo j _ (.inl rfl)).set bs j _ (.inr (.inl rfl)))))
        | (rw [Hr.out]; exact (((Hh.out.setS j true).setO j t).keep (fun _ _ => rfl)))
        | (rw [Hr.out]; exact (((Hh.out.setO j t).setS j true).keep (fun _ _ => rfl)))
    · have hne := tl_ne hx
      have d0 : (x.toList == t.toList) = false := beq_eq_false_iff_ne.2 hne
      have d1 : (x.toList != t.toList) = true := bne_iff_ne.2 hne
      have Hr : Aside0 (handS F j t = ⟨F.o.set j t, F.s.set j true, F.c.set j true⟩) := ⟨by unfold handS; rw [if_pos ⟨hs, by rw [ex]; exact hx⟩]⟩
      have c0 := h.cc hj
      clear h hs hx hne ex
      go_enter Try.func18, Try.ntmps18
      go_wp2_with (fail)
      have H2 := Hh.out.setC j true
      have HFr : Aside0 (Fr bo bs bc W (W.setCell ⟨bc, j, none⟩ (.bool true))) := ⟨(Fr.refl bo bs bc W).set bc j _ (.inr (.inr rfl))⟩
      clear Hh f0 f1 f2 o0 s0 c0 z0 z1 z2
      generalize W.setCell ⟨bc, j, none⟩ (.bool true) = W1 at H2 HFr ⊢
      have f0 := cell_of (j := 0) H2.f rfl
      have f1 := cell_of (j := 1) H2.f rfl
      have o0 := H2.co hj
      have s0 := H2.cs hj
      have z0 := frozen_of (j := j) H2.o
      have z1 := frozen_of (j := j) H2.s
      have Hh := Aside0.mk H2
      clear H2
      go_region_with (fail)
      all_goals go_wp2_with (fail)
      all_goals refine ⟨rfl, _, results_none rfl _ _ _, rfl, ?_, ?_⟩
      all_goals first
        | exact (Fr.drew ((((HFr.out).set bs j _ (.inr (.inl rfl))).set bo j _ (.inl rfl))))
        | exact (Fr.drew ((((HFr.out).set bo j _ (.inl rfl)).set bs j _ (.inr (.inl rfl)))))
        | (rw [Hr.out]; exact (((Hh.out.setS j true).setO j t).keep (fun _ _ => rfl)))
        | (rw [Hr.out]; exact (((Hh.out.setO j t).setS j true).keep (fun _ _ => rfl)))
end Go.Proofs.Ytdhlhbhclggheaa.P
