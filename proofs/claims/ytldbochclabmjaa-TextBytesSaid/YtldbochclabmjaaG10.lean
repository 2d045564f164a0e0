/- text.parts: the parts of a text between bytes, handed on one by one; for every text and byte. No conditions. -/
import Derived.RangeFuncBox
import Derived.RangeFuncCalls
import Derived.RangeFuncLeaves
import Derived.Shelf.Abstract
import Derived.Shelf.RegionOpen
import Derived.WalkKit
import Derived.OwnWalkIn
import Derived.TacticsInMore
import Derived.LoopNIn
import Derived.LoopIn
import Derived.Maps.AppendAt
import Derived.Test.YtldbochclabmjaaTM
namespace Go.Proofs.Ytldbochclabmjaa.P
open Go.RowKit Go.Shelf Go.Proofs.Ytldbochclabmjaa.C Go.Proofs.YtldbochclabmjaaW.PrintWords Go.Proofs.YtldbochclabmjaaW.PrintLast Go.Proofs.YtldbochclabmjaaW.PrintMore
set_option linter.unusedVariables false
set_option linter.unusedSimpArgs false

attribute [local go_sem] Oper.semAt_some

/-- A part of a text, and whether the byte stood behind it. -/
abbrev Part := { p : ByteArray × Bool // p.1.size ≤ 9223372036854775807 }
def mkPart (s : ByteArray) (b : Bool) : Part := if h : s.size ≤ 9223372036854775807 then ⟨(s, b), h⟩ else ⟨(⟨#[]⟩, b), Nat.zero_le _⟩
theorem mkPart_val {s : ByteArray} (b : Bool) (h : s.size ≤ 9223372036854775807) : (mkPart s b).1 = (s, b) := by unfold mkPart; rw [dif_pos h]
theorem ext_size {s : ByteArray} (h : s.size ≤ 9223372036854775807) (a b : Nat) : (s.extract a b).size ≤ 9223372036854775807 := by rw [ByteArray.size_extract]; omega
/-- The parts of a text from a place on, the part under way having begun at b. -/
def partsFrom (s : ByteArray) (a : Int) : Nat → Nat → Nat → List Part
  | 0, b, _ => [mkPart (s.extract b s.size) false]
  | f + 1, b, i => if ((s.data.toList.getD i 0).toNat : Int) = a then mkPart (s.extract b i) true :: partsFrom s a f (i + 1) (i + 1) else partsFrom s a f b (i + 1)
def partsOf (s : ByteArray) (a : Int) : List Part := partsFrom s a s.size 0 0
abbrev partEnc (p : Part) : Array Value := #[.string p.1.1, .bool p.1.2]
/-- The two boxes lie as they lay. -/
def KeepsAt (B : Nat) (W W' : World) : Prop := W'.heap[B]? = W.heap[B]? ∧ W'.heap[B + 1]? = W.heap[B + 1]?
theorem KeepsAt.t {B : Nat} {X Y Z : World} (h : KeepsAt B X Y) (k : KeepsAt B Y Z) : KeepsAt B X Z := ⟨k.1.trans h.1, k.2.trans h.2⟩
theorem KeepsAt.b {B : Nat} {w : World} (hB : B + 1 < w.heap.size) (W : World) (l : Nat) (o o' : Obj) (hl : w.heap.size ≤ l) (_ : W.heap[l]? = some o) (_ : o.isCells = false) (_ : o.isWalk = false) : KeepsAt B W (W.putObj l o') :=
  ⟨World.putObj_heap_other (by omega), World.putObj_heap_other (by omega)⟩
theorem KeepsAt.below {B : Nat} {W W' : World} (hB : B + 1 < W.heap.size) (h : Below W.heap.size W W') : KeepsAt B W W' := ⟨h.block B (by omega), h.block (B + 1) hB⟩
theorem KeepsAt.refl (B : Nat) (W : World) : KeepsAt B W W := ⟨rfl, rfl⟩
theorem KeepsAt.set {B b j : Nat} (W : World) (v : Value) (hb : b < B) : KeepsAt B W (W.setCell ⟨b, j, none⟩ v) :=
  ⟨Below.heap_setCell W _ _ B (by show B ≠ b; omega), Below.heap_setCell W _ _ (B + 1) (by show B + 1 ≠ b; omega)⟩
theorem grown_drew (W : World) : W.grownBy W.drew none := ⟨rfl, rfl, rfl, Nat.le_refl _, fun _ _ _ => rfl⟩
theorem byte_at {s : ByteArray} {i : Nat} (h : i < s.size) : ((s[i]'h).toNat : Int) = ((s.data.toList.getD i 0).toNat : Int) := by
  have e : s.data.toList.getD i 0 = s[i]'h := by
    rw [List.getD, List.getElem?_eq_getElem (by simpa using h), Option.getD_some]
    rfl
  rw [e]
theorem slice_at {s : ByteArray} {b i : Nat} (h1 : b ≤ i) (h2 : i ≤ s.size) (w : World) : (Instr.slice 9 (.string s) (some (.int .i64 (b : Int))) (some (.int .i64 (i : Int))) none).run Try.prog w = .ok (.string (s.extract b i)) w := by
  have := run_slice_string (P := Try.prog) (w := w) 9 s .i64 .i64 (b : Int) (i : Int) Try.underlying9 (by omega) (by omega) (by omega)
  simpa using this
set_option maxHeartbeats 2000000 in
set_option maxRecDepth 100000 in
theorem parts1_in (F : Fence) (n : Nat) (hf : F.fn 37) (hro : F.round = none) (hn : 1 ≤ n) (l B : Nat) (s : ByteArray) (a : Int) (hsz : s.size ≤ 9223372036854775807) (J Jx : List Part → World → Prop)
    (hY : ∀ pre x W, J pre W → pre.length < (partsOf s a).length → YieldAt F (n - 1) Try.prog l (partEnc x) W fun e W' =>
      (e = .returned (.bool true) ∧ J (pre ++ [x]) W' ∧ KeepsAt B W W') ∨ (e = .returned (.bool false) ∧ Jx (pre ++ [x]) W'))
    (W : World) (hJ : AbidesFrom W.heap.size J) (hs : W.cell? ⟨B, 0, none⟩ = some (.string s)) (ha : W.cell? ⟨B + 1, 0, none⟩ = some (.int .u8 a)) (h0 : J [] W) :
    CallsIn F n Try.prog 37 #[.func (.yield l) #[] #[], .pointer (some ⟨B, 0, none⟩), .pointer (some ⟨B + 1, 0, none⟩)] W fun e W' => (∃ v, e = .returned v) ∧
      ((∃ ys, ys = partsOf s a ∧ J ys W') ∨ (∃ pre, pre <+: partsOf s a ∧ Jx pre W')) := by
  refine callsIn_of_wp Try.func37 rfl hf ?_ hro
  simp only [Try.ntmps37, List.size_toArray, List.length_cons, List.length_nil, Nat.reduceAdd, Nat.reduceSub, Array.replicate_succ, Array.replicate_zero, List.push_toArray, List.append_toArray, List.nil_append, List.cons_append]
  gi_wp2
  gi_loopw [4, 8] (fun v4 v8 wr => ∃ (b i f : Nat) (pre : List Part), v4 = .int .i64 b ∧ v8 = .int .i64 i ∧ Aside0 (b ≤ i ∧ i + f = s.size ∧ partsOf s a = pre ++ partsFrom s a f b i) ∧ J pre wr ∧ KeepsAt B W wr)
    (fun _ v8 _ => s.size - (intOf v8).toNat)
  case atStart => exact ⟨0, 0, s.size, [], rfl, rfl, ⟨Nat.le_refl _, Nat.zero_add _, rfl⟩, h0, KeepsAt.refl _ _⟩
  case round =>
    obtain ⟨b, i, f, pre, rfl, rfl, H, hJs, hk⟩ := hrel
    have hs2 : wr.cell? ⟨B, 0, none⟩ = some (.string s) := (World.cell?_of_block (a := ⟨B, 0, none⟩) hk.1).trans hs
    have ha2 : wr.cell? ⟨B + 1, 0, none⟩ = some (.int .u8 a) := (World.cell?_of_block (a := ⟨B + 1, 0, none⟩) hk.2).trans ha
    cases f with
    | zero =>
      have hi : i = s.size := by have := H.out; omega
      have hb1 : b ≤ s.size := by have := H.out; omega
      have HP := Aside0.mk (show partsOf s a = pre ++ [mkPart (s.extract b s.size) false] from H.out.2.2)
      clear H
      subst hi
      obtain ⟨fn, tmps, assign, body, hy, hR⟩ := hY pre (mkPart (s.extract b s.size) false) wr hJs (by rw [HP.out]; simp)
      dsimp only [partEnc] at hy
      rw [mkPart_val false (ext_size hsz b s.size)] at hy
      dsimp only at hy
      have z1 : (b : Int) ≤ (s.size : Int) := by omega
      gi_wp2
      refine hR.mono ?_
      rintro e W3 (⟨rfl, hJ3, hk3⟩ | ⟨rfl, hJx3⟩)
      · gi_wp2
        go_end0
        exact ⟨⟨_, rfl⟩, .inl ⟨_, HP.out.symm, hJ3⟩⟩
      · gi_wp2
        go_end0
        exact ⟨⟨_, rfl⟩, .inr ⟨_, by rw [HP.out]; exact List.prefix_refl _, hJx3⟩⟩
    | succ f =>
      have hi : i < s.size := by have := H.out; omega
      have q1 : decide (i < s.size) = true := decide_eq_true hi
      have hc : ∀ h : i < s.size, ((s[i]'h).toNat : Int) = ((s.data.toList.getD i 0).toNat : Int) := fun h => byte_at h
      have HP := Aside0.mk (show partsOf s a = pre ++ (if ((s.data.toList.getD i 0).toNat : Int) = a then mkPart (s.extract b i) true :: partsFrom s a f (i + 1) (i + 1) else partsFrom s a f b (i + 1)) from H.out.2.2)
      have hb1 : b ≤ i := H.out.1
      have hf1 : i + 1 + f = s.size := by have := H.out; omega
      have hJd : J pre wr.drew := hJ pre wr wr.drew none hJs (grown_drew wr) (fun r e => by cases e)
      have hw : wrap64 ((i : Int) + 1) = ((i + 1 : Nat) : Int) := wrap_succ hi hsz
      clear H
      generalize ((s.data.toList.getD i 0).toNat : Int) = c at hc HP
      by_cases hq : c = a
      · have d0 : (c == a) = true := beq_iff_eq.2 hq
        have d1 : (c != a) = false := bne_eq_false_iff_eq.2 hq
        replace HP := Aside0.mk (HP.out.trans (congrArg _ (if_pos hq)))
        clear hq
        obtain ⟨fn, tmps, assign, body, hy, hR⟩ := hY pre (mkPart (s.extract b i) true) wr.drew hJd (by rw [HP.out]; simp)
        dsimp only [partEnc] at hy
        rw [mkPart_val true (ext_size hsz b i)] at hy
        dsimp only at hy
        have hsl := slice_at (s := s) hb1 (Nat.le_of_lt hi)
        gi_wp2
        gi_region
        all_goals gi_wp2
        all_goals refine hR.mono ?_
        all_goals (rintro e W3 (⟨rfl, hJ3, hk3⟩ | ⟨rfl, hJx3⟩))
        all_goals gi_wp2
        all_goals first
          | exact ⟨⟨i + 1, i + 1, f, pre ++ [mkPart (s.extract b i) true], by first | rfl | rw [hw], by first | rfl | rw [hw], ⟨Nat.le_refl _, hf1, by rw [HP.out]; simp⟩, hJ3, KeepsAt.t hk hk3⟩, by first | (rw [hw]; simp [intOf]; omega) | (simp [intOf]; omega)⟩
          | (refine bodyPost_ret (results_none rfl _ _ _) rfl ?_
             exact ⟨⟨_, rfl⟩, .inr ⟨_, ⟨partsFrom s a f (i + 1) (i + 1), by rw [HP.out]; simp⟩, hJx3⟩⟩)
      · have d0 : (c == a) = false := beq_eq_false_iff_ne.2 hq
        have d1 : (c != a) = true := bne_iff_ne.2 hq
        replace HP := Aside0.mk (HP.out.trans (congrArg _ (if_neg hq)))
        clear hq
        gi_wp2
        gi_region
        all_goals gi_wp2
        all_goals exact ⟨⟨b, i + 1, f, pre, rfl, by first | rfl | rw [hw], ⟨by omega, hf1, HP.out⟩, hJd, hk⟩, by first | (rw [hw]; simp [intOf]; omega) | (simp [intOf]; omega)⟩

set_option maxHeartbeats 1000000 in
theorem parts_in (F : Fence) (n : Nat) (hf : F.fn 29) (hro : F.round = none) (s : ByteArray) (a : Int) (w : World) :
    CallsIn F n Try.prog 29 #[.string s, .int .u8 a] w fun e w' => e = .returned (.func (.func 37) #[] #[.pointer (some ⟨w.heap.size, 0, none⟩), .pointer (some ⟨w.heap.size + 1, 0, none⟩)]) ∧ w' = (w.alloc (.cells #[.string s] 9)).alloc (.cells #[.int .u8 a] 5) := by
  refine callsIn_of_wp Try.func29 rfl hf ?_ hro
  simp only [Try.ntmps29, List.size_toArray, List.length_cons, List.length_nil, Nat.reduceAdd, Nat.reduceSub, Array.replicate_succ, Array.replicate_zero, List.push_toArray, List.append_toArray, List.nil_append, List.cons_append]
  gi_wp2
  go_ret
  exact ⟨rfl, rfl⟩
theorem parts_stops (F : Fence) (n : Nat) (hf : F.fn 37) (hro : F.round = none) (hn : 1 ≤ n) (B : Nat) (s : ByteArray) (a : Int) (hsz : s.size ≤ 9223372036854775807) (w : World) (hB : B + 1 < w.heap.size)
    (hs : w.cell? ⟨B, 0, none⟩ = some (.string s)) (ha : w.cell? ⟨B + 1, 0, none⟩ = some (.int .u8 a)) :
    SeqStopsK F n Try.prog 37 #[.pointer (some ⟨B, 0, none⟩), .pointer (some ⟨B + 1, 0, none⟩)] partEnc (KeepsAt B) (fun ys => ys = partsOf s a) (fun pre => pre <+: partsOf s a) (partsOf s a).length w := fun l J Jx W hW hJ _ hY h0 =>
  parts1_in F n hf hro hn l B s a hsz J Jx hY W hJ ((hW.cell (p := ⟨B, 0, none⟩) (by show B < _; omega)).trans hs) ((hW.cell (p := ⟨B + 1, 0, none⟩) hB).trans ha) h0

/-! ### text.one -/
/-- A line's numbers, by its words. -/
def lineOf : List Part → Option (Int × Int × Int)
  | [] => some (0, 0, 0)
  | [a] => some (whichS a.1.1, 0, 0)
  | [a, b] => if (numberS b.1.1).2 = 0 then some (whichS a.1.1, (numberS b.1.1).1, 0) else none
  | [a, b, c] => if (numberS b.1.1).2 = 0 ∧ (numberS c.1.1).2 = 0 then some (whichS a.1.1, (numberS b.1.1).1, (numberS c.1.1).1) else none
  | _ => none
/-- The instruction of a line. -/
def oneS (s : ByteArray) : (Int × Int × Int) × Int :=
  match lineOf (partsOf s 32) with
  | none => ((0, 0, 0), 3)
  | some (o, x, y) => if o = 0 ∨ ((partsOf s 32).length : Int) - 1 ≠ (kindOf o).2.1 then ((0, 0, 0), 3) else if rightK (kindOf o) x y = true then ((o, x, y), 0) else ((0, 0, 0), 6)
theorem numberS_err (s : ByteArray) (h : (numberS s).2 ≠ 0) : numberS s = (0, 3) := by
  unfold numberS at *
  rcases numberL_cases (bl s) with ⟨n, _, _, e⟩ | ⟨_, e⟩
  · rw [e] at h; exact absurd rfl h
  · exact e
theorem lineOf_more {pre : List Part} (h : lineOf pre = none) (r : List Part) : lineOf (pre ++ r) = none := by
  match pre, h with
  | [], h => cases h
  | [_], h => cases h
  | [a, b], h =>
    simp only [lineOf] at h
    split at h
    · cases h
    · rename_i hb
      cases r with
      | nil => simp only [List.append_nil, lineOf, if_neg hb]
      | cons c r =>
        cases r with
        | nil =>
          show lineOf [a, b, c] = none
          simp only [lineOf]
          exact if_neg fun q => hb q.1
        | cons d r => rfl
  | [a, b, c], h =>
    cases r with
    | nil => exact h
    | cons d r => rfl
  | _ :: _ :: _ :: _ :: _, _ => rfl
/-- What stands in memory while a line is read: the answer's two places, the instruction, the count. -/
structure OneAt (b : Nat) (W : World) (r0 r1 r2 re o x y n : Int) : Prop where mk ::
  (hr : W.heap[b]? = some (.cells #[.int .i64 r0, .int .i64 r1, .int .i64 r2] 24 (0, 0)))
  (he : W.heap[b + 1]? = some (.cells #[.int .i64 re] 29 (0, 0)))
  (hi : W.heap[b + 1 + 1]? = some (.cells #[.int .i64 o, .int .i64 x, .int .i64 y] 24 (0, 0)))
  (hn : W.heap[b + 1 + 1 + 1]? = some (.cells #[.int .i64 n] 3 (0, 0)))
theorem pk_lt {W : World} {b : Nat} {o : Obj} (h : W.heap[b]? = some o) : b < W.heap.size := (Array.getElem?_eq_some_iff.1 h).1
theorem blk_c {W : World} {b j t : Nat} {c : Array Value} {p : Nat × Nat} (h : W.heap[b]? = some (.cells c t p)) : W.cell? ⟨b, j, none⟩ = c[j]? := by simp [World.cell?, h]
theorem blk_f {W : World} {b j t : Nat} {c : Array Value} (h : W.heap[b]? = some (.cells c t (0, 0))) : W.frozen? ⟨b, j, none⟩ = false := by simp [World.frozen?, h]
theorem pk_set {W : World} {b j t : Nat} {c : Array Value} (h : W.heap[b]? = some (.cells c t (0, 0))) (v : Value) : (W.setCell ⟨b, j, none⟩ v).heap[b]? = some (.cells (c.setIfInBounds j v) t (0, 0)) := by
  obtain ⟨hlt, hk⟩ := Array.getElem?_eq_some_iff.1 h
  show (W.heap.modify b _)[b]? = _
  rw [Array.getElem?_eq_getElem (by rw [Array.size_modify]; exact hlt), Array.getElem_modify_self, hk]
  rfl
theorem blk_other {W : World} {b b' j : Nat} {o : Obj} (h : W.heap[b]? = some o) (hne : b ≠ b') (v : Value) : (W.setCell ⟨b', j, none⟩ v).heap[b]? = some o := (Below.heap_setCell W _ _ b hne).trans h
section
variable {b : Nat} {W : World} {r0 r1 r2 re o x y n : Int}
theorem OneAt.kept {W' : World} {row : Option Nat} (h : OneAt b W r0 r1 r2 re o x y n) (hg : W.grownBy W' row) (hrow : ∀ r, row = some r → ∃ o : Obj, W.heap[r]? = some o ∧ o.isCells = false) : OneAt b W' r0 r1 r2 re o x y n := by
  have ne : ∀ {k : Nat} {c : Array Value} {t : Nat}, W.heap[k]? = some (.cells c t (0, 0)) → some k ≠ row := by
    intro k c t h e
    obtain ⟨o, ho, hc⟩ := hrow k e.symm
    rw [h] at ho; cases ho; cases hc
  exact ⟨(hg.block _ (pk_lt h.hr) (ne h.hr)).trans h.hr, (hg.block _ (pk_lt h.he) (ne h.he)).trans h.he, (hg.block _ (pk_lt h.hi) (ne h.hi)).trans h.hi, (hg.block _ (pk_lt h.hn) (ne h.hn)).trans h.hn⟩
theorem OneAt.below {W' : World} (h : OneAt b W r0 r1 r2 re o x y n) (hb : Below W.heap.size W W') : OneAt b W' r0 r1 r2 re o x y n :=
  ⟨(hb.block _ (pk_lt h.hr)).trans h.hr, (hb.block _ (pk_lt h.he)).trans h.he, (hb.block _ (pk_lt h.hi)).trans h.hi, (hb.block _ (pk_lt h.hn)).trans h.hn⟩
theorem OneAt.drew (h : OneAt b W r0 r1 r2 re o x y n) : OneAt b W.drew r0 r1 r2 re o x y n := ⟨h.hr, h.he, h.hi, h.hn⟩
theorem OneAt.setN (h : OneAt b W r0 r1 r2 re o x y n) (v : Int) : OneAt b (W.setCell ⟨b + 1 + 1 + 1, 0, none⟩ (.int .i64 v)) r0 r1 r2 re o x y v :=
  ⟨blk_other h.hr (by omega) _, blk_other h.he (by omega) _, blk_other h.hi (by omega) _, pk_set h.hn _⟩
theorem OneAt.setO (h : OneAt b W r0 r1 r2 re o x y n) (v : Int) : OneAt b (W.setCell ⟨b + 1 + 1, 0, none⟩ (.int .i64 v)) r0 r1 r2 re v x y n :=
  ⟨blk_other h.hr (by omega) _, blk_other h.he (by omega) _, pk_set h.hi _, blk_other h.hn (by omega) _⟩
theorem OneAt.setX (h : OneAt b W r0 r1 r2 re o x y n) (v : Int) : OneAt b (W.setCell ⟨b + 1 + 1, 1, none⟩ (.int .i64 v)) r0 r1 r2 re o v y n :=
  ⟨blk_other h.hr (by omega) _, blk_other h.he (by omega) _, pk_set h.hi _, blk_other h.hn (by omega) _⟩
theorem OneAt.setY (h : OneAt b W r0 r1 r2 re o x y n) (v : Int) : OneAt b (W.setCell ⟨b + 1 + 1, 2, none⟩ (.int .i64 v)) r0 r1 r2 re o x v n :=
  ⟨blk_other h.hr (by omega) _, blk_other h.he (by omega) _, pk_set h.hi _, blk_other h.hn (by omega) _⟩
theorem OneAt.setE (h : OneAt b W r0 r1 r2 re o x y n) (v : Int) : OneAt b (W.setCell ⟨b + 1, 0, none⟩ (.int .i64 v)) r0 r1 r2 v o x y n :=
  ⟨blk_other h.hr (by omega) _, pk_set h.he _, blk_other h.hi (by omega) _, blk_other h.hn (by omega) _⟩
theorem OneAt.setR (h : OneAt b W r0 r1 r2 re o x y n) (u v z : Int) : OneAt b (((W.setCell ⟨b, 0, none⟩ (.int .i64 u)).setCell ⟨b, 1, none⟩ (.int .i64 v)).setCell ⟨b, 2, none⟩ (.int .i64 z)) u v z re o x y n :=
  ⟨pk_set (pk_set (pk_set h.hr _) _) _, blk_other (blk_other (blk_other h.he (by omega) _) (by omega) _) (by omega) _, blk_other (blk_other (blk_other h.hi (by omega) _) (by omega) _) (by omega) _, blk_other (blk_other (blk_other h.hn (by omega) _) (by omega) _) (by omega) _⟩
/-- For the walk: what each cell holds, and that it may be written. -/
theorem OneAt.facts (h : OneAt b W r0 r1 r2 re o x y n) :
    W.cell? ⟨b, 0, none⟩ = some (.int .i64 r0) ∧ W.cell? ⟨b, 1, none⟩ = some (.int .i64 r1) ∧ W.cell? ⟨b, 2, none⟩ = some (.int .i64 r2) ∧ W.cell? ⟨b + 1, 0, none⟩ = some (.int .i64 re) ∧
    W.cell? ⟨b + 1 + 1, 0, none⟩ = some (.int .i64 o) ∧ W.cell? ⟨b + 1 + 1, 1, none⟩ = some (.int .i64 x) ∧ W.cell? ⟨b + 1 + 1, 2, none⟩ = some (.int .i64 y) ∧ W.cell? ⟨b + 1 + 1 + 1, 0, none⟩ = some (.int .i64 n) ∧
    W.frozen? ⟨b, 0, none⟩ = false ∧ W.frozen? ⟨b, 1, none⟩ = false ∧ W.frozen? ⟨b, 2, none⟩ = false ∧ W.frozen? ⟨b + 1, 0, none⟩ = false ∧
    W.frozen? ⟨b + 1 + 1, 0, none⟩ = false ∧ W.frozen? ⟨b + 1 + 1, 1, none⟩ = false ∧ W.frozen? ⟨b + 1 + 1, 2, none⟩ = false ∧ W.frozen? ⟨b + 1 + 1 + 1, 0, none⟩ = false :=
  ⟨blk_c h.hr, blk_c h.hr, blk_c h.hr, blk_c h.he, blk_c h.hi, blk_c h.hi, blk_c h.hi, blk_c h.hn, blk_f h.hr, blk_f h.hr, blk_f h.hr, blk_f h.he, blk_f h.hi, blk_f h.hi, blk_f h.hi, blk_f h.hn⟩
end
theorem KeepsOthers.of_below {W W' : World} (h : Below W.heap.size W W') : KeepsOthers W W' := ⟨h.size, fun k _ hk _ => (h.block k (pk_lt hk)).trans hk⟩

end Go.Proofs.Ytldbochclabmjaa.P
