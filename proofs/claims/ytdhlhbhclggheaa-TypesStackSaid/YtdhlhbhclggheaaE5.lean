/- types.flow: one. No conditions. Printed by wip/tools/mkE5.py. -/
import Derived.Test.YtdhlhbhclggheaaE4
namespace Go.Proofs.Ytdhlhbhclggheaa.P
open Go.RowKit Go.Maps Go.ChangeMaps Go.Proofs.YtdhlhbhclggheaaW.PrintWords Go.Proofs.YtdhlhbhclggheaaW.PrintLast Go.Proofs.YtdhlhbhclggheaaW.PrintMore
set_option linter.unusedVariables false
set_option linter.unusedSimpArgs false

def fallF (F : Fl) (i : Nat) (a : Int) (t : ByteArray) : Option Fl := if a = 19 ∨ a = 25 then some F else if i + 1 < F.o.length then some (handS F (i + 1) t) else none
def leadF (F : Fl) (i : Nat) (a b : Int) (t : ByteArray) : Option Fl := if a = 19 ∨ a = 20 then (if 0 ≤ (i : Int) + 1 + b ∧ (i : Int) + 1 + b < F.o.length then some (handS F ((i : Int) + 1 + b).toNat t) else none) else some F
def oneG (F : Fl) (i : Nat) (a b c : Int) : Option (Fl × Int) :=
  if (F.o.getD i ByteArray.empty).size ≤ 16 ∧ (Lit.int .i64 a).wf = true then
    (if (afterS a b c (F.o.getD i ByteArray.empty)).2 = 0 then (fallF F i a (afterS a b c (F.o.getD i ByteArray.empty)).1).bind fun F1 => (leadF F1 i a b (afterS a b c (F.o.getD i ByteArray.empty)).1).bind fun F2 => some (F2, 0)
     else some (F, (afterS a b c (F.o.getD i ByteArray.empty)).2))
  else none
def oneF (F : Fl) (i : Nat) (a b c m : Int) : Option (Fl × Int) :=
  if F.s.getD i false = false then some (F, 8) else if F.c.getD i false = true then some (F, 10) else
  if a = 22 then (if 0 ≤ m ∧ m < F.o.length then (if F.o.getD m.toNat ByteArray.empty = F.o.getD i ByteArray.empty then oneG F i a b c else some (F, 10)) else none) else oneG F i a b c
theorem Fr.drewN {bo bs bc : Nat} {W W1 : World} (h : Fr bo bs bc W W1) (k : Nat) : Fr bo bs bc W (W1.drewN k) := h.trans ⟨rfl, rfl, rfl, Nat.le_refl _, fun _ _ _ _ _ => rfl⟩
theorem Fr.cell {bo bs bc : Nat} {W W1 : World} (h : Fr bo bs bc W W1) {k j : Nat} {v : Value} (h1 : bo < k) (h2 : bs < k) (h3 : bc < k) (hc : W.cell? ⟨k, j, none⟩ = some v) : W1.cell? ⟨k, j, none⟩ = some v :=
  (World.cell?_of_block (w := W) (w' := W1) (a := ⟨k, j, none⟩) (h.block k (cell_lt hc) (by omega) (by omega) (by omega))).trans hc
theorem FLW.lt {W : World} {fb bo bs bc n : Nat} {F : Fl} (h : FLW W fb bo bs bc n F) : bo < W.heap.size ∧ bs < W.heap.size ∧ bc < W.heap.size :=
  ⟨(Array.getElem?_eq_some_iff.1 h.o).1, (Array.getElem?_eq_some_iff.1 h.s).1, (Array.getElem?_eq_some_iff.1 h.c).1⟩
theorem hand_to {W : World} {fb bo bs bc n : Nat} {F : Fl} (h : FLW W fb bo bs bc n F) (tt : Int) (j : Nat) (ht : tt = j) (hj : j < n) (t : ByteArray) :
    Calls Try.prog 18 #[.pointer (some ⟨fb, 0, none⟩), .int .i64 tt, .string t] W fun e W' => e = .returned (.tuple #[]) ∧ FLW W' fb bo bs bc n (handS F j t) ∧ Fr bo bs bc W W' := by
  subst ht
  exact hand_calls h j hj t
theorem handS_len (F : Fl) (j : Nat) (t : ByteArray) : (handS F j t).o.length = F.o.length := by simp [handS]
/-- What stands at the head of the walk of one. -/
structure O1 (W : World) (fb bo bs bc n bx gm i : Nat) (F : Fl) (a b c m : Int) : Prop where
  fl : FLW W fb bo bs bc n F
  q0 : W.cell? ⟨bx, 0, none⟩ = some (.int .i64 a)
  q1 : W.cell? ⟨bx, 1, none⟩ = some (.int .i64 b)
  q2 : W.cell? ⟨bx, 2, none⟩ = some (.int .i64 c)
  hm : W.cell? ⟨gm, i, none⟩ = some (.int .i64 m)
theorem O1.below {W W' : World} {fb bo bs bc n bx gm i : Nat} {F : Fl} {a b c m : Int} (h : O1 W fb bo bs bc n bx gm i F a b c m) (hb : Below W.heap.size W W') : O1 W' fb bo bs bc n bx gm i F a b c m :=
  ⟨h.fl.below hb, keeps_below hb _ _ _ h.q0, keeps_below hb _ _ _ h.q1, keeps_below hb _ _ _ h.q2, keeps_below hb _ _ _ h.hm⟩
set_option maxHeartbeats 8000000 in
theorem one_p1 {W : World} {fb bo bs bc n gm ln cm : Nat} {F : Fl} (h : FLW W fb bo bs bc n F) (i : Nat) (hi : i < n) (hl : i < ln) (hn : n ≤ 1099511627776) (a b c m : Int) (hm : W.cell? ⟨gm, i, none⟩ = some (.int .i64 m))
    (hs : F.s.getD i false = false) :
    Calls Try.prog 19 #[.pointer (some ⟨fb, 0, none⟩), .int .i64 (i : Int), .agg #[.int .i64 a, .int .i64 b, .int .i64 c], .slice (some ⟨gm, 0, none⟩) ln cm] W fun e W' => e = .returned (.int .i64 8) ∧ FLW W' fb bo bs bc n F ∧ Fr bo bs bc W W' := by
  have i1 : ((i : Int) < (n : Int)) = True := eq_true (by omega)
  have i2 : (0 ≤ (i : Int)) = True := eq_true (by omega)
  have i3 : decide ((i : Int) < (n : Int)) = true := decide_eq_true (by omega)
  have i4 : decide (0 ≤ (i : Int)) = true := decide_eq_true (by omega)
  have i5 : ((i : Int) < (ln : Int)) = True := eq_true (by omega)
  have i6 : decide ((i : Int) < (ln : Int)) = true := decide_eq_true (by omega)
  have HI := Aside0.mk hi
  have HN := Aside0.mk hn
  have H0 := Aside0.mk h
  have HM := Aside0.mk hm
  clear h hi hl hn hm
  have HS := Aside0.mk hs
  clear hs
  go_enter Try.func19, Try.ntmps19
  go_upto_region 1 with (fail)
  have H1 : O1 (W.alloc (.cells #[.int .i64 a, .int .i64 b, .int .i64 c] 37)) fb bo bs bc n W.heap.size gm i F a b c m := by
    have hb := below_alloc (Below.refl W.heap.size W) (.cells #[.int .i64 a, .int .i64 b, .int .i64 c] 37)
    obtain ⟨q0, q1, q2⟩ := box3 W a b c 37
    exact ⟨H0.out.below hb, q0, q1, q2, keeps_below hb _ _ _ HM.out⟩
  have HFr : Aside0 (Fr bo bs bc W (W.alloc (.cells #[.int .i64 a, .int .i64 b, .int .i64 c] 37))) := ⟨(Fr.refl bo bs bc W).below (below_alloc (Below.refl W.heap.size W) _)⟩
  clear H0 HM
  generalize (W.alloc (.cells #[.int .i64 a, .int .i64 b, .int .i64 c] 37)) = W1 at H1 HFr ⊢
  have f0 := cell_of (j := 0) H1.fl.f rfl
  have f1 := cell_of (j := 1) H1.fl.f rfl
  have f2 := cell_of (j := 2) H1.fl.f rfl
  have o0 := H1.fl.co HI.out
  have s0 := H1.fl.cs HI.out
  have c0 := H1.fl.cc HI.out
  have q0 := H1.q0
  have q1 := H1.q1
  have q2 := H1.q2
  have hmt := H1.hm
  have HH := Aside0.mk H1
  clear H1
  rw [HS.out] at s0
  go_wp2_with (fail)
  go_ret
  exact ⟨rfl, HH.out.fl, HFr.out⟩
set_option maxHeartbeats 8000000 in
theorem one_p2 {W : World} {fb bo bs bc n gm ln cm : Nat} {F : Fl} (h : FLW W fb bo bs bc n F) (i : Nat) (hi : i < n) (hl : i < ln) (hn : n ≤ 1099511627776) (a b c m : Int) (hm : W.cell? ⟨gm, i, none⟩ = some (.int .i64 m))
    (hs : F.s.getD i false = true) (hc : F.c.getD i false = true) :
    Calls Try.prog 19 #[.pointer (some ⟨fb, 0, none⟩), .int .i64 (i : Int), .agg #[.int .i64 a, .int .i64 b, .int .i64 c], .slice (some ⟨gm, 0, none⟩) ln cm] W fun e W' => e = .returned (.int .i64 10) ∧ FLW W' fb bo bs bc n F ∧ Fr bo bs bc W W' := by
  have i1 : ((i : Int) < (n : Int)) = True := eq_true (by omega)
  have i2 : (0 ≤ (i : Int)) = True := eq_true (by omega)
  have i3 : decide ((i : Int) < (n : Int)) = true := decide_eq_true (by omega)
  have i4 : decide (0 ≤ (i : Int)) = true := decide_eq_true (by omega)
  have i5 : ((i : Int) < (ln : Int)) = True := eq_true (by omega)
  have i6 : decide ((i : Int) < (ln : Int)) = true := decide_eq_true (by omega)
  have HI := Aside0.mk hi
  have HN := Aside0.mk hn
  have H0 := Aside0.mk h
  have HM := Aside0.mk hm
  clear h hi hl hn hm
  have HS := Aside0.mk hs
  have HC := Aside0.mk hc
  clear hs hc
  go_enter Try.func19, Try.ntmps19
  go_upto_region 1 with (fail)
  have H1 : O1 (W.alloc (.cells #[.int .i64 a, .int .i64 b, .int .i64 c] 37)) fb bo bs bc n W.heap.size gm i F a b c m := by
    have hb := below_alloc (Below.refl W.heap.size W) (.cells #[.int .i64 a, .int .i64 b, .int .i64 c] 37)
    obtain ⟨q0, q1, q2⟩ := box3 W a b c 37
    exact ⟨H0.out.below hb, q0, q1, q2, keeps_below hb _ _ _ HM.out⟩
  have HFr : Aside0 (Fr bo bs bc W (W.alloc (.cells #[.int .i64 a, .int .i64 b, .int .i64 c] 37))) := ⟨(Fr.refl bo bs bc W).below (below_alloc (Below.refl W.heap.size W) _)⟩
  clear H0 HM
  generalize (W.alloc (.cells #[.int .i64 a, .int .i64 b, .int .i64 c] 37)) = W1 at H1 HFr ⊢
  have f0 := cell_of (j := 0) H1.fl.f rfl
  have f1 := cell_of (j := 1) H1.fl.f rfl
  have f2 := cell_of (j := 2) H1.fl.f rfl
  have o0 := H1.fl.co HI.out
  have s0 := H1.fl.cs HI.out
  have c0 := H1.fl.cc HI.out
  have q0 := H1.q0
  have q1 := H1.q1
  have q2 := H1.q2
  have hmt := H1.hm
  have HH := Aside0.mk H1
  clear H1
  rw [HS.out] at s0
  rw [HC.out] at c0
  go_wp2_with (fail)
  go_ret
  exact ⟨rfl, HH.out.fl, HFr.out⟩
set_option maxHeartbeats 8000000 in
theorem one_p3 {W : World} {fb bo bs bc n gm ln cm : Nat} {F : Fl} (h : FLW W fb bo bs bc n F) (i : Nat) (hi : i < n) (hl : i < ln) (hn : n ≤ 1099511627776) (a b c m : Int) (hm : W.cell? ⟨gm, i, none⟩ = some (.int .i64 m))
    (hs : F.s.getD i false = true) (hc : F.c.getD i false = false) (ha : a = 22) (hm1 : 0 ≤ m) (hm2 : m < n) (he : F.o.getD m.toNat ByteArray.empty ≠ F.o.getD i ByteArray.empty) :
    Calls Try.prog 19 #[.pointer (some ⟨fb, 0, none⟩), .int .i64 (i : Int), .agg #[.int .i64 a, .int .i64 b, .int .i64 c], .slice (some ⟨gm, 0, none⟩) ln cm] W fun e W' => e = .returned (.int .i64 10) ∧ FLW W' fb bo bs bc n F ∧ Fr bo bs bc W W' := by
  obtain ⟨x, ex⟩ : ∃ x, F.o.getD i ByteArray.empty = x := ⟨_, rfl⟩
  obtain ⟨y, ey⟩ : ∃ y, F.o.getD m.toNat ByteArray.empty = y := ⟨_, rfl⟩
  rw [ex, ey] at he
  obtain ⟨mj, rfl⟩ : ∃ mj : Nat, m = mj := ⟨m.toNat, by omega⟩
  have j1 : ((mj : Int) < (n : Int)) = True := eq_true hm2
  have j2 : (0 ≤ (mj : Int)) = True := eq_true hm1
  have j3 : decide ((mj : Int) < (n : Int)) = true := decide_eq_true hm2
  have j4 : decide (0 ≤ (mj : Int)) = true := decide_eq_true hm1
  have HMJ : Aside0 (mj < n) := ⟨by omega⟩
  have ey' : F.o.getD mj ByteArray.empty = y := ey
  subst ha
  have d0 : (y.toList == x.toList) = false := beq_eq_false_iff_ne.2 (tl_ne he)
  have d1 : (y.toList != x.toList) = true := bne_iff_ne.2 (tl_ne he)
  have i1 : ((i : Int) < (n : Int)) = True := eq_true (by omega)
  have i2 : (0 ≤ (i : Int)) = True := eq_true (by omega)
  have i3 : decide ((i : Int) < (n : Int)) = true := decide_eq_true (by omega)
  have i4 : decide (0 ≤ (i : Int)) = true := decide_eq_true (by omega)
  have i5 : ((i : Int) < (ln : Int)) = True := eq_true (by omega)
  have i6 : decide ((i : Int) < (ln : Int)) = true := decide_eq_true (by omega)
  have HI := Aside0.mk hi
  have HN := Aside0.mk hn
  have H0 := Aside0.mk h
  have HM := Aside0.mk hm
  clear h hi hl hn hm
  have HS := Aside0.mk hs
  have HC := Aside0.mk hc
  have HX := Aside0.mk ex
  have HY := Aside0.mk ey'
  clear hs hc ex ey ey' he hm1 hm2
  go_enter Try.func19, Try.ntmps19
  go_upto_region 1 with (fail)
  have H1 : O1 (W.alloc (.cells #[.int .i64 22, .int .i64 b, .int .i64 c] 37)) fb bo bs bc n W.heap.size gm i F 22 b c mj := by
    have hb := below_alloc (Below.refl W.heap.size W) (.cells #[.int .i64 22, .int .i64 b, .int .i64 c] 37)
    obtain ⟨q0, q1, q2⟩ := box3 W 22 b c 37
    exact ⟨H0.out.below hb, q0, q1, q2, keeps_below hb _ _ _ HM.out⟩
  have HFr : Aside0 (Fr bo bs bc W (W.alloc (.cells #[.int .i64 22, .int .i64 b, .int .i64 c] 37))) := ⟨(Fr.refl bo bs bc W).below (below_alloc (Below.refl W.heap.size W) _)⟩
  clear H0 HM
  generalize (W.alloc (.cells #[.int .i64 22, .int .i64 b, .int .i64 c] 37)) = W1 at H1 HFr ⊢
  have f0 := cell_of (j := 0) H1.fl.f rfl
  have f1 := cell_of (j := 1) H1.fl.f rfl
  have f2 := cell_of (j := 2) H1.fl.f rfl
  have o0 := H1.fl.co HI.out
  have s0 := H1.fl.cs HI.out
  have c0 := H1.fl.cc HI.out
  have q0 := H1.q0
  have q1 := H1.q1
  have q2 := H1.q2
  have hmt := H1.hm
  have HH := Aside0.mk H1
  clear H1
  rw [HS.out] at s0
  rw [HC.out] at c0
  rw [HX.out] at o0
  have y0 := HH.out.fl.co HMJ.out
  rw [HY.out] at y0
  go_wp2_with (fail)
  go_quiet (fail)
  go_wp2_with (fail)
  go_ret
  exact ⟨rfl, HH.out.fl.keep (fun _ _ => rfl), HFr.out.drewN _⟩
set_option maxHeartbeats 8000000 in
theorem one_eA {W : World} {fb bo bs bc n gm ln cm : Nat} {F : Fl} (h : FLW W fb bo bs bc n F) (i : Nat) (hi : i < n) (hl : i < ln) (hn : n ≤ 1099511627776) (a b c m : Int) (hm : W.cell? ⟨gm, i, none⟩ = some (.int .i64 m))
    (hs : F.s.getD i false = true) (hc : F.c.getD i false = false) (ha : a ≠ 22) (hx1 : (F.o.getD i ByteArray.empty).size ≤ 16) (hw : (Lit.int .i64 a).wf = true) (t : ByteArray) (er : Int) (hr : afterS a b c (F.o.getD i ByteArray.empty) = (t, er)) (h0 : er ≠ 0) :
    Calls Try.prog 19 #[.pointer (some ⟨fb, 0, none⟩), .int .i64 (i : Int), .agg #[.int .i64 a, .int .i64 b, .int .i64 c], .slice (some ⟨gm, 0, none⟩) ln cm] W fun e W' => e = .returned (.int .i64 er) ∧ FLW W' fb bo bs bc n F ∧ Fr bo bs bc W W' := by
  obtain ⟨x, ex⟩ : ∃ x, F.o.getD i ByteArray.empty = x := ⟨_, rfl⟩
  rw [ex] at hx1 hr
  have HA : Aside0 (∀ w, Calls Try.prog 30 #[.agg #[.int .i64 a, .int .i64 b, .int .i64 c], .string x] w fun e w' => e = .returned (.tuple #[.string t, .int .i64 er]) ∧ Below w.heap.size w w') := ⟨fun w => by
    have := after_calls a b c x hx1 hw w
    rw [hr] at this
    exact this⟩
  have B3 := Aside0.mk h.lt
  clear hr hx1 hw
  have w22 : (a == 22) = false := beq_eq_false_iff_ne.2 ha
  have e1 : (er == 0) = false := beq_eq_false_iff_ne.2 h0
  have e2 : (er != 0) = true := bne_iff_ne.2 h0
  clear h0
  clear ha
  have i1 : ((i : Int) < (n : Int)) = True := eq_true (by omega)
  have i2 : (0 ≤ (i : Int)) = True := eq_true (by omega)
  have i3 : decide ((i : Int) < (n : Int)) = true := decide_eq_true (by omega)
  have i4 : decide (0 ≤ (i : Int)) = true := decide_eq_true (by omega)
  have i5 : ((i : Int) < (ln : Int)) = True := eq_true (by omega)
  have i6 : decide ((i : Int) < (ln : Int)) = true := decide_eq_true (by omega)
  have HI := Aside0.mk hi
  have HN := Aside0.mk hn
  have H0 := Aside0.mk h
  have HM := Aside0.mk hm
  clear h hi hl hn hm
  have HS := Aside0.mk hs
  have HC := Aside0.mk hc
  have HX := Aside0.mk ex
  clear hs hc ex
  go_enter Try.func19, Try.ntmps19
  go_upto_region 1 with (fail)
  have H1 : O1 (W.alloc (.cells #[.int .i64 a, .int .i64 b, .int .i64 c] 37)) fb bo bs bc n W.heap.size gm i F a b c m := by
    have hb := below_alloc (Below.refl W.heap.size W) (.cells #[.int .i64 a, .int .i64 b, .int .i64 c] 37)
    obtain ⟨q0, q1, q2⟩ := box3 W a b c 37
    exact ⟨H0.out.below hb, q0, q1, q2, keeps_below hb _ _ _ HM.out⟩
  have HFr : Aside0 (Fr bo bs bc W (W.alloc (.cells #[.int .i64 a, .int .i64 b, .int .i64 c] 37))) := ⟨(Fr.refl bo bs bc W).below (below_alloc (Below.refl W.heap.size W) _)⟩
  clear H0 HM
  generalize (W.alloc (.cells #[.int .i64 a, .int .i64 b, .int .i64 c] 37)) = W1 at H1 HFr ⊢
  have f0 := cell_of (j := 0) H1.fl.f rfl
  have f1 := cell_of (j := 1) H1.fl.f rfl
  have f2 := cell_of (j := 2) H1.fl.f rfl
  have o0 := H1.fl.co HI.out
  have s0 := H1.fl.cs HI.out
  have c0 := H1.fl.cc HI.out
  have q0 := H1.q0
  have q1 := H1.q1
  have q2 := H1.q2
  have hmt := H1.hm
  have HH := Aside0.mk H1
  clear H1
  rw [HS.out] at s0
  rw [HC.out] at c0
  rw [HX.out] at o0
  go_wp2_with (fail)
  go_quiet (fail)
  go_wp2_with (first
    | (go_at_call 30; (with_reducible refine (HA.out _).mono ?_); rintro e w2 ⟨rfl, hb2⟩; replace hb2 : Below W1.heap.size W1 w2 := ⟨hb2.os, hb2.tape, hb2.output, hb2.size, hb2.block⟩; replace q0 := keeps_below hb2 _ _ _ q0; replace q1 := keeps_below hb2 _ _ _ q1; replace q2 := keeps_below hb2 _ _ _ q2; replace HFr := Aside0.mk (HFr.out.below hb2); have HL := Aside0.mk (HH.out.fl.below hb2); clear HH hb2 f0 f1 f2 o0 s0 c0 hmt; (try clear y0)))
  go_ret
  exact ⟨rfl, HL.out, HFr.out⟩
set_option maxHeartbeats 8000000 in
theorem one_eB {W : World} {fb bo bs bc n gm ln cm : Nat} {F : Fl} (h : FLW W fb bo bs bc n F) (i : Nat) (hi : i < n) (hl : i < ln) (hn : n ≤ 1099511627776) (a b c m : Int) (hm : W.cell? ⟨gm, i, none⟩ = some (.int .i64 m))
    (hs : F.s.getD i false = true) (hc : F.c.getD i false = false) (ha : a = 22) (hm1 : 0 ≤ m) (hm2 : m < n) (he : F.o.getD m.toNat ByteArray.empty = F.o.getD i ByteArray.empty) (hx1 : (F.o.getD i ByteArray.empty).size ≤ 16) (hw : (Lit.int .i64 a).wf = true) (t : ByteArray) (er : Int) (hr : afterS a b c (F.o.getD i ByteArray.empty) = (t, er)) (h0 : er ≠ 0) :
    Calls Try.prog 19 #[.pointer (some ⟨fb, 0, none⟩), .int .i64 (i : Int), .agg #[.int .i64 a, .int .i64 b, .int .i64 c], .slice (some ⟨gm, 0, none⟩) ln cm] W fun e W' => e = .returned (.int .i64 er) ∧ FLW W' fb bo bs bc n F ∧ Fr bo bs bc W W' := by
  obtain ⟨x, ex⟩ : ∃ x, F.o.getD i ByteArray.empty = x := ⟨_, rfl⟩
  obtain ⟨y, ey⟩ : ∃ y, F.o.getD m.toNat ByteArray.empty = y := ⟨_, rfl⟩
  rw [ex, ey] at he
  obtain ⟨mj, rfl⟩ : ∃ mj : Nat, m = mj := ⟨m.toNat, by omega⟩
  have j1 : ((mj : Int) < (n : Int)) = True := eq_true hm2
  have j2 : (0 ≤ (mj : Int)) = True := eq_true hm1
  have j3 : decide ((mj : Int) < (n : Int)) = true := decide_eq_true hm2
  have j4 : decide (0 ≤ (mj : Int)) = true := decide_eq_true hm1
  have HMJ : Aside0 (mj < n) := ⟨by omega⟩
  have ey' : F.o.getD mj ByteArray.empty = y := ey
  rw [ex] at hx1 hr
  have HA : Aside0 (∀ w, Calls Try.prog 30 #[.agg #[.int .i64 a, .int .i64 b, .int .i64 c], .string x] w fun e w' => e = .returned (.tuple #[.string t, .int .i64 er]) ∧ Below w.heap.size w w') := ⟨fun w => by
    have := after_calls a b c x hx1 hw w
    rw [hr] at this
    exact this⟩
  have B3 := Aside0.mk h.lt
  clear hr hx1 hw
  subst ha
  have d0 : (y.toList == x.toList) = true := by rw [he]; exact beq_self_eq_true _
  have d1 : (y.toList != x.toList) = false := by rw [he]; simp
  have e1 : (er == 0) = false := beq_eq_false_iff_ne.2 h0
  have e2 : (er != 0) = true := bne_iff_ne.2 h0
  clear h0
  have i1 : ((i : Int) < (n : Int)) = True := eq_true (by omega)
  have i2 : (0 ≤ (i : Int)) = True := eq_true (by omega)
  have i3 : decide ((i : Int) < (n : Int)) = true := decide_eq_true (by omega)
  have i4 : decide (0 ≤ (i : Int)) = true := decide_eq_true (by omega)
  have i5 : ((i : Int) < (ln : Int)) = True := eq_true (by omega)
  have i6 : decide ((i : Int) < (ln : Int)) = true := decide_eq_true (by omega)
  have HI := Aside0.mk hi
  have HN := Aside0.mk hn
  have H0 := Aside0.mk h
  have HM := Aside0.mk hm
  clear h hi hl hn hm
  have HS := Aside0.mk hs
  have HC := Aside0.mk hc
  have HX := Aside0.mk ex
  clear hs hc ex
  have HY := Aside0.mk ey'
  clear ey ey' he hm1 hm2
  go_enter Try.func19, Try.ntmps19
  go_upto_region 1 with (fail)
  have H1 : O1 (W.alloc (.cells #[.int .i64 22, .int .i64 b, .int .i64 c] 37)) fb bo bs bc n W.heap.size gm i F 22 b c mj := by
    have hb := below_alloc (Below.refl W.heap.size W) (.cells #[.int .i64 22, .int .i64 b, .int .i64 c] 37)
    obtain ⟨q0, q1, q2⟩ := box3 W 22 b c 37
    exact ⟨H0.out.below hb, q0, q1, q2, keeps_below hb _ _ _ HM.out⟩
  have HFr : Aside0 (Fr bo bs bc W (W.alloc (.cells #[.int .i64 22, .int .i64 b, .int .i64 c] 37))) := ⟨(Fr.refl bo bs bc W).below (below_alloc (Below.refl W.heap.size W) _)⟩
  clear H0 HM
  generalize (W.alloc (.cells #[.int .i64 22, .int .i64 b, .int .i64 c] 37)) = W1 at H1 HFr ⊢
  have f0 := cell_of (j := 0) H1.fl.f rfl
  have f1 := cell_of (j := 1) H1.fl.f rfl
  have f2 := cell_of (j := 2) H1.fl.f rfl
  have o0 := H1.fl.co HI.out
  have s0 := H1.fl.cs HI.out
  have c0 := H1.fl.cc HI.out
  have q0 := H1.q0
  have q1 := H1.q1
  have q2 := H1.q2
  have hmt := H1.hm
  have HH := Aside0.mk H1
  clear H1
  rw [HS.out] at s0
  rw [HC.out] at c0
  rw [HX.out] at o0
  have y0 := HH.out.fl.co HMJ.out
  rw [HY.out] at y0
  go_wp2_with (fail)
  go_quiet (fail)
  go_wp2_with (first
    | (go_at_call 30; (with_reducible refine (HA.out _).mono ?_); rintro e w2 ⟨rfl, hb2⟩; replace hb2 : Below W1.heap.size W1 w2 := ⟨hb2.os, hb2.tape, hb2.output, hb2.size, hb2.block⟩; replace q0 := keeps_below hb2 _ _ _ q0; replace q1 := keeps_below hb2 _ _ _ q1; replace q2 := keeps_below hb2 _ _ _ q2; replace HFr := Aside0.mk (HFr.out.below hb2); have HL := Aside0.mk (HH.out.fl.below hb2); clear HH hb2 f0 f1 f2 o0 s0 c0 hmt; (try clear y0)))
  go_ret
  exact ⟨rfl, HL.out, HFr.out⟩
set_option maxHeartbeats 8000000 in
theorem one_19 {W : World} {fb bo bs bc n gm ln cm : Nat} {F : Fl} (h : FLW W fb bo bs bc n F) (i : Nat) (hi : i < n) (hl : i < ln) (hn : n ≤ 1099511627776) (a b c m : Int) (hm : W.cell? ⟨gm, i, none⟩ = some (.int .i64 m))
    (hs : F.s.getD i false = true) (hc : F.c.getD i false = false) (ha : a = 19) (hb1 : 0 ≤ (i : Int) + 1 + b) (hb2 : (i : Int) + 1 + b < n) (hx1 : (F.o.getD i ByteArray.empty).size ≤ 16) (hw : (Lit.int .i64 a).wf = true) (t : ByteArray) (er : Int) (hr : afterS a b c (F.o.getD i ByteArray.empty) = (t, er)) (h0 : er = 0) :
    Calls Try.prog 19 #[.pointer (some ⟨fb, 0, none⟩), .int .i64 (i : Int), .agg #[.int .i64 a, .int .i64 b, .int .i64 c], .slice (some ⟨gm, 0, none⟩) ln cm] W fun e W' => e = .returned (.int .i64 0) ∧ FLW W' fb bo bs bc n (handS F ((i : Int) + 1 + b).toNat t) ∧ Fr bo bs bc W W' := by
  obtain ⟨x, ex⟩ : ∃ x, F.o.getD i ByteArray.empty = x := ⟨_, rfl⟩
  rw [ex] at hx1 hr
  have HA : Aside0 (∀ w, Calls Try.prog 30 #[.agg #[.int .i64 a, .int .i64 b, .int .i64 c], .string x] w fun e w' => e = .returned (.tuple #[.string t, .int .i64 er]) ∧ Below w.heap.size w w') := ⟨fun w => by
    have := after_calls a b c x hx1 hw w
    rw [hr] at this
    exact this⟩
  have B3 := Aside0.mk h.lt
  clear hr hx1 hw
  obtain ⟨jt, hjt⟩ : ∃ jt : Nat, jt = ((i : Int) + 1 + b).toNat := ⟨_, rfl⟩
  rw [← hjt]
  have w2 : wrap64 ((i : Int) + 1 + b) = (i : Int) + 1 + b := by unfold wrap64; omega
  have W2a : Aside0 (wrap64 ((i : Int) + 1 + b) = (jt : Int)) := ⟨by rw [w2]; omega⟩
  have W2b : Aside0 ((i : Int) + 1 + b = (jt : Int)) := ⟨by omega⟩
  have W2c : Aside0 (wrap64 (wrap64 ((i : Int) + 1) + b) = (jt : Int)) := ⟨by rw [show wrap64 ((i : Int) + 1) = (i : Int) + 1 by unfold wrap64; omega, w2]; omega⟩
  have I2 : Aside0 (jt < n) := ⟨by omega⟩
  clear hjt hb1 hb2
  subst ha
  subst h0
  have i1 : ((i : Int) < (n : Int)) = True := eq_true (by omega)
  have i2 : (0 ≤ (i : Int)) = True := eq_true (by omega)
  have i3 : decide ((i : Int) < (n : Int)) = true := decide_eq_true (by omega)
  have i4 : decide (0 ≤ (i : Int)) = true := decide_eq_true (by omega)
  have i5 : ((i : Int) < (ln : Int)) = True := eq_true (by omega)
  have i6 : decide ((i : Int) < (ln : Int)) = true := decide_eq_true (by omega)
  have HI := Aside0.mk hi
  have HN := Aside0.mk hn
  have H0 := Aside0.mk h
  have HM := Aside0.mk hm
  clear h hi hl hn hm
  have HS := Aside0.mk hs
  have HC := Aside0.mk hc
  have HX := Aside0.mk ex
  clear hs hc ex
  go_enter Try.func19, Try.ntmps19
  go_upto_region 1 with (fail)
  have H1 : O1 (W.alloc (.cells #[.int .i64 19, .int .i64 b, .int .i64 c] 37)) fb bo bs bc n W.heap.size gm i F 19 b c m := by
    have hb := below_alloc (Below.refl W.heap.size W) (.cells #[.int .i64 19, .int .i64 b, .int .i64 c] 37)
    obtain ⟨q0, q1, q2⟩ := box3 W 19 b c 37
    exact ⟨H0.out.below hb, q0, q1, q2, keeps_below hb _ _ _ HM.out⟩
  have HFr : Aside0 (Fr bo bs bc W (W.alloc (.cells #[.int .i64 19, .int .i64 b, .int .i64 c] 37))) := ⟨(Fr.refl bo bs bc W).below (below_alloc (Below.refl W.heap.size W) _)⟩
  clear H0 HM
  generalize (W.alloc (.cells #[.int .i64 19, .int .i64 b, .int .i64 c] 37)) = W1 at H1 HFr ⊢
  have f0 := cell_of (j := 0) H1.fl.f rfl
  have f1 := cell_of (j := 1) H1.fl.f rfl
  have f2 := cell_of (j := 2) H1.fl.f rfl
  have o0 := H1.fl.co HI.out
  have s0 := H1.fl.cs HI.out
  have c0 := H1.fl.cc HI.out
  have q0 := H1.q0
  have q1 := H1.q1
  have q2 := H1.q2
  have hmt := H1.hm
  have HH := Aside0.mk H1
  clear H1
  rw [HS.out] at s0
  rw [HC.out] at c0
  rw [HX.out] at o0
  go_wp2_with (fail)
  go_quiet (fail)
  go_wp2_with (first
    | (go_at_call 30; (with_reducible refine (HA.out _).mono ?_); rintro e w2 ⟨rfl, hb2⟩; replace hb2 : Below W1.heap.size W1 w2 := ⟨hb2.os, hb2.tape, hb2.output, hb2.size, hb2.block⟩; replace q0 := keeps_below hb2 _ _ _ q0; replace q1 := keeps_below hb2 _ _ _ q1; replace q2 := keeps_below hb2 _ _ _ q2; replace HFr := Aside0.mk (HFr.out.below hb2); have HL := Aside0.mk (HH.out.fl.below hb2); clear HH hb2 f0 f1 f2 o0 s0 c0 hmt; (try clear y0))
    | (go_at_call 18; (with_reducible refine (hand_to HL.out _ jt (by first | exact W2a.out | exact W2b.out | exact W2c.out) I2.out t).mono ?_); rintro e w4 ⟨rfl, hl3, hf3⟩; replace HFr := Aside0.mk (HFr.out.trans hf3); replace HL := Aside0.mk hl3; clear hl3 hf3))
  go_ret
  exact ⟨rfl, HL.out, HFr.out⟩
set_option maxHeartbeats 8000000 in
theorem one_25 {W : World} {fb bo bs bc n gm ln cm : Nat} {F : Fl} (h : FLW W fb bo bs bc n F) (i : Nat) (hi : i < n) (hl : i < ln) (hn : n ≤ 1099511627776) (a b c m : Int) (hm : W.cell? ⟨gm, i, none⟩ = some (.int .i64 m))
    (hs : F.s.getD i false = true) (hc : F.c.getD i false = false) (ha : a = 25) (hx1 : (F.o.getD i ByteArray.empty).size ≤ 16) (hw : (Lit.int .i64 a).wf = true) (t : ByteArray) (er : Int) (hr : afterS a b c (F.o.getD i ByteArray.empty) = (t, er)) (h0 : er = 0) :
    Calls Try.prog 19 #[.pointer (some ⟨fb, 0, none⟩), .int .i64 (i : Int), .agg #[.int .i64 a, .int .i64 b, .int .i64 c], .slice (some ⟨gm, 0, none⟩) ln cm] W fun e W' => e = .returned (.int .i64 0) ∧ FLW W' fb bo bs bc n F ∧ Fr bo bs bc W W' := by
  obtain ⟨x, ex⟩ : ∃ x, F.o.getD i ByteArray.empty = x := ⟨_, rfl⟩
  rw [ex] at hx1 hr
  have HA : Aside0 (∀ w, Calls Try.prog 30 #[.agg #[.int .i64 a, .int .i64 b, .int .i64 c], .string x] w fun e w' => e = .returned (.tuple #[.string t, .int .i64 er]) ∧ Below w.heap.size w w') := ⟨fun w => by
    have := after_calls a b c x hx1 hw w
    rw [hr] at this
    exact this⟩
  have B3 := Aside0.mk h.lt
  clear hr hx1 hw
  subst ha
  subst h0
  have i1 : ((i : Int) < (n : Int)) = True := eq_true (by omega)
  have i2 : (0 ≤ (i : Int)) = True := eq_true (by omega)
  have i3 : decide ((i : Int) < (n : Int)) = true := decide_eq_true (by omega)
  have i4 : decide (0 ≤ (i : Int)) = true := decide_eq_true (by omega)
  have i5 : ((i : Int) < (ln : Int)) = True := eq_true (by omega)
  have i6 : decide ((i : Int) < (ln : Int)) = true := decide_eq_true (by omega)
  have HI := Aside0.mk hi
  have HN := Aside0.mk hn
  have H0 := Aside0.mk h
  have HM := Aside0.mk hm
  clear h hi hl hn hm
  have HS := Aside0.mk hs
  have HC := Aside0.mk hc
  have HX := Aside0.mk ex
  clear hs hc ex
  go_enter Try.func19, Try.ntmps19
  go_upto_region 1 with (fail)
  have H1 : O1 (W.alloc (.cells #[.int .i64 25, .int .i64 b, .int .i64 c] 37)) fb bo bs bc n W.heap.size gm i F 25 b c m := by
    have hb := below_alloc (Below.refl W.heap.size W) (.cells #[.int .i64 25, .int .i64 b, .int .i64 c] 37)
    obtain ⟨q0, q1, q2⟩ := box3 W 25 b c 37
    exact ⟨H0.out.below hb, q0, q1, q2, keeps_below hb _ _ _ HM.out⟩
  have HFr : Aside0 (Fr bo bs bc W (W.alloc (.cells #[.int .i64 25, .int .i64 b, .int .i64 c] 37))) := ⟨(Fr.refl bo bs bc W).below (below_alloc (Below.refl W.heap.size W) _)⟩
  clear H0 HM
  generalize (W.alloc (.cells #[.int .i64 25, .int .i64 b, .int .i64 c] 37)) = W1 at H1 HFr ⊢
  have f0 := cell_of (j := 0) H1.fl.f rfl
  have f1 := cell_of (j := 1) H1.fl.f rfl
  have f2 := cell_of (j := 2) H1.fl.f rfl
  have o0 := H1.fl.co HI.out
  have s0 := H1.fl.cs HI.out
  have c0 := H1.fl.cc HI.out
  have q0 := H1.q0
  have q1 := H1.q1
  have q2 := H1.q2
  have hmt := H1.hm
  have HH := Aside0.mk H1
  clear H1
  rw [HS.out] at s0
  rw [HC.out] at c0
  rw [HX.out] at o0
  go_wp2_with (fail)
  go_quiet (fail)
  go_wp2_with (first
    | (go_at_call 30; (with_reducible refine (HA.out _).mono ?_); rintro e w2 ⟨rfl, hb2⟩; replace hb2 : Below W1.heap.size W1 w2 := ⟨hb2.os, hb2.tape, hb2.output, hb2.size, hb2.block⟩; replace q0 := keeps_below hb2 _ _ _ q0; replace q1 := keeps_below hb2 _ _ _ q1; replace q2 := keeps_below hb2 _ _ _ q2; replace HFr := Aside0.mk (HFr.out.below hb2); have HL := Aside0.mk (HH.out.fl.below hb2); clear HH hb2 f0 f1 f2 o0 s0 c0 hmt; (try clear y0)))
  go_ret
  exact ⟨rfl, HL.out, HFr.out⟩
set_option maxHeartbeats 8000000 in
theorem one_20 {W : World} {fb bo bs bc n gm ln cm : Nat} {F : Fl} (h : FLW W fb bo bs bc n F) (i : Nat) (hi : i < n) (hl : i < ln) (hn : n ≤ 1099511627776) (a b c m : Int) (hm : W.cell? ⟨gm, i, none⟩ = some (.int .i64 m))
    (hs : F.s.getD i false = true) (hc : F.c.getD i false = false) (ha : a = 20) (hb1 : 0 ≤ (i : Int) + 1 + b) (hb2 : (i : Int) + 1 + b < n) (hi1 : i + 1 < n) (hx1 : (F.o.getD i ByteArray.empty).size ≤ 16) (hw : (Lit.int .i64 a).wf = true) (t : ByteArray) (er : Int) (hr : afterS a b c (F.o.getD i ByteArray.empty) = (t, er)) (h0 : er = 0) :
    Calls Try.prog 19 #[.pointer (some ⟨fb, 0, none⟩), .int .i64 (i : Int), .agg #[.int .i64 a, .int .i64 b, .int .i64 c], .slice (some ⟨gm, 0, none⟩) ln cm] W fun e W' => e = .returned (.int .i64 0) ∧ FLW W' fb bo bs bc n (handS (handS F (i + 1) t) ((i : Int) + 1 + b).toNat t) ∧ Fr bo bs bc W W' := by
  obtain ⟨x, ex⟩ : ∃ x, F.o.getD i ByteArray.empty = x := ⟨_, rfl⟩
  rw [ex] at hx1 hr
  have HA : Aside0 (∀ w, Calls Try.prog 30 #[.agg #[.int .i64 a, .int .i64 b, .int .i64 c], .string x] w fun e w' => e = .returned (.tuple #[.string t, .int .i64 er]) ∧ Below w.heap.size w w') := ⟨fun w => by
    have := after_calls a b c x hx1 hw w
    rw [hr] at this
    exact this⟩
  have B3 := Aside0.mk h.lt
  clear hr hx1 hw
  obtain ⟨jt, hjt⟩ : ∃ jt : Nat, jt = ((i : Int) + 1 + b).toNat := ⟨_, rfl⟩
  rw [← hjt]
  have w2 : wrap64 ((i : Int) + 1 + b) = (i : Int) + 1 + b := by unfold wrap64; omega
  have W2a : Aside0 (wrap64 ((i : Int) + 1 + b) = (jt : Int)) := ⟨by rw [w2]; omega⟩
  have W2b : Aside0 ((i : Int) + 1 + b = (jt : Int)) := ⟨by omega⟩
  have W2c : Aside0 (wrap64 (wrap64 ((i : Int) + 1) + b) = (jt : Int)) := ⟨by rw [show wrap64 ((i : Int) + 1) = (i : Int) + 1 by unfold wrap64; omega, w2]; omega⟩
  have I2 : Aside0 (jt < n) := ⟨by omega⟩
  clear hjt hb1 hb2
  have w1 : wrap64 ((i : Int) + 1) = (i : Int) + 1 := by unfold wrap64; omega
  have W1a : Aside0 (wrap64 ((i : Int) + 1) = ((i + 1 : Nat) : Int)) := ⟨by rw [w1]; omega⟩
  have W1b : Aside0 ((i : Int) + 1 = ((i + 1 : Nat) : Int)) := ⟨by omega⟩
  have I1 := Aside0.mk hi1
  clear hi1
  subst ha
  subst h0
  have i1 : ((i : Int) < (n : Int)) = True := eq_true (by omega)
  have i2 : (0 ≤ (i : Int)) = True := eq_true (by omega)
  have i3 : decide ((i : Int) < (n : Int)) = true := decide_eq_true (by omega)
  have i4 : decide (0 ≤ (i : Int)) = true := decide_eq_true (by omega)
  have i5 : ((i : Int) < (ln : Int)) = True := eq_true (by omega)
  have i6 : decide ((i : Int) < (ln : Int)) = true := decide_eq_true (by omega)
  have HI := Aside0.mk hi
  have HN := Aside0.mk hn
  have H0 := Aside0.mk h
  have HM := Aside0.mk hm
  clear h hi hl hn hm
  have HS := Aside0.mk hs
  have HC := Aside0.mk hc
  have HX := Aside0.mk ex
  clear hs hc ex
  go_enter Try.func19, Try.ntmps19
  go_upto_region 1 with (fail)
  have H1 : O1 (W.alloc (.cells #[.int .i64 20, .int .i64 b, .int .i64 c] 37)) fb bo bs bc n W.heap.size gm i F 20 b c m := by
    have hb := below_alloc (Below.refl W.heap.size W) (.cells #[.int .i64 20, .int .i64 b, .int .i64 c] 37)
    obtain ⟨q0, q1, q2⟩ := box3 W 20 b c 37
    exact ⟨H0.out.below hb, q0, q1, q2, keeps_below hb _ _ _ HM.out⟩
  have HFr : Aside0 (Fr bo bs bc W (W.alloc (.cells #[.int .i64 20, .int .i64 b, .int .i64 c] 37))) := ⟨(Fr.refl bo bs bc W).below (below_alloc (Below.refl W.heap.size W) _)⟩
  clear H0 HM
  generalize (W.alloc (.cells #[.int .i64 20, .int .i64 b, .int .i64 c] 37)) = W1 at H1 HFr ⊢
  have f0 := cell_of (j := 0) H1.fl.f rfl
  have f1 := cell_of (j := 1) H1.fl.f rfl
  have f2 := cell_of (j := 2) H1.fl.f rfl
  have o0 := H1.fl.co HI.out
  have s0 := H1.fl.cs HI.out
  have c0 := H1.fl.cc HI.out
  have q0 := H1.q0
  have q1 := H1.q1
  have q2 := H1.q2
  have hmt := H1.hm
  have HH := Aside0.mk H1
  clear H1
  rw [HS.out] at s0
  rw [HC.out] at c0
  rw [HX.out] at o0
  go_wp2_with (fail)
  go_quiet (fail)
  go_wp2_with (first
    | (go_at_call 30; (with_reducible refine (HA.out _).mono ?_); rintro e w2 ⟨rfl, hb2⟩; replace hb2 : Below W1.heap.size W1 w2 := ⟨hb2.os, hb2.tape, hb2.output, hb2.size, hb2.block⟩; replace q0 := keeps_below hb2 _ _ _ q0; replace q1 := keeps_below hb2 _ _ _ q1; replace q2 := keeps_below hb2 _ _ _ q2; replace HFr := Aside0.mk (HFr.out.below hb2); have HL := Aside0.mk (HH.out.fl.below hb2); clear HH hb2 f0 f1 f2 o0 s0 c0 hmt; (try clear y0))
    | (go_at_call 18; (with_reducible refine (hand_to HL.out _ (i + 1) (by first | exact W1a.out | exact W1b.out) I1.out t).mono ?_); rintro e w3 ⟨rfl, hl3, hf3⟩; replace q0 := hf3.cell B3.out.1 B3.out.2.1 B3.out.2.2 q0; replace q1 := hf3.cell B3.out.1 B3.out.2.1 B3.out.2.2 q1; replace q2 := hf3.cell B3.out.1 B3.out.2.1 B3.out.2.2 q2; replace HFr := Aside0.mk (HFr.out.trans hf3); replace HL := Aside0.mk hl3; clear hl3 hf3)
    | (go_at_call 18; (with_reducible refine (hand_to HL.out _ jt (by first | exact W2a.out | exact W2b.out | exact W2c.out) I2.out t).mono ?_); rintro e w4 ⟨rfl, hl3, hf3⟩; replace HFr := Aside0.mk (HFr.out.trans hf3); replace HL := Aside0.mk hl3; clear hl3 hf3))
  go_ret
  exact ⟨rfl, HL.out, HFr.out⟩
set_option maxHeartbeats 8000000 in
theorem one_A {W : World} {fb bo bs bc n gm ln cm : Nat} {F : Fl} (h : FLW W fb bo bs bc n F) (i : Nat) (hi : i < n) (hl : i < ln) (hn : n ≤ 1099511627776) (a b c m : Int) (hm : W.cell? ⟨gm, i, none⟩ = some (.int .i64 m))
    (hs : F.s.getD i false = true) (hc : F.c.getD i false = false) (ha : a ≠ 22) (hx19 : a ≠ 19) (hx20 : a ≠ 20) (hx25 : a ≠ 25) (hi1 : i + 1 < n) (hx1 : (F.o.getD i ByteArray.empty).size ≤ 16) (hw : (Lit.int .i64 a).wf = true) (t : ByteArray) (er : Int) (hr : afterS a b c (F.o.getD i ByteArray.empty) = (t, er)) (h0 : er = 0) :
    Calls Try.prog 19 #[.pointer (some ⟨fb, 0, none⟩), .int .i64 (i : Int), .agg #[.int .i64 a, .int .i64 b, .int .i64 c], .slice (some ⟨gm, 0, none⟩) ln cm] W fun e W' => e = .returned (.int .i64 0) ∧ FLW W' fb bo bs bc n (handS F (i + 1) t) ∧ Fr bo bs bc W W' := by
  obtain ⟨x, ex⟩ : ∃ x, F.o.getD i ByteArray.empty = x := ⟨_, rfl⟩
  rw [ex] at hx1 hr
  have HA : Aside0 (∀ w, Calls Try.prog 30 #[.agg #[.int .i64 a, .int .i64 b, .int .i64 c], .string x] w fun e w' => e = .returned (.tuple #[.string t, .int .i64 er]) ∧ Below w.heap.size w w') := ⟨fun w => by
    have := after_calls a b c x hx1 hw w
    rw [hr] at this
    exact this⟩
  have B3 := Aside0.mk h.lt
  clear hr hx1 hw
  have w1 : wrap64 ((i : Int) + 1) = (i : Int) + 1 := by unfold wrap64; omega
  have W1a : Aside0 (wrap64 ((i : Int) + 1) = ((i + 1 : Nat) : Int)) := ⟨by rw [w1]; omega⟩
  have W1b : Aside0 ((i : Int) + 1 = ((i + 1 : Nat) : Int)) := ⟨by omega⟩
  have I1 := Aside0.mk hi1
  clear hi1
  have w22 : (a == 22) = false := beq_eq_false_iff_ne.2 ha
  have v19 : (a == 19) = false := beq_eq_false_iff_ne.2 hx19
  have u19 : (a != 19) = true := bne_iff_ne.2 hx19
  have v20 : (a == 20) = false := beq_eq_false_iff_ne.2 hx20
  have v25 : (a == 25) = false := beq_eq_false_iff_ne.2 hx25
  have u25 : (a != 25) = true := bne_iff_ne.2 hx25
  clear ha hx19 hx20 hx25
  subst h0
  have i1 : ((i : Int) < (n : Int)) = True := eq_true (by omega)
  have i2 : (0 ≤ (i : Int)) = True := eq_true (by omega)
  have i3 : decide ((i : Int) < (n : Int)) = true := decide_eq_true (by omega)
  have i4 : decide (0 ≤ (i : Int)) = true := decide_eq_true (by omega)
  have i5 : ((i : Int) < (ln : Int)) = True := eq_true (by omega)
  have i6 : decide ((i : Int) < (ln : Int)) = true := decide_eq_true (by omega)
  have HI := Aside0.mk hi
  have HN := Aside0.mk hn
  have H0 := Aside0.mk h
  have HM := Aside0.mk hm
  clear h hi hl hn hm
  have HS := Aside0.mk hs
  have HC := Aside0.mk hc
  have HX := Aside0.mk ex
  clear hs hc ex
  go_enter Try.func19, Try.ntmps19
  go_upto_region 1 with (fail)
  have H1 : O1 (W.alloc (.cells #[.int .i64 a, .int .i64 b, .int .i64 c] 37)) fb bo bs bc n W.heap.size gm i F a b c m := by
    have hb := below_alloc (Below.refl W.heap.size W) (.cells #[.int .i64 a, .int .i64 b, .int .i64 c] 37)
    obtain ⟨q0, q1, q2⟩ := box3 W a b c 37
    exact ⟨H0.out.below hb, q0, q1, q2, keeps_below hb _ _ _ HM.out⟩
  have HFr : Aside0 (Fr bo bs bc W (W.alloc (.cells #[.int .i64 a, .int .i64 b, .int .i64 c] 37))) := ⟨(Fr.refl bo bs bc W).below (below_alloc (Below.refl W.heap.size W) _)⟩
  clear H0 HM
  generalize (W.alloc (.cells #[.int .i64 a, .int .i64 b, .int .i64 c] 37)) = W1 at H1 HFr ⊢
  have f0 := cell_of (j := 0) H1.fl.f rfl
  have f1 := cell_of (j := 1) H1.fl.f rfl
  have f2 := cell_of (j := 2) H1.fl.f rfl
  have o0 := H1.fl.co HI.out
  have s0 := H1.fl.cs HI.out
  have c0 := H1.fl.cc HI.out
  have q0 := H1.q0
  have q1 := H1.q1
  have q2 := H1.q2
  have hmt := H1.hm
  have HH := Aside0.mk H1
  clear H1
  rw [HS.out] at s0
  rw [HC.out] at c0
  rw [HX.out] at o0
  go_wp2_with (fail)
  go_quiet (fail)
  go_wp2_with (first
    | (go_at_call 30; (with_reducible refine (HA.out _).mono ?_); rintro e w2 ⟨rfl, hb2⟩; replace hb2 : Below W1.heap.size W1 w2 := ⟨hb2.os, hb2.tape, hb2.output, hb2.size, hb2.block⟩; replace q0 := keeps_below hb2 _ _ _ q0; replace q1 := keeps_below hb2 _ _ _ q1; replace q2 := keeps_below hb2 _ _ _ q2; replace HFr := Aside0.mk (HFr.out.below hb2); have HL := Aside0.mk (HH.out.fl.below hb2); clear HH hb2 f0 f1 f2 o0 s0 c0 hmt; (try clear y0))
    | (go_at_call 18; (with_reducible refine (hand_to HL.out _ (i + 1) (by first | exact W1a.out | exact W1b.out) I1.out t).mono ?_); rintro e w3 ⟨rfl, hl3, hf3⟩; replace q0 := hf3.cell B3.out.1 B3.out.2.1 B3.out.2.2 q0; replace q1 := hf3.cell B3.out.1 B3.out.2.1 B3.out.2.2 q1; replace q2 := hf3.cell B3.out.1 B3.out.2.1 B3.out.2.2 q2; replace HFr := Aside0.mk (HFr.out.trans hf3); replace HL := Aside0.mk hl3; clear hl3 hf3))
  go_ret
  exact ⟨rfl, HL.out, HFr.out⟩
set_option maxHeartbeats 8000000 in
theorem one_B {W : World} {fb bo bs bc n gm ln cm : Nat} {F : Fl} (h : FLW W fb bo bs bc n F) (i : Nat) (hi : i < n) (hl : i < ln) (hn : n ≤ 1099511627776) (a b c m : Int) (hm : W.cell? ⟨gm, i, none⟩ = some (.int .i64 m))
    (hs : F.s.getD i false = true) (hc : F.c.getD i false = false) (ha : a = 22) (hm1 : 0 ≤ m) (hm2 : m < n) (he : F.o.getD m.toNat ByteArray.empty = F.o.getD i ByteArray.empty) (hi1 : i + 1 < n) (hx1 : (F.o.getD i ByteArray.empty).size ≤ 16) (hw : (Lit.int .i64 a).wf = true) (t : ByteArray) (er : Int) (hr : afterS a b c (F.o.getD i ByteArray.empty) = (t, er)) (h0 : er = 0) :
    Calls Try.prog 19 #[.pointer (some ⟨fb, 0, none⟩), .int .i64 (i : Int), .agg #[.int .i64 a, .int .i64 b, .int .i64 c], .slice (some ⟨gm, 0, none⟩) ln cm] W fun e W' => e = .returned (.int .i64 0) ∧ FLW W' fb bo bs bc n (handS F (i + 1) t) ∧ Fr bo bs bc W W' := by
  obtain ⟨x, ex⟩ : ∃ x, F.o.getD i ByteArray.empty = x := ⟨_, rfl⟩
  obtain ⟨y, ey⟩ : ∃ y, F.o.getD m.toNat ByteArray.empty = y := ⟨_, rfl⟩
  rw [ex, ey] at he
  obtain ⟨mj, rfl⟩ : ∃ mj : Nat, m = mj := ⟨m.toNat, by omega⟩
  have j1 : ((mj : Int) < (n : Int)) = True := eq_true hm2
  have j2 : (0 ≤ (mj : Int)) = True := eq_true hm1
  have j3 : decide ((mj : Int) < (n : Int)) = true := decide_eq_true hm2
  have j4 : decide (0 ≤ (mj : Int)) = true := decide_eq_true hm1
  have HMJ : Aside0 (mj < n) := ⟨by omega⟩
  have ey' : F.o.getD mj ByteArray.empty = y := ey
  rw [ex] at hx1 hr
  have HA : Aside0 (∀ w, Calls Try.prog 30 #[.agg #[.int .i64 a, .int .i64 b, .int .i64 c], .string x] w fun e w' => e = .returned (.tuple #[.string t, .int .i64 er]) ∧ Below w.heap.size w w') := ⟨fun w => by
    have := after_calls a b c x hx1 hw w
    rw [hr] at this
    exact this⟩
  have B3 := Aside0.mk h.lt
  clear hr hx1 hw
  subst ha
  have d0 : (y.toList == x.toList) = true := by rw [he]; exact beq_self_eq_true _
  have d1 : (y.toList != x.toList) = false := by rw [he]; simp
  have w1 : wrap64 ((i : Int) + 1) = (i : Int) + 1 := by unfold wrap64; omega
  have W1a : Aside0 (wrap64 ((i : Int) + 1) = ((i + 1 : Nat) : Int)) := ⟨by rw [w1]; omega⟩
  have W1b : Aside0 ((i : Int) + 1 = ((i + 1 : Nat) : Int)) := ⟨by omega⟩
  have I1 := Aside0.mk hi1
  clear hi1
  subst h0
  have i1 : ((i : Int) < (n : Int)) = True := eq_true (by omega)
  have i2 : (0 ≤ (i : Int)) = True := eq_true (by omega)
  have i3 : decide ((i : Int) < (n : Int)) = true := decide_eq_true (by omega)
  have i4 : decide (0 ≤ (i : Int)) = true := decide_eq_true (by omega)
  have i5 : ((i : Int) < (ln : Int)) = True := eq_true (by omega)
  have i6 : decide ((i : Int) < (ln : Int)) = true := decide_eq_true (by omega)
  have HI := Aside0.mk hi
  have HN := Aside0.mk hn
  have H0 := Aside0.mk h
  have HM := Aside0.mk hm
  clear h hi hl hn hm
  have HS := Aside0.mk hs
  have HC := Aside0.mk hc
  have HX := Aside0.mk ex
  clear hs hc ex
  have HY := Aside0.mk ey'
  clear ey ey' he hm1 hm2
  go_enter Try.func19, Try.ntmps19
  go_upto_region 1 with (fail)
  have H1 : O1 (W.alloc (.cells #[.int .i64 22, .int .i64 b, .int .i64 c] 37)) fb bo bs bc n W.heap.size gm i F 22 b c mj := by
    have hb := below_alloc (Below.refl W.heap.size W) (.cells #[.int .i64 22, .int .i64 b, .int .i64 c] 37)
    obtain ⟨q0, q1, q2⟩ := box3 W 22 b c 37
    exact ⟨H0.out.below hb, q0, q1, q2, keeps_below hb _ _ _ HM.out⟩
  have HFr : Aside0 (Fr bo bs bc W (W.alloc (.cells #[.int .i64 22, .int .i64 b, .int .i64 c] 37))) := ⟨(Fr.refl bo bs bc W).below (below_alloc (Below.refl W.heap.size W) _)⟩
  clear H0 HM
  generalize (W.alloc (.cells #[.int .i64 22, .int .i64 b, .int .i64 c] 37)) = W1 at H1 HFr ⊢
  have f0 := cell_of (j := 0) H1.fl.f rfl
  have f1 := cell_of (j := 1) H1.fl.f rfl
  have f2 := cell_of (j := 2) H1.fl.f rfl
  have o0 := H1.fl.co HI.out
  have s0 := H1.fl.cs HI.out
  have c0 := H1.fl.cc HI.out
  have q0 := H1.q0
  have q1 := H1.q1
  have q2 := H1.q2
  have hmt := H1.hm
  have HH := Aside0.mk H1
  clear H1
  rw [HS.out] at s0
  rw [HC.out] at c0
  rw [HX.out] at o0
  have y0 := HH.out.fl.co HMJ.out
  rw [HY.out] at y0
  go_wp2_with (fail)
  go_quiet (fail)
  go_wp2_with (first
    | (go_at_call 30; (with_reducible refine (HA.out _).mono ?_); rintro e w2 ⟨rfl, hb2⟩; replace hb2 : Below W1.heap.size W1 w2 := ⟨hb2.os, hb2.tape, hb2.output, hb2.size, hb2.block⟩; replace q0 := keeps_below hb2 _ _ _ q0; replace q1 := keeps_below hb2 _ _ _ q1; replace q2 := keeps_below hb2 _ _ _ q2; replace HFr := Aside0.mk (HFr.out.below hb2); have HL := Aside0.mk (HH.out.fl.below hb2); clear HH hb2 f0 f1 f2 o0 s0 c0 hmt; (try clear y0))
    | (go_at_call 18; (with_reducible refine (hand_to HL.out _ (i + 1) (by first | exact W1a.out | exact W1b.out) I1.out t).mono ?_); rintro e w3 ⟨rfl, hl3, hf3⟩; replace q0 := hf3.cell B3.out.1 B3.out.2.1 B3.out.2.2 q0; replace q1 := hf3.cell B3.out.1 B3.out.2.1 B3.out.2.2 q1; replace q2 := hf3.cell B3.out.1 B3.out.2.1 B3.out.2.2 q2; replace HFr := Aside0.mk (HFr.out.trans hf3); replace HL := Aside0.mk hl3; clear hl3 hf3))
  go_ret
  exact ⟨rfl, HL.out, HFr.out⟩
end Go.Proofs.Ytdhlhbhclggheaa.P
