/- text.Parse: lines' instructions; for every text. No conditions. -/
import Derived.Test.YtldbochclabmjaaG11
namespace Go.Proofs.Ytldbochclabmjaa.P
open Go.RowKit Go.Shelf Go.Proofs.Ytldbochclabmjaa.C Go.Proofs.YtldbochclabmjaaW.PrintWords Go.Proofs.YtldbochclabmjaaW.PrintLast Go.Proofs.YtldbochclabmjaaW.PrintMore
set_option linter.unusedVariables false
set_option linter.unusedSimpArgs false

attribute [local go_sem] Oper.semAt_some

abbrev Ln := Int × Int × Int
/-- One line more: the instructions so far; or the answer. -/
def parseStep (l : List Ln) (p : ByteArray × Bool) : List Ln ⊕ (List Ln × Int) :=
  if p.1.toList = [] ∧ p.2 = false then .inr (l, 0) else if l.length = 200 then .inr ([], 4) else if p.2 = false then .inr ([], 3) else
    if (oneS p.1).2 = 0 then .inl (l ++ [(oneS p.1).1]) else .inr ([], (oneS p.1).2)
def parseRun : List Ln → List Part → List Ln ⊕ (List Ln × Int)
  | l, [] => .inl l
  | l, p :: ps => match parseStep l p.1 with
    | .inl l' => parseRun l' ps
    | .inr r => .inr r
/-- Lines' instructions, or what is wrong. -/
def parseS (s : ByteArray) : List Ln × Int :=
  match parseRun [] (partsOf s 10) with
  | .inl l => (l, 0)
  | .inr r => r
theorem parseRun_snoc : ∀ (pre : List Part) (l : List Ln) (x : Part), parseRun l (pre ++ [x]) = match parseRun l pre with | .inl l' => parseStep l' x.1 | .inr r => .inr r
  | [], l, x => by
    simp only [List.nil_append, parseRun]
    cases parseStep l x.1 <;> rfl
  | p :: ps, l, x => by
    simp only [List.cons_append, parseRun]
    cases parseStep l p.1 with
    | inl l' => exact parseRun_snoc ps l' x
    | inr r => rfl
theorem parseRun_stop : ∀ (pre r : List Part) (l : List Ln) (a : List Ln × Int), parseRun l pre = .inr a → parseRun l (pre ++ r) = .inr a
  | [], _, _, _, h => by simp [parseRun] at h
  | p :: ps, r, l, a, h => by
    simp only [List.cons_append, parseRun] at h ⊢
    cases hs : parseStep l p.1 with
    | inl l' => rw [hs] at h; exact parseRun_stop ps r l' a h
    | inr b => rw [hs] at h; exact h
def flatL (l : List Ln) : List Value := l.flatMap fun x => [.int .i64 x.1, .int .i64 x.2.1, .int .i64 x.2.2]
theorem flatL_snoc (l : List Ln) (x : Ln) : flatL (l ++ [x]) = flatL l ++ [.int .i64 x.1, .int .i64 x.2.1, .int .i64 x.2.2] := by simp [flatL]
theorem infoI : (Try.prog.info? 24).map (fun i => (i.zero, i.size, i.bytes)) = some (some (.agg #[.int .i64 0, .int .i64 0, .int .i64 0]), 3, 24) := by kernel_rfl
/-- What stands in memory between two lines. -/
structure PAt (b : Nat) (s : ByteArray) (W : World) (rv : Value) (re : Int) (v : Value) : Prop where mk ::
  (hr : Boxed W b 22 rv) (he : Boxed W (b + 1) 29 (.int .i64 re)) (hv : Boxed W (b + 1 + 1) 22 v)
  (hs : Boxed W (b + 1 + 1 + 1) 9 (.string s)) (ha : Boxed W (b + 1 + 1 + 1 + 1) 5 (.int .u8 10))
section
variable {b : Nat} {s : ByteArray} {W : World} {rv v : Value} {re : Int}
theorem boxed_below {W' : World} {k t : Nat} {u : Value} (h : Boxed W k t u) (hb : Below W.heap.size W W') : Boxed W' k t u := (hb.block k h.lt).trans h
theorem boxed_other {k t b' j : Nat} {u : Value} (h : Boxed W k t u) (hne : k ≠ b') (x : Value) : Boxed (W.setCell ⟨b', j, none⟩ x) k t u := (Below.heap_setCell W _ _ k hne).trans h
theorem PAt.below {W' : World} (h : PAt b s W rv re v) (hb : Below W.heap.size W W') : PAt b s W' rv re v := ⟨boxed_below h.hr hb, boxed_below h.he hb, boxed_below h.hv hb, boxed_below h.hs hb, boxed_below h.ha hb⟩
theorem PAt.alloc (h : PAt b s W rv re v) (o : Obj) : PAt b s (W.alloc o) rv re v := ⟨h.hr.alloc o, h.he.alloc o, h.hv.alloc o, h.hs.alloc o, h.ha.alloc o⟩
theorem PAt.far {g j : Nat} (h : PAt b s W rv re v) (hg : b + 1 + 1 + 1 + 1 < g) (x : Value) : PAt b s (W.setCell ⟨g, j, none⟩ x) rv re v :=
  ⟨boxed_other h.hr (by omega) x, boxed_other h.he (by omega) x, boxed_other h.hv (by omega) x, boxed_other h.hs (by omega) x, boxed_other h.ha (by omega) x⟩
theorem PAt.setR (h : PAt b s W rv re v) (x : Value) : PAt b s (W.setCell ⟨b, 0, none⟩ x) x re v :=
  ⟨h.hr.set x, boxed_other h.he (by omega) x, boxed_other h.hv (by omega) x, boxed_other h.hs (by omega) x, boxed_other h.ha (by omega) x⟩
theorem PAt.setE (h : PAt b s W rv re v) (x : Int) : PAt b s (W.setCell ⟨b + 1, 0, none⟩ (.int .i64 x)) rv x v :=
  ⟨boxed_other h.hr (by omega) _, h.he.set _, boxed_other h.hv (by omega) _, boxed_other h.hs (by omega) _, boxed_other h.ha (by omega) _⟩
theorem PAt.setV (h : PAt b s W rv re v) (x : Value) : PAt b s (W.setCell ⟨b + 1 + 1, 0, none⟩ x) rv re x :=
  ⟨boxed_other h.hr (by omega) x, boxed_other h.he (by omega) x, h.hv.set x, boxed_other h.hs (by omega) x, boxed_other h.ha (by omega) x⟩
theorem PAt.kept {W' : World} {row : Option Nat} (h : PAt b s W rv re v) (hg : W.grownBy W' row) (hrow : ∀ r, row = some r → ∃ o : Obj, W.heap[r]? = some o ∧ o.isCells = false) : PAt b s W' rv re v := by
  have ne : ∀ {k : Nat} {u : Value} {t : Nat}, Boxed W k t u → some k ≠ row := by
    intro k u t h e
    obtain ⟨o, ho, hc⟩ := hrow k e.symm
    rw [show W.heap[k]? = _ from h] at ho; cases ho; cases hc
  exact ⟨h.hr.kept hg (ne h.hr), h.he.kept hg (ne h.he), h.hv.kept hg (ne h.hv), h.hs.kept hg (ne h.hs), h.ha.kept hg (ne h.ha)⟩
/-- A step that turns a row of instructions alone. -/
theorem PAt.row {W' : World} {u : Value} {k : Nat} {xs : List Value} (h : PAt b s W rv re v) (ho : W.ownsRow b 24 3 u k xs) (hg : W.grownBy W' u.ownBlock) : PAt b s W' rv re v :=
  ⟨h.hr.kept hg (h.hr.not_row (by decide) ho), h.he.kept hg (h.he.not_row (by decide) ho), h.hv.kept hg (h.hv.not_row (by decide) ho), h.hs.kept hg (h.hs.not_row (by decide) ho), h.ha.kept hg (h.ha.not_row (by decide) ho)⟩
theorem PAt.facts (h : PAt b s W rv re v) : W.cell? ⟨b, 0, none⟩ = some rv ∧ W.cell? ⟨b + 1, 0, none⟩ = some (.int .i64 re) ∧ W.cell? ⟨b + 1 + 1, 0, none⟩ = some v ∧
    W.frozen? ⟨b, 0, none⟩ = false ∧ W.frozen? ⟨b + 1, 0, none⟩ = false ∧ W.frozen? ⟨b + 1 + 1, 0, none⟩ = false :=
  ⟨h.hr.cell, h.he.cell, h.hv.cell, h.hr.frozen, h.he.frozen, h.hv.frozen⟩
theorem PAt.at (h : PAt b s W rv re v) {W' : World} {rv' v' : Value} {re' : Int} (h' : PAt b s W' rv' re' v') : KeepsAt (b + 1 + 1 + 1) W W' := ⟨h'.hs.trans h.hs.symm, h'.ha.trans h.ha.symm⟩
theorem own_belowP {W' : World} {B e size n : Nat} {u : Value} {xs : List Value} (h : W.ownsRow B e size u n xs) (hb : Below W.heap.size W W') : W'.ownsRow B e size u n xs := by
  refine ⟨h.1, ?_⟩
  rcases h.2 with hn | ⟨g, cap, cur, rfl, hg, hgg, rest⟩
  · exact .inl hn
  · exact .inr ⟨g, cap, cur, rfl, hg, by rw [hb.block g (Array.getElem?_eq_some_iff.1 hgg).1]; exact hgg, rest⟩
theorem own_shape {B e size n : Nat} {u : Value} {xs : List Value} (h : W.ownsRow B e size u n xs) : ∃ ad cap, u = .slice ad n cap := by
  rcases h.2 with ⟨rfl, rfl⟩ | ⟨g, cap, cur, rfl, _⟩
  · exact ⟨none, 0, rfl⟩
  · exact ⟨_, cap, rfl⟩
end
theorem Stp.alloc {w W W1 : World} {B nb : Nat} (h : Stp w B nb W W1) (o : Obj) (hB : B + 1 < W.heap.size) : Stp w B nb W (W1.alloc o) :=
  h.call hB ((Below.refl _ _).alloc (Nat.le_refl _) o)
theorem new3 (W : World) (a b c : Value) (t n : Nat) (hn : W.heap.size = n) : ∀ (j : Nat) (u : Value), [a, b, c][j]? = some u → (W.alloc (.cells #[a, b, c] t)).cell? ((⟨n, 0, none⟩ : Addr).add j) = some u := by
  subst hn
  intro j u h
  have hb := World.alloc_heap_new W (.cells #[a, b, c] t)
  rw [show (⟨W.heap.size, 0, none⟩ : Addr).add j = ⟨W.heap.size, j, none⟩ from by simp [Addr.add]; intro h; exact h.symm, blk_c hb]
  simpa using h
theorem parse_start (s : ByteArray) (w : World) : PAt w.heap.size s (((((w.alloc (.cells #[.slice none 0 0] 22)).alloc (.cells #[.int .i64 0] 29)).alloc (.cells #[.slice none 0 0] 22)).alloc (.cells #[.string s] 9)).alloc (.cells #[.int .u8 10] 5)) (.slice none 0 0) 0 (.slice none 0 0) ∧ Below w.heap.size w (((((w.alloc (.cells #[.slice none 0 0] 22)).alloc (.cells #[.int .i64 0] 29)).alloc (.cells #[.slice none 0 0] 22)).alloc (.cells #[.string s] 9)).alloc (.cells #[.int .u8 10] 5)) ∧ (((((w.alloc (.cells #[.slice none 0 0] 22)).alloc (.cells #[.int .i64 0] 29)).alloc (.cells #[.slice none 0 0] 22)).alloc (.cells #[.string s] 9)).alloc (.cells #[.int .u8 10] 5)).heap.size = w.heap.size + 1 + 1 + 1 + 1 + 1 := by
  have n0 : ∀ o, (w.alloc o).heap.size = w.heap.size + 1 := fun o => World.size_alloc w o
  have n1 : ∀ o p, ((w.alloc o).alloc p).heap.size = w.heap.size + 1 + 1 := fun o p => by rw [World.size_alloc, n0]
  have n2 : ∀ o p q, (((w.alloc o).alloc p).alloc q).heap.size = w.heap.size + 1 + 1 + 1 := fun o p q => by rw [World.size_alloc, n1]
  have n3 : ∀ o p q r, ((((w.alloc o).alloc p).alloc q).alloc r).heap.size = w.heap.size + 1 + 1 + 1 + 1 := fun o p q r => by rw [World.size_alloc, n2]
  have n4 : ∀ o p q r u, (((((w.alloc o).alloc p).alloc q).alloc r).alloc u).heap.size = w.heap.size + 1 + 1 + 1 + 1 + 1 := fun o p q r u => by rw [World.size_alloc, n3]
  have b0 := Boxed.new w 22 (.slice none 0 0)
  have b1 := Boxed.new (w.alloc (.cells #[.slice none 0 0] 22)) 29 (.int .i64 0)
  have b2 := Boxed.new ((w.alloc (.cells #[.slice none 0 0] 22)).alloc (.cells #[.int .i64 0] 29)) 22 (.slice none 0 0)
  have b3 := Boxed.new (((w.alloc (.cells #[.slice none 0 0] 22)).alloc (.cells #[.int .i64 0] 29)).alloc (.cells #[.slice none 0 0] 22)) 9 (.string s)
  have b4 := Boxed.new ((((w.alloc (.cells #[.slice none 0 0] 22)).alloc (.cells #[.int .i64 0] 29)).alloc (.cells #[.slice none 0 0] 22)).alloc (.cells #[.string s] 9)) 5 (.int .u8 10)
  rw [n0] at b1
  rw [n1] at b2
  rw [n2] at b3
  rw [n3] at b4
  refine ⟨⟨(((b0.alloc _).alloc _).alloc _).alloc _, ((b1.alloc _).alloc _).alloc _, (b2.alloc _).alloc _, b3.alloc _, b4⟩, ?_, n4 _ _ _ _ _⟩
  exact ((((((Below.refl _ w).alloc (Nat.le_refl _) _).alloc (by rw [n0]; omega) _).alloc (by rw [n1]; omega) _).alloc (by rw [n2]; omega) _).alloc (by rw [n3]; omega) _)
def ParseI (s : ByteArray) (w : World) (pre : List Part) (W : World) : Prop := (∃ ls v, parseRun [] pre = .inl ls ∧ ls.length ≤ 200 ∧ PAt w.heap.size s W (.slice none 0 0) 0 v ∧ W.ownsRow w.heap.size 24 3 v ls.length (flatL ls)) ∧ Below w.heap.size w W
def ParseX (s : ByteArray) (w : World) (c : Code) (pre : List Part) (W : World) : Prop := (c = .ret ∧ ∃ r rv v, parseRun [] pre = .inr r ∧ PAt w.heap.size s W rv r.2 v ∧ W.ownsRow w.heap.size 24 3 rv r.1.length (flatL r.1)) ∧ Below w.heap.size w W
theorem row_kept {W W' : World} {row : Option Nat} {B e size n : Nat} {u : Value} {xs : List Value} (h : W.ownsRow B e size u n xs) (hg : W.grownBy W' row) (hrow : ∀ r, row = some r → ∃ o : Obj, W.heap[r]? = some o ∧ o.isCells = false) : W'.ownsRow B e size u n xs := by
  refine h.kept hg ?_
  rcases h.2 with ⟨rfl, _⟩ | ⟨g, cap, cur, rfl, _, hgb, _⟩
  · exact .inl rfl
  · refine .inr fun e' => ?_
    obtain ⟨o, ho, hc⟩ := hrow g (by simpa [Value.ownBlock] using e'.symm)
    rw [hgb] at ho; cases ho; cases hc
theorem row_set {W : World} {k t B e size n : Nat} {u x : Value} {xs : List Value} (h : W.ownsRow B e size u n xs) (hb : Boxed W k t x) (hte : t ≠ e) (y : Value) : (W.setCell ⟨k, 0, none⟩ y).ownsRow B e size u n xs :=
  h.kept (grownBy_setCell' W k y) (.inr (hb.not_row hte h).symm)
theorem parseI_own (s : ByteArray) (w : World) (B : Nat) (hB : w.heap.size ≤ B) : OwnFrom B (ParseI s w) :=
  OwnFrom.and (Own.from (fun _ _ _ _ hs hg hr => by obtain ⟨ls, v, h, hl, hA, ho⟩ := hs; exact ⟨ls, v, h, hl, hA.kept hg hr, row_kept ho hg hr⟩) _) (ownFrom_below (Nat.le_refl _) hB)
theorem parseX_own (s : ByteArray) (w : World) (B : Nat) (hB : w.heap.size ≤ B) (c : Code) : OwnFrom B (ParseX s w c) :=
  OwnFrom.and (Own.from (fun _ _ _ _ hs hg hr => by obtain ⟨hc, r, rv, v, h, hA, ho⟩ := hs; exact ⟨hc, r, rv, v, h, hA.kept hg hr, row_kept ho hg hr⟩) _) (ownFrom_below (Nat.le_refl _) hB)
set_option maxHeartbeats 4000000 in
set_option maxRecDepth 100000 in
theorem parse_calls (s : ByteArray) (hsz : s.size ≤ 9223372036854775807) (w : World) :
    Calls Try.prog 15 #[.string s] w fun e w' => (∃ v, e = .returned (.tuple #[v, .int .i64 (parseS s).2]) ∧ w'.ownsRow w.heap.size 24 3 v (parseS s).1.length (flatL (parseS s).1)) ∧ Below w.heap.size w w' := by
  refine (callsIn_wide (n := 6)).1 ?_
  refine callsIn_of_wp_marks Try.func15 rfl trivial ?_ rfl
  simp only [Try.ntmps15, List.size_toArray, List.length_cons, List.length_nil, Nat.reduceAdd, Nat.reduceSub, Array.replicate_succ, Array.replicate_zero, List.push_toArray, List.append_toArray, List.nil_append, List.cons_append]
  gi_wp2_with (refine ⟨trivial, ?_⟩; gi_at_call 29; refine (parts_in _ _ trivial rfl _ _ _).mono ?_; rintro e w' ⟨rfl, rfl⟩)
  obtain ⟨hA0, hB0, hz0⟩ := parse_start s w
  generalize (((((w.alloc (.cells #[.slice none 0 0] 22)).alloc (.cells #[.int .i64 0] 29)).alloc (.cells #[.slice none 0 0] 22)).alloc (.cells #[.string s] 9)).alloc (.cells #[.int .u8 10] 5)) = W0 at hA0 hB0 hz0 ⊢
  refine wpIn_rangeFunc_ownG rfl (by omega) (gf := 37) (lb := #[.pointer (some ⟨w.heap.size + 1 + 1 + 1, 0, none⟩), .pointer (some ⟨w.heap.size + 1 + 1 + 1 + 1, 0, none⟩)]) rfl trivial (enters_of Try.func37 (by kernel_rfl) rfl)
    (parts_stops Fence.wide _ trivial rfl (by omega) (w.heap.size + 1 + 1 + 1) s 10 hsz W0 (by omega) hA0.hs.cell hA0.ha.cell) (fun h k => KeepsAt.t h k) (KeepsAt.b (by omega)) (Below.refl _ _) (fun _ => rfl)
    (ParseI s w) (ParseX s w) (parseI_own s w _ (by omega)) (parseX_own s w _ (by omega)) ⟨⟨[], _, rfl, Nat.zero_le _, hA0, World.ownsRow_nil _ _ _ _⟩, hB0⟩
    (fun x => { tmps := #[.string s, undef, .pointer (some ⟨w.heap.size, 0, none⟩), .pointer (some ⟨w.heap.size + 1, 0, none⟩), .pointer (some ⟨w.heap.size + 1 + 1, 0, none⟩), .string x.1.1, .bool x.1.2, undef, undef, .string s, .func (.func 37) #[] #[.pointer (some ⟨w.heap.size + 1 + 1 + 1, 0, none⟩), .pointer (some ⟨w.heap.size + 1 + 1 + 1 + 1, 0, none⟩)], .string x.1.1, .bool x.1.2, undef, undef, undef, undef, undef, undef, undef, undef, undef, undef, undef, undef, undef, undef, undef, undef, undef, undef, undef, undef, undef, undef, undef, undef, undef, undef, undef, undef], defers := [] }) ?assign ?body ?done ?stop
  case assign =>
    intro l x W K hK
    gi_wp2
    exact hK
  case body =>
    rintro l pre x W ⟨⟨ls, v, hl, hn, hA, ho⟩, hB⟩ -
    obtain ⟨⟨line, ended⟩, hx⟩ := x
    dsimp only
    dsimp only at hx
    have hrun : parseRun [] (pre ++ [⟨(line, ended), hx⟩]) = parseStep ls (line, ended) := by rw [parseRun_snoc, hl]
    unfold parseStep at hrun
    dsimp only at hrun
    obtain ⟨ad, cap, rfl⟩ := own_shape ho
    obtain ⟨k0, k1, k2, f0, f1, f2⟩ := hA.facts
    have S0 := Aside0.mk (Stp.refl (w.heap.size + 1 + 1 + 1) W0.heap.size hB)
    have HA := Aside0.mk hA
    have HO := Aside0.mk ho
    have HZ : Aside0 (w.heap.size + 1 + 1 + 1 + 1 < W.heap.size) := ⟨hA.ha.lt⟩
    have HR := Aside0.mk hrun
    have HN := Aside0.mk hn
    clear hrun hl hA ho hB hn
    by_cases c1 : line.toList = [] ∧ ended = false
    · have d0 : (line.toList == ([] : List UInt8)) = true := beq_iff_eq.2 c1.1
      have d1 : line.toList.isEmpty = true := by rw [c1.1]; rfl
      obtain ⟨c1a, rfl⟩ := c1
      replace HR := Aside0.mk (HR.out.trans (if_pos ⟨c1a, rfl⟩))
      clear c1a
      gi_wp2
      have S4 := ((S0.out).set w.heap.size 0 (.slice ad ls.length cap) (by omega) (by omega)).set (w.heap.size + 1) 0 (.int .i64 0) (by omega) (by omega)
      have A4 := (HA.out.setR (.slice ad ls.length cap)).setE 0
      have O4 := row_set (row_set HO.out (t := 22) HA.out.hr (by decide) (.slice ad ls.length cap)) (HA.out.setR (.slice ad ls.length cap)).he (by decide) (.int .i64 0)
      exact ⟨S4.a.from _, ⟨rfl, _, _, _, HR.out, A4, O4⟩, S4.b⟩
    · replace HR := Aside0.mk (HR.out.trans (if_neg c1))
      have key : (line.toList.isEmpty = true ∧ ended = true) ∨ (line.toList.isEmpty = false ∧ ended = true) ∨ (line.toList.isEmpty = false ∧ ended = false) := by
        cases ended with
        | true => cases hh : line.toList with
          | nil => exact .inl ⟨rfl, rfl⟩
          | cons a b => exact .inr (.inl ⟨rfl, rfl⟩)
        | false => cases hh : line.toList with
          | nil => exact absurd ⟨hh, rfl⟩ c1
          | cons a b => exact .inr (.inr ⟨rfl, rfl⟩)
      clear c1
      by_cases c2 : ls.length = 200
      · have d1 : (ls.length == 200) = true := beq_iff_eq.2 c2
        have d2 : ((ls.length : Int) == 200) = true := beq_iff_eq.2 (by omega)
        replace HR := Aside0.mk (HR.out.trans (if_pos c2))
        clear c2
        rcases key with ⟨dE, rfl⟩ | ⟨dE, rfl⟩ | ⟨dE, rfl⟩
        all_goals gi_wp2
        all_goals {
        have S4 := ((S0.out).set w.heap.size 0 (.slice none 0 0) (by omega) (by omega)).set (w.heap.size + 1) 0 (.int .i64 4) (by omega) (by omega)
        have A4 := (HA.out.setR (.slice none 0 0)).setE 4
        have O4 := World.ownsRow_nil ((W.setCell ⟨w.heap.size, 0, none⟩ (.slice none 0 0)).setCell ⟨w.heap.size + 1, 0, none⟩ (.int .i64 4)) w.heap.size 24 3
        exact ⟨S4.a.from _, ⟨rfl, _, _, _, HR.out, A4, O4⟩, S4.b⟩ }
      · have d1 : (ls.length == 200) = false := beq_eq_false_iff_ne.2 c2
        have d2 : ((ls.length : Int) == 200) = false := beq_eq_false_iff_ne.2 (by omega)
        replace HR := Aside0.mk (HR.out.trans (if_neg c2))
        have HN2 : Aside0 (ls.length < 200) := ⟨by have := HN.out; omega⟩
        clear c2
        obtain ⟨⟨⟨o, x1, y1⟩, e⟩, hv⟩ : ∃ q, oneS line = q := ⟨_, rfl⟩
        have HC := one_calls line hx
        rw [hv] at HC
        dsimp only at HC
        replace HC := Aside0.mk HC
        have HV := Aside0.mk hv
        clear hv
        rcases key with key | key | ⟨dE, rfl⟩
        rotate_left 2
        · replace HR := Aside0.mk (HR.out.trans (if_pos rfl))
          gi_wp2
          {
        have S4 := ((S0.out).set w.heap.size 0 (.slice none 0 0) (by omega) (by omega)).set (w.heap.size + 1) 0 (.int .i64 3) (by omega) (by omega)
        have A4 := (HA.out.setR (.slice none 0 0)).setE 3
        have O4 := World.ownsRow_nil ((W.setCell ⟨w.heap.size, 0, none⟩ (.slice none 0 0)).setCell ⟨w.heap.size + 1, 0, none⟩ (.int .i64 3)) w.heap.size 24 3
        exact ⟨S4.a.from _, ⟨rfl, _, _, _, HR.out, A4, O4⟩, S4.b⟩ }
        all_goals (obtain ⟨dE, rfl⟩ := key)
        all_goals replace HR := Aside0.mk (HR.out.trans (if_neg (by decide)))
        all_goals rw [HV.out] at HR
        all_goals dsimp only at HR
        all_goals (by_cases he : e = 0)
        all_goals first
          | (have d3 : (e != 0) = true := bne_iff_ne.2 he
             replace HR := Aside0.mk (HR.out.trans (if_neg he))
             clear he
             gi_wp2_with (refine ⟨trivial, ?_⟩; gi_at_call 30; refine (CallsIn.inRound l (callsIn_wide.2 (HC.out _))).mono ?_; rintro e w3 ⟨rfl, hb⟩; have S5 := Aside0.mk ((S0.out.call HZ.out hb).alloc (.cells #[.int .i64 o, .int .i64 x1, .int .i64 y1] 24) HZ.out); have HA5 := Aside0.mk ((HA.out.below hb).alloc (.cells #[.int .i64 o, .int .i64 x1, .int .i64 y1] 24)); have HO5 := Aside0.mk ((own_belowP HO.out hb).alloc (.cells #[.int .i64 o, .int .i64 x1, .int .i64 y1] 24)); obtain ⟨p0, p1, p2, q0, q1, q2⟩ := (HA.out.below hb).facts; obtain ⟨m0, m1, m2, g0, g1, g2⟩ := HA5.out.facts; clear hb)
             have S4 := (S5.out.set w.heap.size 0 (.slice none 0 0) (by omega) (by omega)).set (w.heap.size + 1) 0 (.int .i64 e) (by omega) (by omega)
             have A4 := (HA5.out.setR (.slice none 0 0)).setE e
             exact ⟨S4.a.from _, ⟨rfl, _, _, _, HR.out, A4, World.ownsRow_nil _ _ _ _⟩, S4.b⟩)
          | (have d3 : (e != 0) = false := bne_eq_false_iff_eq.2 he
             replace HR := Aside0.mk (HR.out.trans (if_pos he))
             clear he
             obtain ⟨i0, hi, hz0, hz1, hz2⟩ := info_parts infoI
             gi_wp2_with (first | (refine ⟨trivial, ?_⟩; gi_at_call 30; refine (CallsIn.inRound l (callsIn_wide.2 (HC.out _))).mono ?_; rintro e w3 ⟨rfl, hb⟩; have S5 := Aside0.mk ((S0.out.call HZ.out hb).alloc (.cells #[.int .i64 o, .int .i64 x1, .int .i64 y1] 24) HZ.out); have HA5 := Aside0.mk ((HA.out.below hb).alloc (.cells #[.int .i64 o, .int .i64 x1, .int .i64 y1] 24)); have HO5 := Aside0.mk ((own_belowP HO.out hb).alloc (.cells #[.int .i64 o, .int .i64 x1, .int .i64 y1] 24)); obtain ⟨p0, p1, p2, q0, q1, q2⟩ := (HA.out.below hb).facts; obtain ⟨m0, m1, m2, g0, g1, g2⟩ := HA5.out.facts; clear hb) | (gi_at_builtin; refine wpListIn_append_own _ rfl _ _ 22 rfl w.heap.size 24 i0 (.agg #[.int .i64 0, .int .i64 0, .int .i64 0]) 3 24 Try.underlying22 hi hz0 hz1 hz2 rfl (by decide) _ _ _ rfl (HO5.out.alloc _) ⟨w3.heap.size + 1, 0, none⟩ 1 1 [.int .i64 o, .int .i64 x1, .int .i64 y1] rfl rfl (new3 _ _ _ _ _ _ (World.size_alloc w3 _)) (by simp [Value.oneCell']) (by have := HN2.out; unfold maxLen; omega) (by have := HN2.out; omega) (by have := S5.out.b.size; rw [World.size_alloc]; omega) ?_; intro v' w5 hown' hgrow _; obtain ⟨g', cap', rfl⟩ := ownsRow_succ hown'; obtain ⟨hv1, hv2, hr2, hk2, hb2⟩ := HA5.out.hv.appended (by decide) HO5.out S5.out.b.size (by omega) hown' hgrow; have HA6 := Aside0.mk (PAt.row (HA5.out.alloc _) (HO5.out.alloc _) hgrow); have HF := Aside0.mk (And.intro hr2 (And.intro hk2 hb2)); have hc1 := hv1.cell; have hf1 := hv1.frozen; clear hv2 hr2 hk2 hb2 hown' hgrow))
             have A7 := HA6.out.setV (.slice (some ⟨g', 0, none⟩) (ls.length + 1) cap')
             exact ⟨(S5.out.a.trans HF.out.2.1).from _, S5.out.k.t (HA5.out.at A7), ⟨_, _, HR.out, by have := HN2.out; simp; omega, A7, by rw [flatL_snoc, List.length_append]; exact HF.out.1⟩, S5.out.b.trans HF.out.2.2⟩)
  case done =>
    rintro D ys W hD rfl ⟨⟨ls, v, hl, -, hA, ho⟩, hB⟩ hK
    have hone : parseS s = (ls, 0) := by unfold parseS; rw [hl]
    have HL := Aside0.mk hone
    have HA := Aside0.mk hA
    have HB := Aside0.mk hB
    have HK := Aside0.mk hK
    have HO := Aside0.mk ho
    obtain ⟨ad, cap, rfl⟩ := own_shape ho
    obtain ⟨k0, k1, k2, f0, f1, f2⟩ := hA.facts
    clear hone hA hB hK ho
    gi_wp2
    have A4 := (HA.out.setR (.slice ad ls.length cap)).setE 0
    have S4 := ((Stp.refl (w.heap.size + 1 + 1 + 1) W0.heap.size HB.out).set w.heap.size 0 (.slice ad ls.length cap) (by omega) (by omega)).set (w.heap.size + 1) 0 (.int .i64 0) (by omega) (by omega)
    have O4 := row_set (row_set HO.out (t := 22) HA.out.hr (by decide) (.slice ad ls.length cap)) (HA.out.setR (.slice ad ls.length cap)).he (by decide) (.int .i64 0)
    have hK := S4.a.same D _ HK.out rfl
    refine ⟨by simp, .inl ⟨_, _, rfl, run_takeDeferred hK, ?_⟩⟩
    obtain ⟨m0, m1, -⟩ := (A4.kept (grownBy_putObj' _ D (.deferred none)) (fun r e => by cases e; exact ⟨_, hK, rfl⟩)).facts
    refine ⟨.tuple #[.slice ad ls.length cap, .int .i64 0], ?_, ⟨_, by rw [HL.out], by rw [HL.out]; exact ownsRow_putObj O4 _ hK rfl⟩, S4.b.trans (belowK_b (w := w) (Nat.le_refl _) _ D _ _ (by omega) hK rfl rfl)⟩
    simp [results, Try.results15, go_sem, m0, m1]
  case stop =>
    rintro D c pre W hD hp ⟨⟨rfl, r, rv, v, hl, hA, ho⟩, hB⟩ hK
    have hone : parseS s = r := by
      obtain ⟨q, hq⟩ := hp
      have := parseRun_stop pre q [] r hl
      rw [hq] at this
      unfold parseS; rw [this]
    have HL := Aside0.mk hone
    clear hone
    gi_wp2
    refine ⟨by simp, .inl ⟨_, _, rfl, run_takeDeferred hK, ?_⟩⟩
    rw [HL.out]
    obtain ⟨m0, m1, -⟩ := (hA.kept (grownBy_putObj' W D (.deferred none)) (fun r e => by cases e; exact ⟨_, hK, rfl⟩)).facts
    obtain ⟨ad, cap, rfl⟩ := own_shape ho
    refine ⟨.tuple #[.slice ad r.1.length cap, .int .i64 r.2], ?_, ⟨_, rfl, ownsRow_putObj ho _ hK rfl⟩, hB.trans (belowK_b (w := w) (Nat.le_refl _) W D _ _ (by omega) hK rfl rfl)⟩
    simp [results, Try.results15, go_sem, m0, m1]

end Go.Proofs.Ytldbochclabmjaa.P
