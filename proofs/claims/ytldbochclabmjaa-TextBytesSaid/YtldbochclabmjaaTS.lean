/- Rows of instructions as lines, and back: text.Show, text.Parse in plain words; for all rows and texts. -/
import Derived.Test.YtldbochclabmjaaTL
import Derived.Test.YtldbochclabmjaaPx2
import Derived.Test.YtldbochclabmjaaPx2
namespace Go.Proofs.Ytldbochclabmjaa.TL
open Go.RowKit Go.Proofs.Ytldbochclabmjaa.C Go.Proofs.Ytldbochclabmjaa.P Go.Proofs.YtldbochclabmjaaW.PrintWords Go.Proofs.YtldbochclabmjaaW.PrintLast Go.Proofs.YtldbochclabmjaaW.PrintMore
set_option linter.unusedVariables false
set_option linter.unusedSimpArgs false

/-! ### Lines -/
def showF (l : List Ln) : List UInt8 := l.flatMap lineX
theorem showF_cons (x : Ln) (l : List Ln) : showF (x :: l) = lineX x ++ showF l := rfl
theorem showF_app (a b : List Ln) : showF (a ++ b) = showF a ++ showF b := by simp [showF]
theorem lineX_body {x : Ln} (h : rightX x = true) : lineX x = bodyX x ++ [10] := lineL_body h
theorem body_not10 {x : Ln} (h : rightX x = true) : (10 : UInt8) ∉ bodyX x := by
  intro m
  unfold bodyX bodyL at m
  rcases List.mem_append.1 m with m | m
  · exact name_not (right_range h) (by decide) m
  · rcases List.mem_append.1 m with m | m
    · split at m
      · cases m
      · rcases List.mem_cons.1 m with e | m
        · exact absurd e (by decide)
        · exact dig_not _ (by decide) m
    · split at m
      · rcases List.mem_cons.1 m with e | m
        · exact absurd e (by decide)
        · exact dig_not _ (by decide) m
      · cases m
theorem run_show : ∀ (l acc : List Ln), (∀ x ∈ l, rightX x = true ∧ I64x x) → acc.length + l.length ≤ 200 → runB acc (cutB 10 (showF l)) = .inr (acc ++ l, 0)
  | [], acc, _, _ => by
    show runB acc [([], false)] = _
    simp only [runB, stepB]
    rw [if_pos (by simp), List.append_nil]
  | x :: l, acc, h, hn => by
    obtain ⟨hR, hI⟩ := h x List.mem_cons_self
    have hn' : acc.length + (l.length + 1) ≤ 200 := hn
    rw [showF_cons, lineX_body hR, List.append_assoc, List.singleton_append, cutB_app _ (body_not10 hR)]
    simp only [runB, stepB]
    rw [if_neg (fun q => absurd q.2 (by decide)), if_neg (by omega), if_neg (by decide), one_body hR hI.2.1 hI.2.2, if_pos rfl]
    dsimp only
    rw [run_show l (acc ++ [x]) (fun y hy => h y (List.mem_cons_of_mem _ hy)) (by simp; omega), List.append_assoc, List.singleton_append]
theorem parse_show {l : List Ln} (h : ∀ x ∈ l, rightX x = true ∧ I64x x) (hn : l.length ≤ 200) : parseB (showF l) = (l, 0) := by
  unfold parseB
  rw [run_show l [] h (by simpa using hn)]
  rfl
theorem run_ok : ∀ (n : Nat) (t : List UInt8) (acc l : List Ln), t.length ≤ n → acc.length ≤ 200 → runB acc (cutB 10 t) = .inr (l, 0) →
    ∃ xs, l = acc ++ xs ∧ t = showF xs ∧ (∀ x ∈ xs, rightX x = true ∧ I64x x) ∧ l.length ≤ 200 := by
  intro n
  induction n with
  | zero =>
    intro t acc l ht ha h
    obtain rfl := List.length_eq_zero_iff.1 (Nat.le_zero.1 ht)
    have h' : runB acc [([], false)] = .inr (l, 0) := h
    simp only [runB, stepB] at h'
    rw [if_pos (by simp)] at h'
    obtain rfl := (Prod.mk.inj (Sum.inr.inj h')).1
    exact ⟨[], by simp, rfl, fun x hx => (by cases hx), ha⟩
  | succ n ih =>
    intro t acc l ht ha h
    rcases cut_at 10 t with h0 | ⟨p, r, hp, rfl⟩
    · rw [cutB_no h0] at h
      simp only [runB, stepB] at h
      by_cases c1 : t = []
      · subst c1
        rw [if_pos (by simp)] at h
        obtain rfl := (Prod.mk.inj (Sum.inr.inj h)).1
        exact ⟨[], by simp, rfl, fun x hx => (by cases hx), ha⟩
      · rw [if_neg (fun q => c1 q.1)] at h
        by_cases c2 : acc.length = 200
        · rw [if_pos c2] at h
          exact absurd (Prod.mk.inj (Sum.inr.inj h)).2 (by decide)
        · rw [if_neg c2, if_pos (by simp)] at h
          exact absurd (Prod.mk.inj (Sum.inr.inj h)).2 (by decide)
    · rw [cutB_app _ hp] at h
      simp only [runB, stepB] at h
      rw [if_neg (fun q => absurd q.2 (by decide))] at h
      by_cases c2 : acc.length = 200
      · rw [if_pos c2] at h
        exact absurd (Prod.mk.inj (Sum.inr.inj h)).2 (by decide)
      · rw [if_neg c2, if_neg (by decide)] at h
        by_cases c3 : (oneB p).2 = 0
        · rw [if_pos c3] at h
          dsimp only at h
          obtain ⟨o1, o2, o3⟩ := one_ok (t := p) (x := (oneB p).1) (by rw [← c3])
          obtain ⟨xs, e1, e2, e3, e4⟩ := ih r (acc ++ [(oneB p).1]) l (by simp at ht; omega) (by simp; omega) h
          refine ⟨(oneB p).1 :: xs, by rw [e1, List.append_assoc, List.singleton_append], ?_, ?_, e4⟩
          · rw [showF_cons, lineX_body o1, ← o3, ← e2, List.append_assoc, List.singleton_append]
          · intro y hy
            rcases List.mem_cons.1 hy with rfl | hy
            · exact ⟨o1, o2⟩
            · exact e3 y hy
        · rw [if_neg c3] at h
          exact absurd (Prod.mk.inj (Sum.inr.inj h)).2 c3
theorem run_inr : ∀ (n : Nat) (t : List UInt8) (acc : List Ln), t.length ≤ n → ∃ r, runB acc (cutB 10 t) = .inr r ∧ (r.2 ≠ 0 → r.1 = []) := by
  intro n
  induction n with
  | zero =>
    intro t acc ht
    obtain rfl := List.length_eq_zero_iff.1 (Nat.le_zero.1 ht)
    exact ⟨(acc, 0), (by show runB acc [([], false)] = _; simp only [runB, stepB]; rw [if_pos (by simp)]), fun h => absurd rfl h⟩
  | succ n ih =>
    intro t acc ht
    rcases cut_at 10 t with h0 | ⟨p, r, hp, rfl⟩
    · rw [cutB_no h0]
      simp only [runB, stepB]
      by_cases c1 : t = []
      · rw [if_pos (by simp [c1])]
        exact ⟨_, rfl, fun h => absurd rfl h⟩
      · rw [if_neg (fun q => c1 q.1)]
        by_cases c2 : acc.length = 200
        · rw [if_pos c2]
          exact ⟨_, rfl, fun _ => rfl⟩
        · rw [if_neg c2, if_pos (by simp)]
          exact ⟨_, rfl, fun _ => rfl⟩
    · rw [cutB_app _ hp]
      simp only [runB, stepB]
      rw [if_neg (fun q => absurd q.2 (by decide))]
      by_cases c2 : acc.length = 200
      · rw [if_pos c2]
        exact ⟨_, rfl, fun _ => rfl⟩
      · rw [if_neg c2, if_neg (by decide)]
        by_cases c3 : (oneB p).2 = 0
        · rw [if_pos c3]
          exact ih r _ (by simp at ht; omega)
        · rw [if_neg c3]
          exact ⟨_, rfl, fun _ => rfl⟩
theorem parse_ok {t : List UInt8} {l : List Ln} (h : parseB t = (l, 0)) : t = showF l ∧ (∀ x ∈ l, rightX x = true ∧ I64x x) ∧ l.length ≤ 200 := by
  obtain ⟨r, hr, _⟩ := run_inr t.length t [] (Nat.le_refl _)
  unfold parseB at h
  rw [hr] at h
  obtain rfl : r = (l, 0) := h
  obtain ⟨xs, e1, e2, e3, e4⟩ := run_ok t.length t [] l (Nat.le_refl _) (Nat.zero_le _) hr
  obtain rfl : l = xs := e1
  exact ⟨e2, e3, e4⟩
theorem parse_err {t : List UInt8} (h : (parseB t).2 ≠ 0) : (parseB t).1 = [] := by
  obtain ⟨r, hr, h2⟩ := run_inr t.length t [] (Nat.le_refl _)
  unfold parseB at h ⊢
  rw [hr] at h ⊢
  exact h2 h
theorem body_last {x : Ln} (h : rightX x = true) : bodyX x ≠ [] ∧ (bodyX x).getLast? ≠ some 69 := by
  have hn := name_chars (right_range h)
  have key : ∀ (u : List UInt8) (n : Int), (u ++ 32 :: digL n).getLast? ≠ some 69 := by
    intro u n e
    have hne := digL_ne n
    rw [show u ++ 32 :: digL n = (u ++ [32]) ++ digL n by simp, List.getLast?_append] at e
    have hm : (digL n).getLast? = some ((digL n).getLast hne) := List.getLast?_eq_some_getLast hne
    rw [hm] at e
    have e2 : (digL n).getLast hne = 69 := by simpa using e
    have := dig_chars (List.getLast_mem hne)
    rw [e2] at this
    rcases this with h | h
    · exact absurd h (by decide)
    · exact absurd h.2 (by decide)
  unfold bodyX bodyL
  refine ⟨fun e => hn.2.1 (List.append_eq_nil_iff.1 e).1, ?_⟩
  by_cases h2 : (kindOf x.1).2.1 = 2
  · rw [if_neg (by rw [h2]; decide), if_pos h2, ← List.append_assoc]
    exact key _ _
  · rw [if_neg h2, List.append_nil]
    by_cases h0 : (kindOf x.1).2.1 = 0
    · rw [if_pos h0, List.append_nil]
      exact hn.2.2
    · rw [if_neg h0]
      exact key _ _
/-- A line more that is none. -/
theorem parse_none (t : List UInt8) : (parseB (t ++ [78, 79, 78, 69, 10])).2 ≠ 0 := by
  intro h
  obtain ⟨e1, e2, _⟩ := parse_ok (t := t ++ [78, 79, 78, 69, 10]) (l := (parseB (t ++ [78, 79, 78, 69, 10])).1) (by rw [← h])
  generalize (parseB (t ++ [78, 79, 78, 69, 10])).1 = l at e1 e2
  rcases List.eq_nil_or_concat l with rfl | ⟨ys, x, rfl⟩
  · have := congrArg List.length e1
    simp [showF] at this
  · obtain ⟨hR, _⟩ := e2 x (by simp)
    have hb := body_last hR
    rw [List.concat_eq_append, showF_app, show showF [x] = lineX x ++ [] from rfl, List.append_nil, lineX_body hR, ← List.append_assoc, show t ++ [78, 79, 78, 69, 10] = (t ++ [78, 79, 78, 69]) ++ [10] by simp] at e1
    have e3 := List.append_cancel_right e1
    have e4 := congrArg List.getLast? e3
    rw [List.getLast?_append, List.getLast?_append, List.getLast?_eq_some_getLast hb.1] at e4
    have e5 : (bodyX x).getLast hb.1 = 69 := by simpa using e4.symm
    exact hb.2 (by rw [List.getLast?_eq_some_getLast hb.1, e5])
theorem count_body {x : Ln} (h : rightX x = true) : (lineX x).count 10 = 1 := by
  rw [lineX_body h, List.count_append, List.count_eq_zero.2 (body_not10 h)]
  rfl
theorem count_show : ∀ l : List Ln, (∀ x ∈ l, rightX x = true) → (showF l).count 10 = l.length
  | [], _ => rfl
  | x :: l, h => by
    rw [showF_cons, List.count_append, count_body (h x List.mem_cons_self), count_show l (fun y hy => h y (List.mem_cons_of_mem _ hy)), List.length_cons]
    omega

/-! ### As the program holds them -/
abbrev Ins := S24
def lnOf (x : Ins) : Ln := (x.f0, x.f1, x.f2)
theorem inS_lnOf (x : Ins) : inS (lnOf x) = x := rfl
theorem lnOf_inS (x : Ln) : lnOf (inS x) = x := rfl
theorem map_lnOf (l : List Ln) : (l.map inS).map lnOf = l := by rw [List.map_map]; exact List.map_id l
theorem map_inS (l : List Ins) : (l.map lnOf).map inS = l := by rw [List.map_map]; exact List.map_id l
theorem lnOf_inj {a b : List Ins} (h : a.map lnOf = b.map lnOf) : a = b := by rw [← map_inS a, h, map_inS]
theorem ins_ext {x y : Ins} (h0 : x.f0 = y.f0) (h1 : x.f1 = y.f1) (h2 : x.f2 = y.f2) : x = y := by
  cases x; cases y; simp only at h0 h1 h2; subst h0 h1 h2; rfl
theorem ins_ne (x y : Ins) : (!(x.f0 == y.f0) || (!(x.f1 == y.f1) || !(x.f2 == y.f2))) = true ↔ x ≠ y := by
  constructor
  · intro h e; subst e; simp at h
  · intro h
    by_cases h0 : x.f0 = y.f0
    · by_cases h1 : x.f1 = y.f1
      · have h2 : x.f2 ≠ y.f2 := fun h2 => h (ins_ext h0 h1 h2)
        simp [h0, h1, h2]
      · simp [h1]
    · simp [h0]
theorem rdT_drop {l : List Ins} {i : Nat} (h : i < l.length) : l.drop i = rd_T24 l (i : Int) :: l.drop (i + 1) := by
  rw [List.drop_eq_getElem_cons h]
  simp [rd_T24, List.getD, h]
theorem rdT_mem {l : List Ins} {i : Nat} (h : i < l.length) : rd_T24 l (i : Int) ∈ l := by
  simp [rd_T24, List.getD, h]
theorem rsameI_l0 (a b : List Ins) (hab : a.length = b.length) (hn : a.length ≤ 1000000) : ∀ (d i k : Nat), i + d = a.length → d < k →
    ∃ r, camshaftref04_Same.l0 k a b (i : Int) = some r ∧ (r = true ↔ a.drop i = b.drop i) := by
  intro d
  induction d with
  | zero =>
    intro i k hi hk
    obtain ⟨k, rfl⟩ : ∃ m, k = m + 1 := ⟨k - 1, by omega⟩
    refine ⟨true, ?_, ?_⟩
    · simp only [camshaftref04_Same.l0]
      rw [if_neg (by omega)]
    · rw [List.drop_eq_nil_of_le (by omega), List.drop_eq_nil_of_le (by omega)]; simp
  | succ d ih =>
    intro i k hi hk
    obtain ⟨k, rfl⟩ : ∃ m, k = m + 1 := ⟨k - 1, by omega⟩
    simp only [camshaftref04_Same.l0]
    rw [if_pos (by omega), if_pos (by omega), if_pos (by omega), rdT_drop (show i < a.length by omega), rdT_drop (show i < b.length by omega)]
    by_cases h : rd_T24 a (i : Int) = rd_T24 b (i : Int)
    · rw [if_neg (fun e => (ins_ne _ _).1 e h), show wrap64 ((i : Int) + 1) = ((i + 1 : Nat) : Int) from by unfold wrap64; omega]
      obtain ⟨r, e1, e2⟩ := ih (i + 1) k (by omega) (by omega)
      exact ⟨r, e1, by rw [e2, h]; simp⟩
    · rw [if_pos ((ins_ne _ _).2 h)]
      exact ⟨false, rfl, by simp [h]⟩
theorem rsameI_eq (a b : List Ins) (hn : a.length ≤ 1000000) {k : Nat} (hk : a.length < k) : ∃ r, camshaftref04_Same.f k a b = some r ∧ (r = true ↔ a = b) := by
  unfold camshaftref04_Same.f
  by_cases h : a.length = b.length
  · rw [if_pos (by omega)]
    have := rsameI_l0 a b h hn a.length 0 k (by omega) hk
    simpa using this
  · rw [if_neg (by omega)]
    exact ⟨false, rfl, by constructor; · intro e; cases e
                          · intro e; exact absurd (by rw [e]) h⟩
theorem I64_of {n : Int} (h : (Lit.int .i64 n).wf = true) : I64 n := bounds_i64 h
def InI (x : Ins) : Prop := I64 x.f0 ∧ I64 x.f1 ∧ I64 x.f2
theorem InI_of {l : List Ins} (h : ∀ x ∈ l, (Lit.int .i64 x.f0).wf = true ∧ (Lit.int .i64 x.f1).wf = true ∧ (Lit.int .i64 x.f2).wf = true) : ∀ x ∈ l, InI x :=
  fun x hx => ⟨I64_of (h x hx).1, I64_of (h x hx).2.1, I64_of (h x hx).2.2⟩
def okI (x : Ins) : Bool := rightK (kindOf x.f0) x.f1 x.f2
def lnI (x : Ins) : List UInt8 := lineL x.f0 x.f1 x.f2
def lnR (l : List Ins) : List UInt8 := l.flatMap lnI
theorem lnR_show (l : List Ins) : lnR l = showF (l.map lnOf) := by
  unfold lnR showF
  rw [List.flatMap_map]
  rfl
theorem lineL_len (a b c : Int) : (lineL a b c).length ≤ 60 := by
  have h0 := name_size a
  have h1 := h0
  rw [bl_size] at h1
  have h2 := digL_len b
  have h3 := digL_len c
  unfold lineL
  split
  · simp only [List.length_append, List.length_cons, List.length_nil]
    split <;> split <;> simp <;> omega
  · simp
theorem lineL_nil (a b c : Int) : lineL a b c = [] ↔ ¬ rightK (kindOf a) b c = true := by
  by_cases h : rightK (kindOf a) b c = true
  · rw [lineL_body h]
    exact ⟨fun e => absurd e (by simp), fun e => absurd h e⟩
  · unfold lineL
    rw [if_neg h]
    exact ⟨fun _ => h, fun _ => rfl⟩
theorem line_eq {a b c : Int} (hb : I64 b) (hc : I64 c) : text_Line.f a b c = some (ofL (lineL a b c)) := if_pos ⟨hb, hc⟩
theorem show_l0 (l : List Ins) (hw : ∀ x ∈ l, InI x) (hn : l.length ≤ 200) : ∀ (d i k : Nat) (acc : ByteArray), i + d = l.length → d + 1 ≤ k → acc.size + 60 * d ≤ 100000 →
    text_Show.l0 k acc l (l.length : Int) (i : Int) = some (if (l.drop i).all okI = true then ofL (bl acc ++ lnR (l.drop i)) else ofL []) := by
  intro d
  induction d with
  | zero =>
    intro i k acc hi hk hb
    obtain ⟨k, rfl⟩ : ∃ m, k = m + 1 := ⟨k - 1, by omega⟩
    simp only [text_Show.l0]
    rw [if_neg (by omega), List.drop_eq_nil_of_le (by omega), if_pos (show ([] : List Ins).all okI = true from rfl)]
    congr 1
    rw [show lnR [] = [] from rfl, List.append_nil, ofL_bl]
  | succ d ih =>
    intro i k acc hi hk hb
    obtain ⟨k, rfl⟩ : ∃ m, k = m + 1 := ⟨k - 1, by omega⟩
    have hlt : i < l.length := by omega
    have hx := hw _ (rdT_mem hlt)
    simp only [text_Show.l0]
    rw [if_pos (by omega), if_pos (by omega), if_pos (by omega), rdT_drop hlt]
    refine Option.bind_eq_some_iff.2 ⟨_, line_eq hx.2.1 hx.2.2, ?_⟩
    rw [toList_bl, bl_ofL]
    by_cases hR : okI (rd_T24 l (i : Int)) = true
    · rw [if_neg (fun e => (lineL_nil _ _ _).1 e hR)]
      have hl := lineL_len (rd_T24 l (i : Int)).f0 (rd_T24 l (i : Int)).f1 (rd_T24 l (i : Int)).f2
      have hsz : (ofL (lineL (rd_T24 l (i : Int)).f0 (rd_T24 l (i : Int)).f1 (rd_T24 l (i : Int)).f2)).size ≤ 60 := by rw [bl_size, bl_ofL]; exact hl
      rw [if_pos (by omega), show wrap64 ((i : Int) + 1) = ((i + 1 : Nat) : Int) from by clear hl hsz; unfold wrap64; omega]
      rw [ih (i + 1) k _ (by omega) (by omega) (by rw [ByteArray.size_append]; omega)]
      rw [bl_app, bl_ofL, List.all_cons, hR, Bool.true_and, List.append_assoc]
      rfl
    · rw [if_pos ((lineL_nil _ _ _).2 hR), if_neg (by rw [List.all_cons, Bool.and_eq_true]; exact fun h => hR h.1)]
      rfl
/-- text.Show. -/
def showS (l : List Ins) : ByteArray := if l.length ≤ 200 ∧ l.all okI = true then ofL (lnR l) else ofL []
theorem show_eq {l : List Ins} (hw : ∀ x ∈ l, InI x) {k : Nat} (hk : 300 ≤ k) : text_Show.f k l = some (showS l) := by
  unfold text_Show.f showS
  by_cases h : l.length ≤ 200
  · rw [if_neg (by omega)]
    have := show_l0 l hw h l.length 0 k ⟨#[]⟩ (by omega) (by omega) (by show 0 + _ ≤ _; omega)
    rw [List.drop_zero] at this
    refine this.trans ?_
    by_cases h2 : l.all okI = true
    · rw [if_pos h2, if_pos ⟨h, h2⟩]; rfl
    · rw [if_neg h2, if_neg (fun h3 => h2 h3.2)]
  · rw [if_pos (by omega), if_neg (fun h3 => h h3.1)]
    rfl
theorem showS_full {l : List Ins} (h : l.length ≤ 200 ∧ l.all okI = true) : bl (showS l) = lnR l := by unfold showS; rw [if_pos h]; rfl
theorem showS_none {l : List Ins} (h : ¬ (l.length ≤ 200 ∧ l.all okI = true)) : bl (showS l) = [] := by unfold showS; rw [if_neg h]; rfl
theorem lnR_len (l : List Ins) : (lnR l).length ≤ 60 * l.length := by
  induction l with
  | nil => exact Nat.le_refl _
  | cons x l ih =>
    have := lineL_len x.f0 x.f1 x.f2
    show (lnI x ++ lnR l).length ≤ _
    rw [List.length_append, List.length_cons]
    unfold lnI
    omega
theorem lnR_nil {l : List Ins} (h : l.all okI = true) : lnR l = [] ↔ l = [] := by
  cases l with
  | nil => exact ⟨fun _ => rfl, fun _ => rfl⟩
  | cons x l =>
    rw [List.all_cons, Bool.and_eq_true] at h
    refine ⟨fun e => ?_, fun e => by cases e⟩
    have : lnI x ++ lnR l = [] := e
    exact absurd h.1 ((lineL_nil _ _ _).1 (List.append_eq_nil_iff.1 this).1)
theorem showS_size (l : List Ins) : (showS l).size ≤ 12000 := by
  rw [bl_size]
  by_cases h : l.length ≤ 200 ∧ l.all okI = true
  · rw [showS_full h]; have := lnR_len l; omega
  · rw [showS_none h]; simp
/-- text.Parse. -/
def parseI (t : List UInt8) : List Ins × Int := ((parseB t).1.map inS, (parseB t).2)
theorem parse_eq {s : ByteArray} (hs : s.size ≤ 9223372036854775807) : text_Parse.f s = some (parseI (bl s)) := by
  unfold text_Parse.f
  rw [if_pos hs, parseS_B s hs]
  rfl
theorem all_ok {l : List Ins} (hw : ∀ x ∈ l, InI x) (h : l.all okI = true) : ∀ x ∈ l.map lnOf, rightX x = true ∧ I64x x := by
  intro x hx
  obtain ⟨y, hy, rfl⟩ := List.mem_map.1 hx
  exact ⟨List.all_eq_true.1 h y hy, hw y hy⟩
theorem parseI_show {l : List Ins} (hw : ∀ x ∈ l, InI x) (hn : l.length ≤ 200) (h : l.all okI = true) : parseI (lnR l) = (l, 0) := by
  unfold parseI
  rw [lnR_show, parse_show (all_ok hw h) (by rw [List.length_map]; exact hn), map_inS]
theorem parseI_nil : parseI [] = ([], 0) := parseI_show (l := []) (fun x hx => (by cases hx)) (Nat.zero_le _) rfl
theorem parseI_ok {t : List UInt8} (h : (parseI t).2 = 0) : t = lnR (parseI t).1 ∧ (∀ x ∈ (parseI t).1, InI x) ∧ (parseI t).1.all okI = true ∧ (parseI t).1.length ≤ 200 := by
  obtain ⟨e1, e2, e3⟩ := parse_ok (t := t) (l := (parseB t).1) (by rw [← show (parseB t).2 = 0 from h])
  unfold parseI
  dsimp only
  refine ⟨by rw [lnR_show, map_lnOf]; exact e1, ?_, ?_, by rw [List.length_map]; exact e3⟩
  · intro x hx
    obtain ⟨y, hy, rfl⟩ := List.mem_map.1 hx
    exact (e2 y hy).2
  · rw [List.all_eq_true]
    intro x hx
    obtain ⟨y, hy, rfl⟩ := List.mem_map.1 hx
    exact (e2 y hy).1
theorem parseI_err {t : List UInt8} (h : (parseI t).2 ≠ 0) : (parseI t).1 = [] := by
  unfold parseI
  dsimp only
  rw [parse_err h]
  rfl
/-- What Show gives is read: the row, or nothing. -/
theorem parseI_showS {l : List Ins} (hw : ∀ x ∈ l, InI x) : parseI (bl (showS l)) = ((if l.length ≤ 200 ∧ l.all okI = true then l else []), 0) := by
  by_cases h : l.length ≤ 200 ∧ l.all okI = true
  · rw [showS_full h, if_pos h, parseI_show hw h.1 h.2]
  · rw [showS_none h, if_neg h, parseI_nil]

end Go.Proofs.Ytldbochclabmjaa.TL
