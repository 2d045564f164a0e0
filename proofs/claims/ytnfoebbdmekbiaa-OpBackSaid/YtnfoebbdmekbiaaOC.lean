/- Rows of instructions as bytes, and back: op.Code, op.Read in plain words. No conditions beyond those that each lemma states. -/
import Derived.Test.YtnfoebbdmekbiaaOM2
import Derived.Test.YtnfoebbdmekbiaaRI
import Derived.Test.YtnfoebbdmekbiaaPx4
import Derived.Test.YtnfoebbdmekbiaaPx5
import Derived.Test.YtnfoebbdmekbiaaPx5
import Derived.Test.YtnfoebbdmekbiaaPx4
namespace Go.Proofs.Ytnfoebbdmekbiaa.OL
open Go.RowKit Go.Proofs.Ytnfoebbdmekbiaa.C Go.Proofs.Ytnfoebbdmekbiaa.P Go.Proofs.Ytnfoebbdmekbiaa.CM Go.Proofs.Ytnfoebbdmekbiaa.CL Go.Proofs.YtnfoebbdmekbiaaW.PrintWords Go.Proofs.YtnfoebbdmekbiaaW.PrintLast Go.Proofs.YtnfoebbdmekbiaaW.PrintMore

abbrev Ins := S23
theorem ins_ext {x y : Ins} (h0 : x.f0 = y.f0) (h1 : x.f1 = y.f1) (h2 : x.f2 = y.f2) : x = y := by
  cases x; cases y; simp only at h0 h1 h2; subst h0 h1 h2; rfl
theorem ins_ne (x y : Ins) : (!(x.f0 == y.f0) || (!(x.f1 == y.f1) || !(x.f2 == y.f2))) = true ↔ x ≠ y := by
  constructor
  · intro h e; subst e; simp at h
  · intro h
    by_cases h0 : x.f0 = y.f0
    · by_cases h1 : x.f1 = y.f1
      · have h2 : x.f2 ≠ y.f2 := fun h2 => h (ins_ext h0 h1 h2)
        simp [h0, h1, h2]
      · simp [h1]
    · simp [h0]
theorem rdT_drop {l : List Ins} {i : Nat} (h : i < l.length) : l.drop i = rd_T23 l (i : Int) :: l.drop (i + 1) := by
  rw [List.drop_eq_getElem_cons h]
  simp [rd_T23, List.getD, h]
theorem rsameI_l0 (a b : List Ins) (hab : a.length = b.length) (hn : a.length ≤ 1000000) : ∀ (d i k : Nat), i + d = a.length → d < k →
    ∃ r, camshaftref04_Same.l0 k a b (i : Int) = some r ∧ (r = true ↔ a.drop i = b.drop i) := by
  intro d
  induction d with
  | zero =>
    intro i k hi hk
    obtain ⟨k, rfl⟩ : ∃ m, k = m + 1 := ⟨k - 1, by omega⟩
    refine ⟨true, ?_, ?_⟩
    · simp only [camshaftref04_Same.l0]
      rw [if_neg (by omega)]
    · rw [List.drop_eq_nil_of_le (by omega), List.drop_eq_nil_of_le (by omega)]; simp
  | succ d ih =>
    intro i k hi hk
    obtain ⟨k, rfl⟩ : ∃ m, k = m + 1 := ⟨k - 1, by omega⟩
    simp only [camshaftref04_Same.l0]
    rw [if_pos (by omega), if_pos (by omega), if_pos (by omega), rdT_drop (show i < a.length by omega), rdT_drop (show i < b.length by omega)]
    by_cases h : rd_T23 a (i : Int) = rd_T23 b (i : Int)
    · rw [if_neg (fun e => (ins_ne _ _).1 e h), show wrap64 ((i : Int) + 1) = ((i + 1 : Nat) : Int) from by unfold wrap64; omega]
      obtain ⟨r, e1, e2⟩ := ih (i + 1) k (by omega) (by omega)
      exact ⟨r, e1, by rw [e2, h]; simp⟩
    · rw [if_pos ((ins_ne _ _).2 h)]
      exact ⟨false, rfl, by simp [h]⟩
theorem rsameI_eq (a b : List Ins) (hn : a.length ≤ 1000000) {k : Nat} (hk : a.length < k) : ∃ r, camshaftref04_Same.f k a b = some r ∧ (r = true ↔ a = b) := by
  unfold camshaftref04_Same.f
  by_cases h : a.length = b.length
  · rw [if_pos (by omega)]
    have := rsameI_l0 a b h hn a.length 0 k (by omega) hk
    simpa using this
  · rw [if_neg (by omega)]
    exact ⟨false, rfl, by constructor; · intro e; cases e
                          · intro e; exact absurd (by rw [e]) h⟩
theorem sameI_l0 (a b : List Ins) (hab : a.length = b.length) (hn : a.length ≤ 1000000) : ∀ (d i k : Nat), i + d = a.length → d < k →
    ∃ r, op_Same.l0 k a b (a.length : Int) (i : Int) = some r ∧ (r = true ↔ a.drop i = b.drop i) := by
  intro d
  induction d with
  | zero =>
    intro i k hi hk
    obtain ⟨k, rfl⟩ : ∃ m, k = m + 1 := ⟨k - 1, by omega⟩
    refine ⟨true, ?_, ?_⟩
    · simp only [op_Same.l0]
      rw [if_neg (by omega)]
    · rw [List.drop_eq_nil_of_le (by omega), List.drop_eq_nil_of_le (by omega)]; simp
  | succ d ih =>
    intro i k hi hk
    obtain ⟨k, rfl⟩ : ∃ m, k = m + 1 := ⟨k - 1, by omega⟩
    simp only [op_Same.l0]
    rw [if_pos (by omega), if_pos (by omega), if_pos (by omega), if_pos (by omega), rdT_drop (show i < a.length by omega), rdT_drop (show i < b.length by omega)]
    by_cases h : rd_T23 a (i : Int) = rd_T23 b (i : Int)
    · rw [if_neg (fun e => (ins_ne _ _).1 e h), show wrap64 ((i : Int) + 1) = ((i + 1 : Nat) : Int) from by unfold wrap64; omega]
      obtain ⟨r, e1, e2⟩ := ih (i + 1) k (by omega) (by omega)
      exact ⟨r, e1, by rw [e2, h]; simp⟩
    · rw [if_pos ((ins_ne _ _).2 h)]
      exact ⟨false, rfl, by simp [h]⟩
theorem sameI_eq (a b : List Ins) (hn : a.length ≤ 1000000) {k : Nat} (hk : a.length < k) : ∃ r, op_Same.f k a b = some r ∧ (r = true ↔ a = b) := by
  unfold op_Same.f
  by_cases h : a.length = b.length
  · rw [if_pos (by omega)]
    have := sameI_l0 a b h hn a.length 0 k (by omega) hk
    simpa using this
  · rw [if_neg (by omega)]
    exact ⟨false, rfl, by constructor; · intro e; cases e
                          · intro e; exact absurd (by rw [e]) h⟩

end Go.Proofs.Ytnfoebbdmekbiaa.OL
namespace Go.Proofs.Ytnfoebbdmekbiaa.OL
open Go.RowKit Go.Proofs.Ytnfoebbdmekbiaa.C Go.Proofs.Ytnfoebbdmekbiaa.P Go.Proofs.Ytnfoebbdmekbiaa.CM Go.Proofs.Ytnfoebbdmekbiaa.CL Go.Proofs.YtnfoebbdmekbiaaW.PrintWords Go.Proofs.YtnfoebbdmekbiaaW.PrintLast Go.Proofs.YtnfoebbdmekbiaaW.PrintMore

def InI (x : Ins) : Prop := I64 x.f0 ∧ I64 x.f1 ∧ I64 x.f2
theorem InI_of {l : List Ins} (h : ∀ x ∈ l, (Lit.int .i64 x.f0).wf = true ∧ (Lit.int .i64 x.f1).wf = true ∧ (Lit.int .i64 x.f2).wf = true) : ∀ x ∈ l, InI x :=
  fun x hx => ⟨I64_of (h x hx).1, I64_of (h x hx).2.1, I64_of (h x hx).2.2⟩
/-- An instruction can be; its bytes; a row's. -/
def okI (x : Ins) : Bool := rightI x.f0 x.f1 x.f2
def encX (x : Ins) : List UInt8 := encI x.f0 x.f1 x.f2
def encR (l : List Ins) : List UInt8 := l.flatMap encX
theorem encR_cons (x : Ins) (l : List Ins) : encR (x :: l) = encX x ++ encR l := rfl
theorem encR_append (a b : List Ins) : encR (a ++ b) = encR a ++ encR b := by simp [encR]
theorem encX_len {x : Ins} (h : InI x) : 1 ≤ (encX x).length ∧ (encX x).length ≤ 21 := encI_len h.2.1 h.2.2
theorem encR_len {l : List Ins} (h : ∀ x ∈ l, InI x) : l.length ≤ (encR l).length ∧ (encR l).length ≤ 21 * l.length := by
  induction l with
  | nil => simp [encR]
  | cons x l ih =>
    rw [encR_cons, List.length_append, List.length_cons]
    have h1 := ih (fun y hy => h y (by simp [hy]))
    have h2 := encX_len (h x (by simp))
    omega
theorem rdT_mem {l : List Ins} {i : Nat} (h : i < l.length) : rd_T23 l (i : Int) ∈ l := by
  simp [rd_T23, List.getD, h]
theorem encS_ok {x : Ins} (h : okI x = true) : encS x.f0 x.f1 x.f2 = ofL (encX x) := by unfold encS; rw [if_pos (show rightI x.f0 x.f1 x.f2 = true from h)]; rfl

theorem code_l0 (l : List Ins) (hw : ∀ x ∈ l, InI x) (hn : l.length ≤ 200) : ∀ (d i k : Nat) (acc : ByteArray), i + d = l.length → d + 20 ≤ k → acc.size + 21 * d ≤ 100000 →
    op_Code.l0 k acc l (l.length : Int) (i : Int) = some (if (l.drop i).all okI = true then ofL (bl acc ++ encR (l.drop i)) else ofL []) := by
  intro d
  induction d with
  | zero =>
    intro i k acc hi hk hb
    obtain ⟨k, rfl⟩ : ∃ m, k = m + 1 := ⟨k - 1, by omega⟩
    simp only [op_Code.l0]
    rw [if_neg (by omega), List.drop_eq_nil_of_le (by omega), if_pos (show ([] : List Ins).all okI = true from rfl)]
    congr 1
    rw [show encR [] = [] from rfl, List.append_nil, ofL_bl]
  | succ d ih =>
    intro i k acc hi hk hb
    obtain ⟨k, rfl⟩ : ∃ m, k = m + 1 := ⟨k - 1, by omega⟩
    have hlt : i < l.length := by omega
    have hx := hw _ (rdT_mem hlt)
    simp only [op_Code.l0]
    rw [if_pos (by omega), if_pos (by omega), if_pos (by omega), rdT_drop hlt]
    refine Option.bind_eq_some_iff.2 ⟨_, encode_eq hx.2.1 hx.2.2 (by omega), ?_⟩
    by_cases hR : okI (rd_T23 l (i : Int)) = true
    · rw [if_neg (fun e => encS_nil.1 e hR), encS_ok hR]
      have hl := encX_len hx
      have hsz : (ofL (encX (rd_T23 l (i : Int)))).size = (encX (rd_T23 l (i : Int))).length := by rw [bl_size, bl_ofL]
      rw [if_pos (by omega), show wrap64 ((i : Int) + 1) = ((i + 1 : Nat) : Int) from by clear hl hsz; unfold wrap64; omega]
      rw [ih (i + 1) k _ (by omega) (by omega) (by rw [ByteArray.size_append]; omega)]
      rw [bl_app, bl_ofL, List.all_cons, hR, Bool.true_and, encR_cons, List.append_assoc]
    · rw [if_pos (encS_nil.2 hR), if_neg (by rw [List.all_cons, Bool.and_eq_true]; exact fun h => hR h.1)]
      rfl
/-- op.Code. -/
def codeS (l : List Ins) : ByteArray := if l.length ≤ 200 ∧ l.all okI = true then ofL (encR l) else ofL []
theorem code_eq {l : List Ins} (hw : ∀ x ∈ l, InI x) {k : Nat} (hk : 300 ≤ k) : op_Code.f k l = some (codeS l) := by
  unfold op_Code.f codeS
  by_cases h : l.length ≤ 200
  · rw [if_neg (by omega)]
    have := code_l0 l hw h l.length 0 k ⟨#[]⟩ (by omega) (by omega) (by show 0 + _ ≤ _; omega)
    rw [List.drop_zero] at this
    refine this.trans ?_
    by_cases h2 : l.all okI = true
    · rw [if_pos h2, if_pos ⟨h, h2⟩]; rfl
    · rw [if_neg h2, if_neg (fun h3 => h2 h3.2)]
  · rw [if_pos (by omega), if_neg (fun h3 => h h3.1)]
    rfl

/-- op.Read. -/
def readI : Nat → ByteArray → List Ins → Int → List Ins × Int
  | 0, _, _, _ => ([], 2)
  | f + 1, s, acc, at_ => if at_ < (s.size : Int) then (if acc.length = 200 then ([], 4) else
      if (decS s at_).2.2.2.2 = 0 then readI f s (acc ++ [(⟨(decS s at_).1, (decS s at_).2.1, (decS s at_).2.2.1⟩ : Ins)]) (decS s at_).2.2.2.1 else ([], (decS s at_).2.2.2.2)) else (acc, 0)
theorem decS_step {s : ByteArray} {at_ : Int} (h : (decS s at_).2.2.2.2 = 0) : at_ < (decS s at_).2.2.2.1 ∧ (decS s at_).2.2.2.1 ≤ (s.size : Int) := by
  obtain ⟨_, h2, h3, h4, h5, h6, _⟩ := decS_ok (s := s) (at_ := at_) (a := (decS s at_).1) (b := (decS s at_).2.1) (c := (decS s at_).2.2.1) (nx := (decS s at_).2.2.2.1) (by rw [← h])
  have := (encI_len (a := (decS s at_).1) h2 h3).1
  omega
theorem read_l0 (s : ByteArray) (hs : s.size ≤ 1000000) : ∀ (f : Nat) (acc : List Ins) (at_ : Int) (k : Nat), (s.size : Int) + 1 ≤ f + at_ → at_ ≤ s.size → f + 20 ≤ k → acc.length ≤ 200 →
    op_Read.l0 k s acc at_ = some (readI f s acc at_) := by
  intro f
  induction f with
  | zero => intro acc at_ k h1 h2 _ _; omega
  | succ f ih =>
    intro acc at_ k h1 h2 hk ha
    obtain ⟨k, rfl⟩ : ∃ m, k = m + 1 := ⟨k - 1, by omega⟩
    simp only [op_Read.l0, readI]
    by_cases h3 : at_ < (s.size : Int)
    · rw [if_pos h3, if_pos h3]
      by_cases h4 : acc.length = 200
      · rw [if_pos (by omega), if_pos h4]
      · rw [if_neg (by omega), if_neg h4]
        refine Option.bind_eq_some_iff.2 ⟨_, decode_eq s hs at_ (by omega), ?_⟩
        by_cases h5 : (decS s at_).2.2.2.2 = 0
        · rw [if_pos h5, if_pos h5, if_pos (by omega)]
          obtain ⟨h6, h7⟩ := decS_step h5
          exact ih _ _ k (by omega) h7 (by omega) (by simp; omega)
        · rw [if_neg h5, if_neg h5]
    · rw [if_neg h3, if_neg h3]
def readS (s : ByteArray) : List Ins × Int := readI (s.size + 1) s [] 0
theorem read_eq (s : ByteArray) (hs : s.size ≤ 1000000) {k : Nat} (hk : s.size + 30 ≤ k) : op_Read.f k s = some (readS s) :=
  read_l0 s hs (s.size + 1) [] 0 k (by omega) (by omega) (by omega) (by simp)

end Go.Proofs.Ytnfoebbdmekbiaa.OL
