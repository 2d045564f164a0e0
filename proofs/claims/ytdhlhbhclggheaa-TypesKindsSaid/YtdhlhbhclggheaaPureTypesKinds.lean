/- TypesKinds: an instruction takes at most two, and gives at most two; what it gives is of numbers and truths; what is any is given back; for all instructions. -/
import Derived.Test.YtdhlhbhclggheaaE2
import Derived.Test.YtdhlhbhclggheaaE3
import Derived.Test.YtdhlhbhclggheaaPx2
import Derived.Test.YtdhlhbhclggheaaPx13
namespace Go.Proofs.Ytdhlhbhclggheaa.Pure
open Go.RowKit Go.Proofs.Ytdhlhbhclggheaa.P Go.Proofs.YtdhlhbhclggheaaW.PrintWords Go.Proofs.YtdhlhbhclggheaaW.PrintLast Go.Proofs.YtdhlhbhclggheaaW.PrintMore

theorem known_kinds {k : Nat} (hk : 60 ≤ k) : camshaftlaw07_known.f k = some true := at_rounds camshaftlaw07_known.mono hk camshaftlaw07_known.run
/-- What an instruction takes, with a kind for each that may be of any. -/
def piece (t : ByteArray) (bs : List Bool) (i : Nat) : ByteArray := if (t.extract i (i + 1)).toList = [32] then (if bs.getD i false = true then ⟨#[105]⟩ else ⟨#[98]⟩) else t.extract i (i + 1)
def tookFrom (t : ByteArray) (bs : List Bool) : Nat → Nat → ByteArray → ByteArray
  | 0, _, acc => acc
  | d + 1, i, acc => tookFrom t bs d (i + 1) (acc ++ piece t bs i)
def ib (g : ByteArray) (i : Nat) : Bool := bt g (i : Int) == 105 || bt g (i : Int) == 98
/-- What is given, of an instruction that can be: y is what an operation on two gives. -/
def resT (y : ByteArray) (x : ByteArray ⊕ Nat) (took : ByteArray) : ByteArray := match x with
  | .inl s => s
  | .inr f => if f = 42 then took ++ took else if f = 43 then took.extract 1 took.size ++ took.extract 0 1 else y
def givesT (y : ByteArray) (e : Option Eff) (took : ByteArray) : ByteArray := match e with
  | none => ByteArray.empty
  | some e => if fitsS took e.1 = true then resT y e.2 took else ByteArray.empty
theorem gives_T {a b c : Int} (h : rightK (kindOf a) b c = true) (took : ByteArray) : givesS a b c took = givesT (twoS b) (keyE a) took := by
  unfold givesS givesT
  cases keyE a with
  | none => rfl
  | some e => dsimp only; rw [if_pos h]; rfl
theorem gives_no {a b c : Int} (h : ¬ rightK (kindOf a) b c = true) (took : ByteArray) : givesS a b c took = ByteArray.empty := by
  unfold givesS
  cases keyE a with
  | none => rfl
  | some e => dsimp only; rw [if_neg h]
def checkK (a : Nat) (a1 a2 y2 : Bool) : Bool :=
  let y := if y2 then sB else sI
  let T := tkS (keyE a)
  let took := tookFrom T [a1, a2] T.size 0 ByteArray.empty
  let g := givesT y (keyE a) took
  (List.range g.size).all (ib g) && decide (g.size ≤ 2) && (a != 3 || decide (g = took ++ took)) && (a != 4 || decide (givesT y (keyE a) g = took)) && decide (givesT y (keyE a) (took ++ ⟨#[105]⟩) = ByteArray.empty)
theorem check_all : ∀ a < 26, ∀ a1 a2 y2, checkK a a1 a2 y2 = true := by decide +kernel
structure KFacts (a b c : Int) (took g : ByteArray) : Prop where
  ib : ∀ i, i < g.size → ib g i = true
  size : g.size ≤ 2
  dup : a = 3 → g = took ++ took
  swap : a = 4 → givesS a b c g = took
  no : givesS a b c (took ++ ⟨#[105]⟩) = ByteArray.empty
theorem facts (a b c : Int) (a1 a2 : Bool) : KFacts a b c (tookFrom (takesS a b c) [a1, a2] (takesS a b c).size 0 ByteArray.empty) (givesS a b c (tookFrom (takesS a b c) [a1, a2] (takesS a b c).size 0 ByteArray.empty)) := by
  by_cases h : rightK (kindOf a) b c = true
  · have ht : takesS a b c = tkS (keyE a) := by unfold takesS; rw [if_pos h]
    have hr : 1 ≤ a ∧ a ≤ 25 := by
      refine Decidable.byContradiction fun hn => ?_
      unfold kindOf at h; rw [if_neg hn] at h
      simp [rightK] at h
    obtain ⟨n, rfl⟩ : ∃ n : Nat, a = n := ⟨a.toNat, by omega⟩
    obtain ⟨y2, hy⟩ : ∃ y2 : Bool, twoS b = if y2 then sB else sI := by
      unfold twoS
      split
      · exact ⟨true, rfl⟩
      · exact ⟨false, rfl⟩
    have hc := check_all n (by omega) a1 a2 y2
    unfold checkK at hc
    simp only [Bool.and_eq_true, decide_eq_true_eq, Bool.or_eq_true, bne_iff_ne, ne_eq, List.all_eq_true, List.mem_range] at hc
    obtain ⟨⟨⟨⟨c1, c2⟩, c3⟩, c4⟩, c5⟩ := hc
    rw [ht]
    simp only [gives_T h, hy]
    refine ⟨c1, c2, fun e => ?_, fun e => ?_, ?_⟩
    · exact c3.resolve_left (fun g => g (by omega))
    · rw [gives_T h, hy]; exact c4.resolve_left (fun g => g (by omega))
    · rw [gives_T h, hy]; exact c5
  · have ht : takesS a b c = ByteArray.empty := by unfold takesS; rw [if_neg h]
    rw [ht, gives_no h]
    refine ⟨fun i hi => absurd hi (Nat.not_lt_zero _), by decide, fun _ => rfl, fun _ => by rw [gives_no h]; rfl, by rw [gives_no h]⟩
theorem gives_f {a b c : Int} (hw : (Lit.int .i64 a).wf = true) (s : ByteArray) : types_Gives.f a b c s = some (givesS a b c s) := if_pos hw
theorem toList_eq {s t : ByteArray} (h : s = t) : s.toList = t.toList := by rw [h]
theorem j3_ok {a b c : Int} (hw : (Lit.int .i64 a).wf = true) {took g : ByteArray} (hf : KFacts a b c took g) (ht : took.size ≤ 100) {k : Nat} (hk : 60 < k) : camshaftlaw07_TypesKinds.j3 k took g false a b c = some true := by
  obtain ⟨k, rfl⟩ : ∃ m, k = m + 1 := ⟨k - 1, by omega⟩
  simp only [camshaftlaw07_TypesKinds.j3]
  have := hf.size
  rw [if_neg (by decide), if_pos (by omega), if_pos (by omega), gives_f hw, Option.bind_some, if_pos (by rw [hf.no, ByteArray.toList_eq]; rfl), known_kinds (by omega)]
  rfl
theorem l1_ok {a b c : Int} (hw : (Lit.int .i64 a).wf = true) {took g : ByteArray} (hf : KFacts a b c took g) (ht : took.size ≤ 100) : ∀ (d i k : Nat), i + d = g.size → d + 62 < k → camshaftlaw07_TypesKinds.l1 k took g (i : Int) a b c = some true
  | 0, i, k, hi, hk => by
    obtain ⟨k, rfl⟩ : ∃ m, k = m + 1 := ⟨k - 1, by omega⟩
    simp only [camshaftlaw07_TypesKinds.l1]
    rw [if_neg (by omega)]
    have J := j3_ok hw hf ht (k := k) (by omega)
    by_cases h3 : (a == 3 && (b == 0 && (c == 0))) = true
    · have e3 : a = 3 := by simp at h3; exact h3.1
      rw [if_pos h3, if_pos (by omega), if_pos (toList_eq (hf.dup e3)), if_neg (by rw [e3]; simp)]
      exact J
    · rw [if_neg h3]
      by_cases h4 : (a == 4 && (b == 0 && (c == 0))) = true
      · have e4 : a = 4 := by simp at h4; exact h4.1
        rw [if_pos h4, gives_f hw, Option.bind_some, hf.swap e4, show (took.toList != took.toList) = false by simp]
        exact J
      · rw [if_neg h4]; exact J
  | d + 1, i, k, hi, hk => by
    obtain ⟨k, rfl⟩ : ∃ m, k = m + 1 := ⟨k - 1, by omega⟩
    simp only [camshaftlaw07_TypesKinds.l1]
    have hz := hf.size
    have R := l1_ok hw hf ht d (i + 1) k (by omega) (by omega)
    rw [if_pos (by omega), if_pos (by omega), show wrap64 ((i : Int) + 1) = ((i + 1 : Nat) : Int) from by unfold wrap64; omega]
    have := hf.ib i (by omega)
    unfold ib at this
    simp only [Bool.or_eq_true, beq_iff_eq] at this
    by_cases h : bt g (i : Int) = 105
    · rw [if_pos h]; exact R
    · rw [if_neg h, if_pos (this.resolve_left h)]; exact R
theorem piece_size (t : ByteArray) (bs : List Bool) (i : Nat) : (piece t bs i).size ≤ 1 := by
  unfold piece
  split
  · split <;> decide
  · rw [ByteArray.size_extract]; omega
theorem l0_ok {a b c : Int} (t : ByteArray) (ht : t.size ≤ 2) (a1 a2 : Bool) : ∀ (d i k : Nat) (acc : ByteArray), i + d = t.size → 2 * d < k → acc.size ≤ i →
    ∃ k', k ≤ k' + 2 * d + 1 ∧ camshaftlaw07_TypesKinds.l0 k t acc [a1, a2] (i : Int) a b c = (types_Gives.f a b c (tookFrom t [a1, a2] d i acc)).bind (fun g => camshaftlaw07_TypesKinds.l1 k' (tookFrom t [a1, a2] d i acc) g 0 a b c) ∧ (tookFrom t [a1, a2] d i acc).size ≤ 2
  | 0, i, k, acc, hi, hk, ha => by
    obtain ⟨k, rfl⟩ : ∃ m, k = m + 1 := ⟨k - 1, by omega⟩
    simp only [camshaftlaw07_TypesKinds.l0]
    rw [if_neg (by omega)]
    exact ⟨k, by omega, rfl, by show acc.size ≤ 2; omega⟩
  | d + 1, i, k, acc, hi, hk, ha => by
    obtain ⟨k, rfl⟩ : ∃ m, k = m + 2 := ⟨k - 2, by omega⟩
    have hp := piece_size t [a1, a2] i
    obtain ⟨k', e1, e2, e3⟩ := l0_ok (a := a) (b := b) (c := c) t ht a1 a2 d (i + 1) k (acc ++ piece t [a1, a2] i) (by omega) (by omega) (by rw [ByteArray.size_append]; omega)
    refine ⟨k', by omega, ?_, e3⟩
    simp only [camshaftlaw07_TypesKinds.l0]
    have w : wrap64 ((i : Int) + 1) = ((i + 1 : Nat) : Int) := by unfold wrap64; omega
    rw [w, if_pos (by omega), if_pos (by omega), if_pos (by omega), if_pos (by omega), show ((i : Nat) : Int).toNat = i from rfl, show ((i + 1 : Nat) : Int).toNat = i + 1 from rfl]
    have R : camshaftlaw07_TypesKinds.l0 k t (acc ++ piece t [a1, a2] i) [a1, a2] ((i + 1 : Nat) : Int) a b c = (types_Gives.f a b c (tookFrom t [a1, a2] (d + 1) i acc)).bind (fun g => camshaftlaw07_TypesKinds.l1 k' (tookFrom t [a1, a2] (d + 1) i acc) g 0 a b c) := e2
    by_cases h : (t.extract i (i + 1)).toList = ([32] : List UInt8)
    · rw [if_pos h, if_pos (by simp; omega)]
      have hb : rdOf false [a1, a2] (i : Int) = [a1, a2].getD i false := by simp [rdOf]
      rw [hb]
      simp only [camshaftlaw07_TypesKinds.j1]
      by_cases hv : [a1, a2].getD i false = true
      · have hpc : piece t [a1, a2] i = ⟨#[105]⟩ := by unfold piece; rw [if_pos h, if_pos hv]
        rw [if_pos hv, if_neg (by decide), if_pos (by omega), w, ← hpc]
        exact R
      · have hpc : piece t [a1, a2] i = ⟨#[98]⟩ := by unfold piece; rw [if_pos h, if_neg hv]
        rw [if_neg hv, if_pos h, if_pos (by omega), w, ← hpc]
        exact R
    · have hpc : piece t [a1, a2] i = t.extract i (i + 1) := by unfold piece; rw [if_neg h]
      rw [if_neg h]
      simp only [camshaftlaw07_TypesKinds.j1]
      rw [hpc] at hp R
      rw [if_neg (by decide), if_neg h, if_pos (by omega), w]
      exact R
theorem TypesKinds : camshaftlaw07_TypesKinds.Pure := by
  intro a b c a1 a2 hwa hwb hwc
  refine ⟨200, ?_⟩
  obtain ⟨k, hk⟩ : ∃ k : Nat, k = 200 := ⟨_, rfl⟩
  rw [← hk]
  unfold camshaftlaw07_TypesKinds.f
  have ht := take_size_le a b c
  refine Option.bind_eq_some_iff.2 ⟨takesS a b c, rfl, ?_⟩
  rw [if_neg (by omega)]
  obtain ⟨k', e1, e2, e3⟩ := l0_ok (a := a) (b := b) (c := c) (takesS a b c) ht a1 a2 (takesS a b c).size 0 k ByteArray.empty (by omega) (by omega) (Nat.le_refl _)
  rw [show ((0 : Nat) : Int) = 0 from rfl] at e2
  rw [show (⟨#[]⟩ : ByteArray) = ByteArray.empty from rfl, e2, gives_f hwa, Option.bind_some]
  have := l1_ok hwa (facts a b c a1 a2) (by omega) _ 0 k' (Nat.zero_add _) (by have := (facts a b c a1 a2).size; omega)
  exact this
end Go.Proofs.Ytdhlhbhclggheaa.Pure
