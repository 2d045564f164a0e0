/- types.effects: the map of what operations take and give, whatever order its entries are laid in. No conditions. -/
import Derived.Test.YtdhlhbhclggheaaG3
import Derived.Orders
import Derived.Laws.EntriesVeiled
import Derived.Maps.OwnSet
import Derived.Maps.Views
namespace Go.Proofs.Ytdhlhbhclggheaa.P
open Go.RowKit Go.Maps Go.ChangeMaps Go.Proofs.YtdhlhbhclggheaaW.PrintWords Go.Proofs.YtdhlhbhclggheaaW.PrintLast Go.Proofs.YtdhlhbhclggheaaW.PrintMore
set_option linter.unusedVariables false
set_option linter.unusedSimpArgs false

/-! ### A region that draws its order, by an invariant -/
theorem wpAny_inv {P : Program} {md : Region.Mode} {ops : Array Oper} {Q : Exit → Act → World → Prop} (I : Nat → Array Bool → Act → World → Prop)
    (hstep : ∀ fuel listed a w i, I (fuel + 1) listed a w → i ∈ Region.ready md ops listed → wpOp P ops Q i (I fuel (listed.setIfInBounds i true)) a w)
    (hend : ∀ fuel listed a w, I fuel listed a w → Region.ready md ops listed = [] → Q .normal a w)
    (hfuel : ∀ listed a w, I 0 listed a w → Region.ready md ops listed = []) : ∀ fuel listed a w, I fuel listed a w → wpAny P md ops Q fuel listed a w
  | 0, listed, a, w, h => ⟨hfuel listed a w h, hend 0 listed a w h (hfuel listed a w h)⟩
  | fuel + 1, listed, a, w, h => ⟨hend (fuel + 1) listed a w h, fun i hi => wpOp_mono (fun a' w' h' => wpAny_inv I hstep hend hfuel fuel _ a' w' h') (hstep fuel listed a w i h hi)⟩

/-! ### The region's operations -/
inductive EK where
  | mk
  | ld (p d : Nat)
  | ins (key : Int) (t dep : Nat)
  | cal (s : ByteArray) (d : Nat)
  | bc (tk s : ByteArray) (t d dep : Nat)
  | bf (tk : ByteArray) (f d : Nat)
  | mv
  | asR
def EK.op : EK → Op
  | .mk => .makeMap 55 none
  | .ld p _ => .load 54 (.tmp p)
  | .ins key t _ => .insert 55 (.tmp 10) (.const (.int .i64 key)) (.tmp t)
  | .cal s _ => .call { callee := .value (.func 41), args := #[.const (.string s)], argTypes := #[9] }
  | .bc tk _ t _ _ => .build 54 #[(0, .const (.string tk)), (1, .tmp t)]
  | .bf tk f _ => .build 54 #[(0, .const (.string tk)), (1, .func f)]
  | .mv => .move (.tmp 10)
  | .asR => .assign (.tmp 35)
def EK.dst : EK → Option Nat
  | .mk => some 10
  | .ld _ d => some d
  | .ins .. => none
  | .cal _ d => some d
  | .bc _ _ _ d _ => some d
  | .bf _ _ d => some d
  | .mv => some 35
  | .asR => some 0
def EK.deps : EK → List Nat
  | .ins _ _ dep => [0, dep]
  | .bc _ _ _ _ dep => [dep]
  | .mv => List.range 44
  | .asR => [44]
  | _ => []
def sI : ByteArray := ⟨#[105]⟩
def sB : ByteArray := ⟨#[98]⟩
def sE : ByteArray := ⟨#[]⟩
def sA : ByteArray := ⟨#[32]⟩
def opT : List EK := [.mk, .ld 1 11, .ins 1 11 1, .ld 1 12, .ins 11 12 3, .ld 1 13, .ins 13 13 5, .ld 1 14, .ins 15 14 7, .ld 1 15, .ins 17 15 9,
  .ld 2 16, .ins 12 16 11, .ld 2 17, .ins 14 17 13, .ld 2 18, .ins 16 18 15, .ld 2 19, .ins 18 19 17,
  .cal sE 20, .bc sA sE 20 21 19, .ins 2 21 20, .bf sA 42 22, .ins 3 22 22, .bf ⟨#[32, 32]⟩ 43 23, .ins 4 23 24, .bf ⟨#[105, 105]⟩ 44 24, .ins 5 24 26,
  .cal sI 25, .bc sI sI 25 26 28, .ins 6 26 29, .cal sB 27, .bc sB sB 27 28 31, .ins 7 28 32, .ld 3 29, .ins 8 29 34, .ld 3 30, .ins 9 30 36,
  .cal sI 31, .bc sB sI 31 32 38, .ins 10 32 39, .cal sE 33, .bc sB sE 33 34 41, .ins 20 34 42, .mv, .asR]
def Real (o : Oper) (k : EK) : Prop := o.guard = none ∧ o.dst = k.dst ∧ o.op = k.op ∧ (k.deps.all fun d => o.after.toList.any fun e => e.on == d && Region.binds .any e) = true
def AllReal : List Oper → List EK → Prop
  | [], [] => True
  | o :: os, k :: ks => Real o k ∧ AllReal os ks
  | _, _ => False
theorem AllReal.at : ∀ {os : List Oper} {ks : List EK} {i : Nat} {o : Oper}, AllReal os ks → os[i]? = some o → ∃ k, ks[i]? = some k ∧ Real o k
  | [], _, i, o, _, h => by simp at h
  | _ :: _, [], _, _, h, _ => h.elim
  | x :: os, k :: ks, 0, o, h, hi => by
    obtain rfl : x = o := by simpa using hi
    exact ⟨k, rfl, h.1⟩
  | x :: os, k :: ks, i + 1, o, h, hi => AllReal.at (os := os) (ks := ks) (i := i) h.2 (by simpa using hi)
theorem AllReal.len : ∀ {os : List Oper} {ks : List EK}, AllReal os ks → os.length = ks.length
  | [], [], _ => rfl
  | _ :: os, _ :: ks, h => by rw [List.length_cons, List.length_cons, AllReal.len h.2]
  | [], _ :: _, h => h.elim
  | _ :: _, [], h => h.elim
/-- What an operation takes, and how what it gives is told: by a closure that gives a text, or by a function. -/
abbrev Eff := ByteArray × (ByteArray ⊕ Nat)
def pk (p : Nat) : Eff := if p = 1 then (sE, .inl sI) else if p = 2 then (sI, .inl sE) else (⟨#[98, 98]⟩, .inl sB)
def EK.spec : EK → Option Eff
  | .ld p _ => some (pk p)
  | .bc tk s _ _ _ => some (tk, .inl s)
  | .bf tk f _ => some (tk, .inr f)
  | _ => none
def keyE (o : Int) : Option Eff :=
  if o = 1 ∨ o = 11 ∨ o = 13 ∨ o = 15 ∨ o = 17 then some (pk 1) else if o = 12 ∨ o = 14 ∨ o = 16 ∨ o = 18 then some (pk 2) else if o = 8 ∨ o = 9 then some (pk 3) else
  if o = 2 then some (sA, .inl sE) else if o = 3 then some (sA, .inr 42) else if o = 4 then some (⟨#[32, 32]⟩, .inr 43) else if o = 5 then some (⟨#[105, 105]⟩, .inr 44) else
  if o = 6 then some (sI, .inl sI) else if o = 7 then some (sB, .inl sB) else if o = 10 then some (sB, .inl sI) else if o = 20 then some (sB, .inl sE) else none
/-- The table hangs together: what is put under a key is what stands there; no slot is written twice. -/
def insOk (k : EK) : Bool := match k with
  | .ins key t dep => match opT[dep]? with
    | some kd => kd.dst == some t && decide (kd.spec = keyE key) && (keyE key).isSome
    | none => false
  | .bc _ s t _ dep => match opT[dep]? with
    | some (.cal s' d) => decide (s' = s) && d == t
    | _ => false
  | _ => true

/-! ### What stands in memory -/
def Keeps (w w' : World) : Prop := ∀ b o v, w.cell? ⟨b, o, none⟩ = some v → w'.cell? ⟨b, o, none⟩ = some v
theorem Keeps.refl (w : World) : Keeps w w := fun _ _ _ h => h
theorem cell_lt {w : World} {b o : Nat} {v : Value} (h : w.cell? ⟨b, o, none⟩ = some v) : b < w.heap.size := by
  refine Decidable.byContradiction fun hn => ?_
  have h0 : w.heap[b]? = none := Array.getElem?_eq_none (Nat.le_of_not_lt hn)
  simp [World.cell?, h0] at h
theorem keeps_below {w w' : World} (hb : Below w.heap.size w w') : Keeps w w' := fun b o v h => (hb.cell (p := ⟨b, o, none⟩) (cell_lt h)).trans h
theorem keeps_turned {w w' : World} {m : Nat} (h : w.mapTurned w' m) : Keeps w w' := by
  obtain ⟨es, clock, es', clock', hb, rfl⟩ := h
  intro b o v hv
  have hne : b ≠ m := fun e => by simp [World.cell?, e, hb] at hv
  have h2 : (setBlock w m (.map es' clock')).heap[b]? = w.heap[b]? := heap_setBlock_other hb _ hne
  unfold World.cell? at hv ⊢
  simp only [h2]
  exact hv
variable {B : Nat}
def FnX (B : Nat) (w : World) : ByteArray ⊕ Nat → Value → Prop
  | .inl s, v => ∃ b, B ≤ b ∧ v = .func (.func 49) #[] #[.pointer (some ⟨b, 0, none⟩)] ∧ w.cell? ⟨b, 0, none⟩ = some (.string s)
  | .inr f, v => v = .func (.func f) #[] #[]
theorem FnX.keep {w w' : World} {x : ByteArray ⊕ Nat} {v : Value} (h : FnX B w x v) (hk : Keeps w w') : FnX B w' x v := by
  cases x with
  | inl s => obtain ⟨b, hb, e, hc⟩ := h; exact ⟨b, hb, e, hk _ _ _ hc⟩
  | inr f => exact h
def EfX (B : Nat) (w : World) (e : Eff) (v : Value) : Prop := ∃ f, v = .agg #[.string e.1, f] ∧ FnX B w e.2 f
theorem EfX.keep {w w' : World} {e : Eff} {v : Value} (h : EfX B w e v) (hk : Keeps w w') : EfX B w' e v := by
  obtain ⟨f, e1, h1⟩ := h
  exact ⟨f, e1, h1.keep hk⟩
theorem always_calls (s : ByteArray) (w : World) (hB : B ≤ w.heap.size) : Calls Try.prog 41 #[.string s] w fun e w' => (∃ v, e = .returned v ∧ FnX B w' (.inl s) v) ∧ Below w.heap.size w w' := by
  have hmf := mkFn
  go_enter Try.func41, Try.ntmps41
  go_wp2
  go_ret
  exact ⟨⟨_, rfl, _, hB, rfl, by simp [go_sem]⟩, below_alloc (Below.refl _ _) _⟩
theorem zeroEff (w : World) : (zeroValue 54).run Try.prog w = .ok (.agg #[.string ByteArray.empty, .nilFunc]) w := by kernel_rfl

/-! ### What holds while the region runs -/
abbrev RV (v : Value) : Option (DataW Value × List MemPlace) := some (.held v, [])
abbrev zd : DataW Value := .held (.agg #[.string ByteArray.empty, .nilFunc])
def ValX (B : Nat) (w : World) (a : Act) : EK → Prop
  | .ld p d => ∃ v, a.tmps[d]? = some v ∧ EfX B w (pk p) v
  | .cal s d => ∃ v, a.tmps[d]? = some v ∧ FnX B w (.inl s) v
  | .bc tk s _ d _ => ∃ v, a.tmps[d]? = some v ∧ EfX B w (tk, .inl s) v
  | .bf tk f d => ∃ v, a.tmps[d]? = some v ∧ EfX B w (tk, .inr f) v
  | .mv => ∃ m, a.tmps[10]? = some (.map (some m)) ∧ a.tmps[35]? = some (.map (some m))
  | .asR => ∃ m, a.tmps[10]? = some (.map (some m)) ∧ a.tmps[0]? = some (.map (some m))
  | _ => True
structure MapX (b fuel : Nat) (listed : Array Bool) (w : World) (m : Nat) : Prop where
  new : b ≤ m
  holds : ∃ n D, w.ownsMap Try.prog 3 RV m n D ∧ n + fuel ≤ 46 ∧
    (∀ (i : Nat) (key : Int) (t dep : Nat), listed[i]? = some true → opT[i]? = some (EK.ins key t dep) → has D (.int .i64 key) = true ∧ ∃ v e, D.atKey (.int .i64 key) zd = .held v ∧ keyE key = some e ∧ EfX b w e v) ∧
    ∀ o, keyE o = none → has D (.int .i64 o) = false
structure EInv (b : Nat) (w0 : World) (N : List Deferred) (p : Nat → Nat) (fuel : Nat) (listed : Array Bool) (a : Act) (w : World) : Prop where
  lsize : listed.size = 46
  left : listed.toList.count false ≤ fuel
  clo : ∀ (i : Nat) (k : EK) (d : Nat), listed[i]? = some true → opT[i]? = some k → d ∈ k.deps → listed[d]? = some true
  defs : a.defers = N
  tsize : a.tmps.size = 36
  ptr : ∀ j, 1 ≤ j → j ≤ 3 → a.tmps[j]? = some (.pointer (some ⟨p j, 0, none⟩))
  boxes : ∀ j, 1 ≤ j → j ≤ 3 → w.cell? ⟨p j, 0, none⟩ = some (.string (pk j).1) ∧ ∃ f, w.cell? ⟨p j, 1, none⟩ = some f ∧ FnX b w (pk j).2 f
  below : Below b w0 w
  big : b ≤ w.heap.size
  fle : fuel ≤ 46
  vals : ∀ (i : Nat) (k : EK), listed[i]? = some true → opT[i]? = some k → ValX b w a k
  map : listed[0]? = some true → ∃ m, a.tmps[10]? = some (.map (some m)) ∧ MapX b fuel listed w m
theorem opT_len : opT.length = 46 := by decide
/-- No two write one slot; none writes the boxes' slots; the map's slot is the first one's alone. -/
def dstOk (i j : Nat) : Bool := match opT[i]?, opT[j]? with
  | some x, some y => x.dst == none || x.dst != y.dst || i == j
  | _, _ => true
theorem dst_apart : ∀ i < 46, ∀ j < 46, dstOk i j = true := by decide
theorem dst_ne {i j : Nat} {x y : EK} {d : Nat} (hx : opT[i]? = some x) (hy : opT[j]? = some y) (hd : x.dst = some d) (hij : i ≠ j) : y.dst ≠ some d := by
  have hi : i < 46 := by rw [← opT_len]; exact (List.getElem?_eq_some_iff.1 hx).1
  have hj : j < 46 := by rw [← opT_len]; exact (List.getElem?_eq_some_iff.1 hy).1
  have h := dst_apart i hi j hj
  unfold dstOk at h
  intro h2
  simp [hx, hy, hd, h2, hij] at h
theorem dst_box : opT.all (fun k => match k.dst with | some d => decide (d = 0 ∨ 10 ≤ d ∧ d < 36) | none => true) = true := by decide
theorem dst_far {i : Nat} {k : EK} {d : Nat} (hk : opT[i]? = some k) (hd : k.dst = some d) : d = 0 ∨ 10 ≤ d ∧ d < 36 := by
  have h := List.all_eq_true.1 dst_box k (List.mem_of_getElem? hk)
  rw [hd] at h
  simpa using h
theorem set_at {listed : Array Bool} {i j : Nat} (hi : i < listed.size) : (listed.setIfInBounds i true)[j]? = some true ↔ j = i ∨ listed[j]? = some true := by
  rw [Array.getElem?_setIfInBounds]
  by_cases h : i = j
  · subst h; simp [hi]
  · rw [if_neg h]
    exact ⟨.inr, fun h2 => h2.resolve_left (fun e => h e.symm)⟩
theorem ValX.keep {w w' : World} {a a' : Act} {k : EK} (h : ValX B w a k) (hk : Keeps w w') (ht : ∀ d, k.dst = some d → a'.tmps[d]? = a.tmps[d]?) (h10 : k = .mv ∨ k = .asR → a'.tmps[10]? = a.tmps[10]?) : ValX B w' a' k := by
  cases k with
  | ld p d => obtain ⟨v, h1, h2⟩ := h; exact ⟨v, (ht d rfl).trans h1, h2.keep hk⟩
  | cal s d => obtain ⟨v, h1, h2⟩ := h; exact ⟨v, (ht d rfl).trans h1, h2.keep hk⟩
  | bc tk s t d dep => obtain ⟨v, h1, h2⟩ := h; exact ⟨v, (ht d rfl).trans h1, h2.keep hk⟩
  | bf tk f d => obtain ⟨v, h1, h2⟩ := h; exact ⟨v, (ht d rfl).trans h1, h2.keep hk⟩
  | mv => obtain ⟨m, h1, h2⟩ := h; exact ⟨m, (h10 (.inl rfl)).trans h1, (ht 35 rfl).trans h2⟩
  | asR => obtain ⟨m, h1, h2⟩ := h; exact ⟨m, (h10 (.inr rfl)).trans h1, (ht 0 rfl).trans h2⟩
  | mk => trivial
  | ins _ _ _ => trivial
theorem opT_mv {i : Nat} (h : opT[i]? = some .mv) : i = 44 := by
  have hi : i < 46 := by rw [← opT_len]; exact (List.getElem?_eq_some_iff.1 h).1
  have H : ∀ i < 46, opT[i]? = some .mv → i = 44 := by
    have : ∀ i < 46, (match opT[i]? with | some .mv => i == 44 | some .asR => i == 45 | _ => true) = true := by decide
    intro i hi h
    have := this i hi
    rw [h] at this
    simpa using this
  exact H i hi h
theorem opT_as {i : Nat} (h : opT[i]? = some .asR) : i = 45 := by
  have hi : i < 46 := by rw [← opT_len]; exact (List.getElem?_eq_some_iff.1 h).1
  have : ∀ i < 46, (match opT[i]? with | some .mv => i == 44 | some .asR => i == 45 | _ => true) = true := by decide
  have := this i hi
  rw [h] at this
  simpa using this
theorem count_set {l : Array Bool} {i f : Nat} (hi : l[i]? = some false) (h : l.toList.count false ≤ f + 1) : (l.setIfInBounds i true).toList.count false ≤ f := by
  have hlt : i < l.toList.length := by
    have := (Array.getElem?_eq_some_iff.1 hi).1
    simpa using this
  have hv : l.toList[i] = false := by
    have := (Array.getElem?_eq_some_iff.1 hi).2
    simpa using this
  have hc := List.count_set (l := l.toList) (i := i) (a := true) (b := false) hlt
  have h1 : (if (l.toList[i] == false) = true then 1 else 0) = 1 := by rw [hv]; rfl
  have h2 : (if (true == false) = true then 1 else 0) = 0 := rfl
  rw [h1, h2] at hc
  rw [Array.toList_setIfInBounds, hc]
  have : 1 ≤ l.toList.count false := by rw [← hv]; exact List.count_pos_iff.2 (List.getElem_mem hlt)
  omega
/-- One more is listed: what the slots hold, the boxes, and what the map holds are told. -/
theorem EInv.next {b : Nat} {w0 : World} {N : List Deferred} {p : Nat → Nat} {fuel : Nat} {listed : Array Bool} {a : Act} {w : World} (H : EInv b w0 N p (fuel + 1) listed a w) {i : Nat} {k : EK} (hi : listed[i]? = some false) (hk : opT[i]? = some k)
    (hdeps : ∀ d ∈ k.deps, listed[d]? = some true) {a' : Act} {w' : World} (hd : a'.defers = a.defers) (hs : a'.tmps.size = a.tmps.size) (hT : ∀ j, k.dst ≠ some j → a'.tmps[j]? = a.tmps[j]?) (hw : Keeps w w') (hb : Below b w0 w') (hbig : w.heap.size ≤ w'.heap.size)
    (hv : ValX b w' a' k) (hm : (listed.setIfInBounds i true)[0]? = some true → ∃ m, a'.tmps[10]? = some (.map (some m)) ∧ MapX b fuel (listed.setIfInBounds i true) w' m) : EInv b w0 N p fuel (listed.setIfInBounds i true) a' w' := by
  have hlt : i < listed.size := (Array.getElem?_eq_some_iff.1 hi).1
  have hfar : ∀ j, 1 ≤ j → j ≤ 3 → k.dst ≠ some j := fun j h1 h2 e => by
    have := dst_far hk e
    omega
  refine ⟨by rw [Array.size_setIfInBounds, H.lsize], count_set hi H.left, ?_, hd.trans H.defs, hs.trans H.tsize, fun j h1 h2 => (hT j (hfar j h1 h2)).trans (H.ptr j h1 h2), fun j h1 h2 => ?_, hb, Nat.le_trans H.big hbig, by have := H.fle; omega, ?_, hm⟩
  · intro j kj d hj hkj hd
    rw [set_at hlt] at hj ⊢
    rcases hj with rfl | hj
    · obtain rfl : k = kj := Option.some.inj (hk.symm.trans hkj)
      exact .inr (hdeps d hd)
    · exact .inr (H.clo j kj d hj hkj hd)
  · obtain ⟨c0, f, c1, hf⟩ := H.boxes j h1 h2
    exact ⟨hw _ _ _ c0, f, hw _ _ _ c1, hf.keep hw⟩
  · intro j kj hj hkj
    rw [set_at hlt] at hj
    rcases hj with rfl | hj
    · obtain rfl : k = kj := Option.some.inj (hk.symm.trans hkj)
      exact hv
    · have hij : i ≠ j := fun e => by rw [e, hj] at hi; simp at hi
      refine (H.vals j kj hj hkj).keep hw (fun d hd => hT d fun e => dst_ne hk hkj e hij hd) fun hkm => hT 10 fun e => ?_
      have h0 : opT[0]? = some .mk := rfl
      have hi0 : i = 0 := Decidable.byContradiction fun hne => dst_ne hk h0 e hne rfl
      have h44 : listed[44]? = some true := by
        rcases hkm with rfl | rfl
        · rw [← opT_mv hkj]; exact hj
        · exact H.clo j .asR 44 hj hkj (by simp [EK.deps])
      have := H.clo 44 .mv 0 h44 rfl (by simp [EK.deps])
      rw [hi0, this] at hi
      simp at hi
/-- What a step keeps of the map that is no step of the map's. -/
theorem MapX.keep {b fuel : Nat} {listed : Array Bool} {w w' : World} {m i : Nat} {k : EK} (h : MapX b (fuel + 1) listed w m) (hi : i < listed.size) (hk : opT[i]? = some k) (hno : ∀ key t dep, k ≠ .ins key t dep) (hb : Below w.heap.size w w') : MapX b fuel (listed.setIfInBounds i true) w' m := by
  obtain ⟨hn, n, D, ho, hf, hin, hnone⟩ := h
  have hlt := ho.lt
  obtain ⟨es, clock, hes, hrest⟩ := ho
  refine ⟨hn, n, D, ⟨es, clock, (hb.block m hlt).trans hes, hrest⟩, by omega, ?_, hnone⟩
  intro j key t dep hj hkj
  rw [set_at hi] at hj
  rcases hj with rfl | hj
  · exact absurd (Option.some.inj (hk.symm.trans hkj)) (hno key t dep)
  · obtain ⟨h1, v, e, h2, h3, h4⟩ := hin j key t dep hj hkj
    exact ⟨h1, v, e, h2, h3, h4.keep (keeps_below hb)⟩
/-- A step that writes a slot, and no map. -/
theorem EInv.put {b : Nat} {w0 : World} {N : List Deferred} {p : Nat → Nat} {fuel : Nat} {listed : Array Bool} {a : Act} {w : World} (H : EInv b w0 N p (fuel + 1) listed a w) {i : Nat} {k : EK} (hi : listed[i]? = some false) (hk : opT[i]? = some k)
    (hdeps : ∀ d ∈ k.deps, listed[d]? = some true) (hno : ∀ key t dep, k ≠ .ins key t dep) (hi0 : i ≠ 0) {w' : World} (hb : Below w.heap.size w w') {v : Value} (hv : ValX b w' (a.put k.dst v) k) : EInv b w0 N p fuel (listed.setIfInBounds i true) (a.put k.dst v) w' := by
  have hlt : i < listed.size := (Array.getElem?_eq_some_iff.1 hi).1
  have hT : ∀ j, k.dst ≠ some j → (a.put k.dst v).tmps[j]? = a.tmps[j]? := by
    intro j hj
    cases hd : k.dst with
    | none => rfl
    | some d =>
      have : d ≠ j := fun e => hj (by rw [hd, e])
      simp [Act.put, Array.getElem?_setIfInBounds, this]
  refine H.next hi hk hdeps (by cases k.dst <;> rfl) (by cases k.dst <;> simp [Act.put]) hT (keeps_below hb) (H.below.trans (hb.mono H.big)) hb.size hv fun h0 => ?_
  rw [set_at hlt] at h0
  obtain ⟨m, h10, hm⟩ := H.map (h0.resolve_left (Ne.symm hi0))
  exact ⟨m, (hT 10 fun e => hi0 (Decidable.byContradiction fun hne => dst_ne hk (show opT[0]? = some .mk from rfl) e hne rfl)).trans h10, hm.keep hlt hk hno hb⟩

/-! ### One step -/
theorem mem_ready {md : Region.Mode} {ops : Array Oper} {listed : Array Bool} {i : Nat} (h : i ∈ Region.ready md ops listed) :
    i < ops.size ∧ listed.getD i true = false ∧ ∀ o, ops[i]? = some o → ∀ e ∈ o.after, Region.binds md e = true → listed.getD e.on false = true := by
  unfold Region.ready at h
  rw [List.mem_filter] at h
  obtain ⟨h1, h2⟩ := h
  rw [List.mem_range] at h1
  simp only [Bool.and_eq_true, Bool.not_eq_true'] at h2
  refine ⟨h1, h2.1, fun o ho e he hb => ?_⟩
  have h3 := h2.2
  rw [ho] at h3
  simp only [Option.map_some, Option.getD_some] at h3
  have := Array.all_eq_true'.1 h3 e he
  simpa [hb] using this
theorem getD_false {l : Array Bool} {i : Nat} (h : l.getD i true = false) : l[i]? = some false := by
  by_cases hi : i < l.size
  · simp [Array.getD, hi] at h; simp [hi, h]
  · simp [Array.getD, hi] at h
theorem getD_true {l : Array Bool} {i : Nat} (h : l.getD i false = true) : l[i]? = some true := by
  by_cases hi : i < l.size
  · simp [Array.getD, hi] at h; simp [hi, h]
  · simp [Array.getD, hi] at h
theorem load_eff {w : World} {p : Nat} {tk : ByteArray} {f : Value} (h0 : w.cell? ⟨p, 0, none⟩ = some (.string tk)) (h1 : w.cell? ⟨p, 1, none⟩ = some f) : (Instr.loadAt 54 (.pointer (some ⟨p, 0, none⟩))).run Try.prog w = .ok (.agg #[.string tk, f]) w := by
  simp [go_sem, h0, h1]
theorem build_eff (tk : ByteArray) (fn : Fn) (first cap : Array Value) (w : World) : (Instr.build 54 #[(0, .string tk), (1, .func fn first cap)]).run Try.prog w = .ok (.agg #[.string tk, .func fn first cap]) w := run_build w 54 _ _ (by kernel_rfl)
theorem FnX.func {w : World} {x : ByteArray ⊕ Nat} {v : Value} (h : FnX B w x v) : ∃ fn cap, v = .func fn #[] cap := by
  cases x with
  | inl s => obtain ⟨b, _, e, _⟩ := h; exact ⟨_, _, e⟩
  | inr f => exact ⟨_, _, h⟩
theorem law3 : Keyed Try.prog 3 := int_keyed Try.underlying3
theorem key3 {a : Int} (h : (Lit.int .i64 a).wf = true) : keyOf Try.prog 3 (.int .i64 a) = some (.int .i64 a) := keyOf_int_mk Try.underlying3 h
theorem put_get {a : Act} {d : Nat} {v : Value} (h : d < a.tmps.size) : (a.put (some d) v).tmps[d]? = some v := by simp [Act.put, h]
theorem ins_ok : opT.all insOk = true := by decide
theorem keys_ok : opT.all (fun k => match k with | .ins key _ _ => decide (0 ≤ key ∧ key < 100) | _ => true) = true := by decide
theorem lds_ok : opT.all (fun k => match k with | .ld p _ => decide (1 ≤ p ∧ p ≤ 3) | _ => true) = true := by decide
theorem eval_tmp {a : Act} {t : Nat} {v : Value} (h : a.tmps[t]? = some v) : a.eval (.tmp t) = v := by
  obtain ⟨h1, h2⟩ := Array.getElem?_eq_some_iff.1 h
  simp [Act.eval, Array.getD, h1, h2]
theorem eval_const (a : Act) (v : Value) : a.eval (.const v) = v := rfl
theorem ValX.spec {w : World} {a : Act} {k : EK} {e : Eff} {d : Nat} (h : ValX B w a k) (he : k.spec = some e) (hd : k.dst = some d) : ∃ v, a.tmps[d]? = some v ∧ EfX B w e v := by
  cases k with
  | ld p d' => simp [EK.spec] at he; simp [EK.dst] at hd; subst he hd; exact h
  | bc tk s t d' dep => simp [EK.spec] at he; simp [EK.dst] at hd; subst he hd; exact h
  | bf tk f d' => simp [EK.spec] at he; simp [EK.dst] at hd; subst he hd; exact h
  | _ => simp [EK.spec] at he
theorem step {b : Nat} {w0 : World} {N : List Deferred} {p : Nat → Nat} {md : Region.Mode} (hmd : md = .any) {ops : Array Oper} (hops : AllReal ops.toList opT) {Q : Exit → Act → World → Prop} (fuel : Nat) (listed : Array Bool) (a : Act) (w : World) (i : Nat) (H : EInv b w0 N p (fuel + 1) listed a w)
    (hi : i ∈ Region.ready md ops listed) : wpOp Try.prog ops Q i (EInv b w0 N p fuel (listed.setIfInBounds i true)) a w := by
  obtain ⟨hlt, hun, hdep⟩ := mem_ready hi
  have hl := getD_false hun
  obtain ⟨o, ho⟩ : ∃ o, ops[i]? = some o := ⟨ops[i], Array.getElem?_eq_getElem hlt⟩
  obtain ⟨k, hk, hg, hdst, hop, hde⟩ := hops.at (i := i) (o := o) (by rw [Array.getElem?_toList]; exact ho)
  have hdeps : ∀ d ∈ k.deps, listed[d]? = some true := by
    intro d hd
    have h1 := List.all_eq_true.1 hde d hd
    obtain ⟨e, he, h2⟩ := List.any_eq_true.1 h1
    simp only [Bool.and_eq_true, beq_iff_eq] at h2
    have := hdep o ho e (by simpa using he) (hmd ▸ h2.2)
    rw [h2.1] at this
    exact getD_true this
  have hsz := H.lsize
  have hlt' : i < listed.size := (Array.getElem?_eq_some_iff.1 hl).1
  have hT := H.tsize
  unfold wpOp
  rw [ho]
  have hwant : Region.wanted o (yielded ops a.tmps) = true := by unfold Region.wanted; rw [hg]
  simp only [hwant, if_true]
  left
  unfold Oper.wp

  have hr := Below.refl w.heap.size w
  have h35 : ∀ d, k.dst = some d → d < a.tmps.size := fun d hd => by have := dst_far hk hd; omega
  cases k with
  | mk =>
    have hrun : (execOp a.eval o).run Try.prog w = .ok (.value (.map (some w.heap.size))) (w.alloc (.map #[] 0)) := by simp [execOp, hop, EK.op, run_makeMap, Result.andThen]
    rw [hrun]
    show EInv b w0 N p fuel _ (a.put o.dst _) _
    rw [hdst]
    have hi0 : i = 0 := Decidable.byContradiction fun hne => dst_ne (show opT[0]? = some .mk from rfl) hk rfl (Ne.symm hne) rfl
    have hT2 : ∀ j, EK.dst .mk ≠ some j → (a.put (EK.dst .mk) (.map (some w.heap.size))).tmps[j]? = a.tmps[j]? := fun j hj => by
      have : (10 : Nat) ≠ j := fun e => hj (by rw [← e]; rfl)
      simp [Act.put, EK.dst, Array.getElem?_setIfInBounds, this]
    refine H.next hl hk hdeps rfl (by simp [Act.put, EK.dst]) hT2 (keeps_below (below_alloc hr _)) (H.below.trans ((below_alloc hr _).mono H.big)) (below_alloc hr _).size trivial fun _ => ⟨w.heap.size, put_get (by omega), H.big, 0, .map [], World.ownsMap_made w _ _ _, ?_, ?_, fun _ _ => rfl⟩
    · have := H.fle
      omega
    · intro j key t dep hj hkj
      rw [set_at hlt'] at hj
      rcases hj with rfl | hj
      · rw [hk] at hkj; simp at hkj
      · have := H.clo j _ 0 hj hkj (by simp [EK.deps])
        rw [hi0, this] at hl
        simp at hl
  | ld p' d =>
    obtain ⟨q1, q2⟩ : 1 ≤ p' ∧ p' ≤ 3 := by
      have := List.all_eq_true.1 lds_ok _ (List.mem_of_getElem? hk)
      simpa using this
    obtain ⟨c0, f, c1, hf⟩ := H.boxes p' q1 q2
    have hrun : (execOp a.eval o).run Try.prog w = .ok (.value (.agg #[.string (pk p').1, f])) w := by simp [execOp, hop, EK.op, eval_tmp (H.ptr p' q1 q2), load_eff c0 c1, Result.andThen]
    rw [hrun]
    show EInv b w0 N p fuel _ (a.put o.dst _) _
    rw [hdst]
    exact H.put hl hk hdeps (by simp) (by rintro rfl; simp [opT] at hk) hr ⟨_, put_get (h35 d rfl), f, rfl, hf⟩
  | cal s d =>
    have hrun : (execOp a.eval o).run Try.prog w = .ok (.enter 41 #[.string s]) w := by simp [execOp, hop, EK.op, resolve, invoke, Act.eval, Result.andThen, Deferred.ofValue]
    rw [hrun]
    show Calls _ _ _ _ _
    refine (always_calls s w H.big).mono ?_
    rintro e w' ⟨⟨v, rfl, hv⟩, hb⟩
    show EInv b w0 N p fuel _ (a.put o.dst _) _
    rw [hdst]
    exact H.put hl hk hdeps (by simp) (by rintro rfl; simp [opT] at hk) hb ⟨_, put_get (h35 d rfl), hv⟩
  | bc tk s t d dep =>
    have hok := List.all_eq_true.1 ins_ok _ (List.mem_of_getElem? hk)
    obtain ⟨s', d', hd', e1, e2⟩ : ∃ s' d', opT[dep]? = some (.cal s' d') ∧ s' = s ∧ d' = t := by
      simp only [insOk] at hok
      split at hok
      · rename_i s' d' h; simp at hok; exact ⟨s', d', h, hok⟩
      · simp at hok
    subst e1 e2
    obtain ⟨v, hv1, hv2⟩ := H.vals dep _ (hdeps dep (by simp [EK.deps])) hd'
    obtain ⟨fn, cap, rfl⟩ := hv2.func
    have hrun : (execOp a.eval o).run Try.prog w = .ok (.value (.agg #[.string tk, .func fn #[] cap])) w := by simp [execOp, hop, EK.op, eval_tmp hv1, eval_const, build_eff, Result.andThen]
    rw [hrun]
    show EInv b w0 N p fuel _ (a.put o.dst _) _
    rw [hdst]
    exact H.put hl hk hdeps (by simp) (by rintro rfl; simp [opT] at hk) hr ⟨_, put_get (h35 d rfl), _, rfl, hv2⟩
  | bf tk f d =>
    have hrun : (execOp a.eval o).run Try.prog w = .ok (.value (.agg #[.string tk, .func (.func f) #[] #[]])) w := by simp [execOp, hop, EK.op, Act.eval, build_eff, Result.andThen]
    rw [hrun]
    show EInv b w0 N p fuel _ (a.put o.dst _) _
    rw [hdst]
    exact H.put hl hk hdeps (by simp) (by rintro rfl; simp [opT] at hk) hr ⟨_, put_get (h35 d rfl), _, rfl, rfl⟩
  | mv =>
    have h0 := hdeps 0 (by simp [EK.deps])
    obtain ⟨m, h10, _⟩ := H.map h0
    have hrun : (execOp a.eval o).run Try.prog w = .ok (.value (.map (some m))) w := by simp [execOp, hop, EK.op, eval_tmp h10]
    rw [hrun]
    show EInv b w0 N p fuel _ (a.put o.dst _) _
    rw [hdst]
    exact H.put hl hk hdeps (by simp) (by rintro rfl; simp [opT] at hk) hr ⟨m, by simp [Act.put, EK.dst, h10], put_get (by omega)⟩
  | asR =>
    obtain ⟨m, h10, h35'⟩ := H.vals 44 .mv (hdeps 44 (by simp [EK.deps])) rfl
    have hrun : (execOp a.eval o).run Try.prog w = .ok (.value (.map (some m))) w := by simp [execOp, hop, EK.op, eval_tmp h35']
    rw [hrun]
    show EInv b w0 N p fuel _ (a.put o.dst _) _
    rw [hdst]
    exact H.put hl hk hdeps (by simp) (by rintro rfl; simp [opT] at hk) hr ⟨m, by simp [Act.put, EK.dst, h10], put_get (by omega)⟩
  | ins key t dep =>
    have hok := List.all_eq_true.1 ins_ok _ (List.mem_of_getElem? hk)
    have hke := List.all_eq_true.1 keys_ok _ (List.mem_of_getElem? hk)
    obtain ⟨kd, hkd, hkt, hks, hki⟩ : ∃ kd, opT[dep]? = some kd ∧ kd.dst = some t ∧ kd.spec = keyE key ∧ (keyE key).isSome = true := by
      simp only [insOk] at hok
      split at hok
      · rename_i kd h; simp only [Bool.and_eq_true, beq_iff_eq, decide_eq_true_eq] at hok; exact ⟨kd, h, hok.1.1, hok.1.2, hok.2⟩
      · simp at hok
    obtain ⟨e, he⟩ := Option.isSome_iff_exists.1 hki
    obtain ⟨v, hv1, hv2⟩ := (H.vals dep kd (hdeps dep (by simp [EK.deps])) hkd).spec (hks.trans he) hkt
    obtain ⟨m, h10, hnew, n, D, hown, hnf, hin, hnone⟩ := H.map (hdeps 0 (by simp [EK.deps]))
    simp only [decide_eq_true_eq] at hke
    have hwf : (Lit.int .i64 key).wf = true := by
      have h1 : IntKind.i64.min = -9223372036854775808 := rfl
      have h2 : IntKind.i64.max = 9223372036854775807 := rfl
      simp [Lit.wf, h1, h2]; omega
    obtain ⟨w', hrun', hown', hturn⟩ := hown.store law3 Try.underlying55 (show n < maxLen by unfold maxLen; omega) (key3 hwf) (show RV v = some (.held v, []) from rfl)
    have hrun : (execOp a.eval o).run Try.prog w = .ok .skip w' := by simp [execOp, hop, EK.op, eval_tmp h10, eval_tmp hv1, eval_const, hrun', Result.andThen]
    rw [hrun]
    show EInv b w0 N p fuel _ (a.put o.dst _) _
    rw [hdst]
    have hkp := keeps_turned hturn
    have hgr := hturn.grown
    refine H.next hl hk hdeps rfl rfl (fun _ _ => rfl) hkp (H.below.grown hgr H.big (fun j hj => by obtain rfl := Option.some.inj hj; exact hnew)) hgr.size trivial fun _ => ⟨m, h10, hnew, n + 1, D.put (.int .i64 key) (.held v), hown', by omega, ?_, ?_⟩
    · intro j key2 t2 dep2 hj hkj
      by_cases hkk : key2 = key
      · subst hkk
        exact ⟨has_put_same hown.isMap (show WideAt.IsKeyLit (Lit.int .i64 key2) from trivial) _, v, e, atKey_put_same hown.isMap (show WideAt.IsKeyLit (Lit.int .i64 key2) from trivial) _ _, he, hv2.keep hkp⟩
      · rw [set_at hlt'] at hj
        rcases hj with rfl | hj
        · exact absurd (by rw [hk] at hkj; simp only [Option.some.injEq, EK.ins.injEq] at hkj; exact hkj.1.symm) hkk
        · obtain ⟨g1, v2, e2, g2, g3, g4⟩ := hin j key2 t2 dep2 hj hkj
          have hne : (Lit.int .i64 key2) ≠ Lit.int .i64 key := fun h => hkk (by injection h)
          exact ⟨(has_put_other hne _).trans g1, v2, e2, (atKey_put_other hne _ _).trans g2, g3, g4.keep hkp⟩
    · intro o2 ho2
      have hne : (Lit.int .i64 o2) ≠ Lit.int .i64 key := fun h => by
        obtain rfl : o2 = key := by injection h
        rw [he] at ho2; simp at ho2
      exact (has_put_other hne _).trans (hnone o2 ho2)

/-! ### The end -/
theorem all_listed {b : Nat} {w0 : World} {N : List Deferred} {p : Nat → Nat} {md : Region.Mode} {ops : Array Oper} (hsz : ops.size = 46) (hback : ∀ (i : Nat) (o : Oper), ops[i]? = some o → ∀ e : Edge, e ∈ o.after → e.on < i) {fuel : Nat} {listed : Array Bool} {a : Act} {w : World}
    (H : EInv b w0 N p fuel listed a w) (hr : Region.ready md ops listed = []) : ∀ n, ∀ i < n, i < 46 → listed[i]? = some true
  | 0, i, h, _ => absurd h (by omega)
  | n + 1, i, h, h46 => by
    have ih := all_listed hsz hback H hr n
    refine Decidable.byContradiction fun hno => ?_
    have hlt : i < listed.size := by rw [H.lsize]; exact h46
    have hf : listed[i]? = some false := by
      rw [Array.getElem?_eq_getElem hlt] at hno ⊢
      cases hb : listed[i] with
      | false => rfl
      | true => rw [hb] at hno; exact absurd rfl hno
    have hmem : i ∈ Region.ready md ops listed := by
      unfold Region.ready
      rw [List.mem_filter, List.mem_range]
      refine ⟨by omega, ?_⟩
      have h1 : listed.getD i true = false := by
        have := (Array.getElem?_eq_some_iff.1 hf).2
        simp [Array.getD, hlt, this]
      rw [h1, Array.getElem?_eq_getElem (by omega : i < ops.size)]
      simp only [Bool.not_false, Bool.true_and, Option.map_some, Option.getD_some]
      refine Array.all_eq_true'.2 fun e he => ?_
      have h2 := hback i _ (Array.getElem?_eq_getElem (by omega : i < ops.size)) e he
      have h3 := ih e.on (by omega) (by omega)
      have h4 : listed.getD e.on false = true := by
        obtain ⟨g1, g2⟩ := Array.getElem?_eq_some_iff.1 h3
        simp [Array.getD, g1, g2]
      rw [h4]; simp
    rw [hr] at hmem
    exact absurd hmem (List.not_mem_nil)
theorem no_ready {b : Nat} {w0 : World} {N : List Deferred} {p : Nat → Nat} {md : Region.Mode} {ops : Array Oper} {listed : Array Bool} {a : Act} {w : World} (H : EInv b w0 N p 0 listed a w) : Region.ready md ops listed = [] := by
  refine List.eq_nil_iff_forall_not_mem.2 fun i hi => ?_
  have hl := getD_false (mem_ready hi).2.1
  have h1 : false ∈ listed.toList := List.mem_of_getElem? (show listed.toList[i]? = some false by rw [Array.getElem?_toList]; exact hl)
  have h2 := List.count_pos_iff.2 h1
  have := H.left
  omega
/-- The map lies in block m: what operations take and how they give. -/
def OfX (B : Nat) (w : World) : Option Eff → Value → Prop
  | none, v => v = .agg #[.string ByteArray.empty, .nilFunc]
  | some e, v => EfX B w e v
theorem OfX.keep {w w' : World} {e : Option Eff} {v : Value} (h : OfX B w e v) (hk : Keeps w w') : OfX B w' e v := by
  cases e with
  | none => exact h
  | some e => exact EfX.keep h hk
def EMap (B : Nat) (w : World) (m : Nat) : Prop := ∃ n D, w.ownsMap Try.prog 3 RV m n D ∧ ∀ o, has D (.int .i64 o) = (keyE o).isSome ∧ ∃ v, D.atKey (.int .i64 o) zd = .held v ∧ OfX B w (keyE o) v
theorem EMap.below {w w' : World} {m : Nat} (h : EMap B w m) (hb : Below w.heap.size w w') : EMap B w' m := by
  obtain ⟨n, D, ho, hk⟩ := h
  have hlt := ho.lt
  obtain ⟨es, clock, hes, hrest⟩ := ho
  refine ⟨n, D, ⟨es, clock, (hb.block m hlt).trans hes, hrest⟩, fun o => ?_⟩
  obtain ⟨h1, v, h2, h3⟩ := hk o
  exact ⟨h1, v, h2, h3.keep (keeps_below hb)⟩
theorem EMap.look {w : World} {m : Nat} (h : EMap B w m) {o : Int} (hwf : (Lit.int .i64 o).wf = true) : ∃ v, OfX B w (keyE o) v ∧ ∀ w', Below w.heap.size w w' → (Instr.lookup 55 (.map (some m)) (.int .i64 o) false).run Try.prog w' = .ok v w' ∧
    (Instr.lookup 55 (.map (some m)) (.int .i64 o) true).run Try.prog w' = .ok (.tuple #[v, .bool (keyE o).isSome]) w' := by
  obtain ⟨n, D, ho, hk⟩ := h
  obtain ⟨h1, v, h2, h3⟩ := hk o
  refine ⟨v, h3, fun w' hb => ?_⟩
  have hlt := ho.lt
  obtain ⟨es, clock, hes, hrest⟩ := ho
  have ho : w'.ownsMap Try.prog 3 RV m n D := ⟨es, clock, (hb.block m hlt).trans hes, hrest⟩
  obtain ⟨v1, ps1, r1, q1⟩ := ho.lookup law3 Try.underlying55 (zeroEff w') (show RV _ = some (zd, []) from rfl) (key3 hwf)
  obtain ⟨v2, ps2, r2, q2⟩ := ho.look_ok law3 Try.underlying55 (zeroEff w') (show RV _ = some (zd, []) from rfl) (key3 hwf)
  rw [h2] at q1 q2
  obtain rfl : v1 = v := by injection (Prod.mk.inj (Option.some.inj q1)).1
  obtain rfl : v2 = v1 := by injection (Prod.mk.inj (Option.some.inj q2)).1
  exact ⟨r1, by rw [r2, h1]⟩
theorem keys_in : ∀ n < 21, (keyE (n : Nat)).isSome = true → (opT.any fun k => match k with | .ins key _ _ => key == (n : Int) | _ => false) = true := by decide
theorem key_at {o : Int} {e : Eff} (h : keyE o = some e) : ∃ i t dep, i < 46 ∧ opT[i]? = some (.ins o t dep) := by
  have hr : 0 ≤ o ∧ o < 21 := by
    unfold keyE at h
    refine Decidable.byContradiction fun hn => ?_
    repeat rw [if_neg (by omega)] at h
    simp at h
  obtain ⟨n, rfl⟩ : ∃ n : Nat, o = n := ⟨o.toNat, by omega⟩
  have h2 := keys_in n (by omega) (by rw [h]; rfl)
  obtain ⟨k, hk, hk2⟩ := List.any_eq_true.1 h2
  obtain ⟨i, hi, hik⟩ := List.mem_iff_getElem.1 hk
  cases k <;> simp at hk2
  subst hk2
  exact ⟨i, _, _, by rw [← opT_len]; exact hi, by rw [List.getElem?_eq_getElem hi, hik]⟩
theorem done {b : Nat} {w0 : World} {N : List Deferred} {p : Nat → Nat} {md : Region.Mode} {ops : Array Oper} (hsz : ops.size = 46) (hback : ∀ (i : Nat) (o : Oper), ops[i]? = some o → ∀ e : Edge, e ∈ o.after → e.on < i) {fuel : Nat} {listed : Array Bool} {a : Act} {w : World}
    (H : EInv b w0 N p fuel listed a w) (hr : Region.ready md ops listed = []) : ∃ m, a.defers = N ∧ a.tmps[0]? = some (.map (some m)) ∧ EMap b w m ∧ Below b w0 w := by
  have hall := fun i h => all_listed hsz hback H hr (i + 1) i (by omega) h
  obtain ⟨m, h10, _, n, D, ho, _, hin, hnone⟩ := H.map (hall 0 (by omega))
  obtain ⟨m', h10', h0⟩ := H.vals 45 .asR (hall 45 (by omega)) rfl
  rw [h10] at h10'
  obtain rfl : m = m' := by injection h10' with h; injection h with h; injection h
  refine ⟨m, H.defs, h0, ⟨n, D, ho, fun o => ?_⟩, H.below⟩
  cases he : keyE o with
  | none =>
    have h1 := hnone o he
    exact ⟨h1, _, atKey_of_not_has h1 _, rfl⟩
  | some e =>
    obtain ⟨i, t, dep, hi, hk⟩ := key_at he
    obtain ⟨h1, v, e', h2, h3, h4⟩ := hin i o t dep (hall i hi) hk
    rw [he] at h3
    obtain rfl := Option.some.inj h3
    exact ⟨h1, v, h2, h4⟩
theorem AllReal.nil : AllReal [] [] := trivial
theorem AllReal.cons {o : Oper} {k : EK} {os : List Oper} {ks : List EK} (h : Real o k) (hs : AllReal os ks) : AllReal (o :: os) (k :: ks) := ⟨h, hs⟩
def backOk : List Oper → Nat → Bool
  | [], _ => true
  | o :: os, i => (o.after.toList.all fun e => decide (e.on < i)) && backOk os (i + 1)
theorem backOk.at : ∀ {os : List Oper} {j i : Nat} {o : Oper}, backOk os j = true → os[i]? = some o → ∀ e : Edge, e ∈ o.after → e.on < j + i
  | [], j, i, o, _, h => by simp at h
  | x :: os, j, 0, o, h, hi => by
    obtain rfl : x = o := by simpa using hi
    simp only [backOk, Bool.and_eq_true] at h
    intro e he
    have := List.all_eq_true.1 h.1 e (by simpa using he)
    simpa using this
  | x :: os, j, i + 1, o, h, hi => by
    simp only [backOk, Bool.and_eq_true] at h
    intro e he
    have := backOk.at (i := i) h.2 (by simpa using hi) e he
    omega
theorem region_any {b : Nat} {w0 : World} {p : Nat → Nat} {id : Nat} {ops : Array Oper} {Q : Exit → Act → World → Prop} {a : Act} {w : World} (hops : AllReal ops.toList opT) (hsz : ops.size = 46) (hback : backOk ops.toList 0 = true)
    (hinit : EInv b w0 [] p 46 (Array.replicate 46 false) a { w with drawn := w.drawn + 1 }) (hQ : ∀ a' w' m, a'.defers = [] → a'.tmps[0]? = some (.map (some m)) → EMap b w' m → Below b w0 w' → Q .normal a' w') : (Code.region id ops true).wp Try.prog Q a w := by
  refine wp_region_any rfl (wpAny_inv (fun f l a' w' => EInv b w0 [] p f l a' w') (fun f l a' w' i H hi => step rfl hops f l a' w' i H hi) (fun f l a' w' H hr => ?_) (fun l a' w' H => no_ready H) _ _ _ _ (by rw [hsz]; exact hinit))
  obtain ⟨m, h1, h2, h3, h4⟩ := done hsz (fun i o ho e he => by
    have := backOk.at hback (by rw [Array.getElem?_toList]; exact ho) e he
    omega) H hr
  exact hQ a' w' m h1 h2 h3 h4
set_option maxHeartbeats 2000000 in
theorem types_effects_calls (w : World) : Calls Try.prog 28 #[] w fun e w' => (∃ m, e = .returned (.map (some m)) ∧ EMap w.heap.size w' m) ∧ Below w.heap.size w w' := by
  have hz := zeroEff
  go_enter Try.func28, Try.ntmps28
  go_wp2_with (first
    | (go_at_call 41; refine (always_calls (B := w.heap.size) _ _ (by first | exact Nat.le_refl _ | exact hz1 | (simp; omega))).mono ?_; rintro e w3 ⟨⟨v, rfl, bx, hB, rfl, hc⟩, hb⟩; (first | replace hz1 := Nat.le_trans hz1 hb.size | have hz1 := hb.size | skip)))
  rename_i Q' w1 hb1 b1 hB1 hc1 w2 hb2 b2 hB2 hc2 hz1 K hK
  have k1 := keeps_below hb2
  have k2 := keeps_below hb
  have g1 : w.heap.size ≤ w1.heap.size := hb1.size
  have g2 : w1.heap.size ≤ w2.heap.size := hb2.size
  have g3 := hb.size
  generalize hW : ((w2.alloc _).alloc _) = W at hb k2 g3
  have gW : W.heap.size = w2.heap.size + 2 := by rw [← hW]; simp
  refine region_any (b := w.heap.size) (w0 := w) (p := fun j => if j = 1 then w2.heap.size else if j = 2 then w2.heap.size + 1 else w3.heap.size) ?_ rfl rfl ?_ ?_
  · repeat (first | exact AllReal.nil | refine AllReal.cons ⟨rfl, rfl, rfl, rfl⟩ ?_)
  · refine ⟨rfl, by simp, ?_, rfl, rfl, ?_, ?_, ?_, ?_, by omega, ?_, ?_⟩
    · intro i k d h
      simp only [Array.getElem?_replicate] at h
      split at h <;> simp at h
    · intro j h1 h2
      obtain rfl | rfl | rfl : j = 1 ∨ j = 2 ∨ j = 3 := by omega
      · rfl
      · rfl
      · rfl
    · have c1 : W.cell? ⟨w2.heap.size, 0, none⟩ = some (.string sE) ∧ W.cell? ⟨w2.heap.size, 1, none⟩ = some (.func (.func 49) #[] #[.pointer (some ⟨b1, 0, none⟩)]) ∧
        W.cell? ⟨w2.heap.size + 1, 0, none⟩ = some (.string sI) ∧ W.cell? ⟨w2.heap.size + 1, 1, none⟩ = some (.func (.func 49) #[] #[.pointer (some ⟨b2, 0, none⟩)]) := by
        rw [← hW]
        refine ⟨?_, ?_, ?_, ?_⟩ <;> simp [go_sem, sE, sI]
      have k3 := keeps_below (below_alloc (Below.refl w3.heap.size w3) (.cells #[.string ⟨#[98, 98]⟩, .func (.func 49) #[] #[.pointer (some ⟨bx, 0, none⟩)]] 54))
      have kW : Keeps w2 W := by
        rw [← hW]
        exact keeps_below (below_alloc (below_alloc (Below.refl w2.heap.size w2) _) _)
      intro j h1 h2
      obtain rfl | rfl | rfl : j = 1 ∨ j = 2 ∨ j = 3 := by omega
      · exact ⟨k3 _ _ _ (k2 _ _ _ c1.1), _, k3 _ _ _ (k2 _ _ _ c1.2.1), b1, hB1, rfl, k3 _ _ _ (k2 _ _ _ (kW _ _ _ (k1 _ _ _ hc1)))⟩
      · exact ⟨k3 _ _ _ (k2 _ _ _ c1.2.2.1), _, k3 _ _ _ (k2 _ _ _ c1.2.2.2), b2, hB2, rfl, k3 _ _ _ (k2 _ _ _ (kW _ _ _ hc2))⟩
      · refine ⟨?_, .func (.func 49) #[] #[.pointer (some ⟨bx, 0, none⟩)], ?_, bx, hB, rfl, k3 _ _ _ hc⟩
        · show (w3.alloc _).cell? ⟨w3.heap.size, 0, none⟩ = _
          simp [go_sem, pk]
        · show (w3.alloc _).cell? ⟨w3.heap.size, 1, none⟩ = _
          simp [go_sem, pk]
    · have q1 : Below w.heap.size w w2 := hb1.trans (hb2.mono g1)
      have q2 : Below w.heap.size w W := by
        rw [← hW]
        exact below_alloc (below_alloc q1 _) _
      have q3 : Below w.heap.size w w3 := q2.trans (hb.mono (by omega))
      have q4 := below_alloc q3 (.cells #[.string ⟨#[98, 98]⟩, .func (.func 49) #[] #[.pointer (some ⟨bx, 0, none⟩)]] 54)
      exact ⟨q4.os, q4.tape, q4.output, q4.size, q4.block⟩
    · show w.heap.size ≤ (w3.alloc _).heap.size
      simp
      omega
    · intro i k h
      simp only [Array.getElem?_replicate] at h
      split at h <;> simp at h
    · intro h
      simp at h
  · intro a' w' m hd h0 hm hb'
    refine hK _ _ (wp_ret ?_)
    refine ⟨hd, _, results_tmp rfl _ _ _, ⟨m, ?_, hm⟩, hb'⟩
    have := eval_tmp h0
    simp only [Act.eval] at this
    rw [this]
end Go.Proofs.Ytdhlhbhclggheaa.P
