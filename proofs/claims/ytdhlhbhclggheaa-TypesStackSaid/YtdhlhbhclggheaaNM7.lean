/- How regions stand in one another: the stack of what is open ahead of each instruction, in plain words. No conditions beyond those that each lemma states. -/
import Derived.Test.YtdhlhbhclggheaaG3
import Derived.Test.YtdhlhbhclggheaaDx0
namespace Go.Proofs.Ytdhlhbhclggheaa.NL
open Go.RowKit Go.Proofs.Ytdhlhbhclggheaa.P Go.Proofs.Ytdhlhbhclggheaa.D Go.Proofs.YtdhlhbhclggheaaW.PrintWords Go.Proofs.YtdhlhbhclggheaaW.PrintLast Go.Proofs.YtdhlhbhclggheaaW.PrintMore

abbrev Ins := S37
/-- An instruction can be. -/
def okI (x : Ins) : Bool := rightK (kindOf x.f0) x.f1 x.f2
/-- The instruction at a place. -/
def gI (l : List Ins) (i : Nat) : Ins := rd_T37 l (i : Int)
def opn (x : Ins) : Bool := x.f0 == 21 || x.f0 == 23
def cls (x : Ins) : Bool := x.f0 == 22 || x.f0 == 24
def mtc (a b : Ins) : Bool := a.f0 == 21 && b.f0 == 22 || a.f0 == 23 && b.f0 == 24 && a.f1 == b.f1
def pop (l : List Ins) (i : Nat) : List Nat → Option (List Nat)
  | [] => none
  | t :: r => if mtc (gI l t) (gI l i) = true then some r else none
def step (l : List Ins) (i : Nat) (s : List Nat) : Option (List Nat) :=
  if opn (gI l i) = true then some (i :: s) else if cls (gI l i) = true then pop l i s else some s
/-- What is open ahead of an instruction, the innermost first. -/
def stk (l : List Ins) : Nat → Option (List Nat)
  | 0 => some []
  | i + 1 => (stk l i).bind (step l i)
theorem cls_opn {x : Ins} (h : cls x = true) : opn x = false := by
  unfold cls at h; unfold opn
  rw [Bool.or_eq_true, beq_iff_eq, beq_iff_eq] at h
  rcases h with h | h <;> rw [h] <;> rfl
theorem step_cases {l : List Ins} {i : Nat} {s s' : List Nat} (h : step l i s = some s') :
    (opn (gI l i) = true ∧ s' = i :: s) ∨ (cls (gI l i) = true ∧ ∃ t, s = t :: s' ∧ mtc (gI l t) (gI l i) = true) ∨ (opn (gI l i) = false ∧ cls (gI l i) = false ∧ s' = s) := by
  unfold step at h
  by_cases h1 : opn (gI l i) = true
  · rw [if_pos h1] at h
    exact .inl ⟨h1, (Option.some.inj h).symm⟩
  · rw [if_neg h1] at h
    by_cases h2 : cls (gI l i) = true
    · rw [if_pos h2] at h
      cases s with
      | nil => cases h
      | cons t r =>
        simp only [pop] at h
        by_cases h3 : mtc (gI l t) (gI l i) = true
        · rw [if_pos h3] at h
          exact .inr (.inl ⟨h2, t, by rw [Option.some.inj h], h3⟩)
        · rw [if_neg h3] at h; cases h
    · rw [if_neg h2] at h
      exact .inr (.inr ⟨Bool.eq_false_iff.2 h1, Bool.eq_false_iff.2 h2, (Option.some.inj h).symm⟩)
theorem stk_prev {l : List Ins} {i : Nat} {s : List Nat} (h : stk l (i + 1) = some s) : ∃ s', stk l i = some s' ∧ step l i s' = some s := Option.bind_eq_some_iff.1 h
theorem stk_le {l : List Ins} (i : Nat) : ∀ (d : Nat) {s : List Nat}, stk l (i + d) = some s → ∃ s', stk l i = some s'
  | 0, s, h => ⟨s, h⟩
  | d + 1, _, h => by
    obtain ⟨s', h1, _⟩ := stk_prev (i := i + d) h
    exact stk_le i d h1
theorem stk_none {l : List Ins} {i : Nat} (h : stk l i = none) : ∀ (d : Nat), stk l (i + d) = none
  | 0 => h
  | d + 1 => by
    show (stk l (i + d)).bind _ = none
    rw [stk_none h d]; rfl
def Dec : Nat → List Nat → Prop
  | _, [] => True
  | i, q :: r => q < i ∧ Dec q r
theorem Dec.up {i j : Nat} : ∀ {s : List Nat}, Dec i s → i ≤ j → Dec j s
  | [], _, _ => trivial
  | _ :: _, h, hij => ⟨Nat.lt_of_lt_of_le h.1 hij, h.2⟩
theorem Dec.mem : ∀ {s : List Nat} {i k : Nat}, Dec i s → k ∈ s → k < i
  | [], _, _, _, h => by cases h
  | q :: r, i, k, hd, h => by
    rcases List.mem_cons.1 h with rfl | h
    · exact hd.1
    · exact Nat.lt_trans (Dec.mem hd.2 h) hd.1
theorem stk_dec {l : List Ins} : ∀ {i : Nat} {s : List Nat}, stk l i = some s → Dec i s
  | 0, s, h => by obtain rfl := Option.some.inj h; exact trivial
  | i + 1, s, h => by
    obtain ⟨s', h1, h2⟩ := stk_prev h
    have ih := stk_dec h1
    rcases step_cases h2 with ⟨_, rfl⟩ | ⟨_, t, rfl, _⟩ | ⟨_, _, rfl⟩
    · exact ⟨Nat.lt_succ_self i, ih⟩
    · exact ih.2.up (by have := ih.1; omega)
    · exact ih.up (Nat.le_succ i)
theorem stk_opn {l : List Ins} : ∀ {i : Nat} {s : List Nat} {k : Nat}, stk l i = some s → k ∈ s → opn (gI l k) = true
  | 0, s, k, h, hk => by obtain rfl := Option.some.inj h; cases hk
  | i + 1, s, k, h, hk => by
    obtain ⟨s', h1, h2⟩ := stk_prev h
    rcases step_cases h2 with ⟨ho, rfl⟩ | ⟨_, t, rfl, _⟩ | ⟨_, _, rfl⟩
    · rcases List.mem_cons.1 hk with rfl | hk
      · exact ho
      · exact stk_opn h1 hk
    · exact stk_opn h1 (List.mem_cons_of_mem _ hk)
    · exact stk_opn h1 hk
theorem stk_tail {l : List Ins} : ∀ {i : Nat} {s : List Nat}, stk l i = some s → ∀ t h r, s = t ++ h :: r → stk l h = some r
  | 0, s, h, t, q, r, e => by obtain rfl := Option.some.inj h; cases t <;> cases e
  | i + 1, s, h, t, q, r, e => by
    obtain ⟨s', h1, h2⟩ := stk_prev h
    rcases step_cases h2 with ⟨_, rfl⟩ | ⟨_, x, rfl, _⟩ | ⟨_, _, rfl⟩
    · cases t with
      | nil =>
        obtain ⟨rfl, rfl⟩ := List.cons.inj e
        exact h1
      | cons y t => exact stk_tail h1 t q r (List.cons.inj e).2
    · exact stk_tail h1 (x :: t) q r (by rw [e]; rfl)
    · exact stk_tail h1 t q r e
theorem stk_back {l : List Ins} {j k : Nat} {s' : List Nat} (hj : stk l j = some s') (hk : k < j) : ∀ (d : Nat) {s : List Nat}, stk l (j + d) = some s → k ∈ s → k ∈ s'
  | 0, s, h, hm => by obtain rfl := Option.some.inj (h.symm.trans hj); exact hm
  | d + 1, s, h, hm => by
    obtain ⟨s1, h1, h2⟩ := stk_prev (i := j + d) h
    rcases step_cases h2 with ⟨_, rfl⟩ | ⟨_, x, rfl, _⟩ | ⟨_, _, rfl⟩
    · rcases List.mem_cons.1 hm with rfl | hm
      · omega
      · exact stk_back hj hk d h1 hm
    · exact stk_back hj hk d h1 (List.mem_cons_of_mem _ hm)
    · exact stk_back hj hk d h1 hm
/-- One opens what another one closes. -/
def Cl (l : List Ins) (k c : Nat) : Prop := cls (gI l c) = true ∧ ∃ r, stk l c = some (k :: r) ∧ mtc (gI l k) (gI l c) = true
theorem Cl.next {l : List Ins} {k c : Nat} (h : Cl l k c) : ∃ r, stk l c = some (k :: r) ∧ stk l (c + 1) = some r := by
  obtain ⟨h1, r, h2, h3⟩ := h
  refine ⟨r, h2, ?_⟩
  show (stk l c).bind _ = _
  rw [h2]
  show step l c (k :: r) = _
  unfold step
  rw [if_neg (by rw [cls_opn h1]; decide), if_pos h1]
  simp only [pop]
  rw [if_pos h3]
theorem Cl.lt {l : List Ins} {k c : Nat} (h : Cl l k c) : k < c := by obtain ⟨_, _, h2, _⟩ := h; exact (stk_dec h2).1
theorem Cl.opn {l : List Ins} {k c : Nat} (h : Cl l k c) : opn (gI l k) = true := by obtain ⟨_, _, h2, _⟩ := h; exact stk_opn h2 (List.mem_cons_self ..)
theorem Cl.mem {l : List Ins} {k c i : Nat} {s : List Nat} (h : Cl l k c) (hs : stk l i = some s) : k ∈ s ↔ k < i ∧ i ≤ c := by
  obtain ⟨r, h1, h2⟩ := h.next
  constructor
  · intro hm
    have hk := (stk_dec hs).mem hm
    refine ⟨hk, ?_⟩
    apply Classical.byContradiction
    intro hc
    have hlt := h.lt
    have := stk_back h2 (k := k) (by omega) (i - (c + 1)) (s := s) (by rw [show c + 1 + (i - (c + 1)) = i by omega]; exact hs) hm
    exact Nat.lt_irrefl _ ((stk_dec h1).2.mem this)
  · rintro ⟨h3, h4⟩
    exact stk_back hs h3 (c - i) (s := k :: r) (by rw [show i + (c - i) = c by omega]; exact h1) (List.mem_cons_self ..)
theorem Cl.uniq {l : List Ins} {k c d : Nat} (h : Cl l k c) (h' : Cl l k d) : c = d := by
  obtain ⟨r, h1, _⟩ := h.next
  obtain ⟨q, h2, _⟩ := h'.next
  have a := (h.mem h2).1 (List.mem_cons_self ..)
  have b := (h'.mem h1).1 (List.mem_cons_self ..)
  omega
theorem Cl.uniq' {l : List Ins} {k q c : Nat} (h : Cl l k c) (h' : Cl l q c) : k = q := by
  obtain ⟨r, h1, _⟩ := h.next
  obtain ⟨r', h2, _⟩ := h'.next
  exact (List.cons.inj (Option.some.inj (h1.symm.trans h2))).1
/-- Regions that meet stand in one another. -/
theorem Cl.nest {l : List Ins} {k c j d : Nat} (h : Cl l k c) (h' : Cl l j d) (hk : k < j) (hj : j < c) : d < c := by
  apply Classical.byContradiction
  intro hd
  obtain ⟨r, h1, _⟩ := h.next
  have hm := (h'.mem h1).2 ⟨hj, by omega⟩
  rcases List.mem_cons.1 hm with rfl | hm
  · omega
  · have := (stk_dec h1).2.mem hm
    omega
/-- What is whole. -/
def V (l : List Ins) : Prop := stk l l.length = some []
theorem track {l : List Ins} {k : Nat} (ho : opn (gI l k) = true) : ∀ (d : Nat) {s : List Nat}, stk l (k + 1 + d) = some s → k ∈ s ∨ ∃ c, c < k + 1 + d ∧ Cl l k c
  | 0, s, h => by
    obtain ⟨s1, h1, h2⟩ := stk_prev (i := k) h
    rcases step_cases h2 with ⟨_, rfl⟩ | ⟨hc, _⟩ | ⟨hc, _⟩
    · exact .inl (List.mem_cons_self ..)
    · rw [cls_opn hc] at ho; cases ho
    · rw [hc] at ho; cases ho
  | d + 1, s, h => by
    obtain ⟨s1, h1, h2⟩ := stk_prev (i := k + 1 + d) h
    rcases track ho d h1 with hm | ⟨c, hc, hC⟩
    · rcases step_cases h2 with ⟨_, rfl⟩ | ⟨hc, x, rfl, hx⟩ | ⟨_, _, rfl⟩
      · exact .inl (List.mem_cons_of_mem _ hm)
      · rcases List.mem_cons.1 hm with rfl | hm
        · exact .inr ⟨k + 1 + d, by omega, hc, s, h1, hx⟩
        · exact .inl hm
      · exact .inl hm
    · exact .inr ⟨c, by omega, hC⟩
theorem V.opened {l : List Ins} (h : V l) {k : Nat} (hk : k < l.length) (ho : opn (gI l k) = true) : ∃ c, c < l.length ∧ Cl l k c := by
  unfold V at h
  have e : k + 1 + (l.length - (k + 1)) = l.length := by omega
  rcases track ho (l.length - (k + 1)) (s := []) (by rw [e]; exact h) with hm | ⟨c, hc, hC⟩
  · cases hm
  · exact ⟨c, by omega, hC⟩
theorem V.at {l : List Ins} (h : V l) {k : Nat} (hk : k ≤ l.length) : ∃ s, stk l k = some s :=
  stk_le k (l.length - k) (s := []) (by rw [show k + (l.length - k) = l.length by omega]; exact h)
theorem V.closed {l : List Ins} (h : V l) {j : Nat} (hj : j < l.length) (hc : cls (gI l j) = true) : ∃ q, Cl l q j := by
  obtain ⟨s, h1⟩ := h.at (k := j + 1) (by omega)
  obtain ⟨s', h2, h3⟩ := stk_prev h1
  rcases step_cases h3 with ⟨ho, _⟩ | ⟨_, t, rfl, hm⟩ | ⟨_, hn, _⟩
  · rw [cls_opn hc] at ho; cases ho
  · exact ⟨t, hc, s, h2, hm⟩
  · rw [hc] at hn; cases hn
/-- What matches each instruction. -/
def MT (l : List Ins) (M : List Int) : Prop := M.length = l.length ∧ ∀ k, k < l.length →
  (opn (gI l k) = true → ∃ c : Nat, c < l.length ∧ rd M (k : Int) = (c : Int) ∧ Cl l k c) ∧ (cls (gI l k) = true → ∃ q : Nat, rd M (k : Int) = (q : Int) ∧ Cl l q k) ∧ (opn (gI l k) = false → cls (gI l k) = false → rd M (k : Int) = -1)
theorem MT.mem {l : List Ins} {M : List Int} (h : MT l M) {i k : Nat} {s : List Nat} (hs : stk l i = some s) (hk : k < l.length) : k ∈ s ↔ k < i ∧ (i : Int) ≤ rd M (k : Int) := by
  obtain ⟨h1, h2, h3⟩ := h.2 k hk
  by_cases ho : opn (gI l k) = true
  · obtain ⟨c, _, e, hC⟩ := h1 ho
    rw [hC.mem hs, e]
    omega
  · have hn : ¬ k ∈ s := fun hm => ho (stk_opn hs hm)
    refine ⟨fun hm => absurd hm hn, fun hm => ?_⟩
    by_cases hc : cls (gI l k) = true
    · obtain ⟨q, e, hC⟩ := h2 hc
      have := hC.lt
      omega
    · have := h3 (Bool.eq_false_iff.2 ho) (Bool.eq_false_iff.2 hc)
      omega
theorem ext_rd {a b : List Int} (hl : a.length = b.length) (h : ∀ k, k < a.length → rd a (k : Int) = rd b (k : Int)) : a = b := by
  apply List.ext_getElem hl
  intro k h1 h2
  have := h k h1
  simpa [rd, List.getD, h1, h2] using this
theorem MT.uniq {l : List Ins} {M M' : List Int} (h : MT l M) (h' : MT l M') : M = M' := by
  apply ext_rd (h.1.trans h'.1.symm)
  intro k hk
  rw [h.1] at hk
  obtain ⟨a1, a2, a3⟩ := h.2 k hk
  obtain ⟨b1, b2, b3⟩ := h'.2 k hk
  by_cases ho : opn (gI l k) = true
  · obtain ⟨c, _, e, hC⟩ := a1 ho
    obtain ⟨d, _, e', hD⟩ := b1 ho
    rw [e, e', hC.uniq hD]
  · by_cases hc : cls (gI l k) = true
    · obtain ⟨c, e, hC⟩ := a2 hc
      obtain ⟨d, e', hD⟩ := b2 hc
      rw [e, e', hC.uniq' hD]
    · rw [a3 (Bool.eq_false_iff.2 ho) (Bool.eq_false_iff.2 hc), b3 (Bool.eq_false_iff.2 ho) (Bool.eq_false_iff.2 hc)]
def hd : List Nat → Int
  | [] => -1
  | q :: _ => (q : Int)
/-- In which region each one stands. -/
def HT (l : List Ins) (H : List Int) : Prop := H.length = l.length ∧ ∀ k, k < l.length → ∃ s, stk l k = some s ∧ rd H (k : Int) = hd s
theorem HT.uniq {l : List Ins} {H H' : List Int} (h : HT l H) (h' : HT l H') : H = H' := by
  apply ext_rd (h.1.trans h'.1.symm)
  intro k hk
  rw [h.1] at hk
  obtain ⟨s, a1, a2⟩ := h.2 k hk
  obtain ⟨s', b1, b2⟩ := h'.2 k hk
  obtain rfl := Option.some.inj (a1.symm.trans b1)
  rw [a2, b2]
theorem hd_lt {l : List Ins} {i : Nat} {s : List Nat} (h : stk l i = some s) : -1 ≤ hd s ∧ hd s < (i : Int) := by
  cases s with
  | nil => exact ⟨Int.le_refl _, by show (-1 : Int) < i; omega⟩
  | cons q r => have := (stk_dec h).1; exact ⟨by show (-1 : Int) ≤ q; omega, by show (q : Int) < i; omega⟩
theorem hd_same {l : List Ins} {i j : Nat} {s t : List Nat} (h : stk l i = some s) (h' : stk l j = some t) (e : hd s = hd t) : s = t := by
  cases s with
  | nil =>
    cases t with
    | nil => rfl
    | cons q r => have e : (-1 : Int) = (q : Int) := e; omega
  | cons q r =>
    cases t with
    | nil => have e : (q : Int) = -1 := e; omega
    | cons q' r' =>
      have e : (q : Int) = (q' : Int) := e
      obtain rfl : q = q' := by omega
      have a := stk_tail h [] q r rfl
      have b := stk_tail h' [] q r' rfl
      rw [Option.some.inj (a.symm.trans b)]
theorem hd_neg {s : List Nat} : hd s = -1 ↔ s = [] := by
  cases s with
  | nil => exact ⟨fun _ => rfl, fun _ => rfl⟩
  | cons q r => exact ⟨fun e => by have e : (q : Int) = -1 := e; omega, fun e => by cases e⟩
/-- A row that can be. -/
def Rt (l : List Ins) : Prop := 1 ≤ l.length ∧ l.length ≤ 200 ∧ l.all okI = true
theorem gI_mem {l : List Ins} {i : Nat} (h : i < l.length) : gI l i ∈ l := by
  simp [gI, rd_T37, List.getD, h]
theorem Rt.at {l : List Ins} (h : Rt l) {i : Nat} (hi : i < l.length) : okI (gI l i) = true := List.all_eq_true.1 h.2.2 _ (gI_mem hi)
theorem gI_drop {l : List Ins} {i : Nat} (h : i < l.length) : l.drop i = gI l i :: l.drop (i + 1) := by
  rw [List.drop_eq_getElem_cons h]
  simp [gI, rd_T37, List.getD, h]
theorem ok_args {x : Ins} (h : okI x = true) : (x.f0 = 21 → 1 ≤ x.f1 ∧ x.f1 ≤ 1000 ∧ x.f2 = 0) ∧ (x.f0 = 22 → x.f1 = 0 ∧ x.f2 = 0) ∧ (x.f0 = 23 ∨ x.f0 = 24 → 0 ≤ x.f1 ∧ x.f1 ≤ 7 ∧ x.f2 = 0) ∧ (x.f0 = 17 ∨ x.f0 = 18 → 0 ≤ x.f1 ∧ x.f1 ≤ 7) ∧ (x.f0 = 19 ∨ x.f0 = 20 → 0 ≤ x.f1 ∧ x.f1 ≤ 199 ∧ x.f2 = 0) ∧ (x.f0 = 25 → x.f1 = 0 ∧ x.f2 = 0) := by
  obtain ⟨a, b, c⟩ := x
  unfold okI at h
  dsimp only at h ⊢
  have k1 : ∀ (n lo hi : Int) (s : ByteArray), rightK (s, 1, lo, hi) b c = true → lo ≤ b ∧ b ≤ hi ∧ c = 0 := by
    intro n lo hi s h
    simp [rightK, inB] at h
    omega
  have k0 : ∀ (s : ByteArray), rightK (s, 0, 0, 0) b c = true → b = 0 ∧ c = 0 := by
    intro s h
    simpa [rightK] using h
  have k2 : ∀ (s : ByteArray) (lo hi : Int), rightK (s, 2, lo, hi) b c = true → lo ≤ b ∧ b ≤ hi := by
    intro s lo hi h
    simp [rightK, inB] at h
    omega
  refine ⟨?_, ?_, ?_, ?_, ?_, ?_⟩
  · rintro rfl; exact k1 0 _ _ _ h
  · rintro rfl; exact k0 _ h
  · rintro (rfl | rfl) <;> exact k1 0 _ _ _ h
  · rintro (rfl | rfl) <;> exact k2 _ _ _ h
  · rintro (rfl | rfl) <;> exact k1 0 _ _ _ h
  · rintro rfl; exact k0 _ h
theorem ok_loop {n : Int} (h : 1 ≤ n ∧ n ≤ 1000) : okI ⟨21, n, 0⟩ = true := by
  have : rightK (kindOf 21) n 0 = (inB 1 1000 n && decide ((0 : Int) = 0)) := rfl
  show rightK (kindOf 21) n 0 = true
  rw [this]
  simp [inB]; omega
theorem ok_next : okI ⟨22, 0, 0⟩ = true := rfl
theorem ok_end : okI ⟨25, 0, 0⟩ = true := rfl

end Go.Proofs.Ytdhlhbhclggheaa.NL
