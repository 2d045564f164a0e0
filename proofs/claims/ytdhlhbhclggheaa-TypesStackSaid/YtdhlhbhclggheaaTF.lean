/- types.Stacks, in plain words: which stacks stand where. No conditions beyond those that each lemma states. -/
import Derived.Test.YtdhlhbhclggheaaNP7
import Derived.Test.YtdhlhbhclggheaaE6
namespace Go.Proofs.Ytdhlhbhclggheaa.NL
open Go.RowKit Go.Proofs.Ytdhlhbhclggheaa.P Go.Proofs.Ytdhlhbhclggheaa.D Go.Proofs.YtdhlhbhclggheaaW.PrintWords Go.Proofs.YtdhlhbhclggheaaW.PrintLast Go.Proofs.YtdhlhbhclggheaaW.PrintMore
set_option linter.unusedVariables false
set_option linter.unusedSimpArgs false

abbrev sAt (o : List ByteArray) (i : Nat) : ByteArray := o.getD i ByteArray.empty
abbrev aft (x : Ins) (s : ByteArray) : ByteArray × Int := afterS x.f0 x.f1 x.f2 s
/-- A place may come next. -/
def nx (l : List Ins) (j t : Nat) : Prop := (t = j + 1 ∧ (gI l j).f0 ≠ 19 ∧ (gI l j).f0 ≠ 25) ∨ (((gI l j).f0 = 19 ∨ (gI l j).f0 = 20) ∧ (t : Int) = (j : Int) + 1 + (gI l j).f1)
/-- The stacks of a row, each as the instructions ahead leave it. -/
structure St (l : List Ins) (ms : List Int) (o : List ByteArray) : Prop where
  len : o.length = l.length
  zero : sAt o 0 = ByteArray.empty
  size : ∀ i, i < l.length → (sAt o i).size ≤ 16
  reach : ∀ t, t < l.length → t = 0 ∨ ∃ j, j < t ∧ nx l j t
  ok : ∀ i, i < l.length → (aft (gI l i) (sAt o i)).2 = 0
  next : ∀ i, i < l.length → ∀ t, nx l i t → sAt o t = (aft (gI l i) (sAt o i)).1
  back : ∀ i, i < l.length → (gI l i).f0 = 22 → sAt o (ms.getD i 0).toNat = sAt o i
theorem aft_size {x : Ins} {s : ByteArray} (h : (aft x s).2 = 0) : (aft x s).1.size ≤ 16 := by
  unfold aft afterS at h ⊢
  split at h
  · simp at h
  · rename_i h1
    rw [if_neg h1]
    split at h
    · rename_i h2
      rw [if_pos h2]
      split at h
      · simp at h
      · rename_i h3
        rw [if_neg h3]
        simp only [ByteArray.size_append]
        omega
    · simp at h
theorem ok_wf {x : Ins} (h : okI x = true) : (Lit.int .i64 x.f0).wf = true := right_I64 h
theorem nx_lt {l : List Ins} (hW : W l) {j t : Nat} (hj : j < l.length) (h : nx l j t) : j < t ∧ t < l.length := by
  obtain ⟨hR, hV, hE, hJ⟩ := hW
  rcases h with ⟨rfl, _, h25⟩ | ⟨h, ht⟩
  · have := hE j hj
    unfold EnAt at this
    have : j + 1 ≠ l.length := fun e => h25 (this.2 e)
    omega
  · obtain ⟨t', t1, t2, _⟩ := hJ j hj h
    have := (ok_args (hR.at hj)).2.2.2.2.1 h
    have e : t = t' := by omega
    omega
theorem back_lt {l : List Ins} {ms : List Int} (hM : MT l ms) {i : Nat} (hi : i < l.length) (h : (gI l i).f0 = 22) : ∃ q : Nat, ms.getD i 0 = (q : Int) ∧ q < i := by
  have hc : cls (gI l i) = true := by unfold cls; rw [h]; rfl
  obtain ⟨q, h1, h2⟩ := (hM.2 i hi).2.1 hc
  refine ⟨q, ?_, h2.lt⟩
  simpa [rd] using h1
/-! ### What handing on does -/
section
variable {F : Fl} {n j t : Nat} {x : ByteArray}
structure Ln (F : Fl) (n : Nat) : Prop where
  o : F.o.length = n
  s : F.s.length = n
  c : F.c.length = n
theorem Ln.hand (h : Ln F n) (t : Nat) (x : ByteArray) : Ln (handS F t x) n := by
  refine ⟨by simp [handS, h.o], by simp [handS, h.s], ?_⟩
  unfold handS
  dsimp only
  split <;> simp [h.c]
theorem hand_o (h : Ln F n) (ht : t < n) (j : Nat) : sAt (handS F t x).o j = if j = t then x else sAt F.o j := by
  unfold handS sAt
  by_cases e : j = t
  · subst e; rw [if_pos rfl]; simp [List.getD, h.o, ht]
  · rw [if_neg e]; simp [List.getD, List.getElem?_set_ne (Ne.symm e)]
theorem hand_s (h : Ln F n) (ht : t < n) (j : Nat) : (handS F t x).s.getD j false = if j = t then true else F.s.getD j false := by
  unfold handS
  by_cases e : j = t
  · subst e; rw [if_pos rfl]; simp [List.getD, h.s, ht]
  · rw [if_neg e]; simp [List.getD, List.getElem?_set_ne (Ne.symm e)]
theorem hand_c (h : Ln F n) (ht : t < n) (j : Nat) : (handS F t x).c.getD j false = if j = t ∧ F.s.getD t false = true ∧ sAt F.o t ≠ x then true else F.c.getD j false := by
  unfold handS
  dsimp only
  by_cases g : F.s.getD t false = true ∧ F.o.getD t ByteArray.empty ≠ x
  · rw [if_pos g]
    by_cases e : j = t
    · subst e; rw [if_pos ⟨rfl, g⟩]; simp [List.getD, h.c, ht]
    · rw [if_neg (fun h => e h.1)]; simp [List.getD, List.getElem?_set_ne (Ne.symm e)]
  · rw [if_neg g, if_neg (fun h => g h.2)]
end
/-! ### What holds ahead of an instruction -/
/-- N: who has handed to whom. -/
structure Hd (l : List Ins) (F : Fl) (N : Nat → Nat → Prop) : Prop where
  ln : Ln F l.length
  size : ∀ t, t < l.length → (sAt F.o t).size ≤ 16
  zero : sAt F.o 0 = ByteArray.empty
  next : ∀ j t, N j t → j < t ∧ t < l.length ∧ F.s.getD t false = true ∧ (F.c.getD t false = false → sAt F.o t = (aft (gI l j) (sAt F.o j)).1)
  reach : ∀ t, t < l.length → F.s.getD t false = true → t = 0 ∨ ∃ j, N j t
theorem Hd.hand {l : List Ins} {F : Fl} {N : Nat → Nat → Prop} (h : Hd l F N) {i t : Nat} (hi : ∀ j t, N j t → j ≤ i) (hit : i < t) (ht : t < l.length) {x : ByteArray} (hx : x = (aft (gI l i) (sAt F.o i)).1) (hz : x.size ≤ 16) :
    Hd l (handS F t x) (fun j u => N j u ∨ (j = i ∧ u = t)) := by
  refine ⟨h.ln.hand t x, fun u hu => ?_, ?_, fun j u hju => ?_, fun u hu hs => ?_⟩
  · rw [hand_o h.ln ht]
    split
    · exact hz
    · exact h.size u hu
  · rw [hand_o h.ln ht, if_neg (by omega)]; exact h.zero
  · rcases hju with hju | ⟨rfl, rfl⟩
    · obtain ⟨h1, h2, h3, h4⟩ := h.next j u hju
      have := hi j u hju
      refine ⟨h1, h2, by rw [hand_s h.ln ht, h3]; simp, fun hc => ?_⟩
      rw [hand_c h.ln ht] at hc
      split at hc
      · cases hc
      · rename_i hno
        rw [hand_o h.ln ht, hand_o h.ln ht, if_neg (by omega : j ≠ t)]
        by_cases e : u = t
        · subst e
          rw [if_pos rfl, ← h4 hc]
          exact (Decidable.byContradiction fun hne => hno ⟨rfl, h3, fun e => hne e.symm⟩)
        · rw [if_neg e]; exact h4 hc
    · refine ⟨hit, ht, by rw [hand_s h.ln ht, if_pos rfl], fun _ => ?_⟩
      rw [hand_o h.ln ht, hand_o h.ln ht, if_pos rfl, if_neg (by omega)]
      exact hx
  · rw [hand_s h.ln ht] at hs
    by_cases e : u = t
    · subst e; exact .inr ⟨i, .inr ⟨rfl, rfl⟩⟩
    · rw [if_neg e] at hs
      rcases h.reach u hu hs with h0 | ⟨j, hj⟩
      · exact .inl h0
      · exact .inr ⟨j, .inl hj⟩
theorem Hd.congr {l : List Ins} {F : Fl} {N N' : Nat → Nat → Prop} (h : Hd l F N) (he : ∀ j t, N j t ↔ N' j t) : Hd l F N' := by
  have : N = N' := funext fun j => funext fun t => propext (he j t)
  rwa [this] at h
/-- What is shown of the instructions that have gone by. -/
structure Dn (l : List Ins) (ms : List Int) (F : Fl) (i : Nat) : Prop where
  s : ∀ j, j < i → F.s.getD j false = true
  c : ∀ j, j < i → F.c.getD j false = false
  ok : ∀ j, j < i → (aft (gI l j) (sAt F.o j)).2 = 0
  back : ∀ j, j < i → (gI l j).f0 = 22 → sAt F.o (ms.getD j 0).toNat = sAt F.o j
theorem Dn.hand {l : List Ins} {ms : List Int} {F : Fl} {i n : Nat} (h : Dn l ms F i) (hl : Ln F n) {t : Nat} (ht : t < n) (hit : i ≤ t) (hb : ∀ j, j < i → (gI l j).f0 = 22 → (ms.getD j 0).toNat < i) (x : ByteArray) : Dn l ms (handS F t x) i := by
  refine ⟨fun j hj => ?_, fun j hj => ?_, fun j hj => ?_, fun j hj h22 => ?_⟩
  · rw [hand_s hl ht, if_neg (by omega)]; exact h.s j hj
  · rw [hand_c hl ht, if_neg (by omega)]; exact h.c j hj
  · rw [hand_o hl ht, if_neg (by omega)]; exact h.ok j hj
  · have := hb j hj h22
    rw [hand_o hl ht, hand_o hl ht, if_neg (by omega), if_neg (by omega)]; exact h.back j hj h22
/-! ### One instruction -/
theorem fall_ok {l : List Ins} {ms : List Int} (hW : W l) {F : Fl} {N : Nat → Nat → Prop} {i : Nat} (hi : i < l.length) (hH : Hd l F N) (hN : ∀ j t, N j t → j ≤ i) (hD : Dn l ms F (i + 1)) (hb : ∀ j, j < i + 1 → (gI l j).f0 = 22 → (ms.getD j 0).toNat < i + 1)
    {x : ByteArray} (hx : x = (aft (gI l i) (sAt F.o i)).1) (hz : x.size ≤ 16) :
    ∃ F1, fallF F i (gI l i).f0 x = some F1 ∧ Hd l F1 (fun j t => N j t ∨ (j = i ∧ t = i + 1 ∧ (gI l i).f0 ≠ 19 ∧ (gI l i).f0 ≠ 25)) ∧ Dn l ms F1 (i + 1) ∧ sAt F1.o i = sAt F.o i := by
  unfold fallF
  by_cases h : (gI l i).f0 = 19 ∨ (gI l i).f0 = 25
  · rw [if_pos h]
    refine ⟨F, rfl, hH.congr fun j t => ⟨.inl, fun g => g.elim id fun g => ?_⟩, hD, rfl⟩
    rcases h with h | h
    · exact absurd h g.2.2.1
    · exact absurd h g.2.2.2
  · have hn : nx l i (i + 1) := .inl ⟨rfl, fun e => h (.inl e), fun e => h (.inr e)⟩
    have hlt := (nx_lt hW hi hn).2
    rw [if_neg h, if_pos (by rw [hH.ln.o]; exact hlt)]
    refine ⟨_, rfl, (hH.hand hN (by omega) hlt hx hz).congr fun j t => ?_, hD.hand hH.ln hlt (by omega) hb x, by rw [hand_o hH.ln hlt, if_neg (by omega)]⟩
    constructor
    · rintro (g | ⟨rfl, rfl⟩)
      · exact .inl g
      · exact .inr ⟨rfl, rfl, fun e => h (.inl e), fun e => h (.inr e)⟩
    · rintro (g | ⟨rfl, rfl, _⟩)
      · exact .inl g
      · exact .inr ⟨rfl, rfl⟩
theorem lead_ok {l : List Ins} {ms : List Int} (hW : W l) {F : Fl} {N : Nat → Nat → Prop} {i : Nat} (hi : i < l.length) (hH : Hd l F N) (hN : ∀ j t, N j t → j ≤ i) (hD : Dn l ms F (i + 1)) (hb : ∀ j, j < i + 1 → (gI l j).f0 = 22 → (ms.getD j 0).toNat < i + 1)
    {x : ByteArray} (hx : x = (aft (gI l i) (sAt F.o i)).1) (hz : x.size ≤ 16) :
    ∃ F1, leadF F i (gI l i).f0 (gI l i).f1 x = some F1 ∧ Hd l F1 (fun j t => N j t ∨ (j = i ∧ ((gI l i).f0 = 19 ∨ (gI l i).f0 = 20) ∧ (t : Int) = (i : Int) + 1 + (gI l i).f1)) ∧ Dn l ms F1 (i + 1) := by
  unfold leadF
  by_cases h : (gI l i).f0 = 19 ∨ (gI l i).f0 = 20
  · have h0 := (ok_args (hW.1.at hi)).2.2.2.2.1 h
    obtain ⟨t, ht⟩ : ∃ t : Nat, (t : Int) = (i : Int) + 1 + (gI l i).f1 := ⟨((i : Int) + 1 + (gI l i).f1).toNat, by omega⟩
    have hn : nx l i t := .inr ⟨h, ht⟩
    obtain ⟨h1, hlt⟩ := nx_lt hW hi hn
    rw [if_pos h, if_pos (by rw [hH.ln.o]; omega), show ((i : Int) + 1 + (gI l i).f1).toNat = t by omega]
    refine ⟨_, rfl, (hH.hand hN h1 hlt hx hz).congr fun j u => ?_, hD.hand hH.ln hlt (by omega) hb x⟩
    constructor
    · rintro (g | ⟨rfl, rfl⟩)
      · exact .inl g
      · exact .inr ⟨rfl, h, ht⟩
    · rintro (g | ⟨rfl, _, e⟩)
      · exact .inl g
      · exact .inr ⟨rfl, by omega⟩
  · rw [if_neg h]
    exact ⟨F, rfl, hH.congr fun j t => ⟨.inl, fun g => g.elim id fun g => absurd g.2.1 h⟩, hD⟩
theorem Dn.one {l : List Ins} {ms : List Int} {F : Fl} {i : Nat} (h : Dn l ms F i) (h1 : F.s.getD i false = true) (h2 : F.c.getD i false = false) (h3 : (aft (gI l i) (sAt F.o i)).2 = 0) (h4 : (gI l i).f0 = 22 → sAt F.o (ms.getD i 0).toNat = sAt F.o i) : Dn l ms F (i + 1) := by
  refine ⟨fun j hj => ?_, fun j hj => ?_, fun j hj => ?_, fun j hj => ?_⟩
  all_goals
    by_cases e : j = i
    · subst e; assumption
    · first
      | exact h.s j (by omega)
      | exact h.c j (by omega)
      | exact h.ok j (by omega)
      | exact h.back j (by omega)
abbrev Nx (l : List Ins) (i : Nat) (j t : Nat) : Prop := j < i ∧ nx l j t
theorem one_total {l : List Ins} {ms : List Int} (hW : W l) (hM : MT l ms) {F : Fl} {i : Nat} (hi : i < l.length) (hH : Hd l F (Nx l i)) (hD : Dn l ms F i) :
    ∃ F' e, oneF F i (gI l i).f0 (gI l i).f1 (gI l i).f2 (ms.getD i 0) = some (F', e) ∧ (e = 0 → Hd l F' (Nx l (i + 1)) ∧ Dn l ms F' (i + 1)) := by
  unfold oneF
  by_cases hs : F.s.getD i false = false
  · rw [if_pos hs]; exact ⟨_, _, rfl, fun e => by simp at e⟩
  rw [if_neg hs]
  by_cases hc : F.c.getD i false = true
  · rw [if_pos hc]; exact ⟨_, _, rfl, fun e => by simp at e⟩
  rw [if_neg hc]
  have hG : ((gI l i).f0 = 22 → sAt F.o (ms.getD i 0).toNat = sAt F.o i) → ∃ F' e, oneG F i (gI l i).f0 (gI l i).f1 (gI l i).f2 = some (F', e) ∧ (e = 0 → Hd l F' (Nx l (i + 1)) ∧ Dn l ms F' (i + 1)) := by
    intro h22
    unfold oneG
    rw [if_pos ⟨hH.size i hi, ok_wf (hW.1.at hi)⟩]
    by_cases h0 : (aft (gI l i) (sAt F.o i)).2 = 0
    · rw [if_pos h0]
      have hb : ∀ j, j < i + 1 → (gI l j).f0 = 22 → (ms.getD j 0).toNat < i + 1 := fun j hj h => by
        obtain ⟨q, h1, h2⟩ := back_lt hM (by omega) h
        rw [h1]; omega
      have hD1 := hD.one (by simpa using hs) (by simpa using hc) h0 h22
      have hN : ∀ j t, Nx l i j t → j ≤ i := fun j t h => by have := h.1; omega
      obtain ⟨F1, e1, H1, D1, k1⟩ := fall_ok hW hi hH hN hD1 hb rfl (aft_size h0)
      obtain ⟨F2, e2, H2, D2⟩ := lead_ok hW hi H1 (fun j t h => h.elim (hN j t) fun h => by have := h.1; omega) D1 hb (by rw [k1]) (aft_size h0)
      refine ⟨F2, 0, ?_, fun _ => ⟨H2.congr fun j t => ?_, D2⟩⟩
      · show (fallF F i (gI l i).f0 (aft (gI l i) (sAt F.o i)).1).bind _ = _
        rw [e1, Option.bind_some]
        show (leadF F1 i (gI l i).f0 (gI l i).f1 (aft (gI l i) (sAt F.o i)).1).bind _ = _
        rw [e2, Option.bind_some]
      · constructor
        · rintro ((⟨g1, g2⟩ | ⟨rfl, rfl, g1, g2⟩) | ⟨rfl, g1, g2⟩)
          · exact ⟨by omega, g2⟩
          · exact ⟨by omega, .inl ⟨rfl, g1, g2⟩⟩
          · exact ⟨by omega, .inr ⟨g1, g2⟩⟩
        · rintro ⟨g1, g2⟩
          by_cases e : j = i
          · subst e
            rcases g2 with ⟨rfl, g3, g4⟩ | ⟨g3, g4⟩
            · exact .inl (.inr ⟨rfl, rfl, g3, g4⟩)
            · exact .inr ⟨rfl, g3, g4⟩
          · exact .inl (.inl ⟨by omega, g2⟩)
    · rw [if_neg h0]; exact ⟨_, _, rfl, fun e => absurd e h0⟩
  by_cases h22 : (gI l i).f0 = 22
  · obtain ⟨q, h1, h2⟩ := back_lt hM hi h22
    rw [if_pos h22, if_pos (by rw [h1, hH.ln.o]; omega)]
    by_cases he : F.o.getD (ms.getD i 0).toNat ByteArray.empty = F.o.getD i ByteArray.empty
    · rw [if_pos he]; exact hG fun _ => he
    · rw [if_neg he]; exact ⟨_, _, rfl, fun e => by simp at e⟩
  · rw [if_neg h22]; exact hG fun h => absurd h h22
theorem run_total {l : List Ins} {ms : List Int} (hW : W l) (hM : MT l ms) : ∀ (d i : Nat) (F : Fl), i + d = l.length → Hd l F (Nx l i) → Dn l ms F i →
    ∃ r, stkF F (l.drop i) ms i = some r ∧ (r.2 = 0 → St l ms r.1) ∧ (r.2 ≠ 0 → r.1 = [])
  | 0, i, F, hi, hH, hD => by
    rw [List.drop_eq_nil_of_le (by omega)]
    have hi' : i = l.length := by omega
    subst hi'
    refine ⟨_, rfl, fun _ => ⟨hH.ln.o, hH.zero, hH.size, fun t ht => ?_, hD.ok, fun i hi t hn => ?_, hD.back⟩, fun h => absurd rfl h⟩
    · rcases hH.reach t ht (hD.s t ht) with h | ⟨j, hj⟩
      · exact .inl h
      · exact .inr ⟨j, (hH.next j t hj).1, hj.2⟩
    · obtain ⟨h1, h2, h3, h4⟩ := hH.next i t ⟨hi, hn⟩
      exact h4 (hD.c t h2)
  | d + 1, i, F, hi, hH, hD => by
    obtain ⟨F', e, h1, h2⟩ := one_total hW hM (by omega) hH hD
    rw [gI_drop (by omega)]
    unfold stkF
    rw [h1, Option.bind_some]
    by_cases he : e = 0
    · rw [if_pos he]
      exact run_total hW hM d (i + 1) F' (by omega) (h2 he).1 (h2 he).2
    · rw [if_neg he]
      exact ⟨_, rfl, fun h => absurd h he, fun _ => rfl⟩
/-! ### The stacks are found -/
structure Ag (l : List Ins) (o : List ByteArray) (F : Fl) (i : Nat) : Prop where
  ln : Ln F l.length
  c : ∀ t, t < l.length → F.c.getD t false = false
  o : ∀ t, t < l.length → F.s.getD t false = true → sAt F.o t = sAt o t
  s : ∀ j t, Nx l i j t → F.s.getD t false = true
  s0 : F.s.getD 0 false = true
theorem Ag.hand {l : List Ins} {o : List ByteArray} {F : Fl} {i t : Nat} (h : Ag l o F i) (ht : t < l.length) {x : ByteArray} (hx : x = sAt o t) : Ag l o (handS F t x) i ∧ (handS F t x).s.getD t false = true ∧ ∀ u, F.s.getD u false = true → (handS F t x).s.getD u false = true := by
  refine ⟨⟨h.ln.hand t x, fun u hu => ?_, fun u hu hs => ?_, fun j u hn => ?_, ?_⟩, by rw [hand_s h.ln ht, if_pos rfl], fun u hu => by rw [hand_s h.ln ht, hu]; simp⟩
  · rw [hand_c h.ln ht, if_neg]
    · exact h.c u hu
    · rintro ⟨_, h1, h2⟩
      exact h2 ((h.o t ht h1).trans hx.symm)
  · rw [hand_o h.ln ht]
    rw [hand_s h.ln ht] at hs
    by_cases e : u = t
    · subst e; rw [if_pos rfl]; exact hx
    · rw [if_neg e] at hs ⊢; exact h.o u hu hs
  · rw [hand_s h.ln ht, h.s j u hn]; simp
  · rw [hand_s h.ln ht, h.s0]; simp
theorem one_agree {l : List Ins} {ms : List Int} {o : List ByteArray} (hW : W l) (hM : MT l ms) (hS : St l ms o) {F : Fl} {i : Nat} (hi : i < l.length) (hA : Ag l o F i) :
    ∃ F', oneF F i (gI l i).f0 (gI l i).f1 (gI l i).f2 (ms.getD i 0) = some (F', 0) ∧ Ag l o F' (i + 1) := by
  have hs : ∀ t, t ≤ i → F.s.getD t false = true := fun t ht => by
    rcases hS.reach t (by omega) with rfl | ⟨j, hj, hn⟩
    · exact hA.s0
    · exact hA.s j t ⟨by omega, hn⟩
  have hsi := hs i (Nat.le_refl _)
  have ho : sAt F.o i = sAt o i := hA.o i hi hsi
  unfold oneF
  rw [if_neg (by rw [hsi]; simp), if_neg (by rw [hA.c i hi]; simp)]
  have h0 : (aft (gI l i) (sAt F.o i)).2 = 0 := by rw [ho]; exact hS.ok i hi
  have hnext : ∀ t, nx l i t → t < l.length ∧ (aft (gI l i) (sAt F.o i)).1 = sAt o t := fun t hn => ⟨(nx_lt hW hi hn).2, by rw [ho]; exact (hS.next i hi t hn).symm⟩
  have hG : ∃ F', oneG F i (gI l i).f0 (gI l i).f1 (gI l i).f2 = some (F', 0) ∧ Ag l o F' (i + 1) := by
    unfold oneG
    rw [if_pos ⟨by rw [show F.o.getD i ByteArray.empty = sAt o i from ho]; exact hS.size i hi, ok_wf (hW.1.at hi)⟩, if_pos h0]
    obtain ⟨F1, e1, A1, m1, k1⟩ : ∃ F1, fallF F i (gI l i).f0 (aft (gI l i) (sAt F.o i)).1 = some F1 ∧ Ag l o F1 i ∧ (∀ u, F.s.getD u false = true → F1.s.getD u false = true) ∧ ((gI l i).f0 ≠ 19 → (gI l i).f0 ≠ 25 → F1.s.getD (i + 1) false = true) := by
      unfold fallF
      by_cases h : (gI l i).f0 = 19 ∨ (gI l i).f0 = 25
      · rw [if_pos h]
        exact ⟨F, rfl, hA, fun _ h => h, fun h1 h2 => absurd h (by rintro (g | g) <;> contradiction)⟩
      · obtain ⟨g1, g2⟩ := hnext (i + 1) (.inl ⟨rfl, fun e => h (.inl e), fun e => h (.inr e)⟩)
        rw [if_neg h, if_pos (by rw [hA.ln.o]; exact g1)]
        obtain ⟨q1, q2, q3⟩ := hA.hand g1 g2
        exact ⟨_, rfl, q1, q3, fun _ _ => q2⟩
    obtain ⟨F2, e2, A2, m2, k2⟩ : ∃ F2, leadF F1 i (gI l i).f0 (gI l i).f1 (aft (gI l i) (sAt F.o i)).1 = some F2 ∧ Ag l o F2 i ∧ (∀ u, F1.s.getD u false = true → F2.s.getD u false = true) ∧ ∀ t : Nat, ((gI l i).f0 = 19 ∨ (gI l i).f0 = 20) → (t : Int) = (i : Int) + 1 + (gI l i).f1 → F2.s.getD t false = true := by
      unfold leadF
      by_cases h : (gI l i).f0 = 19 ∨ (gI l i).f0 = 20
      · have h5 := (ok_args (hW.1.at hi)).2.2.2.2.1 h
        obtain ⟨t, ht⟩ : ∃ t : Nat, (t : Int) = (i : Int) + 1 + (gI l i).f1 := ⟨((i : Int) + 1 + (gI l i).f1).toNat, by omega⟩
        obtain ⟨g1, g2⟩ := hnext t (.inr ⟨h, ht⟩)
        rw [if_pos h, if_pos (by rw [A1.ln.o]; omega), show ((i : Int) + 1 + (gI l i).f1).toNat = t by omega]
        obtain ⟨q1, q2, q3⟩ := A1.hand g1 g2
        refine ⟨_, rfl, q1, q3, fun u _ hu => ?_⟩
        obtain rfl : u = t := by omega
        exact q2
      · rw [if_neg h]
        exact ⟨F1, rfl, A1, fun _ h => h, fun t ht => absurd ht h⟩
    refine ⟨F2, ?_, ⟨A2.ln, A2.c, A2.o, fun j t hn => ?_, A2.s0⟩⟩
    · show (fallF F i (gI l i).f0 (aft (gI l i) (sAt F.o i)).1).bind _ = _
      rw [e1, Option.bind_some]
      show (leadF F1 i (gI l i).f0 (gI l i).f1 (aft (gI l i) (sAt F.o i)).1).bind _ = _
      rw [e2, Option.bind_some]
    · by_cases e : j = i
      · subst e
        rcases hn.2 with ⟨rfl, g1, g2⟩ | ⟨g1, g2⟩
        · exact m2 _ (k1 g1 g2)
        · exact k2 t g1 g2
      · exact A2.s j t ⟨by have := hn.1; omega, hn.2⟩
  by_cases h22 : (gI l i).f0 = 22
  · obtain ⟨q, h1, h2⟩ := back_lt hM hi h22
    have hq : sAt F.o q = sAt o q := hA.o q (by omega) (hs q (by omega))
    have hb := hS.back i hi h22
    rw [if_pos h22, if_pos (by rw [h1, hA.ln.o]; omega), if_pos]
    · exact hG
    · rw [h1] at hb ⊢
      exact hq.trans (hb.trans ho.symm)
  · rw [if_neg h22]; exact hG
theorem run_agree {l : List Ins} {ms : List Int} {o : List ByteArray} (hW : W l) (hM : MT l ms) (hS : St l ms o) : ∀ (d i : Nat) (F : Fl), i + d = l.length → Ag l o F i → stkF F (l.drop i) ms i = some (o, 0)
  | 0, i, F, hi, hA => by
    rw [List.drop_eq_nil_of_le (by omega)]
    have hi' : i = l.length := by omega
    subst hi'
    have : F.o = o := by
      apply List.ext_getElem (hA.ln.o.trans hS.len.symm)
      intro t h1 h2
      have ht : t < l.length := by rw [hA.ln.o] at h1; exact h1
      have hs : F.s.getD t false = true := by
        rcases hS.reach t ht with rfl | ⟨j, hj, hn⟩
        · exact hA.s0
        · exact hA.s j t ⟨by omega, hn⟩
      have := hA.o t ht hs
      simpa [sAt, List.getD, h1, h2] using this
    show some (F.o, 0) = _
    rw [this]
  | d + 1, i, F, hi, hA => by
    obtain ⟨F', h1, h2⟩ := one_agree hW hM hS (by omega) hA
    rw [gI_drop (by omega)]
    unfold stkF
    rw [h1, Option.bind_some, if_pos rfl]
    exact run_agree hW hM hS d (i + 1) F' (by omega) h2
theorem flow0_ln (n : Nat) : Ln (flow0 n) n := ⟨by simp [flow0], by simp [flow0], by simp [flow0]⟩
theorem start_hd {l : List Ins} (h1 : 1 ≤ l.length) : Hd l (handS (flow0 l.length) 0 ByteArray.empty) (Nx l 0) := by
  have h0 : ∀ t, sAt (flow0 l.length).o t = ByteArray.empty := fun t => by
    simp only [flow0, sAt, List.getD, List.getElem?_replicate]; split <;> rfl
  have hs : ∀ t, (flow0 l.length).s.getD t false = false := fun t => by
    simp only [flow0, List.getD, List.getElem?_replicate]; split <;> rfl
  refine ⟨(flow0_ln _).hand _ _, fun t ht => ?_, ?_, fun j t h => absurd h.1 (by omega), fun t ht h => ?_⟩
  · rw [hand_o (flow0_ln _) (by omega)]; split
    · decide
    · rw [h0]; decide
  · rw [hand_o (flow0_ln _) (by omega), if_pos rfl]
  · rw [hand_s (flow0_ln _) (by omega)] at h
    by_cases e : t = 0
    · exact .inl e
    · rw [if_neg e, hs] at h; cases h
theorem start_dn (l : List Ins) (ms : List Int) (F : Fl) : Dn l ms F 0 := ⟨fun j h => absurd h (by omega), fun j h => absurd h (by omega), fun j h => absurd h (by omega), fun j h => absurd h (by omega)⟩
theorem start_ag {l : List Ins} {ms : List Int} {o : List ByteArray} (hS : St l ms o) (h1 : 1 ≤ l.length) : Ag l o (handS (flow0 l.length) 0 ByteArray.empty) 0 := by
  have hs : ∀ t, (flow0 l.length).s.getD t false = false := fun t => by
    simp only [flow0, List.getD, List.getElem?_replicate]; split <;> rfl
  have hc : ∀ t, (flow0 l.length).c.getD t false = false := fun t => by
    simp only [flow0, List.getD, List.getElem?_replicate]; split <;> rfl
  refine ⟨(flow0_ln _).hand _ _, fun t ht => ?_, fun t ht h => ?_, fun j t h => absurd h.1 (by omega), by rw [hand_s (flow0_ln _) (by omega), if_pos rfl]⟩
  · rw [hand_c (flow0_ln _) (by omega), if_neg]
    · exact hc t
    · rintro ⟨_, g, _⟩; rw [hs] at g; cases g
  · rw [hand_s (flow0_ln _) (by omega)] at h
    by_cases e : t = 0
    · subst e; rw [hand_o (flow0_ln _) (by omega), if_pos rfl]; exact hS.zero.symm
    · rw [if_neg e, hs] at h; cases h
/-! ### What Stacks answers -/
/-- What is answered: what is wrong of the row; or its stacks; or what is wrong of them. -/
theorem stacks_eq (l : List Ins) (hn : l.length ≤ 1000000) {k : Nat} (hk : 4 * l.length + 10 ≤ k) : ∃ r, stacksF k l = some r ∧ (r.2 ≠ 0 → r.1 = []) ∧ (r.2 = 0 → W l ∧ ∃ ms, MT l ms ∧ St l ms r.1) ∧ (∀ ms o, W l → MT l ms → St l ms o → r = (o, 0)) := by
  obtain ⟨e, he, hs⟩ := whole_eq l hn hk
  unfold stacksF
  rw [he, Option.bind_some]
  by_cases h0 : e = 0
  · rw [if_pos h0]
    have hW := hs.zero.1 h0
    obtain ⟨m, hm, hms⟩ := match_eq l hn (k := k) (by omega)
    rw [hm, Option.bind_some]
    have hMT : MT l m.1 := by
      rcases hms with ⟨g, _⟩ | ⟨_, g, _⟩ | ⟨_, _, _, g⟩
      · exact absurd hW.1 g
      · exact absurd hW.2.1 g
      · exact g
    have h1 := hW.1.1
    have h2 := hW.1.2.1
    rw [if_pos ⟨by omega, hMT.1, by omega⟩]
    obtain ⟨r, hr, g1, g2⟩ := run_total hW hMT l.length 0 _ (by omega) (start_hd h1) (start_dn l m.1 _)
    rw [List.drop_zero] at hr
    refine ⟨r, hr, g2, fun h => ⟨hW, m.1, hMT, g1 h⟩, fun ms o _ hM hS => ?_⟩
    obtain rfl := hM.uniq hMT
    have := run_agree hW hM hS l.length 0 _ (by omega) (start_ag hS h1)
    rw [List.drop_zero, hr] at this
    exact Option.some.inj this
  · rw [if_neg h0]
    exact ⟨_, rfl, fun _ => rfl, fun h => absurd h h0, fun ms o hW _ _ => absurd (hs.zero.2 hW) h0⟩
end Go.Proofs.Ytdhlhbhclggheaa.NL
