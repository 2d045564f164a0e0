/- The reference's Stacks: it answers what types.Stacks does. No conditions beyond those that each lemma states. -/
import Derived.Test.YtdhlhbhclggheaaTS7
import Derived.Test.YtdhlhbhclggheaaQd
namespace Go.Proofs.Ytdhlhbhclggheaa.NL
open Go.RowKit Go.Proofs.Ytdhlhbhclggheaa.P Go.Proofs.Ytdhlhbhclggheaa.D Go.Proofs.Ytdhlhbhclggheaa.Q Go.Proofs.YtdhlhbhclggheaaW.PrintWords Go.Proofs.YtdhlhbhclggheaaW.PrintLast Go.Proofs.YtdhlhbhclggheaaW.PrintMore
set_option linter.unusedVariables false
set_option linter.unusedSimpArgs false

theorem bl_inj {s t : ByteArray} : s.toList = t.toList ↔ s = t := ⟨fun h => by
  rw [toList_bl, toList_bl] at h
  cases s; cases t
  exact congrArg _ (Array.toList_inj.1 h), fun h => congrArg _ h⟩
theorem set_same {L : List Bool} {t : Nat} {b : Bool} (ht : t < L.length) (h : L.getD t false = b) : L.set t b = L := by
  apply List.ext_getElem (by simp)
  intro j h1 h2
  rw [List.getElem_set]
  split
  · rename_i e; subst e; rw [← h]; simp [List.getD, ht]
  · rfl
section
variable {l : List Ins} {ms : List Int} {n : Nat} {F : Fl}
theorem rl1_hand (h : Ln F n) (hn : n ≤ 1000) {i : Int} {x : ByteArray} {to_ : List Int} {j t : Nat} (k : Nat) (hz : to_.length ≤ 2) (hj : j < to_.length) (ht : rd to_ (j : Int) = (t : Int)) (htn : t < n) :
    camshaftref07_Stacks.l1 (k + 1) l ms F.o F.s F.c i x to_ (j : Int) = camshaftref07_Stacks.l1 k l ms (handS F t x).o (handS F t x).s (handS F t x).c i x to_ ((j + 1 : Nat) : Int) := by
  have h1 := h.o
  have h2 := h.s
  have h3 := h.c
  have eo : (handS F t x).o = F.o.set t x := rfl
  have es : (handS F t x).s = F.s.set t true := rfl
  have ec : (handS F t x).c = if F.s.getD t false = true ∧ F.o.getD t ByteArray.empty ≠ x then F.c.set t true else F.c := rfl
  have rc : rdOf false F.c (t : Int) = F.c.getD t false := rfl
  have rs : rdOf false F.s (t : Int) = F.s.getD t false := rfl
  have ro : rdOf ByteArray.empty F.o (t : Int) = F.o.getD t ByteArray.empty := rfl
  simp only [camshaftref07_Stacks.l1]
  rw [if_pos (by omega), if_pos (by omega), ht, if_pos (by omega), if_pos (by omega), show wrap64 ((j : Int) + 1) = ((j + 1 : Nat) : Int) from by unfold wrap64; omega, eo, es, rc, rs, ro]
  simp only [Int.toNat_natCast]
  by_cases c1 : F.c.getD t false = true
  · rw [if_pos c1, if_pos (by omega), if_pos (by omega)]
    rw [show (handS F t x).c = F.c.set t true from by
      rw [ec]; split
      · rfl
      · exact (set_same (by omega) c1).symm]
  · have c0 : F.c.getD t false = false := by simpa using c1
    rw [if_neg c1, if_pos (by omega)]
    by_cases c2 : F.s.getD t false = true
    · rw [if_pos c2, if_pos (by omega)]
      rw [show (handS F t x).c = F.c.set t ((F.o.getD t ByteArray.empty).toList != x.toList) from by
        rw [ec]
        by_cases e : F.o.getD t ByteArray.empty = x
        · rw [if_neg (fun g => g.2 e), e, bne_self_eq_false]
          exact (set_same (by omega) c0).symm
        · rw [if_pos ⟨c2, e⟩, bne_iff_ne.2 (fun g => e (bl_inj.1 g))]]
    · rw [if_neg c2, if_pos (by omega)]
      rw [show (handS F t x).c = F.c.set t false from by
        rw [ec, if_neg (fun g => c2 g.1)]
        exact (set_same (by omega) c0).symm]
theorem rl1_end {i : Nat} {x : ByteArray} {to_ : List Int} {o : List ByteArray} {s c : List Bool} {j : Nat} (k : Nat) (hj : to_.length ≤ j) (hi : i ≤ 1000) :
    camshaftref07_Stacks.l1 (k + 1) l ms o s c (i : Int) x to_ (j : Int) = camshaftref07_Stacks.l0 k l ms o s c ((i + 1 : Nat) : Int) := by
  simp only [camshaftref07_Stacks.l1]
  rw [if_neg (by omega), show wrap64 ((i : Int) + 1) = ((i + 1 : Nat) : Int) from by unfold wrap64; omega]
theorem rj1_eq (hl : Ln F l.length) {i : Nat} (hi : i < l.length) (hn : l.length ≤ 1000) (hI : I64 (gI l i).f1) (hz : (sAt F.o i).size ≤ 16) {to_ : List Int} (hto : camshaftref07_nexts.f l (i : Int) = some to_) (k : Nat) :
    camshaftref07_Stacks.j1 (k + 31) l ms F.o F.s F.c (i : Int) false = if (aft (gI l i) (sAt F.o i)).2 = 0 then camshaftref07_Stacks.l1 (k + 30) l ms F.o F.s F.c (i : Int) (aft (gI l i) (sAt F.o i)).1 to_ 0 else some ([], (aft (gI l i) (sAt F.o i)).2) := by
  have h1 := hl.o
  obtain ⟨x, hx⟩ : ∃ x, gI l i = x := ⟨_, rfl⟩
  obtain ⟨s, hs⟩ : ∃ s, sAt F.o i = s := ⟨_, rfl⟩
  have ex : rd_T37 l (i : Int) = x := hx
  have es : rdOf ByteArray.empty F.o (i : Int) = s := hs
  rw [hx] at hI
  rw [hs] at hz
  simp only [camshaftref07_Stacks.j1]
  rw [if_neg (by decide), if_pos (by omega), if_pos (by omega), if_pos (by omega), ex, es, hx, hs, rtakes_eq (k := k + 26) hI]
  simp only [Option.bind_some]
  unfold aft afterS
  have ht := takes_le x.f0 x.f1 x.f2
  generalize takesS x.f0 x.f1 x.f2 = t at ht ⊢
  by_cases c1 : s.size < t.size
  · rw [if_pos (by unfold wrap64; omega), if_pos c1, if_neg (by decide)]
  · obtain ⟨j, hj⟩ : ∃ j : Nat, j = s.size - t.size := ⟨_, rfl⟩
    have hw : wrap64 ((s.size : Int) - (t.size : Int)) = (j : Int) := by unfold wrap64; omega
    rw [hw, if_neg (by omega), if_pos (by omega), if_pos (by omega), if_neg c1, ← hj]
    simp only [Int.toNat_natCast]
    rw [rfits_eq _ _ (by omega) (by omega)]
    simp only [Option.bind_some]
    by_cases c2 : fitsS (s.extract j s.size) t = true
    · rw [if_pos c2, if_pos c2, rgives_eq (k := k + 20) hI _ (by rw [ByteArray.size_extract]; omega)]
      have hg := gives_size_le x.f0 x.f1 x.f2 (s.extract j s.size) (by rw [ByteArray.size_extract]; omega)
      simp only [Option.bind_some]
      generalize givesS x.f0 x.f1 x.f2 (s.extract j s.size) = g at hg ⊢
      have hp : (s.extract 0 j).size ≤ 16 := by rw [ByteArray.size_extract]; omega
      rw [if_pos (by omega), ByteArray.size_append]
      by_cases c3 : (s.extract 0 j).size + g.size > 16
      · rw [if_pos (by omega), if_pos c3, if_neg (by decide)]
      · rw [if_neg (by omega), if_neg c3, hto, Option.bind_some, if_pos rfl]
    · rw [if_neg c2, if_neg c2, if_neg (by decide)]
end
theorem l0_up {l : List Ins} {ms : List Int} {F : Fl} {i : Int} {k K : Nat} {r : List ByteArray × Int} (hk : k ≤ K) (h : camshaftref07_Stacks.l0 k l ms F.o F.s F.c i = some r) : camshaftref07_Stacks.l0 K l ms F.o F.s F.c i = some r :=
  at_rounds (g := fun k => camshaftref07_Stacks.l0 k l ms F.o F.s F.c i) (fun k => (camshaftref07_Stacks.mono_l k).1 _ _ _ _ _ _) hk h
/-- The places that may come next, as the reference tells them: handing the stack on to each of them. -/
theorem rnext {l : List Ins} {ms : List Int} {F F' : Fl} (hW : W l) (hl : Ln F l.length) {i : Nat} (hi : i < l.length) {x : ByteArray} {F1 : Fl} (h1 : fallF F i (gI l i).f0 x = some F1) (h2 : leadF F1 i (gI l i).f0 (gI l i).f1 x = some F') :
    Ln F' l.length ∧ ∃ to_, camshaftref07_nexts.f l (i : Int) = some to_ ∧ ∀ k r, camshaftref07_Stacks.l0 k l ms F'.o F'.s F'.c ((i + 1 : Nat) : Int) = some r → camshaftref07_Stacks.l1 (k + 3) l ms F.o F.s F.c (i : Int) x to_ 0 = some r := by
  have hn := hW.1.2.1
  have ho := hl.o
  have e1 : wrap64 ((i : Int) + 1) = ((i + 1 : Nat) : Int) := by unfold wrap64; omega
  unfold camshaftref07_nexts.f
  rw [if_pos (by omega), if_pos (by omega)]
  show Ln F' l.length ∧ ∃ to_, (if (gI l i).f0 = 19 then some [wrap64 (wrap64 ((i : Int) + 1) + (gI l i).f1)] else if (gI l i).f0 = 20 then some [wrap64 ((i : Int) + 1), wrap64 (wrap64 ((i : Int) + 1) + (gI l i).f1)] else if (gI l i).f0 = 25 then some [] else some [wrap64 ((i : Int) + 1)]) = some to_ ∧ _
  unfold fallF at h1
  unfold leadF at h2
  by_cases a19 : (gI l i).f0 = 19
  · rw [if_pos (.inl a19)] at h1
    obtain rfl := Option.some.inj h1
    rw [if_pos (.inl a19)] at h2
    by_cases hb : 0 ≤ (i : Int) + 1 + (gI l i).f1 ∧ (i : Int) + 1 + (gI l i).f1 < F.o.length
    · rw [if_pos hb] at h2
      obtain rfl := Option.some.inj h2
      obtain ⟨t, ht⟩ : ∃ t : Nat, (i : Int) + 1 + (gI l i).f1 = (t : Int) := ⟨((i : Int) + 1 + (gI l i).f1).toNat, by omega⟩
      have e2 : wrap64 (wrap64 ((i : Int) + 1) + (gI l i).f1) = (t : Int) := by rw [e1]; unfold wrap64; omega
      rw [ht, Int.toNat_natCast]
      refine ⟨hl.hand t x, [(t : Int)], by rw [if_pos a19, e2], fun k r hr => ?_⟩
      rw [← Int.natCast_zero, rl1_hand hl (by omega) (k + 2) (by simp) (by simp) rfl (by omega)]
      rw [rl1_end (k + 1) (by simp) (by omega)]
      exact l0_up (by omega) hr
    · rw [if_neg hb] at h2; cases h2
  · rw [if_neg a19]
    by_cases a20 : (gI l i).f0 = 20
    · rw [if_neg (by omega)] at h1
      rw [if_pos (.inr a20)] at h2
      by_cases hb1 : i + 1 < F.o.length
      · rw [if_pos hb1] at h1
        obtain rfl := Option.some.inj h1
        rw [handS_len] at h2
        by_cases hb : 0 ≤ (i : Int) + 1 + (gI l i).f1 ∧ (i : Int) + 1 + (gI l i).f1 < F.o.length
        · rw [if_pos hb] at h2
          obtain rfl := Option.some.inj h2
          obtain ⟨t, ht⟩ : ∃ t : Nat, (i : Int) + 1 + (gI l i).f1 = (t : Int) := ⟨((i : Int) + 1 + (gI l i).f1).toNat, by omega⟩
          have e2 : wrap64 (wrap64 ((i : Int) + 1) + (gI l i).f1) = (t : Int) := by rw [e1]; unfold wrap64; omega
          rw [ht, Int.toNat_natCast]
          refine ⟨(hl.hand (i + 1) x).hand t x, [((i + 1 : Nat) : Int), (t : Int)], by rw [if_pos a20, e2, e1], fun k r hr => ?_⟩
          rw [← Int.natCast_zero, rl1_hand hl (by omega) (k + 2) (by simp) (by simp) rfl (by omega)]
          rw [rl1_hand (hl.hand (i + 1) x) (by omega) (k + 1) (by simp) (by simp) rfl (by omega)]
          rw [rl1_end k (by simp) (by omega)]
          exact hr
        · rw [if_neg hb] at h2; cases h2
      · rw [if_neg hb1] at h1; cases h1
    · rw [if_neg a20]
      rw [if_neg (by omega)] at h2
      obtain rfl := Option.some.inj h2
      by_cases a25 : (gI l i).f0 = 25
      · rw [if_pos (.inr a25)] at h1
        obtain rfl := Option.some.inj h1
        refine ⟨hl, [], by rw [if_pos a25], fun k r hr => ?_⟩
        rw [← Int.natCast_zero, rl1_end (k + 2) (by simp) (by omega)]
        exact l0_up (by omega) hr
      · rw [if_neg (by omega)] at h1
        by_cases hb1 : i + 1 < F.o.length
        · rw [if_pos hb1] at h1
          obtain rfl := Option.some.inj h1
          refine ⟨hl.hand (i + 1) x, [((i + 1 : Nat) : Int)], by rw [if_neg a25, e1], fun k r hr => ?_⟩
          rw [← Int.natCast_zero, rl1_hand hl (by omega) (k + 2) (by simp) (by simp) rfl (by omega)]
          rw [rl1_end (k + 1) (by simp) (by omega)]
          exact l0_up (by omega) hr
        · rw [if_neg hb1] at h1; cases h1
theorem rone {l : List Ins} {ms : List Int} {F F' : Fl} {e : Int} (hW : W l) (hM : ms.length = l.length) (hl : Ln F l.length) {i : Nat} (hi : i < l.length) (hI : I64 (gI l i).f1) (h : oneF F i (gI l i).f0 (gI l i).f1 (gI l i).f2 (ms.getD i 0) = some (F', e)) :
    (e ≠ 0 → ∀ k, camshaftref07_Stacks.l0 (k + 40) l ms F.o F.s F.c (i : Int) = some ([], e)) ∧
    (e = 0 → Ln F' l.length ∧ ∀ k r, camshaftref07_Stacks.l0 k l ms F'.o F'.s F'.c ((i + 1 : Nat) : Int) = some r → camshaftref07_Stacks.l0 (k + 40) l ms F.o F.s F.c (i : Int) = some r) := by
  have hn := hW.1.2.1
  have h1 := hl.o
  have h2 := hl.s
  have h3 := hl.c
  have rc : rdOf false F.c (i : Int) = F.c.getD i false := rfl
  have rs : rdOf false F.s (i : Int) = F.s.getD i false := rfl
  have ro : rdOf ByteArray.empty F.o (i : Int) = F.o.getD i ByteArray.empty := rfl
  have rm : rd ms (i : Int) = ms.getD i 0 := rfl
  have r0 : (rd_T37 l (i : Int)).f0 = (gI l i).f0 := rfl
  unfold oneF at h
  have step : ∀ k, camshaftref07_Stacks.l0 (k + 40) l ms F.o F.s F.c (i : Int) = if F.s.getD i false = true then (if F.c.getD i false = true then camshaftref07_Stacks.j1 (k + 39) l ms F.o F.s F.c (i : Int) true else if (gI l i).f0 = 22 then (if 0 ≤ ms.getD i 0 then (if ms.getD i 0 < (F.o.length : Int) then camshaftref07_Stacks.j1 (k + 39) l ms F.o F.s F.c (i : Int) ((F.o.getD i ByteArray.empty).toList != (F.o.getD (ms.getD i 0).toNat ByteArray.empty).toList) else none) else none) else camshaftref07_Stacks.j1 (k + 39) l ms F.o F.s F.c (i : Int) false) else some ([], 8) := by
    intro k
    simp only [camshaftref07_Stacks.l0]
    rw [if_pos (by omega), if_pos (by omega), if_pos (by omega), if_pos (show (i : Int) < (F.c.length : Int) by omega), if_pos (show (i : Int) < (F.o.length : Int) by omega), if_pos (show (i : Int) < (ms.length : Int) by omega)]
    rfl
  have jt : ∀ k, camshaftref07_Stacks.j1 (k + 39) l ms F.o F.s F.c (i : Int) true = some ([], 10) := fun k => by
    simp only [camshaftref07_Stacks.j1]; rw [if_pos trivial]
  have goG : ∀ {F' : Fl} {e : Int}, oneG F i (gI l i).f0 (gI l i).f1 (gI l i).f2 = some (F', e) →
      (e ≠ 0 → ∀ k, camshaftref07_Stacks.j1 (k + 39) l ms F.o F.s F.c (i : Int) false = some ([], e)) ∧
      (e = 0 → Ln F' l.length ∧ ∀ k r, camshaftref07_Stacks.l0 k l ms F'.o F'.s F'.c ((i + 1 : Nat) : Int) = some r → camshaftref07_Stacks.j1 (k + 39) l ms F.o F.s F.c (i : Int) false = some r) := by
    intro F' e h
    unfold oneG at h
    by_cases hz : (F.o.getD i ByteArray.empty).size ≤ 16 ∧ (Lit.int .i64 (gI l i).f0).wf = true
    · rw [if_pos hz] at h
      have hz1 : (sAt F.o i).size ≤ 16 := hz.1
      by_cases h0 : (afterS (gI l i).f0 (gI l i).f1 (gI l i).f2 (F.o.getD i ByteArray.empty)).2 = 0
      · rw [if_pos h0] at h
        obtain ⟨F1, e1, h⟩ := Option.bind_eq_some_iff.1 h
        obtain ⟨F2, e2, h⟩ := Option.bind_eq_some_iff.1 h
        cases h
        obtain ⟨g1, to_, g2, g3⟩ := rnext (ms := ms) hW hl hi e1 e2
        refine ⟨fun h => absurd rfl h, fun _ => ⟨g1, fun k r hr => ?_⟩⟩
        have ha : (aft (gI l i) (sAt F.o i)).2 = 0 := h0
        have hj := rj1_eq (ms := ms) hl hi (by omega) hI hz1 g2 (k + 8)
        rw [if_pos ha] at hj
        rw [show k + 39 = k + 8 + 31 from by omega, hj]
        exact g3 (k + 35) r (l0_up (by omega) hr)
      · rw [if_neg h0] at h
        cases h
        refine ⟨fun _ k => ?_, fun h => absurd h h0⟩
        obtain ⟨to_, hto⟩ : ∃ to_, camshaftref07_nexts.f l (i : Int) = some to_ := by
          unfold camshaftref07_nexts.f
          rw [if_pos (by omega), if_pos (by omega)]
          (repeat' split) <;> exact ⟨_, rfl⟩
        have hj := rj1_eq (ms := ms) hl hi (by omega) hI hz1 hto (k + 8)
        rw [if_neg h0] at hj
        rw [show k + 39 = k + 8 + 31 from by omega, hj]
    · rw [if_neg hz] at h; cases h
  by_cases hs : F.s.getD i false = false
  · rw [if_pos hs] at h
    cases h
    refine ⟨fun _ k => ?_, fun h => absurd h (by decide)⟩
    rw [step, if_neg (by rw [hs]; decide)]
  rw [if_neg hs] at h
  have hs' : F.s.getD i false = true := by simpa using hs
  by_cases hc : F.c.getD i false = true
  · rw [if_pos hc] at h
    cases h
    refine ⟨fun _ k => ?_, fun h => absurd h (by decide)⟩
    rw [step, if_pos hs', if_pos hc, jt]
  rw [if_neg hc] at h
  by_cases h22 : (gI l i).f0 = 22
  · rw [if_pos h22] at h
    by_cases hm : 0 ≤ ms.getD i 0 ∧ ms.getD i 0 < (F.o.length : Int)
    · rw [if_pos hm] at h
      by_cases he : F.o.getD (ms.getD i 0).toNat ByteArray.empty = F.o.getD i ByteArray.empty
      · rw [if_pos he] at h
        obtain ⟨g1, g2⟩ := goG h
        have st : ∀ k, camshaftref07_Stacks.l0 (k + 40) l ms F.o F.s F.c (i : Int) = camshaftref07_Stacks.j1 (k + 39) l ms F.o F.s F.c (i : Int) false := fun k => by
          rw [step, if_pos hs', if_neg hc, if_pos h22, if_pos hm.1, if_pos hm.2, he, bne_self_eq_false]
        exact ⟨fun h k => (st k).trans (g1 h k), fun h => ⟨(g2 h).1, fun k r hr => (st k).trans ((g2 h).2 k r hr)⟩⟩
      · rw [if_neg he] at h
        cases h
        refine ⟨fun _ k => ?_, fun h => absurd h (by decide)⟩
        rw [step, if_pos hs', if_neg hc, if_pos h22, if_pos hm.1, if_pos hm.2, bne_iff_ne.2 (fun g => he (bl_inj.1 g).symm), jt]
    · rw [if_neg hm] at h; cases h
  · rw [if_neg h22] at h
    obtain ⟨g1, g2⟩ := goG h
    have st : ∀ k, camshaftref07_Stacks.l0 (k + 40) l ms F.o F.s F.c (i : Int) = camshaftref07_Stacks.j1 (k + 39) l ms F.o F.s F.c (i : Int) false := fun k => by
      rw [step, if_pos hs', if_neg hc, if_neg h22]
    exact ⟨fun h k => (st k).trans (g1 h k), fun h => ⟨(g2 h).1, fun k r hr => (st k).trans ((g2 h).2 k r hr)⟩⟩
theorem rrun {l : List Ins} {ms : List Int} (hW : W l) (hM : ms.length = l.length) (hI : In l) : ∀ (d i : Nat) (F : Fl) (r : List ByteArray × Int), i + d = l.length → Ln F l.length → stkF F (l.drop i) ms i = some r → camshaftref07_Stacks.l0 (40 * d + 41) l ms F.o F.s F.c (i : Int) = some r
  | 0, i, F, r, hi, hl, h => by
    rw [List.drop_eq_nil_of_le (by omega)] at h
    obtain rfl := Option.some.inj h
    simp only [camshaftref07_Stacks.l0]
    rw [if_neg (by omega)]
  | d + 1, i, F, r, hi, hl, h => by
    have hil : i < l.length := by omega
    rw [gI_drop hil] at h
    unfold stkF at h
    obtain ⟨⟨F', e⟩, h1, h2⟩ := Option.bind_eq_some_iff.1 h
    dsimp only at h2
    obtain ⟨g1, g2⟩ := rone hW hM hl hil (hI _ (gI_mem hil)) h1
    by_cases he : e = 0
    · rw [if_pos he] at h2
      obtain ⟨q1, q2⟩ := g2 he
      have := q2 _ r (rrun hW hM hI d (i + 1) F' r (by omega) q1 h2)
      rw [show 40 * (d + 1) + 41 = 40 * d + 41 + 40 from by omega]
      exact this
    · rw [if_neg he] at h2
      obtain rfl := Option.some.inj h2
      rw [show 40 * (d + 1) + 41 = 40 * d + 41 + 40 from by omega]
      exact g1 he _
theorem W_uniq {l : List Ins} {e e' : Int} (h : WSpec l e) (h' : WSpec l e') : e = e' := by
  rcases h with ⟨_, rfl⟩ | ⟨_, _, rfl⟩ | ⟨_, _, _, rfl⟩ | ⟨_, _, _, _, rfl⟩ | ⟨_, _, _, _, rfl⟩ <;>
    rcases h' with ⟨_, rfl⟩ | ⟨_, _, rfl⟩ | ⟨_, _, _, rfl⟩ | ⟨_, _, _, _, rfl⟩ | ⟨_, _, _, _, rfl⟩ <;> first | rfl | contradiction
/-- What the reference answers is what the program answers. -/
theorem rstacks_eq {l : List Ins} (hI : In l) (hn : l.length ≤ 1000) {k : Nat} (hk : 100000 ≤ k) : ∃ r, stacksF k l = some r ∧ camshaftref07_Stacks.f k l = some r ∧ (r.2 ≠ 0 → r.1 = []) ∧ (r.2 = 0 → r.1.length = l.length ∧ l.length ≤ 200) := by
  obtain ⟨r, hr, hr1, hr2, _⟩ := stacks_eq l (by omega) (k := k) (by omega)
  refine ⟨r, hr, ?_, hr1, fun h => by obtain ⟨hW, ms, _, hS⟩ := hr2 h; exact ⟨hS.len, hW.1.2.1⟩⟩
  obtain ⟨e, he, hs⟩ := whole_eq l (by omega) (k := k) (by omega)
  obtain ⟨e', he', hs'⟩ := rwhole_eq l hI (by omega) (k := k) (by omega)
  obtain rfl := W_uniq hs hs'
  unfold stacksF at hr
  rw [he, Option.bind_some] at hr
  unfold camshaftref07_Stacks.f
  rw [he', Option.bind_some]
  by_cases h0 : e = 0
  · rw [if_pos h0] at hr ⊢
    have hW := hs.zero.1 h0
    obtain ⟨m, hm, hms⟩ := match_eq l (by omega) (k := k) (by omega)
    obtain ⟨m', hm', hms'⟩ := rmatch_eq l hI (by omega) (k := k) (by omega)
    rw [hm, Option.bind_some] at hr
    rw [hm', Option.bind_some]
    have g : MT l m.1 := by
      rcases hms with ⟨g, _⟩ | ⟨_, g, _⟩ | ⟨_, _, _, g⟩
      · exact absurd hW.1 g
      · exact absurd hW.2.1 g
      · exact g
    have g' : MT l m'.1 := by
      rcases hms' with ⟨g, _⟩ | ⟨_, g, _⟩ | ⟨_, _, _, g⟩
      · exact absurd hW.1 g
      · exact absurd hW.2.1 g
      · exact g
    rw [← g.uniq g']
    have h1 := hW.1.1
    have h2 := hW.1.2.1
    rw [if_pos ⟨by omega, g.1, by omega⟩] at hr
    have := rrun hW g.1 hI l.length 0 _ r (by omega) ((flow0_ln l.length).hand 0 ByteArray.empty) (by rw [List.drop_zero]; exact hr)
    rw [if_pos (by omega), if_pos (by omega), if_pos (by omega), Option.bind_some, if_pos (by simp; omega)]
    have e1 : (handS (flow0 l.length) 0 ByteArray.empty).o = List.replicate l.length ByteArray.empty := by
      show (List.replicate l.length ByteArray.empty).set 0 ByteArray.empty = _
      apply List.ext_getElem (by simp)
      intro j h1 h2
      rw [List.getElem_set]
      split <;> simp
    have e2 : (handS (flow0 l.length) 0 ByteArray.empty).s = (List.replicate l.length false).set 0 true := rfl
    have e3 : (handS (flow0 l.length) 0 ByteArray.empty).c = List.replicate l.length false := by
      show (if (flow0 l.length).s.getD 0 false = true ∧ _ then _ else (flow0 l.length).c) = _
      rw [if_neg]
      · rfl
      · rintro ⟨g, _⟩
        simp only [flow0, List.getD, List.getElem?_replicate] at g
        split at g <;> cases g
    have := l0_up (K := k) (by omega) this
    rw [e1, e2, e3] at this
    exact this
  · rw [if_neg h0] at hr ⊢
    exact hr
end Go.Proofs.Ytdhlhbhclggheaa.NL
