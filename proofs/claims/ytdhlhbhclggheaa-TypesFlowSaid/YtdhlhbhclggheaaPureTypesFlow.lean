/- TypesFlow: an instruction leaves what it does not take, and what it gives: so it stands ahead of each that may come next; the first one has nothing; a loop leaves the stack as it was; for all rows. -/
import Derived.Test.YtdhlhbhclggheaaTF
import Derived.Test.YtdhlhbhclggheaaFW
namespace Go.Proofs.Ytdhlhbhclggheaa.Pure
open Go.RowKit Go.Proofs.Ytdhlhbhclggheaa.P Go.Proofs.Ytdhlhbhclggheaa.NL Go.Proofs.YtdhlhbhclggheaaW.PrintWords Go.Proofs.YtdhlhbhclggheaaW.PrintLast Go.Proofs.YtdhlhbhclggheaaW.PrintMore
set_option linter.unusedVariables false

theorem aft_left {x : Ins} {s : ByteArray} (h : (aft x s).2 = 0) : (takesS x.f0 x.f1 x.f2).size ≤ s.size ∧ (aft x s).1 = s.extract 0 (s.size - (takesS x.f0 x.f1 x.f2).size) ++ givesS x.f0 x.f1 x.f2 (s.extract (s.size - (takesS x.f0 x.f1 x.f2).size) s.size) := by
  unfold aft afterS at h ⊢
  split at h
  · simp at h
  · rename_i h1
    rw [if_neg h1]
    split at h
    · rename_i h2
      rw [if_pos h2]
      split at h
      · simp at h
      · rename_i h3
        rw [if_neg h3]
        exact ⟨by omega, rfl⟩
    · simp at h
theorem gI_toD (l : List S37) {i : Nat} (hi : i < l.length) : gI (l.map toD) i = toD (rd_T37 l (i : Int)) := by
  show (l.map toD).getD i _ = toD (l.getD i _)
  simp [List.getD, hi]
theorem flow_walk (A0 : Option Addr) (c0 : Nat) (l0 : List S37) (w : World) (hr0 : Kd.C k37 w A0 l0.length l0) (hc0 : l0.length ≤ c0) (y0 : l0.length * 24 ≤ 140737488351232) (hw0 : ∀ x ∈ l0, (Lit.int .i64 x.f0).wf = true ∧ (Lit.int .i64 x.f1).wf = true ∧ (Lit.int .i64 x.f2).wf = true) :
    Calls Try.prog 4 #[.slice A0 l0.length c0] w fun e w' => e = .returned (.bool true) ∧ Below w.heap.size w w' := by
  obtain ⟨k, hk⟩ : ∃ k, k = 4 * l0.length + 1000 := ⟨_, rfl⟩
  by_cases h200 : 200 < l0.length
  · exact flow_long (k := k) (by omega) A0 c0 l0 w h200
  obtain ⟨r, hr, h1, h2, _⟩ := stacks_eq (l0.map toD) (by rw [List.length_map]; omega) (k := k) (by rw [List.length_map]; omega)
  by_cases h0 : r.2 = 0
  · obtain ⟨hW, ms, hM, hS⟩ := h2 h0
    obtain ⟨m, hm, hms⟩ := match_eq (l0.map toD) (by rw [List.length_map]; omega) (k := k) (by rw [List.length_map]; omega)
    have hmz : m.2 = 0 ∧ MT (l0.map toD) m.1 := by
      rcases hms with ⟨g, _⟩ | ⟨_, g, _⟩ | ⟨_, _, g1, g2⟩
      · exact absurd hW.1 g
      · exact absurd hW.2.1 g
      · exact ⟨g1, g2⟩
    have hu := hM.uniq hmz.2
    subst hu
    have hl : (l0.map toD).length = l0.length := by rw [List.length_map]
    have h11 := hW.1.1
    have hlen := hS.len
    have hmlen := hM.1
    refine flow_good (k := k) (by omega) A0 c0 l0 w hr0 hc0 (by omega) (by omega) r.1 m.1 ?_ ?_ (by omega) (by omega) hS.zero fun i hi => ?_
    · show stacksF k (l0.map toD) = _
      rw [hr, ← h0]
    · show Go.Proofs.Ytdhlhbhclggheaa.D.nest_Match.f k (l0.map toD) = _
      rw [hm, ← hmz.1]
    · have hiL : i < (l0.map toD).length := by omega
      have hg := gI_toD l0 hi
      obtain ⟨x, hx⟩ : ∃ x, rd_T37 l0 (i : Int) = x := ⟨_, rfl⟩
      rw [hx] at hg ⊢
      have hok := hS.ok i hiL
      have hal := aft_left hok
      have hnext := hS.next i hiL
      have hokI := hW.1.at hiL
      rw [hg] at hal hnext hokI
      have e : ∀ t, nx (l0.map toD) i t → t < l0.length ∧ r.1.getD t ByteArray.empty = leftS x (r.1.getD i ByteArray.empty) := fun t ht => by
        have h5 := nx_lt hW hiL ht
        exact ⟨by omega, (hnext t ht).trans hal.2⟩
      refine ⟨ok_wf hokI, hS.size i hiL, hal.1, fun n19 n25 => ?_, fun hh => ?_, fun h22 => ?_⟩
      · exact e (i + 1) (.inl ⟨rfl, by rw [hg]; exact n19, by rw [hg]; exact n25⟩)
      · have h0' := (ok_args hokI).2.2.2.2.1 hh
        have h0'' : 0 ≤ x.f1 := h0'.1
        obtain ⟨t, ht⟩ : ∃ t : Nat, (t : Int) = (i : Int) + 1 + x.f1 := ⟨((i : Int) + 1 + x.f1).toNat, by omega⟩
        obtain ⟨e1, e2⟩ := e t (.inr ⟨by rw [hg]; exact hh, by rw [hg]; exact ht⟩)
        exact ⟨t, e1, ht.symm, e2⟩
      · have h22' : (gI (l0.map toD) i).f0 = 22 := by rw [hg]; exact h22
        obtain ⟨q, q1, q2⟩ := back_lt hM hiL h22'
        have hb := hS.back i hiL h22'
        rw [q1] at hb
        exact ⟨q, by omega, q1, hb⟩
  · refine flow_wrong (k := k) (by omega) A0 c0 l0 w hr0 hc0 (by omega) r.2 h0 ?_
    show stacksF k (l0.map toD) = _
    rw [hr, ← h1 h0]
end Go.Proofs.Ytdhlhbhclggheaa.Pure
