/- More of rows of instructions as bytes: reading the bytes of a row, a cut row, and back. No conditions beyond those that each lemma states. -/
import Derived.Test.YtnfoebbdmekbiaaOC
namespace Go.Proofs.Ytnfoebbdmekbiaa.OL
open Go.RowKit Go.Proofs.Ytnfoebbdmekbiaa.C Go.Proofs.Ytnfoebbdmekbiaa.P Go.Proofs.Ytnfoebbdmekbiaa.CM Go.Proofs.Ytnfoebbdmekbiaa.CL Go.Proofs.YtnfoebbdmekbiaaW.PrintWords Go.Proofs.YtnfoebbdmekbiaaW.PrintLast Go.Proofs.YtnfoebbdmekbiaaW.PrintMore

/-- Reading goes over the instructions that stand there. -/
theorem read_run (s : ByteArray) : ∀ (m : List Ins) (A p : List UInt8) (acc : List Ins) (f : Nat) (at_ : Int), (∀ x ∈ m, InI x ∧ okI x = true) → bl s = A ++ encR m ++ p → at_ = (A.length : Int) → acc.length + m.length ≤ 200 →
    readI (f + m.length) s acc at_ = readI f s (acc ++ m) (((A ++ encR m).length : Nat) : Int) := by
  intro m
  induction m with
  | nil =>
    intro A p acc f at_ _ _ ha _
    rw [ha, show encR [] = [] from rfl, List.append_nil, List.append_nil]
    rfl
  | cons x m ih =>
    intro A p acc f at_ hm hs ha hn
    have hx := hm x (by simp)
    have hl := encX_len hx.1
    rw [List.length_cons] at hn
    have hsp : bl s = A ++ encX x ++ (encR m ++ p) := by rw [hs, encR_cons]; simp only [List.append_assoc]
    have D : decS s at_ = (x.f0, x.f1, x.f2, at_ + ((encX x).length : Int), 0) := decS_enc hx.2 hx.1.2.1 hx.1.2.2 hsp ha
    have hsz : s.size = A.length + (encX x).length + (encR m ++ p).length := by rw [bl_size, hsp]; simp only [List.length_append]
    rw [show f + (x :: m).length = (f + m.length) + 1 from rfl]
    simp only [readI]
    rw [if_pos (by omega), if_neg (by omega), D]
    dsimp only
    rw [if_pos rfl]
    have := ih (A ++ encX x) p (acc ++ [x]) f (at_ + ((encX x).length : Int)) (fun y hy => hm y (by simp [hy])) (by rw [hs, encR_cons]; simp only [List.append_assoc]) (by rw [ha, List.length_append]; omega) (by rw [List.length_append]; simp; omega)
    refine this.trans ?_
    rw [encR_cons]
    simp only [List.append_assoc, List.singleton_append]
theorem read_end (s : ByteArray) (f : Nat) (acc : List Ins) : readI (f + 1) s acc (s.size : Int) = (acc, 0) := by
  simp only [readI]
  rw [if_neg (by omega)]
/-- The bytes of a row are read as the row. -/
theorem readS_enc {l : List Ins} (h : ∀ x ∈ l, InI x ∧ okI x = true) (hn : l.length ≤ 200) {s : ByteArray} (hs : bl s = encR l) : readS s = (l, 0) := by
  have hL := encR_len (fun x hx => (h x hx).1)
  have hsz : s.size = (encR l).length := by rw [bl_size, hs]
  unfold readS
  have := read_run s l [] [] [] (s.size + 1 - l.length) 0 h (by rw [hs]; simp) rfl (by simpa using hn)
  rw [show s.size + 1 - l.length + l.length = s.size + 1 by omega] at this
  rw [this, List.nil_append, List.nil_append, ← hsz, show s.size + 1 - l.length = (s.size - l.length) + 1 by omega, read_end]
/-- Bytes that end inside of an instruction are short. -/
theorem readS_cut {l : List Ins} (h : ∀ x ∈ l, InI x ∧ okI x = true) (hn : l.length < 200) {x : Ins} (hx : InI x ∧ okI x = true) {p q : List UInt8} (hp : p ≠ []) (hq : q ≠ []) (he : encX x = p ++ q) {s : ByteArray} (hs : bl s = encR l ++ p) : readS s = ([], 2) := by
  have hL := encR_len (fun x hx => (h x hx).1)
  have hsz : s.size = (encR l).length + p.length := by rw [bl_size, hs, List.length_append]
  have hpl := List.length_pos_iff.2 hp
  unfold readS
  have := read_run s l [] p [] (s.size + 1 - l.length) 0 h (by rw [hs]; simp) rfl (by simp; omega)
  rw [show s.size + 1 - l.length + l.length = s.size + 1 by omega] at this
  rw [this, List.nil_append, List.nil_append, show s.size + 1 - l.length = (s.size - l.length) + 1 by omega]
  have D := decS_cut (s := s) (at_ := ((encR l).length : Int)) hx.2 hx.1.2.1 hx.1.2.2 hs he hq rfl
  simp only [readI]
  rw [if_pos (by omega), if_neg (by omega), D]
  dsimp only
  rw [if_neg (by decide)]
/-- What is read has the bytes that were read. -/
theorem read_back (s : ByteArray) : ∀ (f : Nat) (acc : List Ins) (at_ : Int) (y : List Ins), 0 ≤ at_ → at_ ≤ (s.size : Int) → acc.length ≤ 200 → readI f s acc at_ = (y, 0) →
    ∃ m, y = acc ++ m ∧ y.length ≤ 200 ∧ bl s = (bl s).take at_.toNat ++ encR m ∧ ∀ x ∈ m, InI x ∧ okI x = true := by
  intro f
  induction f with
  | zero => intro acc at_ y _ _ _ h; simp [readI] at h
  | succ f ih =>
    intro acc at_ y h0 h1 hn h
    simp only [readI] at h
    by_cases h3 : at_ < (s.size : Int)
    · rw [if_pos h3] at h
      by_cases h4 : acc.length = 200
      · rw [if_pos h4] at h; simp at h
      · rw [if_neg h4] at h
        by_cases h5 : (decS s at_).2.2.2.2 = 0
        · rw [if_pos h5] at h
          have hstep := decS_step h5
          obtain ⟨g1, g2, g3, g4, g5, g6, r, g7⟩ := decS_ok (s := s) (at_ := at_) (a := (decS s at_).1) (b := (decS s at_).2.1) (c := (decS s at_).2.2.1) (nx := (decS s at_).2.2.2.1) (by rw [← h5])
          generalize (decS s at_).1 = a at *
          generalize (decS s at_).2.1 = b at *
          generalize (decS s at_).2.2.1 = c at *
          generalize (decS s at_).2.2.2.1 = nx at *
          obtain ⟨m, e1, e2, e3, e4⟩ := ih _ nx y (by omega) hstep.2 (by rw [List.length_append]; simp; omega) h
          refine ⟨(⟨a, b, c⟩ : Ins) :: m, by rw [e1]; simp, e2, ?_, ?_⟩
          · have hA : ((bl s).take at_.toNat).length = at_.toNat := by rw [List.length_take, ← bl_size]; omega
            have ht : (bl s).take nx.toNat = (bl s).take at_.toNat ++ encI a b c := by
              have : nx.toNat = ((bl s).take at_.toNat ++ encI a b c).length := by rw [List.length_append, hA]; omega
              rw [this]
              generalize (bl s).take at_.toNat = A at *
              rw [g7, List.take_left]
            rw [ht] at e3
            rw [encR_cons, ← List.append_assoc]
            exact e3
          · intro x hx
            rcases List.mem_cons.1 hx with rfl | hx
            · exact ⟨⟨show I64 a from by have := right_range g1; unfold I64; omega, g2, g3⟩, g1⟩
            · exact e4 x hx
        · rw [if_neg h5] at h
          exact absurd (Prod.mk.inj h).2 h5
    · rw [if_neg h3] at h
      obtain ⟨rfl, _⟩ := Prod.mk.inj h
      refine ⟨[], by simp, hn, ?_, by simp⟩
      rw [show encR [] = [] from rfl, List.append_nil, List.take_of_length_le (by rw [← bl_size]; omega)]

end Go.Proofs.Ytnfoebbdmekbiaa.OL
