/- Rows of instructions that come in: what a slice of instructions, or an instruction, that can be read as data holds. No conditions. -/
import Derived.Test.YtdhlhbhclggheaaQx0
import Derived.SizedLaws
import Derived.Deep.Slices
import Derived.Deep.Strs
import Derived.ChangeSame
import Derived.OpenShut
namespace Go.Proofs.Ytdhlhbhclggheaa.Q
open Go.ChangeShapes Go.WideShapes Go.Deep Go.RowKit Go.Proofs.Ytdhlhbhclggheaa.D Go.Proofs.YtdhlhbhclggheaaW.PrintWords Go.Proofs.YtdhlhbhclggheaaW.PrintLast Go.Proofs.YtdhlhbhclggheaaW.PrintMore

theorem cellsInstr : Try.prog.cellsOf 37 = 3 := by kernel_rfl
theorem cellsInt : Try.prog.cellsOf 3 = 1 := by kernel_rfl
/-- Each number of an instruction is an int's. -/
def WfI (x : S37) : Prop := (Lit.int .i64 x.f0).wf = true ∧ (Lit.int .i64 x.f1).wf = true ∧ (Lit.int .i64 x.f2).wf = true
section
variable {H : Type} {enc : TypeId × Value → H} {w : World} {base : Nat} {spare : Nat → Bool} {held : Bool}
theorem open_instr_cells {fuel : Nat} {cs : List Value} {x : DataW H × List MemPlace} (h : DataW.trod enc Try.prog w base spare held fuel 37 cs = some x) :
    ∃ y : S37, cs = [.int .i64 y.f0, .int .i64 y.f1, .int .i64 y.f2] ∧ WfI y := by
  obtain ⟨y0, y1, y2, n, hx, hl, h0, h1, h2⟩ := trod_struct3 Try.underlying37 h
  rw [cellsInstr] at hl
  rw [cellsInt] at h0 h1 h2
  match cs, hl with
  | [c0, c1, c2], _ =>
    obtain ⟨n0, e0, _, w0⟩ := DataW.trod_int Try.underlying3 h0
    obtain ⟨n1, e1, _, w1⟩ := DataW.trod_int Try.underlying3 h1
    obtain ⟨n2, e2, _, w2⟩ := DataW.trod_int Try.underlying3 h2
    simp at e0 e1 e2
    subst e0 e1 e2
    exact ⟨⟨n0, n1, n2⟩, rfl, w0, w1, w2⟩
theorem open_instrs {fuel : Nat} {a : Option Addr} {len cap : Nat} {x : DataW H × List MemPlace} (h : DataW.trod enc Try.prog w base spare held fuel 22 [.slice a len cap] = some x) :
    ∃ l : List S37, len = l.length ∧ l.length ≤ cap ∧ Kd.C k37 w a l.length l ∧ (∀ y ∈ l, WfI y) ∧ (x.1 = .nil ∧ l = [] ∨ ∃ es sp, x.1 = .slice es sp ∧ es.length = l.length) := by
  rcases open_slice Try.underlying22 h with ⟨hcs, hx⟩ | ⟨a', len', cap', m, n, D, Pl, hcs, hb, hl, hm, hmm, hx, hi⟩
  · simp at hcs
    obtain ⟨rfl, rfl, rfl⟩ := hcs
    refine ⟨[], rfl, Nat.le_refl _, ⟨rfl, by decide, fun h => absurd h (by simp)⟩, fun y hy => by simp at hy, .inl ⟨by rw [hx], rfl⟩⟩
  · simp at hcs
    obtain ⟨rfl, rfl, rfl⟩ := hcs
    have hlm : len ≤ m := by rw [hmm]; split <;> omega
    have hE : ∀ i, i < len → ∃ y : S37, (∀ j v, ([.int .i64 y.f0, .int .i64 y.f1, .int .i64 y.f2] : List Value)[j]? = some v → w.cell? (a'.add (i * 3 + j)) = some v) ∧ WfI y := by
      intro i hil
      obtain ⟨cs', hc, ht⟩ := hi i (by omega)
      rw [cellsInstr] at hc
      obtain ⟨y, rfl, hw⟩ := open_instr_cells ht
      obtain ⟨_, hcl, hat⟩ := World.cells?_some hc
      refine ⟨y, fun j v hv => ?_, hw⟩
      have hj : j < 3 := by
        have := (List.getElem?_eq_some_iff.1 hv).1
        simpa using this
      have := hat j hj
      rw [← Go.Deep.add_add, this]
      exact hv
    have : Inhabited S37 := ⟨z37⟩
    obtain ⟨E, hE⟩ := choose_lt hE
    refine ⟨(List.range len).map E, by simp, by simpa using hl, ?_, ?_, .inr ⟨_, _, by rw [hx], by simp⟩⟩
    · refine ⟨rfl, by simp; unfold maxLen at hm; omega, fun _ => ⟨a', rfl, fun j p hj => ?_⟩⟩
      obtain ⟨hj1, hj2⟩ := List.getElem?_eq_some_iff.1 hj
      simp at hj1 hj2
      subst hj2
      exact ⟨_, rfl, k37_mk w (E j), (hE j hj1).1⟩
    · intro y hy
      simp only [List.mem_map, List.mem_range] at hy
      obtain ⟨i, hi', rfl⟩ := hy
      exact (hE i hi').2
end
/-- A row's slice of instructions is no longer than its weight allows. -/
theorem sized_instrs {H : Type} {enc : TypeId × Value → H} {W : World} {base : Nat} {spare : Nat → Bool} {held : Bool} {a : Option Addr} {len cap : Nat} {d : DataW H} {ps : List MemPlace} {ts : List TypeId} {ds : List (DataW H)} {j : Nat}
    (hsz : (DataW.weightsEach Try.prog ts ds).all (· ≤ reachBytes) = true) (ht : ts[j]? = some 22) (hd : ds[j]? = some d)
    (h : DataW.Trod enc Try.prog W base spare held 22 (.slice a len cap) d ps) :
    ∃ l : List S37, len = l.length ∧ l.length ≤ cap ∧ Kd.C k37 W a l.length l ∧ (∀ y ∈ l, WfI y) ∧ l.length * 24 ≤ 140737488351232 := by
  obtain ⟨fuel, hf⟩ := h
  obtain ⟨l, h1, h2, h3, h4, h5⟩ := open_instrs (x := (d, ps)) hf
  refine ⟨l, h1, h2, h3, h4, ?_⟩
  rcases h5 with ⟨_, rfl⟩ | ⟨es, sp, h6, h7⟩
  · simp
  · simp only at h6
    subst h6
    have z := sized_slice hsz ht hd Try.underlying22
    rw [show Try.prog.bytesOf 37 = 24 by kernel_rfl] at z
    rw [← h7]
    exact Nat.le_trans (Nat.mul_le_mul_right _ (Nat.le_add_right _ _)) z

end Go.Proofs.Ytdhlhbhclggheaa.Q
