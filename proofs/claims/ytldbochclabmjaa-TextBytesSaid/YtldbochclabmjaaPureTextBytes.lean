/- TextBytes: instructions by their lines, and by their bytes, are the same; two rows have the same lines just if they have the same bytes; for all rows. -/
import Derived.Test.YtldbochclabmjaaTE
import Derived.Test.YtldbochclabmjaaPx2
import Derived.Test.YtldbochclabmjaaPx14
namespace Go.Proofs.Ytldbochclabmjaa.Pure
open Go.RowKit Go.Proofs.Ytldbochclabmjaa.C Go.Proofs.Ytldbochclabmjaa.P Go.Proofs.Ytldbochclabmjaa.TL Go.Proofs.YtldbochclabmjaaW.PrintWords Go.Proofs.YtldbochclabmjaaW.PrintLast Go.Proofs.YtldbochclabmjaaW.PrintMore
set_option linter.unusedVariables false
set_option linter.unusedSimpArgs false

theorem known_y {k : Nat} (hk : 60 ≤ k) : camshaftlaw05_known.f k = some true := at_rounds camshaftlaw05_known.mono hk camshaftlaw05_known.run
/-- A row that can be shown, or none. -/
def eff (l : List Ins) : List Ins := if l.length ≤ 200 ∧ l.all okI = true then l else []
theorem show_eff (l : List Ins) : bl (showS l) = lnR (eff l) := by
  unfold eff
  by_cases h : l.length ≤ 200 ∧ l.all okI = true
  · rw [if_pos h]; exact showS_full h
  · rw [if_neg h]; exact showS_none h
theorem code_eff (l : List Ins) : bl (codeS l) = encR (eff l) := by
  unfold eff codeS
  by_cases h : l.length ≤ 200 ∧ l.all okI = true
  · rw [if_pos h, if_pos h]; rfl
  · rw [if_neg h, if_neg h]; rfl
theorem eff_ok {l : List Ins} (hw : ∀ x ∈ l, InI x) : (∀ x ∈ eff l, InI x ∧ okI x = true) ∧ (eff l).length ≤ 200 ∧ (eff l).all okI = true := by
  unfold eff
  by_cases h : l.length ≤ 200 ∧ l.all okI = true
  · rw [if_pos h]
    exact ⟨fun x hx => ⟨hw x hx, List.all_eq_true.1 h.2 x hx⟩, h.1, h.2⟩
  · rw [if_neg h]
    exact ⟨fun x hx => (by cases hx), Nat.zero_le _, rfl⟩
theorem eff_eff {l : List Ins} (hw : ∀ x ∈ l, InI x) : eff (eff l) = eff l := by
  obtain ⟨_, h2, h3⟩ := eff_ok hw
  exact if_pos ⟨h2, h3⟩
theorem lnR_inj {l m : List Ins} (hl : ∀ x ∈ l, InI x ∧ okI x = true) (hm : ∀ x ∈ m, InI x ∧ okI x = true) (nl : l.length ≤ 200) (nm : m.length ≤ 200) (h : lnR l = lnR m) : l = m := by
  have a := parseI_show (fun x hx => (hl x hx).1) nl (List.all_eq_true.2 fun x hx => (hl x hx).2)
  have b := parseI_show (fun x hx => (hm x hx).1) nm (List.all_eq_true.2 fun x hx => (hm x hx).2)
  rw [h, b] at a
  exact (Prod.mk.inj a).1.symm
theorem same_empty {l : List Ins} (hw : ∀ x ∈ l, InI x) : ((showS l).toList == ([] : List UInt8)) = ((codeS l).toList == ([] : List UInt8)) := by
  obtain ⟨h1, h2, h3⟩ := eff_ok hw
  rw [toList_bl, toList_bl, show_eff, code_eff, Bool.eq_iff_iff, beq_iff_eq, beq_iff_eq, lnR_nil h3, encR_nil (fun x hx => (h1 x hx).1)]
theorem bytes_j1 (k : Nat) (hk : 500 ≤ k) (a b : List Ins) (ha : ∀ x ∈ a, InI x) (hb : ∀ x ∈ b, InI x) : camshaftlaw05_TextBytes.j1 (k + 1) a b (showS a) (showS b) false = some true := by
  have K := known_y (k := k) (by omega)
  obtain ⟨a1, a2, a3⟩ := eff_ok ha
  obtain ⟨b1, b2, b3⟩ := eff_ok hb
  rw [camshaftlaw05_TextBytes.j1, if_neg (by decide)]
  refine Option.bind_eq_some_iff.2 ⟨_, parse_eq (by have := showS_size a; omega), ?_⟩
  have hP : parseI (bl (showS a)) = (eff a, 0) := parseI_showS ha
  rw [hP, if_pos (by rfl)]
  have he : ∀ x ∈ eff a, InI x := fun x hx => (a1 x hx).1
  refine Option.bind_eq_some_iff.2 ⟨_, code_eq he (by omega), ?_⟩
  refine Option.bind_eq_some_iff.2 ⟨_, code_eq ha (by omega), ?_⟩
  rw [if_pos (by rw [toList_bl, toList_bl, code_eff, code_eff, eff_eff ha])]
  refine Option.bind_eq_some_iff.2 ⟨_, code_eq ha (by omega), ?_⟩
  refine Option.bind_eq_some_iff.2 ⟨_, code_eq hb (by omega), ?_⟩
  rw [if_pos (by
    rw [beq_iff_eq, Bool.eq_iff_iff, beq_iff_eq, beq_iff_eq, toList_bl, toList_bl, toList_bl, toList_bl, show_eff, show_eff, code_eff, code_eff]
    exact ⟨fun h => by rw [lnR_inj a1 b1 a2 b2 h], fun h => by rw [encR_inj _ _ a1 b1 h]⟩)]
  exact Option.bind_eq_some_iff.2 ⟨_, K, rfl⟩
theorem bytes_j0 (k : Nat) (hk : 600 ≤ k) (a b : List Ins) (ha : ∀ x ∈ a, InI x) (hb : ∀ x ∈ b, InI x) (v : Bool) : camshaftlaw05_TextBytes.j0 (k + 1) a b v = some true := by
  have K := known_y (k := k) (by omega)
  rw [camshaftlaw05_TextBytes.j0]
  by_cases h0 : v = true
  · rw [if_pos h0]
    exact Option.bind_eq_some_iff.2 ⟨_, K, rfl⟩
  rw [if_neg h0]
  obtain ⟨k, rfl⟩ : ∃ q, k = q + 1 := ⟨k - 1, by omega⟩
  refine Option.bind_eq_some_iff.2 ⟨_, show_eq ha (by omega), ?_⟩
  refine Option.bind_eq_some_iff.2 ⟨_, show_eq hb (by omega), ?_⟩
  refine Option.bind_eq_some_iff.2 ⟨_, code_eq ha (by omega), ?_⟩
  have ea : (((showS a).toList == ([] : List UInt8)) != ((codeS a).toList == ([] : List UInt8))) = false := bne_eq_false_iff_eq.2 (same_empty ha)
  have eb : (((showS b).toList == ([] : List UInt8)) != ((codeS b).toList == ([] : List UInt8))) = false := bne_eq_false_iff_eq.2 (same_empty hb)
  rw [ea, if_neg (by decide)]
  refine Option.bind_eq_some_iff.2 ⟨_, code_eq hb (by omega), ?_⟩
  rw [eb]
  exact bytes_j1 k (by omega) a b ha hb
theorem bytes_all (k : Nat) (hk : 700 ≤ k) (a b : List Ins) (ha : ∀ x ∈ a, InI x) (hb : ∀ x ∈ b, InI x) : camshaftlaw05_TextBytes.f k a b = some true := by
  obtain ⟨k, rfl⟩ : ∃ q, k = q + 1 := ⟨k - 1, by omega⟩
  unfold camshaftlaw05_TextBytes.f
  by_cases h0 : (a.length : Int) > 200
  · rw [if_pos h0]
    exact bytes_j0 k (by omega) a b ha hb _
  · rw [if_neg h0]
    exact bytes_j0 k (by omega) a b ha hb _
theorem TextBytes : camshaftlaw05_TextBytes.Pure := fun a b _ wa _ wb => ⟨700, bytes_all 700 (Nat.le_refl _) a b (InI_of wa) (InI_of wb)⟩

end Go.Proofs.Ytldbochclabmjaa.Pure
