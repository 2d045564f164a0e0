/- TextParts: lines one behind the other are the instructions one behind the other; each line ends with the byte 10, and has no other one; for all rows. -/
import Derived.Test.YtldbochclabmjaaTS
import Derived.Test.YtldbochclabmjaaPx2
import Derived.Test.YtldbochclabmjaaPx13
namespace Go.Proofs.Ytldbochclabmjaa.Pure
open Go.RowKit Go.Proofs.Ytldbochclabmjaa.C Go.Proofs.Ytldbochclabmjaa.P Go.Proofs.Ytldbochclabmjaa.TL Go.Proofs.YtldbochclabmjaaW.PrintWords Go.Proofs.YtldbochclabmjaaW.PrintLast Go.Proofs.YtldbochclabmjaaW.PrintMore
set_option linter.unusedVariables false
set_option linter.unusedSimpArgs false

theorem known_p {k : Nat} (hk : 60 ≤ k) : camshaftlaw05_known.f k = some true := at_rounds camshaftlaw05_known.mono hk camshaftlaw05_known.run
theorem bt_is {s : ByteArray} {i : Nat} (h : i < (bl s).length) : bt s (i : Int) = (((bl s)[i]).toNat : Int) := by
  unfold bt
  have h' : ((i : Int)).toNat < s.size := by rw [bl_size]; simpa using h
  rw [dif_pos h']
  rfl
theorem lnR_append (a b : List Ins) : lnR (a ++ b) = lnR a ++ lnR b := by simp [lnR]
theorem parts_l0 (a b : List Ins) (s : ByteArray) (hc : (bl s).count 10 = a.length) (hs : s.size ≤ 20000) (hab : a.length + b.length ≤ 200) :
    ∀ (d i k : Nat) (c : Int), i + d = (bl s).length → d + 400 ≤ k → c + (((bl s).drop i).count 10 : Nat) = (a.length : Int) → 0 ≤ c →
    camshaftlaw05_TextParts.l0 k a b s (a ++ b) 0 c (i : Int) = some true := by
  have hl : (bl s).length = s.size := (bl_size s).symm
  intro d
  induction d with
  | zero =>
    intro i k c hi hk hcc hc0
    obtain ⟨k, rfl⟩ : ∃ m, k = m + 1 := ⟨k - 1, by omega⟩
    have K := known_p (k := k) (by omega)
    simp only [camshaftlaw05_TextParts.l0]
    rw [List.drop_eq_nil_of_le (by omega)] at hcc
    rw [if_neg (by omega), if_pos (by simp), Option.bind_some, if_pos (by simp; omega), Option.bind_some, List.nil_append, if_pos (by omega)]
    obtain ⟨r, r1, r2⟩ := rsameI_eq (a ++ b) (a ++ b) (by simp; omega) (k := k) (by simp; omega)
    refine Option.bind_eq_some_iff.2 ⟨_, r1, ?_⟩
    rw [if_pos (r2.2 rfl), if_pos (by simpa using hcc)]
    exact Option.bind_eq_some_iff.2 ⟨_, K, rfl⟩
  | succ d ih =>
    intro i k c hi hk hcc hc0
    obtain ⟨k, rfl⟩ : ∃ m, k = m + 1 := ⟨k - 1, by omega⟩
    have hlt : i < (bl s).length := by omega
    have hw : wrap64 ((i : Int) + 1) = ((i + 1 : Nat) : Int) := by unfold wrap64; omega
    have g1 : (i : Int) < (s.size : Int) := by rw [← hl]; omega
    have g2 : (0 : Int) ≤ (i : Int) := Int.natCast_nonneg _
    have hd : (bl s).drop i = (bl s)[i] :: (bl s).drop (i + 1) := List.drop_eq_getElem_cons hlt
    simp only [camshaftlaw05_TextParts.l0]
    refine (if_pos g1).trans ?_
    refine (if_pos g2).trans ?_
    rw [bt_is hlt, hw]
    rw [hd] at hcc
    generalize (bl s)[i] = y at hcc
    by_cases h10 : y = 10
    · subst h10
      refine (if_pos (show ((10 : UInt8).toNat : Int) = 10 from rfl)).trans ?_
      have hcc' : c + 1 + (((bl s).drop (i + 1)).count 10 : Nat) = (a.length : Int) := by rw [List.count_cons_self] at hcc; omega
      have hw2 : wrap64 (c + 1) = c + 1 := wrap64_id (by unfold I64; omega)
      rw [hw2]
      exact ih (i + 1) k (c + 1) (by omega) (by omega) hcc' (by omega)
    · refine (if_neg (show ¬ ((y.toNat : Int) = 10) from fun e => h10 (UInt8.toNat_inj.1 (show y.toNat = 10 by omega)))).trans ?_
      have hcc' : c + (((bl s).drop (i + 1)).count 10 : Nat) = (a.length : Int) := by
        rw [List.count_cons_of_ne (by simpa using h10)] at hcc
        exact hcc
      exact ih (i + 1) k c (by omega) (by omega) hcc' hc0
theorem parts_all (k : Nat) (hk : 30000 ≤ k) (a b : List Ins) (ha : ∀ x ∈ a, InI x) (hb : ∀ x ∈ b, InI x) (la : a.length * 24 ≤ 140737488351232) (lb : b.length * 24 ≤ 140737488351232) : camshaftlaw05_TextParts.f k a b = some true := by
  have K := known_p (k := k) (by omega)
  unfold camshaftlaw05_TextParts.f
  have hw : wrap64 ((a.length : Int) + (b.length : Int)) = (a.length : Int) + (b.length : Int) := by unfold wrap64; omega
  rw [hw]
  by_cases h0 : (a.length : Int) + (b.length : Int) > 200
  · rw [if_pos h0]
    exact Option.bind_eq_some_iff.2 ⟨_, K, rfl⟩
  rw [if_neg h0]
  refine Option.bind_eq_some_iff.2 ⟨_, show_eq ha (by omega), ?_⟩
  refine Option.bind_eq_some_iff.2 ⟨_, show_eq hb (by omega), ?_⟩
  obtain ⟨k, rfl⟩ : ∃ q, k = q + 1 := ⟨k - 1, by omega⟩
  have K' := known_p (k := k) (by omega)
  by_cases h1 : (showS a).toList = ([] : List UInt8)
  · rw [if_pos h1]
    simp only [camshaftlaw05_TextParts.j0]
    rw [if_pos (by simp)]
    exact Option.bind_eq_some_iff.2 ⟨_, K', rfl⟩
  rw [if_neg h1]
  by_cases h2 : (showS b).toList = ([] : List UInt8)
  · rw [show ((showS b).toList == ([] : List UInt8)) = true from beq_iff_eq.2 h2]
    simp only [camshaftlaw05_TextParts.j0]
    rw [if_pos (by simp)]
    exact Option.bind_eq_some_iff.2 ⟨_, K', rfl⟩
  rw [show ((showS b).toList == ([] : List UInt8)) = false from beq_eq_false_iff_ne.2 h2]
  have fa : a.length ≤ 200 ∧ a.all okI = true := Classical.byContradiction fun h => h1 (by rw [toList_bl]; exact showS_none h)
  have fb : b.length ≤ 200 ∧ b.all okI = true := Classical.byContradiction fun h => h2 (by rw [toList_bl]; exact showS_none h)
  have sa := showS_size a
  have sb := showS_size b
  simp only [camshaftlaw05_TextParts.j0]
  rw [if_neg (by decide), if_pos (by omega)]
  refine Option.bind_eq_some_iff.2 ⟨_, parse_eq (by rw [ByteArray.size_append]; omega), ?_⟩
  have hP : parseI (bl (showS a ++ showS b)) = (a ++ b, 0) := by
    rw [bl_app, showS_full fa, showS_full fb, ← lnR_append]
    exact parseI_show (fun x hx => (List.mem_append.1 hx).elim (ha x) (hb x)) (by simp; omega) (by rw [List.all_append, fa.2, fb.2]; rfl)
  rw [hP]
  have hc : (bl (showS a)).count 10 = a.length := by
    rw [showS_full fa, lnR_show, count_show _ (fun x hx => (all_ok ha fa.2 x hx).1), List.length_map]
  have := parts_l0 a b (showS a) hc (by omega) (by omega) (bl (showS a)).length 0 k 0 (by omega) (by rw [← bl_size]; omega) (by rw [List.drop_zero, hc]; omega) (by omega)
  exact this
theorem TextParts : camshaftlaw05_TextParts.Pure := fun a b la wa lb wb => ⟨30000, parts_all 30000 (Nat.le_refl _) a b (InI_of wa) (InI_of wb) la lb⟩

end Go.Proofs.Ytldbochclabmjaa.Pure
