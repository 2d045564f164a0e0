/- The reference's lines, numbers, cuts: they are the program's; for all instructions and texts. -/
import Derived.Test.YtldbochclabmjaaTS
import Derived.Test.YtldbochclabmjaaNRR
import Derived.Test.YtldbochclabmjaaPx5
namespace Go.Proofs.Ytldbochclabmjaa.TL
open Go.RowKit Go.Proofs.Ytldbochclabmjaa.C Go.Proofs.Ytldbochclabmjaa.P Go.Proofs.YtldbochclabmjaaW.PrintWords Go.Proofs.YtldbochclabmjaaW.PrintLast Go.Proofs.YtldbochclabmjaaW.PrintMore
set_option linter.unusedVariables false
set_option linter.unusedSimpArgs false

theorem rname (a : Int) : camshaftref04_Name.f a = some (kindOf a).1 := NL.rname_eq a
theorem rargs (a : Int) : camshaftref04_Args.f a = some (kindOf a).2.1 := NL.rargs_eq a
theorem rright {a b c : Int} (hb : I64 b) (k : Nat) : camshaftref04_Right.f (k + 4) a b c = some (rightK (kindOf a) b c) := NL.rright_eq hb
theorem size_lit (c : UInt8) : (⟨#[c]⟩ : ByteArray).size = 1 := rfl
theorem rline_j0 (a b c : Int) (hc : I64 c) (k : Nat) (x : ByteArray) (hx : x.size ≤ 100) : camshaftref05_Line.j0 (k + 41) x a b c = some (ofL (bl x ++ ((if (kindOf a).2.1 = 2 then 32 :: digL c else []) ++ [10]))) := by
  have lc := digL_len c
  have zc : (digS c).size ≤ 21 := by rw [bl_size]; exact lc
  rw [show k + 41 = (k + 40) + 1 from rfl, camshaftref05_Line.j0]
  refine Option.bind_eq_some_iff.2 ⟨_, rargs a, ?_⟩
  by_cases h2 : (kindOf a).2.1 = 2
  · rw [if_pos h2, if_pos h2, if_pos (by omega)]
    refine Option.bind_eq_some_iff.2 ⟨_, rdigits_eq c hc k, ?_⟩
    rw [if_pos (by rw [ByteArray.size_append, size_lit]; omega), if_pos (by simp only [ByteArray.size_append, size_lit]; omega)]
    refine congrArg some (bl_inj ?_)
    simp only [bl_app, bl_ofL, List.append_assoc]
    rfl
  · rw [if_neg h2, if_neg h2, if_pos (by omega)]
    refine congrArg some (bl_inj ?_)
    simp only [bl_app, bl_ofL, List.nil_append]
theorem rline_eq {a b c : Int} (hb : I64 b) (hc : I64 c) (k : Nat) : camshaftref05_Line.f (k + 41) a b c = some (ofL (lineL a b c)) := by
  have hn := name_size a
  have lb := digL_len b
  have zb : (digS b).size ≤ 21 := by rw [bl_size]; exact lb
  unfold camshaftref05_Line.f
  refine Option.bind_eq_some_iff.2 ⟨_, rright hb (k + 37), ?_⟩
  by_cases hR : rightK (kindOf a) b c = true
  · rw [if_pos hR]
    refine Option.bind_eq_some_iff.2 ⟨_, rname a, ?_⟩
    refine Option.bind_eq_some_iff.2 ⟨_, rargs a, ?_⟩
    by_cases h1 : (kindOf a).2.1 ≥ 1
    · rw [if_pos h1, if_pos (by omega)]
      refine Option.bind_eq_some_iff.2 ⟨_, rdigits_eq b hb (k + 1), ?_⟩
      rw [if_pos (by rw [ByteArray.size_append, size_lit]; omega), rline_j0 a b c hc k _ (by simp only [ByteArray.size_append, size_lit]; omega)]
      refine congrArg some (bl_inj ?_)
      unfold lineL
      rw [if_pos hR, if_neg (show ¬ (kindOf a).2.1 = 0 by omega)]
      simp only [bl_app, bl_ofL, List.append_assoc]
      rfl
    · have h0 : (kindOf a).2.1 = 0 := by
        rcases right_argsL hR with h' | h' | h'
        · exact h'
        · omega
        · omega
      rw [if_neg h1, rline_j0 a b c hc k _ (by omega)]
      refine congrArg some (bl_inj ?_)
      unfold lineL
      rw [if_pos hR, if_pos h0]
      rfl
  · rw [if_neg hR]
    unfold lineL
    rw [if_neg hR]
    rfl
theorem rshow_l0 (l : List Ins) (hw : ∀ x ∈ l, InI x) (hn : l.length ≤ 250) : ∀ (d i k : Nat) (acc : ByteArray), i + d = l.length → i ≤ 200 → d + 50 ≤ k → acc.size + 60 * d ≤ 100000 →
    camshaftref05_Show.l0 k l acc (i : Int) = some (if l.length ≤ 200 ∧ (l.drop i).all okI = true then ofL (bl acc ++ lnR (l.drop i)) else ofL []) := by
  intro d
  induction d with
  | zero =>
    intro i k acc hi hi2 hk hb
    obtain ⟨k, rfl⟩ : ∃ m, k = m + 1 := ⟨k - 1, by omega⟩
    simp only [camshaftref05_Show.l0]
    rw [if_neg (by omega), List.drop_eq_nil_of_le (by omega), if_pos ⟨by omega, rfl⟩]
    congr 1
    rw [show lnR [] = [] from rfl, List.append_nil, ofL_bl]
  | succ d ih =>
    intro i k acc hi hi2 hk hb
    obtain ⟨k, rfl⟩ : ∃ m, k = m + 42 := ⟨k - 42, by omega⟩
    have hlt : i < l.length := by omega
    have hx := hw _ (rdT_mem hlt)
    rw [show k + 42 = (k + 41) + 1 from rfl, camshaftref05_Show.l0]
    rw [if_pos (by omega), if_pos (by omega), rdT_drop hlt]
    refine Option.bind_eq_some_iff.2 ⟨_, rright hx.2.1 (k + 37), ?_⟩
    by_cases hR : okI (rd_T24 l (i : Int)) = true
    · rw [if_pos (show rightK (kindOf (rd_T24 l (i : Int)).f0) (rd_T24 l (i : Int)).f1 (rd_T24 l (i : Int)).f2 = true from hR)]
      by_cases h200 : (i : Int) ≥ 200
      · rw [if_pos h200, if_neg (by omega)]
        rfl
      · rw [if_neg h200]
        refine Option.bind_eq_some_iff.2 ⟨_, rline_eq hx.2.1 hx.2.2 k, ?_⟩
        have hl := lineL_len (rd_T24 l (i : Int)).f0 (rd_T24 l (i : Int)).f1 (rd_T24 l (i : Int)).f2
        have hsz : (ofL (lineL (rd_T24 l (i : Int)).f0 (rd_T24 l (i : Int)).f1 (rd_T24 l (i : Int)).f2)).size ≤ 60 := by rw [bl_size, bl_ofL]; exact hl
        rw [if_pos (by omega), show wrap64 ((i : Int) + 1) = ((i + 1 : Nat) : Int) from by clear hl hsz; unfold wrap64; omega]
        rw [ih (i + 1) (k + 41) _ (by omega) (by omega) (by omega) (by rw [ByteArray.size_append]; omega)]
        rw [bl_app, bl_ofL, List.all_cons, hR, Bool.true_and, List.append_assoc]
        rfl
    · rw [if_neg (show ¬ rightK (kindOf (rd_T24 l (i : Int)).f0) (rd_T24 l (i : Int)).f1 (rd_T24 l (i : Int)).f2 = true from hR), if_neg (by rw [List.all_cons, Bool.and_eq_true]; exact fun h => hR h.2.1)]
      rfl
theorem rshow_eq {l : List Ins} (hw : ∀ x ∈ l, InI x) (hn : l.length ≤ 250) {k : Nat} (hk : 400 ≤ k) : camshaftref05_Show.f k l = some (showS l) := by
  unfold camshaftref05_Show.f showS
  have := rshow_l0 l hw hn l.length 0 k ⟨#[]⟩ (by omega) (by omega) (by omega) (by show 0 + _ ≤ _; omega)
  rw [List.drop_zero] at this
  exact this

end Go.Proofs.Ytldbochclabmjaa.TL
