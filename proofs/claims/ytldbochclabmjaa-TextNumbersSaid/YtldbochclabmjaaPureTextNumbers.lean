/- TextNumbers: a number's text is in no other line than that of a push: it is read as it was; for all numbers and texts. -/
import Derived.Test.YtldbochclabmjaaTS
import Derived.Test.YtldbochclabmjaaPx2
import Derived.Test.YtldbochclabmjaaPx12
namespace Go.Proofs.Ytldbochclabmjaa.Pure
open Go.RowKit Go.Proofs.Ytldbochclabmjaa.C Go.Proofs.Ytldbochclabmjaa.P Go.Proofs.Ytldbochclabmjaa.TL Go.Proofs.YtldbochclabmjaaW.PrintWords Go.Proofs.YtldbochclabmjaaW.PrintLast Go.Proofs.YtldbochclabmjaaW.PrintMore
set_option linter.unusedVariables false
set_option linter.unusedSimpArgs false

theorem known_n {k : Nat} (hk : 60 ≤ k) : camshaftlaw05_known.f k = some true := at_rounds camshaftlaw05_known.mono hk camshaftlaw05_known.run
theorem push_line {n : Int} (h : I64 n) : lineL 1 n 0 = [80, 85, 83, 72, 32] ++ (digL n ++ [10]) := by
  have hR : rightK (kindOf 1) n 0 = true := by
    show (if (1 : Int) = 0 then _ else if (1 : Int) = 1 then inB (-9223372036854775808) 9223372036854775807 n && decide ((0 : Int) = 0) else _) = true
    rw [if_neg (by decide), if_pos rfl]
    unfold inB
    rw [decide_eq_true h.1, decide_eq_true h.2]
    rfl
  unfold lineL
  rw [if_pos hR]
  rfl
theorem num_eq {s : ByteArray} (h : s.size ≤ 9223372036854775807) : text_Number.f s = some (numberL (bl s)) := if_pos h
theorem z64 : I64 0 := by unfold I64; omega
theorem numbers_j0 (k : Nat) (hk : 100 ≤ k) (n : Int) (hn : I64 n) (s : ByteArray) (hs : s.size ≤ 100) : camshaftlaw05_TextNumbers.j0 (k + 1) n s (ofL (lineL 1 n 0)) false = some true := by
  have K := known_n (k := k) (by omega)
  have hl := digL_len n
  have hL : (ofL (lineL 1 n 0)).size = 6 + (digL n).length := by rw [bl_size, bl_ofL, push_line hn]; simp; omega
  have hw : wrap64 (((ofL (lineL 1 n 0)).size : Int) - 1) = ((5 + (digL n).length : Nat) : Int) := by rw [hL]; unfold wrap64; omega
  have hx : bl ((ofL (lineL 1 n 0)).extract 5 (5 + (digL n).length)) = digL n := by
    rw [bl_extract, bl_ofL, push_line hn, List.drop_take, List.drop_append_of_le_length (by simp)]
    simp
  simp only [camshaftlaw05_TextNumbers.j0]
  rw [if_neg (by decide), hw, if_pos (by omega), if_pos (by rw [hL]; omega)]
  refine Option.bind_eq_some_iff.2 ⟨_, num_eq (by rw [bl_size, Int.toNat_natCast, hx]; omega), ?_⟩
  rw [Int.toNat_natCast, hx, numberL_dig hn]
  refine Option.bind_eq_some_iff.2 ⟨_, num_eq (by omega), ?_⟩
  rw [if_pos (by rfl), if_pos (by rfl)]
  rcases numberL_cases (bl s) with ⟨m, hm, e1, e2⟩ | ⟨_, e2⟩
  · rw [e2]
    dsimp only
    rw [if_pos (by rfl)]
    refine Option.bind_eq_some_iff.2 ⟨_, line_eq hm z64, ?_⟩
    rw [if_pos (by omega), if_pos (by rw [ByteArray.size_append]; show 5 + s.size + 1 ≤ _; omega)]
    rw [if_pos (by rw [toList_bl, toList_bl, bl_ofL, push_line hm, bl_app, bl_app, e1, List.append_assoc])]
    exact Option.bind_eq_some_iff.2 ⟨_, K, rfl⟩
  · rw [e2]
    dsimp only
    rw [if_neg (by decide), if_pos (by rfl)]
    exact Option.bind_eq_some_iff.2 ⟨_, K, rfl⟩
theorem numbers_all (k : Nat) (hk : 200 ≤ k) (n : Int) (hn : I64 n) (s : ByteArray) : camshaftlaw05_TextNumbers.f k n s = some true := by
  obtain ⟨k, rfl⟩ : ∃ q, k = q + 1 := ⟨k - 1, by omega⟩
  have K := known_n (k := k + 1) (by omega)
  have hl := digL_len n
  have hd : 1 ≤ (digL n).length := by
    have := digL_ne n
    cases h : digL n with
    | nil => exact absurd h this
    | cons a b => simp
  have hL : (ofL (lineL 1 n 0)).size = 6 + (digL n).length := by rw [bl_size, bl_ofL, push_line hn]; simp; omega
  have hw : wrap64 (((ofL (lineL 1 n 0)).size : Int) - 1) = ((5 + (digL n).length : Nat) : Int) := by rw [hL]; unfold wrap64; omega
  unfold camshaftlaw05_TextNumbers.f
  by_cases h0 : (s.size : Int) > 100
  · rw [if_pos h0]
    exact Option.bind_eq_some_iff.2 ⟨_, K, rfl⟩
  rw [if_neg h0]
  refine Option.bind_eq_some_iff.2 ⟨_, line_eq hn z64, ?_⟩
  rw [if_neg (by rw [hL]; omega), if_pos (by decide), if_pos (by rw [hL]; omega)]
  rw [if_pos (by rw [toList_bl, bl_extract, bl_ofL, push_line hn]; simp)]
  rw [hw, if_pos (by omega), if_pos (by rw [hL]; omega)]
  have hb : bt (ofL (lineL 1 n 0)) ((5 + (digL n).length : Nat) : Int) = 10 := by
    have hi : (((5 + (digL n).length : Nat) : Int)).toNat < (ofL (lineL 1 n 0)).size := by rw [hL]; omega
    unfold bt
    rw [dif_pos hi]
    have e : (ofL (lineL 1 n 0))[(((5 + (digL n).length : Nat) : Int)).toNat]'hi = (lineL 1 n 0)[5 + (digL n).length]'(by rw [bl_size, bl_ofL] at hL; omega) := rfl
    rw [e]
    have e2 : (lineL 1 n 0)[5 + (digL n).length]? = some 10 := by
      rw [push_line hn, List.getElem?_append_right (by simp), List.getElem?_append_right (by simp)]
      simp
    rw [List.getElem?_eq_getElem (by rw [bl_size, bl_ofL] at hL; omega)] at e2
    rw [Option.some.inj e2]
    rfl
  rw [hb]
  exact numbers_j0 k (by omega) n hn s (by omega)
theorem TextNumbers : camshaftlaw05_TextNumbers.Pure := fun n s wn _ => ⟨300, numbers_all 300 (by omega) n (I64_of wn) s⟩

end Go.Proofs.Ytldbochclabmjaa.Pure
