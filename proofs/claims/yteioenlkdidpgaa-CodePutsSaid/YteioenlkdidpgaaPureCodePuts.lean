/- CodePuts: any number's bytes, and any list's, are as the document says; there are as many as told; for all ints and all lists within the statement's bounds. -/
import Derived.Test.YteioenlkdidpgaaCLL
import Derived.Test.YteioenlkdidpgaaCRP
import Derived.Test.YteioenlkdidpgaaPx4
import Derived.Test.YteioenlkdidpgaaPx4
import Derived.Test.YteioenlkdidpgaaPx5
namespace Go.Proofs.Yteioenlkdidpgaa.Pure
open Go.RowKit Go.Proofs.Yteioenlkdidpgaa.P Go.Proofs.YteioenlkdidpgaaW.PrintWords Go.Proofs.YteioenlkdidpgaaW.PrintLast Go.Proofs.Yteioenlkdidpgaa.CM Go.Proofs.Yteioenlkdidpgaa.CL

theorem known_puts {k : Nat} (hk : 60 ≤ k) : camshaftlaw02_known.f k = some true := at_rounds camshaftlaw02_known.mono hk camshaftlaw02_known.run
theorem rlist_l0 (l : List Int) (hl : AllI l) (hn : l.length ≤ 1000) : ∀ (d i k : Nat) (acc : ByteArray), i + d = l.length → d + 12 ≤ k → acc.size + 10 * d ≤ 100000 →
    camshaftref02_List.l0 k l acc (i : Int) = some (ofL (bl acc ++ encL (l.drop i))) := by
  intro d
  induction d with
  | zero =>
    intro i k acc hi hk hb
    obtain ⟨k, rfl⟩ : ∃ m, k = m + 1 := ⟨k - 1, by omega⟩
    simp only [camshaftref02_List.l0]
    rw [if_neg (by omega), List.drop_eq_nil_of_le (by omega), encL_nil, List.append_nil, ofL_bl]
  | succ d ih =>
    intro i k acc hi hk hb
    obtain ⟨k, rfl⟩ : ∃ m, k = m + 1 := ⟨k - 1, by omega⟩
    have hlt : i < l.length := by omega
    simp only [camshaftref02_List.l0]
    have h10 := encB_le (rd_I hl hlt)
    rw [if_pos (by omega), if_pos (by omega)]
    refine Option.bind_eq_some_iff.2 ⟨_, rput_eq (rd_I hl hlt) (by omega), (if_pos (by omega)).trans ?_⟩
    rw [show wrap64 ((i : Int) + 1) = ((i + 1 : Nat) : Int) from by unfold wrap64; omega]
    rw [ih (i + 1) k _ (by omega) (by omega) (by rw [ByteArray.size_append]; omega), bl_app, bl_encB, rd_drop hlt, encL_cons, List.append_assoc]
theorem rlist_eq {l : List Int} (hl : AllI l) (hn : l.length ≤ 1000) {k : Nat} (hk : l.length + 12 ≤ k) : camshaftref02_List.f k l = some (ofL (encLB l)) := by
  unfold camshaftref02_List.f
  refine Option.bind_eq_some_iff.2 ⟨_, rput_eq (len_I hn) (by omega), ?_⟩
  have h10 := encB_le (len_I hn)
  have := rlist_l0 l hl hn l.length 0 k (encB (l.length : Int)) (by omega) hk (by omega)
  rw [List.drop_zero] at this
  exact this
theorem puts_all (k : Nat) (hk : 1000 ≤ k) (n : Int) (l : List Int) (h : I64 n) (hl : AllI l) : camshaftlaw02_CodePuts.f k n l = some true := by
  have K := known_puts (k := k) (by omega)
  unfold camshaftlaw02_CodePuts.f
  by_cases h3 : (l.length : Int) > 100
  · rw [if_pos h3]
    exact Option.bind_eq_some_iff.2 ⟨_, K, rfl⟩
  · rw [if_neg h3]
    have hs : ((enc (zz n)).length : Int) = ((encB n).size : Int) := by rw [encB_size]
    refine Option.bind_eq_some_iff.2 ⟨_, put_eq h (by omega), ?_⟩
    refine Option.bind_eq_some_iff.2 ⟨_, rput_eq h (by omega), (if_pos rfl).trans ?_⟩
    refine Option.bind_eq_some_iff.2 ⟨_, size_eq h (by omega), ?_⟩
    refine Option.bind_eq_some_iff.2 ⟨_, rput_eq h (by omega), (if_pos hs).trans ?_⟩
    refine Option.bind_eq_some_iff.2 ⟨_, list_eq hl (by omega) (by omega), ?_⟩
    refine Option.bind_eq_some_iff.2 ⟨_, rlist_eq hl (by omega) (by omega), (if_pos rfl).trans ?_⟩
    exact Option.bind_eq_some_iff.2 ⟨_, K, rfl⟩
theorem CodePuts : camshaftlaw02_CodePuts.Pure := fun n l wn _ _ wl => ⟨1000, puts_all 1000 (Nat.le_refl _) n l (I64_of wn) (AllI_of wl)⟩

end Go.Proofs.Yteioenlkdidpgaa.Pure
