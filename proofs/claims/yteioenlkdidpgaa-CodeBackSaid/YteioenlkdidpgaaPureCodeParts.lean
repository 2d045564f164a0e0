/- CodeParts: a list that is got from a place on is the same from another one, if the same bytes stand there; of fewer than there are it is too big; for all bytes ahead and all lists within the statement's bounds. -/
import Derived.Test.YteioenlkdidpgaaCLL
import Derived.Test.YteioenlkdidpgaaPx4
import Derived.Test.YteioenlkdidpgaaPx10
namespace Go.Proofs.Yteioenlkdidpgaa.Pure
open Go.RowKit Go.Proofs.Yteioenlkdidpgaa.P Go.Proofs.YteioenlkdidpgaaW.PrintWords Go.Proofs.YteioenlkdidpgaaW.PrintLast Go.Proofs.Yteioenlkdidpgaa.CM Go.Proofs.Yteioenlkdidpgaa.CL

theorem known_parts {k : Nat} (hk : 60 ≤ k) : camshaftlaw02_known.f k = some true := at_rounds camshaftlaw02_known.mono hk camshaftlaw02_known.run
/-- A list's bytes, got anywhere. -/
theorem getListS_put {s : ByteArray} {A r : List UInt8} {l : List Int} (hl : AllI l) (hn : l.length ≤ 1000) (h : bl s = A ++ encLB l ++ r) {lim : Int} (hm : (l.length : Int) ≤ lim) :
    getListS s (A.length : Int) lim = (l, (A.length : Int) + ((encLB l).length : Int), 0) := by
  unfold encLB at h ⊢
  have e := getS_put (s := s) (A := A) (r := encL l ++ r) (len_I hn) (by rw [h]; simp) rfl
  unfold getListS
  have hf : l.length < s.size + 2 := by
    rw [bl_size, h]
    have : l.length ≤ (encL l).length := by
      clear h hn hm e
      induction l with
      | nil => simp
      | cons x l ih =>
        rw [encL_cons, List.length_append, List.length_cons]
        have := enc_pos (zz x)
        have := ih (fun y hy => hl y (by simp [hy]))
        omega
    simp only [List.length_append]
    omega
  rw [if_neg (by omega), e]
  simp only [if_true]
  rw [if_neg (by omega), if_neg (by omega)]
  rw [readL_encL s l (s.size + 2) (A ++ enc (zz (l.length : Int))) r [] _ _ 0 hl (by rw [h]; simp) (by simp) (by omega) hf]
  simp [Int.add_assoc]
theorem getListS_big {s : ByteArray} {A r : List UInt8} {l : List Int} (hn : l.length ≤ 1000) (h : bl s = A ++ encLB l ++ r) {lim : Int} (h0 : 0 ≤ lim) (hm : lim < (l.length : Int)) :
    getListS s (A.length : Int) lim = ([], 0, 4) := by
  unfold encLB at h
  have e := getS_put (s := s) (A := A) (r := encL l ++ r) (len_I hn) (by rw [h]; simp) rfl
  unfold getListS
  rw [if_neg (by omega), e]
  simp only [if_true]
  rw [if_neg (by omega), if_pos hm]

theorem parts_all (k : Nat) (hk : 1000 ≤ k) (a : ByteArray) (l : List Int) (hl : AllI l) : camshaftlaw02_CodeParts.f (k + 1) a l = some true := by
  have K := known_parts (k := k) (by omega)
  have KT : ∀ b, b = true → camshaftlaw02_CodeParts.j0 (k + 1) a l b = some true := by
    intro b hb
    subst hb
    simp only [camshaftlaw02_CodeParts.j0, if_true, K, Option.bind_some]
  unfold camshaftlaw02_CodeParts.f
  by_cases h1 : (a.size : Int) > 100
  · rw [if_pos h1, KT _ rfl]
  · rw [if_neg h1]
    by_cases h2 : (l.length : Int) < 1
    · rw [if_pos h2, KT _ rfl]
    · rw [if_neg h2]
      by_cases h3 : (l.length : Int) > 60
      · rw [KT _ (decide_eq_true h3)]
      · rw [show decide ((l.length : Int) > 60) = false from decide_eq_false h3]
        have hn : l.length ≤ 1000 := by omega
        have hsz : (ofL (encLB l)).size ≤ 610 := by rw [bl_size, bl_ofL]; have := encLB_len hl hn; omega
        have e1 := getListS_put (s := ofL (encLB l)) (A := []) (r := []) hl hn (by rw [bl_ofL]; simp) (Int.le_refl _)
        have e2 := getListS_put (s := a ++ ofL (encLB l)) (A := bl a) (r := []) hl hn (lim := 100) (by rw [bl_app, bl_ofL]; simp) (by omega)
        have e3 := getListS_big (s := ofL (encLB l)) (A := []) (r := []) hn (by rw [bl_ofL]; simp) (lim := (l.length : Int) - 1) (by omega) (by omega)
        rw [← bl_size] at e2
        simp only [List.length_nil, Int.natCast_zero, Int.zero_add] at e1 e3
        have hsz2 : (a ++ ofL (encLB l)).size ≤ 800 := by rw [ByteArray.size_append]; omega
        simp only [camshaftlaw02_CodeParts.j0]
        rw [if_neg (by decide), list_eq hl hn (by omega)]
        simp only [Option.bind_some]
        rw [show wrap64 ((l.length : Int) - 1) = (l.length : Int) - 1 from by unfold wrap64; omega]
        rw [getlist_eq _ (by omega) _ _ (by omega), getlist_eq _ (by omega) _ _ (by omega), getlist_eq _ (by omega) _ _ (by omega), e1, e2, e3, K]
        simp only [Option.bind_some]
        rw [if_pos (by omega), same_eq l l (by omega) (by omega)]
        simp only [Option.bind_some, decide_true, if_true]
        have e4 : ((ofL (encLB l)).size : Int) = ((encLB l).length : Int) := by rw [bl_size, bl_ofL]
        rw [e4, if_pos rfl, if_pos]
        rw [show wrap64 (((encLB l).length : Int) + (a.size : Int)) = (a.size : Int) + ((encLB l).length : Int) from by
          have := encLB_len hl hn
          clear e1 e2 e3 e4
          generalize (encLB l).length = q at *
          unfold wrap64; omega]

theorem CodeParts : camshaftlaw02_CodeParts.Pure := fun a l _ _ _ wl => ⟨1000 + 1, parts_all 1000 (Nat.le_refl _) a l (AllI_of wl)⟩

end Go.Proofs.Yteioenlkdidpgaa.Pure
