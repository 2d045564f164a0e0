/- CodePlain: what is got has the bytes that stand there, as they are put; no byte of it but the last is below 128; for all bytes within the statement's bounds and all places. -/
import Derived.Test.YteioenlkdidpgaaCL
import Derived.Test.YteioenlkdidpgaaPx4
import Derived.Test.YteioenlkdidpgaaPx11
namespace Go.Proofs.Yteioenlkdidpgaa.Pure
open Go.RowKit Go.Proofs.Yteioenlkdidpgaa.P Go.Proofs.YteioenlkdidpgaaW.PrintWords Go.Proofs.YteioenlkdidpgaaW.PrintLast Go.Proofs.Yteioenlkdidpgaa.CM Go.Proofs.Yteioenlkdidpgaa.CL

theorem known_plain {k : Nat} (hk : 60 ≤ k) : camshaftlaw02_known.f k = some true := at_rounds camshaftlaw02_known.mono hk camshaftlaw02_known.run
/-- The loop over the bytes of a number: d of them are left. -/
theorem plain_l0 (s : ByteArray) (hs : s.size ≤ 300) (A pre r : List UInt8) (c : UInt8) (h : bl s = A ++ (pre ++ [c]) ++ r) (hp : Hi pre) (hc : c.toNat < 128) (nx : Int) (hx : nx = (A.length : Int) + ((pre.length + 1 : Nat) : Int)) :
    ∀ (d i k : Nat), i + d = pre.length + 1 → d + 61 ≤ k → camshaftlaw02_CodePlain.l0 k s nx ((A.length : Int) + (i : Int)) = some true := by
  have hsz : s.size = A.length + (pre.length + 1) + r.length := by rw [bl_size, h]; simp; omega
  intro d
  induction d with
  | zero =>
    intro i k hi hk
    obtain ⟨k, rfl⟩ : ∃ m, k = m + 1 := ⟨k - 1, by omega⟩
    simp only [camshaftlaw02_CodePlain.l0]
    rw [if_neg (by omega)]
    exact Option.bind_eq_some_iff.2 ⟨_, known_plain (by omega), rfl⟩
  | succ d ih =>
    intro i k hi hk
    obtain ⟨k, rfl⟩ : ∃ m, k = m + 1 := ⟨k - 1, by omega⟩
    simp only [camshaftlaw02_CodePlain.l0]
    rw [if_pos (by omega), if_pos (by omega), if_pos (by omega)]
    rw [show wrap64 (nx - 1) = nx - 1 from by unfold wrap64; omega]
    rw [show wrap64 ((A.length : Int) + (i : Int) + 1) = (A.length : Int) + ((i + 1 : Nat) : Int) from by unfold wrap64; omega]
    rw [if_neg]
    · exact ih (i + 1) k (by omega) (by omega)
    · by_cases hl : i = pre.length
      · have e : bt s ((A.length : Int) + (i : Int)) = (c.toNat : Int) := bt_at_list (A := A ++ pre) (r := r) (by rw [h]; simp) (by simp; omega)
        rw [e, decide_eq_true (show (c.toNat : Int) < 128 by omega), show ((A.length : Int) + (i : Int) == nx - 1) = true from beq_iff_eq.2 (by omega)]
        decide
      · have hi' : i < pre.length := by omega
        have e0 : pre = pre.take i ++ pre[i] :: pre.drop (i + 1) := by rw [← List.drop_eq_getElem_cons hi', List.take_append_drop]
        have e : bt s ((A.length : Int) + (i : Int)) = (pre[i].toNat : Int) := bt_at_list (A := A ++ pre.take i) (r := pre.drop (i + 1) ++ [c] ++ r) (by
          rw [h]
          exact (congrArg (fun z => A ++ (z ++ [c]) ++ r) e0).trans (by simp only [List.append_assoc, List.cons_append, List.nil_append])) (by simp; omega)
        have hge := hp pre[i] (List.getElem_mem hi')
        rw [e, decide_eq_false (show ¬ (pre[i].toNat : Int) < 128 by omega), show ((A.length : Int) + (i : Int) == nx - 1) = false from beq_eq_false_iff_ne.2 (by omega)]
        decide

theorem plain_all (k : Nat) (hk : 100 ≤ k) (s : ByteArray) (at_ : Int) : camshaftlaw02_CodePlain.f (k + 1) s at_ = some true := by
  have K := known_plain (k := k + 1) (by omega)
  unfold camshaftlaw02_CodePlain.f
  by_cases hs : (s.size : Int) > 300
  · rw [if_pos hs]
    exact Option.bind_eq_some_iff.2 ⟨_, K, rfl⟩
  · rw [if_neg hs]
    have G := get_eq s (by omega) at_ (k := k + 1) (by omega)
    refine Option.bind_eq_some_iff.2 ⟨_, G, ?_⟩
    by_cases he : (getS s at_).2.2 = 0
    · refine (if_pos he).trans ?_
      obtain ⟨h0, hI, h1, h2, r, h3⟩ := getS_ok (s := s) (at_ := at_) (n := (getS s at_).1) (nx := (getS s at_).2.1) (by rw [← he])
      generalize hn : (getS s at_).1 = n at *
      generalize hx : (getS s at_).2.1 = nx at *
      have l1 := enc_pos (zz n)
      have l2 := enc_len_ten (zz_lt hI)
      have P := put_eq hI (k := k + 1) (by omega)
      obtain ⟨pre, c, e, p1, p2, p3⟩ := enc_shape (zz n) (zz n) (Nat.le_refl _)
      have htk : ((bl s).take at_.toNat).length = at_.toNat := by
        have h4 : (at_.toNat : Nat) ≤ (bl s).length := by rw [← bl_size]; omega
        rw [List.length_take]; omega
      have hl : (enc (zz n)).length = pre.length + 1 := by rw [e]; simp
      have hext : (encB n).toList = (s.extract at_.toNat nx.toNat).toList := by
        rw [toList_bl, toList_bl, bl_extract, bl_encB]
        have hnx : nx.toNat = at_.toNat + (enc (zz n)).length := by rw [hl] at h1 ⊢; omega
        rw [hnx]
        conv => rhs; rw [h3]
        rw [List.append_assoc, List.take_append, htk, List.drop_append]
        simp [htk]
      rw [hl] at h1
      rw [if_neg (by omega), if_neg (by omega), if_neg (by omega)]
      rw [if_neg (by rw [hl] at l2; rw [show wrap64 (at_ + 10) = at_ + 10 from by unfold wrap64; omega]; omega)]
      refine Option.bind_eq_some_iff.2 ⟨_, P, ?_⟩
      rw [if_pos (by omega), if_pos (by omega), if_pos (by omega)]
      simp only [camshaftlaw02_CodePlain.j0]
      rw [if_neg (by rw [hext]; simp)]
      have hf := plain_l0 s (by omega) ((bl s).take at_.toNat) pre r c (by rw [← e]; exact h3) p1 p2 nx (by rw [htk]; omega) (pre.length + 1) 0 k (by omega) (by rw [hl] at l2; omega)
      rw [htk] at hf
      rw [show ((at_.toNat : Nat) : Int) + ((0 : Nat) : Int) = at_ by omega] at hf
      exact hf
    · refine (if_neg he).trans ?_
      obtain ⟨e1, e2, _⟩ := getS_err (s := s) (at_ := at_) (n := (getS s at_).1) (nx := (getS s at_).2.1) (e := (getS s at_).2.2) rfl he
      rw [if_pos e1, if_pos e2]
      exact Option.bind_eq_some_iff.2 ⟨_, K, rfl⟩

theorem CodePlain : camshaftlaw02_CodePlain.Pure := fun s at_ _ _ => ⟨100 + 1, plain_all 100 (Nat.le_refl _) s at_⟩

end Go.Proofs.Yteioenlkdidpgaa.Pure
