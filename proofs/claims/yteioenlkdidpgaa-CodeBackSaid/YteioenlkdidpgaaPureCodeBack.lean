/- CodeBack: what is put is got, wherever it stands, and whatever stands behind it; cut off it is short; for all bytes ahead and behind and all lists within the statement's bounds. -/
import Derived.Test.YteioenlkdidpgaaPureCodeParts
import Derived.Test.YteioenlkdidpgaaPx8
namespace Go.Proofs.Yteioenlkdidpgaa.Pure
open Go.RowKit Go.Proofs.Yteioenlkdidpgaa.P Go.Proofs.YteioenlkdidpgaaW.PrintWords Go.Proofs.YteioenlkdidpgaaW.PrintLast Go.Proofs.YteioenlkdidpgaaW.PrintMore Go.Proofs.Yteioenlkdidpgaa.CM Go.Proofs.Yteioenlkdidpgaa.CL

/-- A list's bytes, cut off, are short. -/
theorem getListS_cut {s : ByteArray} {A p q : List UInt8} {l : List Int} (hl : AllI l) (hn : l.length ≤ 1000) (he : encLB l = p ++ q) (hq : q ≠ []) (h : bl s = A ++ p) {lim : Int} (hm : (l.length : Int) ≤ lim) :
    getListS s (A.length : Int) lim = ([], 0, 2) := by
  unfold encLB at he
  unfold getListS
  rw [if_neg (by omega)]
  rcases List.append_eq_append_iff.1 he with ⟨t, h1, h2⟩ | ⟨t, h1, h2⟩
  · have e := getS_put (s := s) (A := A) (r := t) (len_I hn) (by rw [h, h1]; simp) rfl
    have hf : t.length + 1 ≤ s.size + 2 := by
      rw [bl_size, h, h1]; simp only [List.length_append]; omega
    rw [e]
    simp only [if_true]
    rw [if_neg (by omega), if_neg (by omega)]
    exact readL_cut s l (s.size + 2) (A ++ enc (zz (l.length : Int))) t q [] _ _ 0 hl h2 hq (by rw [h, h1]; simp) (by simp) (by omega) hf
  · by_cases ht : t = []
    · subst ht
      simp only [List.append_nil, List.nil_append] at h1 h2
      have e := getS_put (s := s) (A := A) (r := []) (len_I hn) (by rw [h, ← h1]; simp) rfl
      rw [e]
      simp only [if_true]
      rw [if_neg (by omega), if_neg (by omega)]
      exact readL_cut s l (s.size + 2) (A ++ enc (zz (l.length : Int))) [] q [] _ _ 0 hl (by simp [h2]) hq (by rw [h, ← h1]; simp) (by simp) (by omega) (by simp)
    · have e := getS_cut (s := s) (len_I hn) h h1 ht rfl
      rw [e, if_neg (by decide)]

theorem known_back {k : Nat} (hk : 60 ≤ k) : camshaftlaw02_known.f k = some true := at_rounds camshaftlaw02_known.mono hk camshaftlaw02_known.run

/-- The second loop: each number is got again; d are left. -/
theorem back_l1 (x0 x2 x7 : ByteArray) (l : List Int) (hl : AllI l) (hn : l.length ≤ 100) (z : ByteArray) (h0 : x0.size ≤ 100) (h2 : x2.size ≤ 100) (hz : bl z = bl x0 ++ encL l) (x9 : Int) (h9 : x9 = wrap64 ((x0.size : Int) + (x7.size : Int))) :
    ∀ (d i k : Nat) (at_ : Int), i + d = l.length → d + 200 ≤ k → at_ = ((bl x0 ++ encL (l.take i)).length : Int) →
    camshaftlaw02_CodeBack.l1 k x0 l x2 x7 l x9 0 2 at_ z (i : Int) = some true := by
  have hzs : z.size ≤ 1100 := by
    rw [bl_size, hz, List.length_append, ← bl_size]
    have := encL_len hl
    omega
  intro d
  induction d with
  | zero =>
    intro i k at_ hi hk ha
    obtain ⟨k, rfl⟩ : ∃ m, k = m + 1 := ⟨k - 1, by omega⟩
    simp only [camshaftlaw02_CodeBack.l1]
    rw [if_neg (by omega)]
    refine Option.bind_eq_some_iff.2 ⟨_, same_eq l l (by omega) (by omega), ?_⟩
    rw [if_pos (by simp), if_pos h9, if_pos trivial, if_pos trivial]
    exact Option.bind_eq_some_iff.2 ⟨_, known_back (by omega), rfl⟩
  | succ d ih =>
    intro i k at_ hi hk ha
    obtain ⟨k, rfl⟩ : ∃ m, k = m + 1 := ⟨k - 1, by omega⟩
    have hlt : i < l.length := by omega
    have hI := rd_I hl hlt
    have e0 : encL l = encL (l.take i) ++ (enc (zz (rd l (i : Int))) ++ encL (l.drop (i + 1))) := by
      rw [← encL_cons, ← rd_drop hlt, ← encL_append, List.take_append_drop]
    have e1 := getS_put (s := z ++ x2) (A := bl x0 ++ encL (l.take i)) (r := encL (l.drop (i + 1)) ++ bl x2) hI (by rw [bl_app, hz, e0]; simp only [List.append_assoc]) ha
    have hb : at_ ≤ 1100 := by
      rw [ha, List.length_append, ← bl_size]
      have := encL_len (l := l.take i) (fun x hx => hl x (List.mem_of_mem_take hx))
      have : (l.take i).length ≤ 100 := by rw [List.length_take]; omega
      omega
    have hb0 : 0 ≤ at_ := by rw [ha]; omega
    have hnx : at_ + ((enc (zz (rd l (i : Int)))).length : Int) = ((bl x0 ++ encL (l.take (i + 1))).length : Int) := by
      have : l.take (i + 1) = l.take i ++ [rd l (i : Int)] := by
        rw [List.take_succ_eq_append_getElem hlt]
        simp [rd, List.getD, hlt]
      rw [this, encL_append, encL_cons, encL_nil, List.append_nil, ha]
      simp only [List.length_append]
      omega
    have hw : at_ + ((enc (zz (rd l (i : Int)))).length : Int) = wrap64 (at_ + ((enc (zz (rd l (i : Int)))).length : Int)) := by
      have h10 := enc_len_ten (zz_lt hI)
      clear e1 e0 hnx ih ha h9
      generalize (enc (zz (rd l (i : Int)))).length = q at *
      unfold wrap64
      omega
    simp only [camshaftlaw02_CodeBack.l1]
    rw [if_pos (by omega), if_pos (by omega)]
    refine Option.bind_eq_some_iff.2 ⟨_, get_eq (z ++ x2) (by rw [ByteArray.size_append]; omega) at_ (by omega), ?_⟩
    rw [e1]
    rw [if_pos (by omega), if_pos rfl]
    refine Option.bind_eq_some_iff.2 ⟨_, size_eq hI (by omega), (if_pos hw).trans ?_⟩
    rw [if_pos rfl, show wrap64 ((i : Int) + 1) = ((i + 1 : Nat) : Int) from by clear hw e1 e0 hnx ih ha h9; unfold wrap64; omega]
    exact ih (i + 1) k _ (by omega) (by omega) hnx

/-- The first loop: the numbers' bytes are put behind each other; d are left. -/
theorem back_l0 (x0 x2 x7 : ByteArray) (l : List Int) (hl : AllI l) (hn : l.length ≤ 100) (h0 : x0.size ≤ 100) (h2 : x2.size ≤ 100) (x9 : Int) (h9 : x9 = wrap64 ((x0.size : Int) + (x7.size : Int))) :
    ∀ (d i k : Nat) (z : ByteArray), i + d = l.length → d + 400 ≤ k → bl z = bl x0 ++ encL (l.take i) →
    camshaftlaw02_CodeBack.l0 k x0 l x2 x7 l x9 0 2 (x0.size : Int) z (i : Int) = some true := by
  intro d
  induction d with
  | zero =>
    intro i k z hi hk hz
    obtain ⟨k, rfl⟩ : ∃ m, k = m + 1 := ⟨k - 1, by omega⟩
    simp only [camshaftlaw02_CodeBack.l0]
    rw [if_neg (by omega)]
    rw [List.take_of_length_le (by omega)] at hz
    exact back_l1 x0 x2 x7 l hl hn z h0 h2 hz x9 h9 l.length 0 k _ (by omega) (by omega) (by rw [List.take_zero, encL_nil, List.append_nil, ← bl_size])
  | succ d ih =>
    intro i k z hi hk hz
    obtain ⟨k, rfl⟩ : ∃ m, k = m + 1 := ⟨k - 1, by omega⟩
    have hlt : i < l.length := by omega
    have hI := rd_I hl hlt
    have hzs : z.size ≤ 1100 := by
      rw [bl_size, hz, List.length_append, ← bl_size]
      have := encL_len (l := l.take i) (fun x hx => hl x (List.mem_of_mem_take hx))
      have : (l.take i).length ≤ 100 := by rw [List.length_take]; omega
      omega
    have h10 := encB_le hI
    simp only [camshaftlaw02_CodeBack.l0]
    rw [if_pos (by omega), if_pos (by omega)]
    refine Option.bind_eq_some_iff.2 ⟨_, put_eq hI (by omega), (if_pos (by omega)).trans ?_⟩
    rw [show wrap64 ((i : Int) + 1) = ((i + 1 : Nat) : Int) from by clear ih h9; unfold wrap64; omega]
    refine ih (i + 1) k _ (by omega) (by omega) ?_
    have : l.take (i + 1) = l.take i ++ [rd l (i : Int)] := by
      rw [List.take_succ_eq_append_getElem hlt]
      simp [rd, List.getD, hlt]
    rw [bl_app, hz, this, encL_append, encL_cons, encL_nil, List.append_nil, bl_encB, List.append_assoc]

theorem back_all (k : Nat) (hk : 3000 ≤ k) (a : ByteArray) (l : List Int) (b : ByteArray) (hl : AllI l) : camshaftlaw02_CodeBack.f (k + 1) a l b = some true := by
  have K := known_back (k := k) (by omega)
  have KT : ∀ t, t = true → camshaftlaw02_CodeBack.j0 (k + 1) a l b t = some true := by
    intro t ht
    subst ht
    simp only [camshaftlaw02_CodeBack.j0, if_true]
    exact Option.bind_eq_some_iff.2 ⟨_, K, rfl⟩
  unfold camshaftlaw02_CodeBack.f
  by_cases h1 : (a.size : Int) > 100
  · rw [if_pos h1, KT _ rfl]
  · rw [if_neg h1]
    by_cases h2 : (b.size : Int) > 100
    · rw [if_pos h2, KT _ rfl]
    · rw [if_neg h2]
      by_cases h3 : (l.length : Int) > 100
      · rw [KT _ (decide_eq_true h3)]
      · rw [show decide ((l.length : Int) > 100) = false from decide_eq_false h3]
        have hn : l.length ≤ 1000 := by omega
        have hL := encLB_len hl hn
        have hsz : (ofL (encLB l)).size = (encLB l).length := by rw [bl_size, bl_ofL]
        have hpos : 1 ≤ (encLB l).length := by
          unfold encLB
          rw [List.length_append]
          have := enc_pos (zz (l.length : Int))
          omega
        obtain ⟨p, c, hpc⟩ : ∃ p c, encLB l = p ++ [c] := by
          have hne : encLB l ≠ [] := fun h => by rw [h] at hpos; simp at hpos
          exact ⟨(encLB l).dropLast, (encLB l).getLast hne, (List.dropLast_concat_getLast hne).symm⟩
        have hpl : (encLB l).length = p.length + 1 := by rw [hpc]; simp
        have e1 := getListS_put (s := (a ++ ofL (encLB l)) ++ b) (A := bl a) (r := bl b) hl hn (by rw [bl_app, bl_app, bl_ofL]) (Int.le_refl _)
        have e2 := getListS_cut (s := a ++ ofL p) (A := bl a) hl hn hpc (by simp) (by rw [bl_app, bl_ofL]) (Int.le_refl _)
        rw [← bl_size] at e1 e2
        have hx : (ofL (encLB l)).extract 0 p.length = ofL p := by
          apply bl_inj
          rw [bl_extract, bl_ofL, bl_ofL, hpc]
          simp
        have hw : wrap64 (((ofL (encLB l)).size : Int) - mn ((ofL (encLB l)).size : Int) 1) = (p.length : Int) := by
          have hq : p.length ≤ 1010 := by omega
          rw [hsz, hpl]
          clear e1 e2 hL hpl hsz
          rw [show mn ((p.length + 1 : Nat) : Int) 1 = 1 from by unfold mn; split <;> omega]
          unfold wrap64
          omega
        simp only [camshaftlaw02_CodeBack.j0]
        rw [if_neg (by decide)]
        refine Option.bind_eq_some_iff.2 ⟨_, list_eq hl hn (by omega), ?_⟩
        rw [if_pos (by omega), if_pos (by rw [ByteArray.size_append]; omega)]
        refine Option.bind_eq_some_iff.2 ⟨_, getlist_eq _ (by rw [ByteArray.size_append, ByteArray.size_append]; omega) _ _ (by rw [ByteArray.size_append, ByteArray.size_append]; omega), ?_⟩
        rw [hw, if_pos (by omega), if_pos (by omega), show ((p.length : Int)).toNat = p.length from rfl, hx]
        have hps : (ofL p).size = p.length := by rw [bl_size, bl_ofL]
        rw [if_pos (by omega)]
        refine Option.bind_eq_some_iff.2 ⟨_, getlist_eq _ (by rw [ByteArray.size_append]; omega) _ _ (by rw [ByteArray.size_append]; omega), ?_⟩
        rw [e1, e2]
        refine back_l0 a b (ofL (encLB l)) l hl (by omega) (by omega) (by omega) _ ?_ l.length 0 k a (by omega) (by omega) (by simp [encL])
        show (a.size : Int) + ((encLB l).length : Int) = _
        rw [hsz]
        clear e1 e2 hw hx hsz hpl
        generalize (encLB l).length = q at *
        unfold wrap64
        omega

theorem CodeBack : camshaftlaw02_CodeBack.Pure := fun a l b _ _ _ wl _ => ⟨3000 + 1, back_all 3000 (Nat.le_refl _) a l b (AllI_of wl)⟩

end Go.Proofs.Yteioenlkdidpgaa.Pure
