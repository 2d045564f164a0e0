/- What is read has the bytes that were read; cut off it is short: for one instruction. No conditions beyond those that each lemma states. -/
import Derived.Test.YtnfoebbdmekbiaaOM
namespace Go.Proofs.Ytnfoebbdmekbiaa.OL
open Go.RowKit Go.Proofs.Ytnfoebbdmekbiaa.C Go.Proofs.Ytnfoebbdmekbiaa.P Go.Proofs.Ytnfoebbdmekbiaa.CM Go.Proofs.Ytnfoebbdmekbiaa.CL Go.Proofs.YtnfoebbdmekbiaaW.PrintWords Go.Proofs.YtnfoebbdmekbiaaW.PrintLast Go.Proofs.YtnfoebbdmekbiaaW.PrintMore

theorem finI_ok {o b c nx a' b' c' nx' : Int} (h : finI o b c nx = (a', b', c', nx', 0)) : rightI a' b' c' = true ∧ a' = o ∧ b' = b ∧ c' = c ∧ nx' = nx := by
  unfold finI at h
  split at h
  · rename_i hR
    simp only [Prod.mk.injEq] at h
    obtain ⟨rfl, rfl, rfl, rfl, _⟩ := h
    exact ⟨hR, rfl, rfl, rfl, rfl⟩
  · simp at h
theorem finI_err {o b c nx a' b' c' nx' e : Int} (h : finI o b c nx = (a', b', c', nx', e)) (he : e ≠ 0) : a' = 0 ∧ b' = 0 ∧ c' = 0 ∧ nx' = 0 ∧ e = 6 := by
  unfold finI at h
  split at h
  · simp only [Prod.mk.injEq] at h
    exact absurd h.2.2.2.2.symm he
  · simp only [Prod.mk.injEq] at h
    exact ⟨h.1.symm, h.2.1.symm, h.2.2.1.symm, h.2.2.2.1.symm, h.2.2.2.2.symm⟩
theorem bl_split {s : ByteArray} {at_ : Int} (h0 : 0 ≤ at_) (h1 : at_ < (s.size : Int)) : bl s = (bl s).take at_.toNat ++ UInt8.ofNat (bt s at_).toNat :: (bl s).drop (at_.toNat + 1) ∧ ((bl s).take at_.toNat).length = at_.toNat := by
  have hlt : at_.toNat < (bl s).length := by rw [← bl_size]; omega
  constructor
  · have e0 : bl s = (bl s).take at_.toNat ++ (bl s)[at_.toNat] :: (bl s).drop (at_.toNat + 1) := by rw [← List.drop_eq_getElem_cons hlt, List.take_append_drop]
    have e1 : bt s at_ = ((bl s)[at_.toNat].toNat : Int) := bt_at_list e0 (by rw [List.length_take]; omega)
    rw [e1]
    have e2 : UInt8.ofNat (((bl s)[at_.toNat].toNat : Int)).toNat = (bl s)[at_.toNat] := by simp
    rw [e2]
    exact e0
  · rw [List.length_take]; omega
theorem decS_ok {s : ByteArray} {at_ a b c nx : Int} (h : decS s at_ = (a, b, c, nx, 0)) :
    rightI a b c = true ∧ I64 b ∧ I64 c ∧ 0 ≤ at_ ∧ nx = at_ + ((encI a b c).length : Int) ∧ nx ≤ (s.size : Int) ∧ ∃ r, bl s = (bl s).take at_.toNat ++ encI a b c ++ r := by
  unfold decS at h
  by_cases h0 : at_ < 0
  · rw [if_pos h0] at h; simp at h
  rw [if_neg h0] at h
  by_cases h1 : (s.size : Int) < at_
  · rw [if_pos h1] at h; simp at h
  rw [if_neg h1] at h
  by_cases h2 : at_ = (s.size : Int)
  · rw [if_pos h2] at h; simp at h
  rw [if_neg h2] at h
  obtain ⟨hsp, htk⟩ := bl_split (s := s) (at_ := at_) (by omega) (by omega)
  have hbr := bt_range s at_
  have Z : I64 0 := by unfold I64; omega
  by_cases h3 : argsOf (bt s at_) ≤ 0
  · rw [if_pos h3] at h
    obtain ⟨hR, rfl, rfl, rfl, rfl⟩ := finI_ok h
    have ha0 : argsOf (bt s at_) = 0 := by rcases right_argsOf hR with h | h | h <;> omega
    have he : encI (bt s at_) 0 0 = [UInt8.ofNat (bt s at_).toNat] := by unfold encI; rw [if_pos ha0, if_neg (by omega)]; rfl
    refine ⟨hR, Z, Z, by omega, by rw [he]; simp, by omega, (bl s).drop (at_.toNat + 1), ?_⟩
    rw [he]
    simpa using hsp
  rw [if_neg h3] at h
  by_cases h4 : (getS s (at_ + 1)).2.2 = 0
  · rw [if_pos h4] at h
    obtain ⟨g1, g2, g3, g4, r1, g5⟩ := getS_ok (s := s) (at_ := at_ + 1) (n := (getS s (at_ + 1)).1) (nx := (getS s (at_ + 1)).2.1) (by rw [← h4])
    generalize hb : (getS s (at_ + 1)).1 = b1 at *
    generalize hx : (getS s (at_ + 1)).2.1 = x1 at *
    have ht1 : (bl s).take (at_ + 1).toNat = (bl s).take at_.toNat ++ [UInt8.ofNat (bt s at_).toNat] := by
      have hsp2 : bl s = ((bl s).take at_.toNat ++ [UInt8.ofNat (bt s at_).toNat]) ++ (bl s).drop (at_.toNat + 1) := hsp.trans (by simp only [List.append_assoc, List.cons_append, List.nil_append])
      refine (congrArg (List.take (at_ + 1).toNat) hsp2).trans ?_
      rw [show (at_ + 1).toNat = ((bl s).take at_.toNat ++ [UInt8.ofNat (bt s at_).toNat]).length by simp only [List.length_append, htk, List.length_cons, List.length_nil]; omega]
      exact List.take_left
    rw [ht1] at g5
    by_cases h5 : argsOf (bt s at_) ≤ 1
    · rw [if_pos h5] at h
      obtain ⟨hR, rfl, rfl, rfl, rfl⟩ := finI_ok h
      have he : encI (bt s at_) b 0 = UInt8.ofNat (bt s at_).toNat :: enc (zz b) := by unfold encI; rw [if_neg (by omega), if_neg (by omega)]; simp
      refine ⟨hR, g2, Z, by omega, by rw [he]; simp only [List.length_cons]; omega, g4, r1, ?_⟩
      rw [he]
      refine g5.trans (by simp only [List.append_assoc, List.cons_append, List.nil_append])
    · rw [if_neg h5] at h
      by_cases h6 : (getS s x1).2.2 = 0
      · rw [if_pos h6] at h
        obtain ⟨k1, k2, k3, k4, r2, k5⟩ := getS_ok (s := s) (at_ := x1) (n := (getS s x1).1) (nx := (getS s x1).2.1) (by rw [← h6])
        obtain ⟨hR, rfl, rfl, rfl, rfl⟩ := finI_ok h
        have ha2 : argsOf (bt s at_) = 2 := by rcases right_argsOf hR with h | h | h <;> omega
        have he : encI (bt s at_) b (getS s x1).1 = UInt8.ofNat (bt s at_).toNat :: (enc (zz b) ++ enc (zz (getS s x1).1)) := by unfold encI; rw [if_neg (by omega), if_pos ha2]
        have hx1 : x1.toNat = at_.toNat + 1 + (enc (zz b)).length := by omega
        have ht2 : (bl s).take x1.toNat = (bl s).take at_.toNat ++ [UInt8.ofNat (bt s at_).toNat] ++ enc (zz b) := by
          rw [hx1]
          refine (congrArg (List.take (at_.toNat + 1 + (enc (zz b)).length)) g5).trans ?_
          rw [show at_.toNat + 1 + (enc (zz b)).length = ((bl s).take at_.toNat ++ [UInt8.ofNat (bt s at_).toNat] ++ enc (zz b)).length by simp only [List.length_append, htk, List.length_cons, List.length_nil]]
          exact List.take_left
        rw [ht2] at k5
        refine ⟨hR, g2, k2, by omega, by rw [he]; simp only [List.length_cons, List.length_append]; omega, k4, r2, ?_⟩
        rw [he]
        refine k5.trans (by simp only [List.append_assoc, List.cons_append, List.nil_append])
      · rw [if_neg h6] at h
        simp only [Prod.mk.injEq] at h
        exact absurd h.2.2.2.2 h6
  · rw [if_neg h4] at h
    simp only [Prod.mk.injEq] at h
    exact absurd h.2.2.2.2 h4
theorem decS_err {s : ByteArray} {at_ a b c nx e : Int} (h : decS s at_ = (a, b, c, nx, e)) (he : e ≠ 0) : a = 0 ∧ b = 0 ∧ c = 0 ∧ nx = 0 := by
  unfold decS at h
  have four : ∀ e' : Int, ((0 : Int), (0 : Int), (0 : Int), (0 : Int), e') = (a, b, c, nx, e) → a = 0 ∧ b = 0 ∧ c = 0 ∧ nx = 0 := by
    intro e' h
    simp only [Prod.mk.injEq] at h
    exact ⟨h.1.symm, h.2.1.symm, h.2.2.1.symm, h.2.2.2.1.symm⟩
  have fin : ∀ o b' c' nx' : Int, finI o b' c' nx' = (a, b, c, nx, e) → a = 0 ∧ b = 0 ∧ c = 0 ∧ nx = 0 := fun o b' c' nx' h => by
    obtain ⟨h1, h2, h3, h4, _⟩ := finI_err h he
    exact ⟨h1, h2, h3, h4⟩
  split at h
  · exact four _ h
  · split at h
    · exact four _ h
    · split at h
      · exact four _ h
      · split at h
        · exact fin _ _ _ _ h
        · split at h
          · split at h
            · exact fin _ _ _ _ h
            · split at h
              · exact fin _ _ _ _ h
              · exact four _ h
          · exact four _ h
/-- Cut off it is short. -/
theorem decS_cut {s : ByteArray} {A p q : List UInt8} {a b c : Int} (hR : rightI a b c = true) (hb : I64 b) (hc : I64 c) (h : bl s = A ++ p) (he : encI a b c = p ++ q) (hq : q ≠ []) {at_ : Int} (ha : at_ = (A.length : Int)) :
    decS s at_ = (0, 0, 0, 0, 2) := by
  have hr := right_range hR
  have hsz : s.size = A.length + p.length := by rw [bl_size, h]; simp
  unfold decS
  rw [if_neg (by omega), if_neg (by omega)]
  cases p with
  | nil => rw [if_pos (by simp at hsz; omega)]
  | cons x p =>
    simp only [List.length_cons] at hsz
    rw [if_neg (by omega)]
    unfold encI at he
    rw [List.cons_append, List.cons.injEq] at he
    obtain ⟨hx, he⟩ := he
    subst hx
    have hbt : bt s at_ = a := by
      rw [bt_at_list (A := A) (r := p) h ha, toNat_ofNat (by omega)]
      omega
    rw [hbt]
    have hs1 : bl s = (A ++ [UInt8.ofNat a.toNat]) ++ p := by rw [h]; simp
    rcases right_argsOf hR with h0 | h0 | h0
    · rw [if_pos h0, if_neg (by omega)] at he
      have := congrArg List.length he
      simp at this
      exact absurd (List.length_eq_zero_iff.1 (by omega)) hq
    · rw [if_neg (by omega), if_neg (by omega), List.append_nil] at he
      rw [if_neg (by omega)]
      rw [getS_cut hb hs1 he hq (by rw [ha]; simp), if_neg (by decide)]
    · rw [if_neg (by omega), if_pos h0] at he
      rw [if_neg (by omega)]
      rcases List.append_eq_append_iff.1 he with ⟨t, t1, t2⟩ | ⟨t, t1, t2⟩
      · have g1 := getS_put (s := s) hb (A := A ++ [UInt8.ofNat a.toNat]) (r := t) (by rw [hs1, t1]; simp) (at_ := at_ + 1) (by rw [ha]; simp)
        have g2 := getS_cut (s := s) hc (A := A ++ [UInt8.ofNat a.toNat] ++ enc (zz b)) (by rw [hs1, t1]; simp) t2 hq (at_ := at_ + 1 + ((enc (zz b)).length : Int)) (by rw [ha]; simp; omega)
        rw [g1]
        simp only [if_true]
        rw [if_neg (by omega), g2, if_neg (by decide)]
      · by_cases ht : t = []
        · subst ht
          simp only [List.append_nil, List.nil_append] at t1 t2
          have g1 := getS_put (s := s) hb (A := A ++ [UInt8.ofNat a.toNat]) (r := []) (by rw [hs1, ← t1]; simp) (at_ := at_ + 1) (by rw [ha]; simp)
          have g2 := getS_cut (s := s) hc (A := A ++ [UInt8.ofNat a.toNat] ++ enc (zz b)) (p := []) (q := q) (by rw [hs1, ← t1]; simp) (by simp [t2]) hq (at_ := at_ + 1 + ((enc (zz b)).length : Int)) (by rw [ha]; simp; omega)
          rw [g1]
          simp only [if_true]
          rw [if_neg (by omega), g2, if_neg (by decide)]
        · rw [getS_cut hb hs1 t1 ht (by rw [ha]; simp), if_neg (by decide)]

end Go.Proofs.Ytnfoebbdmekbiaa.OL
namespace Go.Proofs.Ytnfoebbdmekbiaa.OL
open Go.RowKit Go.Proofs.Ytnfoebbdmekbiaa.C Go.Proofs.Ytnfoebbdmekbiaa.P Go.Proofs.Ytnfoebbdmekbiaa.CM Go.Proofs.Ytnfoebbdmekbiaa.CL Go.Proofs.YtnfoebbdmekbiaaW.PrintWords Go.Proofs.YtnfoebbdmekbiaaW.PrintLast Go.Proofs.YtnfoebbdmekbiaaW.PrintMore

theorem name_ne {a : Int} (h : 1 ≤ a ∧ a ≤ 25) : bl (kindOf a).1 ≠ [] := by
  rcases op_cases h.1 h.2 with rfl | rfl | rfl | rfl | rfl | rfl | rfl | rfl | rfl | rfl | rfl | rfl | rfl | rfl | rfl | rfl | rfl | rfl | rfl | rfl | rfl | rfl | rfl | rfl | rfl <;> decide
theorem name_no {a : Int} (h : ¬ (1 ≤ a ∧ a ≤ 25)) : bl (kindOf a).1 = [] := by rw [kindOf_none (by omega)]; rfl
theorem name_nil (a : Int) : (kindOf a).1.toList = ([] : List UInt8) ↔ ¬ (1 ≤ a ∧ a ≤ 25) := by
  rw [toList_bl]
  exact ⟨fun h h1 => name_ne h1 h, name_no⟩
theorem name_idx {a : Int} (h : 1 ≤ a ∧ a ≤ 25) : ((tab.findIdx fun r => r.1.data.toList == bl (kindOf a).1 : Nat) : Int) = a := by
  rcases op_cases h.1 h.2 with rfl | rfl | rfl | rfl | rfl | rfl | rfl | rfl | rfl | rfl | rfl | rfl | rfl | rfl | rfl | rfl | rfl | rfl | rfl | rfl | rfl | rfl | rfl | rfl | rfl <;> decide
theorem name_inj {a b : Int} (ha : 1 ≤ a ∧ a ≤ 25) : (kindOf a).1.toList = (kindOf b).1.toList ↔ a = b := by
  rw [toList_bl, toList_bl]
  constructor
  · intro h
    by_cases hb : 1 ≤ b ∧ b ≤ 25
    · rw [← name_idx ha, h, name_idx hb]
    · rw [name_no hb] at h
      exact absurd h (name_ne ha)
  · intro h; rw [h]
theorem args_nonneg (a : Int) : 0 ≤ argsOf a ↔ 1 ≤ a ∧ a ≤ 25 := by
  unfold argsOf
  by_cases h1 : 1 ≤ a ∧ a ≤ 25
  · refine ⟨fun _ => h1, fun _ => ?_⟩
    rcases op_cases h1.1 h1.2 with rfl | rfl | rfl | rfl | rfl | rfl | rfl | rfl | rfl | rfl | rfl | rfl | rfl | rfl | rfl | rfl | rfl | rfl | rfl | rfl | rfl | rfl | rfl | rfl | rfl <;> decide
  · rw [kindOf_none (by omega)]
    exact ⟨fun h => by simp at h, fun h => absurd h h1⟩
theorem kind_small {a : Int} (h : 1 ≤ a ∧ a ≤ 25) (h1 : a ≠ 1) : 0 ≤ (kindOf a).2.2.1 ∧ (kindOf a).2.2.2 ≤ 1000 := by
  rcases op_cases h.1 h.2 with rfl | rfl | rfl | rfl | rfl | rfl | rfl | rfl | rfl | rfl | rfl | rfl | rfl | rfl | rfl | rfl | rfl | rfl | rfl | rfl | rfl | rfl | rfl | rfl | rfl <;> first | exact absurd rfl h1 | decide
theorem inB_iff {lo hi n : Int} (h : inB lo hi n = true) : lo ≤ n ∧ n ≤ hi := by
  unfold inB at h
  rw [Bool.and_eq_true, decide_eq_true_eq, decide_eq_true_eq] at h
  exact h
theorem right_small {a b c : Int} (h : rightI a b c = true) (h1 : a ≠ 1) : 0 ≤ b ∧ b ≤ 1000 ∧ 0 ≤ c ∧ c ≤ 1000 := by
  have hr := right_range h
  have hk := kind_small hr h1
  unfold rightI rightK at h
  split at h
  · rw [Bool.and_eq_true, decide_eq_true_eq, decide_eq_true_eq] at h
    omega
  · split at h
    · rw [Bool.and_eq_true, decide_eq_true_eq] at h
      have := inB_iff h.1
      omega
    · split at h
      · rw [Bool.and_eq_true] at h
        have := inB_iff h.1
        have := inB_iff h.2
        omega
      · cases h
theorem enc_two {n : Int} (h : 0 ≤ n ∧ n ≤ 1000) : (enc (zz n)).length ≤ 2 := by
  apply enc_len_le 1
  unfold zz
  rw [if_pos h.1]
  omega
theorem encS_nil {a b c : Int} : (encS a b c).toList = ([] : List UInt8) ↔ ¬ rightI a b c = true := by
  rw [toList_bl]
  unfold encS
  by_cases h : rightI a b c = true
  · rw [if_pos h, bl_ofL]
    exact ⟨fun e => by simp [encI] at e, fun e => absurd h e⟩
  · rw [if_neg h, bl_ofL]
    exact ⟨fun _ => h, fun _ => rfl⟩

end Go.Proofs.Ytnfoebbdmekbiaa.OL
