/- OpCuts: instructions' bytes that are cut off in the middle of one are short; at the end of one they are those ahead; for all rows and cuts. -/
import Derived.Test.YtnfoebbdmekbiaaOE
import Derived.Test.YtnfoebbdmekbiaaPx6
import Derived.Test.YtnfoebbdmekbiaaPx13
namespace Go.Proofs.Ytnfoebbdmekbiaa.Pure
open Go.RowKit Go.Proofs.Ytnfoebbdmekbiaa.C Go.Proofs.Ytnfoebbdmekbiaa.P Go.Proofs.Ytnfoebbdmekbiaa.CM Go.Proofs.Ytnfoebbdmekbiaa.CL Go.Proofs.Ytnfoebbdmekbiaa.OL Go.Proofs.YtnfoebbdmekbiaaW.PrintWords Go.Proofs.YtnfoebbdmekbiaaW.PrintLast Go.Proofs.YtnfoebbdmekbiaaW.PrintMore

theorem known_cuts {k : Nat} (hk : 60 ≤ k) : camshaftlaw04_known.f k = some true := at_rounds camshaftlaw04_known.mono hk camshaftlaw04_known.run
theorem cuts_at (l : List Ins) (hw : ∀ x ∈ l, InI x ∧ okI x = true) (hn : l.length ≤ 100) (t : ByteArray) (c j k : Nat) (hj : j ≤ l.length) (hk : 400 ≤ k) (ht : bl t = (encR l).take c) (hc : c = (encR (l.take j)).length) :
    camshaftlaw04_OpCuts.j1 (k + 1) l (c : Int) (readS t).1 (readS t).2 (c : Int) (j : Int) = some true := by
  have e : encR l = encR (l.take j) ++ encR (l.drop j) := by rw [← encR_append, List.take_append_drop]
  have ht2 : bl t = encR (l.take j) := by rw [ht, e, hc, List.take_left]
  have R := readS_enc (l := l.take j) (fun x hx => hw x (List.mem_of_mem_take hx)) (by rw [List.length_take]; omega) ht2
  rw [R]
  simp only [camshaftlaw04_OpCuts.j1]
  rw [if_pos trivial, if_pos trivial, if_pos (by omega), if_pos (by omega), show (j : Int).toNat = j from rfl]
  obtain ⟨r, e1, e2⟩ := rsameI_eq (l.take j) (l.take j) (by rw [List.length_take]; omega) (k := k) (by rw [List.length_take]; omega)
  refine Option.bind_eq_some_iff.2 ⟨_, e1, ?_⟩
  rw [if_pos (e2.2 rfl)]
  exact Option.bind_eq_some_iff.2 ⟨_, known_cuts (by omega), rfl⟩
theorem cuts_l0 (l : List Ins) (hw : ∀ x ∈ l, InI x ∧ okI x = true) (hn : l.length ≤ 100) (t : ByteArray) (c : Nat) (hc : c ≤ (encR l).length) (ht : bl t = (encR l).take c) : ∀ (d j k : Nat) (a : Nat), j + d = l.length → d + 500 ≤ k → a = (encR (l.take j)).length → a ≤ c →
    camshaftlaw04_OpCuts.l0 k l (c : Int) (readS t).1 (readS t).2 (a : Int) (j : Int) = some true := by
  have hL := (encR_len (fun x hx => (hw x hx).1)).2
  intro d
  induction d with
  | zero =>
    intro j k a hj hk ha hac
    obtain ⟨k, rfl⟩ : ∃ q, k = q + 2 := ⟨k - 2, by omega⟩
    simp only [camshaftlaw04_OpCuts.l0]
    rw [if_neg (by omega)]
    have : c = a := by rw [ha, List.take_of_length_le (by omega)]; rw [ha, List.take_of_length_le (by omega)] at hac; omega
    subst this
    exact cuts_at l hw hn t c j k (by omega) (by omega) ht ha
  | succ d ih =>
    intro j k a hj hk ha hac
    obtain ⟨k, rfl⟩ : ∃ q, k = q + 2 := ⟨k - 2, by omega⟩
    have hlt : j < l.length := by omega
    have hm := rdT_mem hlt
    have hdrop := rdT_drop hlt
    simp only [camshaftlaw04_OpCuts.l0]
    generalize rd_T23 l (j : Int) = x at *
    have hx := hw _ hm
    have hl := encX_len hx.1
    have hsp : encR l = encR (l.take j) ++ (encX x ++ encR (l.drop (j + 1))) := by rw [← encR_cons, ← hdrop, ← encR_append, List.take_append_drop]
    have htot : (encR (l.take j)).length + ((encX x).length + (encR (l.drop (j + 1))).length) = (encR l).length := by rw [hsp]; simp only [List.length_append]
    have hnx : a + (encX x).length = (encR (l.take (j + 1))).length := by
      have e : (encR (l.take (j + 1))).length + (encR (l.drop (j + 1))).length = (encR l).length := by rw [← List.length_append, ← encR_append, List.take_append_drop]
      omega
    have e1 : (ofL (encX x)).size = (encX x).length := by rw [bl_size, bl_ofL]
    rw [if_pos (by omega), if_pos (by omega)]
    refine Option.bind_eq_some_iff.2 ⟨_, encode_eq hx.1.2.1 hx.1.2.2 (by omega), ?_⟩
    rw [encS_ok hx.2, e1, show wrap64 ((a : Int) + ((encX x).length : Int)) = ((a + (encX x).length : Nat) : Int) from by clear hsp; unfold wrap64; omega]
    by_cases hle : a + (encX x).length ≤ c
    · rw [if_pos (by omega)]
      refine Option.bind_eq_some_iff.2 ⟨_, encode_eq hx.1.2.1 hx.1.2.2 (by omega), ?_⟩
      rw [encS_ok hx.2, e1, show wrap64 ((a : Int) + ((encX x).length : Int)) = ((a + (encX x).length : Nat) : Int) from by clear hsp; unfold wrap64; omega, show wrap64 ((j : Int) + 1) = ((j + 1 : Nat) : Int) from by clear hsp; unfold wrap64; omega]
      exact ih (j + 1) (k + 1) _ (by omega) (by omega) hnx hle
    · rw [if_neg (by omega)]
      by_cases hac2 : c = a
      · subst hac2
        exact cuts_at l hw hn t c j k (by omega) (by omega) ht ha
      · have ht2 : bl t = encR (l.take j) ++ (encX x).take (c - a) := by
          rw [ht, hsp, List.take_append, show (encR (l.take j)).take c = encR (l.take j) from List.take_of_length_le (by rw [← ha]; exact hac), ← ha, List.take_append, show c - a - (encX x).length = 0 from by clear hsp ht; omega, List.take_zero, List.append_nil]
        have R := readS_cut (l := l.take j) (fun y hy => hw y (List.mem_of_mem_take hy)) (by rw [List.length_take]; omega) hx (p := (encX x).take (c - a)) (q := (encX x).drop (c - a))
          (by intro h; have := congrArg List.length h; rw [List.length_take, List.length_nil] at this; omega) (by intro h; have := congrArg List.length h; rw [List.length_drop, List.length_nil] at this; omega) (List.take_append_drop _ _).symm ht2
        rw [R]
        simp only [camshaftlaw04_OpCuts.j1]
        rw [if_neg (by omega), if_pos (by simp), if_pos (by simp)]
        exact Option.bind_eq_some_iff.2 ⟨_, known_cuts (by omega), rfl⟩
theorem cuts_all (k : Nat) (hk : 10000 ≤ k) (l : List Ins) (a : Int) (hw : ∀ x ∈ l, InI x) (h0 : 0 ≤ a ∧ a ≤ 65535) : camshaftlaw04_OpCuts.f k l a = some true := by
  have K := known_cuts (k := k) (by omega)
  unfold camshaftlaw04_OpCuts.f
  by_cases h : (l.length : Int) > 100
  · rw [if_pos h]
    exact Option.bind_eq_some_iff.2 ⟨_, K, rfl⟩
  rw [if_neg h]
  refine Option.bind_eq_some_iff.2 ⟨_, code_eq hw (by omega), ?_⟩
  by_cases hs : (codeS l).toList = ([] : List UInt8)
  · rw [if_pos hs]
    exact Option.bind_eq_some_iff.2 ⟨_, K, rfl⟩
  rw [if_neg hs]
  have hall : l.all okI = true := by
    apply Classical.byContradiction
    intro hn
    apply hs
    rw [toList_bl]
    unfold codeS
    rw [if_neg (fun h3 => hn h3.2)]
    rfl
  have e : codeS l = ofL (encR l) := by unfold codeS; rw [if_pos ⟨by omega, hall⟩]
  have hok : ∀ x ∈ l, InI x ∧ okI x = true := fun x hx => ⟨hw x hx, List.all_eq_true.1 hall x hx⟩
  have hL := (encR_len hw).2
  have hsz : (ofL (encR l)).size = (encR l).length := by rw [bl_size, bl_ofL]
  rw [e, hsz, show wrap64 (((encR l).length : Int) + 1) = ((encR l).length : Int) + 1 from by unfold wrap64; omega, show wrap64 a = a from by unfold wrap64; omega]
  obtain ⟨c, hc⟩ : ∃ c : Nat, Int.tmod a (((encR l).length : Int) + 1) = (c : Int) := ⟨(Int.tmod a (((encR l).length : Int) + 1)).toNat, (Int.toNat_of_nonneg (Int.tmod_nonneg _ h0.1)).symm⟩
  have hlt : (c : Int) < ((encR l).length : Int) + 1 := by rw [← hc]; exact Int.tmod_lt_of_pos _ (by omega)
  rw [hc, if_neg (by omega), if_pos (by omega), if_pos (by omega)]
  refine Option.bind_eq_some_iff.2 ⟨_, read_eq _ (by rw [bl_size, bl_extract, bl_ofL, List.drop_zero, List.length_take]; omega) (by rw [bl_size, bl_extract, bl_ofL, List.drop_zero, List.length_take]; omega), ?_⟩
  exact cuts_l0 l hok (by omega) _ c (by omega) (by rw [bl_extract, bl_ofL, List.drop_zero]; rfl) l.length 0 k 0 (by omega) (by omega) rfl (by omega)
theorem OpCuts : camshaftlaw04_OpCuts.Pure := fun l a _ w wa => ⟨10000, cuts_all 10000 (Nat.le_refl _) l a (InI_of w) (by have h : IntKind.u16.min ≤ a ∧ a ≤ IntKind.u16.max := (by simpa [Lit.wf] using wa); exact h)⟩

end Go.Proofs.Ytnfoebbdmekbiaa.Pure
