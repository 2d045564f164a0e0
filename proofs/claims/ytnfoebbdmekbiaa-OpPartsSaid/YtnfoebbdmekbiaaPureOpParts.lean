/- OpParts: instructions one behind the other have their bytes one behind the other; each stands where the one ahead ends; for all rows. -/
import Derived.Test.YtnfoebbdmekbiaaOC
import Derived.Test.YtnfoebbdmekbiaaPx6
import Derived.Test.YtnfoebbdmekbiaaPx11
namespace Go.Proofs.Ytnfoebbdmekbiaa.Pure
open Go.RowKit Go.Proofs.Ytnfoebbdmekbiaa.C Go.Proofs.Ytnfoebbdmekbiaa.P Go.Proofs.Ytnfoebbdmekbiaa.CM Go.Proofs.Ytnfoebbdmekbiaa.CL Go.Proofs.Ytnfoebbdmekbiaa.OL Go.Proofs.YtnfoebbdmekbiaaW.PrintWords Go.Proofs.YtnfoebbdmekbiaaW.PrintLast Go.Proofs.YtnfoebbdmekbiaaW.PrintMore

theorem known_parts {k : Nat} (hk : 60 ≤ k) : camshaftlaw04_known.f k = some true := at_rounds camshaftlaw04_known.mono hk camshaftlaw04_known.run
theorem cut_mid (A X r : List UInt8) : ((A ++ X ++ r).take (A.length + X.length)).drop A.length = X := by
  rw [← List.length_append, List.take_left, List.drop_left]
theorem parts_l1 (m : List Ins) (hw : ∀ x ∈ m, InI x) (ho : ∀ x ∈ m, okI x = true) (hn : m.length ≤ 100) (s : ByteArray) (hs : bl s = encR m) : ∀ (d j k : Nat) (at_ : Int), j + d = m.length → d + 400 ≤ k →
    at_ = ((encR (m.take j)).length : Int) → camshaftlaw04_OpParts.l1 k m s at_ (j : Int) = some true := by
  have hL := (encR_len hw).2
  have hsz : s.size = (encR m).length := by rw [bl_size, hs]
  intro d
  induction d with
  | zero =>
    intro j k at_ hj hk ha
    obtain ⟨k, rfl⟩ : ∃ q, k = q + 1 := ⟨k - 1, by omega⟩
    simp only [camshaftlaw04_OpParts.l1]
    rw [if_neg (by omega), if_pos (by rw [ha, hsz, List.take_of_length_le (by omega)])]
    exact Option.bind_eq_some_iff.2 ⟨_, known_parts (by omega), rfl⟩
  | succ d ih =>
    intro j k at_ hj hk ha
    obtain ⟨k, rfl⟩ : ∃ q, k = q + 1 := ⟨k - 1, by omega⟩
    have hlt : j < m.length := by omega
    have hm := rdT_mem hlt
    have hdrop := rdT_drop hlt
    simp only [camshaftlaw04_OpParts.l1]
    generalize rd_T23 m (j : Int) = x at *
    have hx := hw _ hm
    have hR := ho _ hm
    have hsp : bl s = encR (m.take j) ++ encX x ++ encR (m.drop (j + 1)) := by
      rw [hs, List.append_assoc, ← encR_cons, ← hdrop, ← encR_append, List.take_append_drop]
    have D : decS s at_ = (x.f0, x.f1, x.f2, at_ + ((encX x).length : Int), 0) := decS_enc hR hx.2.1 hx.2.2 hsp ha
    have hl := encX_len hx
    have htot : (encR (m.take j)).length + (encX x).length + (encR (m.drop (j + 1))).length = s.size := by rw [bl_size, hsp]; simp only [List.length_append]
    have hnx : at_ + ((encX x).length : Int) = ((encR (m.take (j + 1))).length : Int) := by
      have e : (encR (m.take (j + 1))).length + (encR (m.drop (j + 1))).length = s.size := by rw [← List.length_append, ← encR_append, List.take_append_drop, hsz]
      omega
    have e1 : (ofL (encX x)).size = (encX x).length := by rw [bl_size, bl_ofL]
    have hcut : (s.extract at_.toNat (at_ + ((encX x).length : Int)).toNat).toList = (ofL (encX x)).toList := by
      rw [toList_bl, toList_bl, bl_ofL, bl_extract, hsp, show at_.toNat = (encR (m.take j)).length by omega, show (at_ + ((encX x).length : Int)).toNat = (encR (m.take j)).length + (encX x).length by omega, cut_mid]
    rw [if_pos (by omega)]
    refine Option.bind_eq_some_iff.2 ⟨_, decode_eq s (by omega) at_ (by omega), ?_⟩
    rw [D]
    dsimp only
    rw [if_pos rfl, if_pos (by omega), if_neg (by simp)]
    refine Option.bind_eq_some_iff.2 ⟨_, encode_eq hx.2.1 hx.2.2 (by omega), ?_⟩
    rw [encS_ok hR, e1, show wrap64 (at_ + ((encX x).length : Int)) = at_ + ((encX x).length : Int) from by clear D hsp hcut hnx; unfold wrap64; omega]
    rw [if_pos rfl, if_neg (by omega), if_pos (by omega), if_pos (by omega), if_pos (by omega)]
    refine Option.bind_eq_some_iff.2 ⟨_, encode_eq hx.2.1 hx.2.2 (by omega), ?_⟩
    rw [encS_ok hR, if_pos hcut, show wrap64 ((j : Int) + 1) = ((j + 1 : Nat) : Int) from by clear D hsp hcut hnx; unfold wrap64; omega]
    exact ih (j + 1) k _ (by omega) (by omega) hnx
theorem parts_fin (l acc : List Ins) (hacc : ∀ x ∈ acc, InI x ∧ okI x = true) (hn : acc.length ≤ 100) (i : Int) (k : Nat) (hk : 600 ≤ k) : camshaftlaw04_OpParts.j1 (k + 1) l acc i false = some true := by
  simp only [camshaftlaw04_OpParts.j1]
  rw [if_neg (by decide)]
  refine Option.bind_eq_some_iff.2 ⟨_, code_eq (fun x hx => (hacc x hx).1) (by omega), ?_⟩
  have hall : acc.all okI = true := List.all_eq_true.2 fun x hx => (hacc x hx).2
  have e : codeS acc = ofL (encR acc) := by unfold codeS; rw [if_pos ⟨by omega, hall⟩]
  rw [e]
  exact parts_l1 acc (fun x hx => (hacc x hx).1) (fun x hx => (hacc x hx).2) hn _ (bl_ofL _) acc.length 0 k 0 (by omega) (by omega) rfl
theorem parts_l0 (l : List Ins) (hw : ∀ x ∈ l, InI x) : ∀ (d i k : Nat) (acc : List Ins), i + d = min l.length 100 → 2 * d + 700 ≤ k → acc.length ≤ i → (∀ x ∈ acc, InI x ∧ okI x = true) →
    camshaftlaw04_OpParts.l0 k l acc (i : Int) = some true := by
  intro d
  induction d with
  | zero =>
    intro i k acc hi hk hn hacc
    obtain ⟨k, rfl⟩ : ∃ q, k = q + 2 := ⟨k - 2, by omega⟩
    simp only [camshaftlaw04_OpParts.l0]
    have fin := parts_fin l acc hacc (by omega) (i : Int) k (by omega)
    by_cases h : (i : Int) < (l.length : Int)
    · rw [if_pos h, show decide ((i : Int) < 100) = false from decide_eq_false (by omega)]
      exact fin
    · rw [if_neg h]
      exact fin
  | succ d ih =>
    intro i k acc hi hk hn hacc
    obtain ⟨k, rfl⟩ : ∃ q, k = q + 2 := ⟨k - 2, by omega⟩
    have hlt : i < l.length := by omega
    have hx := hw _ (rdT_mem hlt)
    simp only [camshaftlaw04_OpParts.l0]
    rw [if_pos (by omega), show decide ((i : Int) < 100) = true from decide_eq_true (by omega)]
    simp only [camshaftlaw04_OpParts.j1]
    rw [if_pos trivial, if_pos (by omega), if_pos (by omega)]
    generalize rd_T23 l (i : Int) = x at *
    refine Option.bind_eq_some_iff.2 ⟨okI x, rfl, ?_⟩
    rw [show wrap64 ((i : Int) + 1) = ((i + 1 : Nat) : Int) from by clear hx hacc; unfold wrap64; omega]
    by_cases hR : okI x = true
    · rw [if_pos hR, if_pos (by omega)]
      refine ih (i + 1) k _ (by omega) (by omega) (by rw [List.length_append]; simp; omega) ?_
      intro y hy
      rcases List.mem_append.1 hy with h | h
      · exact hacc y h
      · obtain rfl := List.mem_singleton.1 h
        exact ⟨hx, hR⟩
    · rw [if_neg hR]
      exact ih (i + 1) k _ (by omega) (by omega) (by omega) hacc
theorem parts_all (k : Nat) (hk : 1000 ≤ k) (l : List Ins) (hw : ∀ x ∈ l, InI x) : camshaftlaw04_OpParts.f k l = some true :=
  parts_l0 l hw (min l.length 100) 0 k [] (by omega) (by omega) (by simp) (by simp)
theorem OpParts : camshaftlaw04_OpParts.Pure := fun l _ w => ⟨1000, parts_all 1000 (Nat.le_refl _) l (InI_of w)⟩

end Go.Proofs.Ytnfoebbdmekbiaa.Pure
