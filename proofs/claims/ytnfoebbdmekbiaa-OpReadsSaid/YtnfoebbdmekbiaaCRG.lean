/- What the reference's printed Get comes to: the same as the program's. No conditions beyond those that each lemma states. -/
import Derived.Test.YtnfoebbdmekbiaaCRP
import Derived.Test.YtnfoebbdmekbiaaCx3
namespace Go.Proofs.Ytnfoebbdmekbiaa.CL
open Go.RowKit Go.Proofs.Ytnfoebbdmekbiaa.C Go.Proofs.Ytnfoebbdmekbiaa.CM Go.Proofs.YtnfoebbdmekbiaaW.PrintWords Go.Proofs.YtnfoebbdmekbiaaW.PrintLast Go.Proofs.YtnfoebbdmekbiaaW.PrintMore

theorem rback_eq {u : Nat} (h : u < 18446744073709551616) : camshaftref02_back.f (u : Int) = some (unzz u) := by
  unfold camshaftref02_back.f unzz
  rw [show Int.tmod (u : Int) 2 = ((u % 2 : Nat) : Int) from by rw [Int.tmod_eq_emod_of_nonneg (by omega)]; omega]
  rw [show IntKind.u64.wrap (Int.tdiv (u : Int) 2) = ((u / 2 : Nat) : Int) from by rw [Int.tdiv_eq_ediv_of_nonneg (by omega), wrap_u64]; omega]
  by_cases h0 : u % 2 = 0
  · rw [if_pos (by omega), if_pos h0]
    congr 1
    unfold wrap64
    omega
  · rw [if_neg (by omega), if_neg h0]
    congr 1
    rw [show wrap64 ((u / 2 : Nat) : Int) = ((u / 2 : Nat) : Int) from by unfold wrap64; omega]
    rw [show wrap64 (-((u / 2 : Nat) : Int)) = -((u / 2 : Nat) : Int) from by unfold wrap64; omega]
    unfold wrap64
    omega

/-- What the bytes up to one below 128 tell. -/
def last1 (at_ : Int) (l : List UInt8) : Int × Int × Int :=
  if enc (val l % 18446744073709551616) = l then (unzz (val l % 18446744073709551616), at_ + (l.length : Int), 0) else (0, 0, 3)
theorem val_wf {pre : List UInt8} {c : UInt8} (hc : c.toNat < 128) (h9 : pre.length ≤ 9) (hn : ¬ (pre.length = 9 ∧ 1 < c.toNat)) : val (pre ++ [c]) < 18446744073709551616 := by
  rw [val_append]
  have hv := val_lt pre
  have hc' : val [c] = c.toNat := by simp [val]; omega
  rw [hc']
  by_cases h : pre.length = 9
  · have hc1 : c.toNat ≤ 1 := by omega
    rw [h] at hv ⊢
    have : 128 ^ 9 * c.toNat ≤ 128 ^ 9 * 1 := Nat.mul_le_mul_left _ hc1
    omega
  · have a1 : 128 ^ pre.length ≤ 128 ^ 8 := Nat.pow_le_pow_right (by decide) (by omega)
    have a2 : 128 ^ pre.length * c.toNat ≤ 128 ^ 8 * 127 := Nat.mul_le_mul a1 (by omega)
    omega
theorem last1_eq (at_ : Int) {pre : List UInt8} {c : UInt8} (hp : Hi pre) (hc : c.toNat < 128) (h9 : pre.length ≤ 9) :
    last1 at_ (pre ++ [c]) = conv at_ (if (pre ≠ [] ∧ c.toNat = 0) ∨ (pre.length = 9 ∧ 1 < c.toNat) then (0, 0, 3) else (unzz (val (pre ++ [c])), ((pre.length + 1 : Nat) : Int), 0)) := by
  unfold last1
  by_cases hb : (pre ≠ [] ∧ c.toNat = 0) ∨ (pre.length = 9 ∧ 1 < c.toNat)
  · rw [if_pos hb, conv_err _ (by decide), if_neg]
    intro e
    obtain ⟨p', c', e1, h1, h2, h3⟩ := enc_shape _ (val (pre ++ [c]) % 18446744073709551616) (Nat.le_refl _)
    rw [e] at e1
    obtain ⟨e2, e3⟩ := List.append_inj' e1 rfl
    have e4 : c = c' := by simpa using e3
    subst e2 e4
    rcases hb with ⟨hb1, hb2⟩ | ⟨hb1, hb2⟩
    · exact h3 hb1 hb2
    · have e5 := congrArg val e
      rw [val_enc', val_append, hb1] at e5
      have hc' : val [c] = c.toNat := by simp [val]; omega
      rw [hc'] at e5
      have : 128 ^ 9 * 2 ≤ 128 ^ 9 * c.toNat := Nat.mul_le_mul_left _ hb2
      omega
  · rw [if_neg hb]
    have hv := val_wf hc h9 (fun h => hb (.inr h))
    have hz : pre ≠ [] → c.toNat ≠ 0 := fun ht h0 => hb (.inl ⟨ht, h0⟩)
    rw [Nat.mod_eq_of_lt hv, enc_of_shape pre c hp hc hz, if_pos rfl]
    simp [conv]

/-- The loop from the last byte to the first one. -/
theorem rget_l1 (s : ByteArray) (hs : s.size ≤ 1000000) (A l r : List UInt8) (h : bl s = A ++ l ++ r) (hl : 1 ≤ l.length) : ∀ (d k : Nat) (y : List UInt8), d ≤ l.length → y = l.drop d → d + 20 ≤ k →
    camshaftref02_Get.l1 k s (A.length : Int) ((A.length : Int) + (l.length : Int) - 1) ((val y % 18446744073709551616 : Nat) : Int) ((A.length : Int) + (d : Int) - 1) = some (last1 (A.length : Int) l) := by
  have hsz : s.size = A.length + l.length + r.length := by rw [bl_size, h]; simp only [List.length_append]
  intro d
  induction d with
  | zero =>
    intro k y hd hy hk
    obtain ⟨k, rfl⟩ : ∃ m, k = m + 1 := ⟨k - 1, by omega⟩
    rw [List.drop_zero] at hy
    subst hy
    simp only [camshaftref02_Get.l1]
    rw [if_neg (by omega)]
    have hv : val y % 18446744073709551616 < 18446744073709551616 := Nat.mod_lt _ (by decide)
    refine Option.bind_eq_some_iff.2 ⟨_, rback_eq hv, ?_⟩
    refine Option.bind_eq_some_iff.2 ⟨_, rput_eq (unzz_I64 hv) (by omega), ?_⟩
    rw [show wrap64 ((A.length : Int) + (y.length : Int) - 1 + 1) = (A.length : Int) + (y.length : Int) from by clear hv; unfold wrap64; omega]
    rw [if_pos (by omega), if_pos (by omega), if_pos (by omega)]
    have e : (encB (unzz (val y % 18446744073709551616))).toList = (s.extract ((A.length : Int)).toNat ((A.length : Int) + (y.length : Int)).toNat).toList ↔ enc (val y % 18446744073709551616) = y := by
      rw [toList_bl, toList_bl, bl_encB, zz_unzz, bl_extract, h]
      rw [show ((A.length : Int) + (y.length : Int)).toNat = A.length + y.length by omega, show ((A.length : Int)).toNat = A.length from rfl]
      rw [show ((A ++ y ++ r).take (A.length + y.length)).drop A.length = y from by
        rw [show A.length + y.length = (A ++ y).length by simp, List.take_left, List.drop_left]]
    unfold last1
    by_cases h1 : enc (val y % 18446744073709551616) = y
    · rw [if_pos (e.2 h1), if_pos h1]
    · rw [if_neg (fun h2 => h1 (e.1 h2)), if_neg h1]
  | succ d ih =>
    intro k y hd hy hk
    obtain ⟨k, rfl⟩ : ∃ m, k = m + 1 := ⟨k - 1, by omega⟩
    have hlt : d < l.length := by omega
    have hb : bt s ((A.length : Int) + ((d + 1 : Nat) : Int) - 1) = (l[d].toNat : Int) := by
      refine bt_at_list (A := A ++ l.take d) (r := l.drop (d + 1) ++ r) ?_ (by simp; omega)
      rw [h]
      have e0 : l = l.take d ++ l[d] :: l.drop (d + 1) := by rw [← List.drop_eq_getElem_cons hlt, List.take_append_drop]
      exact (congrArg (fun z => A ++ z ++ r) e0).trans (by simp only [List.append_assoc, List.cons_append])
    have hc := l[d].toNat_lt
    simp only [camshaftref02_Get.l1]
    rw [if_pos (by omega), if_pos (by omega), if_pos (by omega), hb]
    rw [show wrap64 ((A.length : Int) + ((d + 1 : Nat) : Int) - 1 - 1) = (A.length : Int) + (d : Int) - 1 from by unfold wrap64; omega]
    have e1 : l.drop d = l[d] :: y := by rw [hy, List.drop_eq_getElem_cons hlt]
    rw [show IntKind.u64.wrap (IntKind.u64.wrap (128 * ((val y % 18446744073709551616 : Nat) : Int)) + IntKind.u64.wrap (Int.tmod (l[d].toNat : Int) 128)) = ((val (l[d] :: y) % 18446744073709551616 : Nat) : Int) from by
      rw [Int.tmod_eq_emod_of_nonneg (by omega), wrap_u64, wrap_u64, wrap_u64, val]
      generalize val y = v at *
      generalize l[d].toNat = c at *
      omega]
    exact ih k (l[d] :: y) (by omega) e1.symm (by omega)

theorem rget_l0 (s : ByteArray) (hs : s.size ≤ 1000000) (L : List UInt8) : ∀ (A pre : List UInt8) (k : Nat), bl s = A ++ pre ++ L → Hi pre → pre.length ≤ 10 → 60 ≤ k + pre.length →
    camshaftref02_Get.l0 k s (A.length : Int) ((A.length : Int) + (pre.length : Int)) = some (conv (A.length : Int) (getGo pre L)) := by
  induction L with
  | nil =>
    intro A pre k hL hp hl hk
    obtain ⟨k, rfl⟩ : ∃ m, k = m + 2 := ⟨k - 2, by omega⟩
    have hsz : s.size = A.length + pre.length := by rw [bl_size, hL]; simp
    simp only [camshaftref02_Get.l0, camshaftref02_Get.j2, getGo]
    rw [if_neg (by omega)]
    rw [show wrap64 ((A.length : Int) + 10) = (A.length : Int) + 10 from by unfold wrap64; omega]
    by_cases h10 : 10 ≤ pre.length
    · rw [if_pos (by omega), if_pos h10, conv_err _ (by decide)]
    · rw [if_neg (by omega), if_pos (by omega), if_neg h10, conv_err _ (by decide)]
  | cons c r ih =>
    intro A pre k hL hp hl hk
    obtain ⟨k, rfl⟩ : ∃ m, k = m + 2 := ⟨k - 2, by omega⟩
    have hsz : s.size = A.length + pre.length + (r.length + 1) := by rw [bl_size, hL]; simp; omega
    have hbt : bt s ((A.length : Int) + (pre.length : Int)) = (c.toNat : Int) := bt_at_list (A := A ++ pre) (r := r) (by rw [hL]) (by simp)
    have w10 : wrap64 ((A.length : Int) + 10) = (A.length : Int) + 10 := by unfold wrap64; omega
    rw [show camshaftref02_Get.l0 (k + 2) s (A.length : Int) ((A.length : Int) + (pre.length : Int)) = if (A.length : Int) + (pre.length : Int) < (s.size : Int) then (if 0 ≤ (A.length : Int) + (pre.length : Int) then (if (bt s ((A.length : Int) + (pre.length : Int))) ≥ 128 then (if (A.length : Int) + (pre.length : Int) < (wrap64 ((A.length : Int) + 10)) then (camshaftref02_Get.l0 (k + 1) s (A.length : Int) (wrap64 ((A.length : Int) + (pre.length : Int) + 1))) else (camshaftref02_Get.j2 (k + 1) s (A.length : Int) ((A.length : Int) + (pre.length : Int)))) else (camshaftref02_Get.j2 (k + 1) s (A.length : Int) ((A.length : Int) + (pre.length : Int)))) else (none)) else (camshaftref02_Get.j2 (k + 1) s (A.length : Int) ((A.length : Int) + (pre.length : Int))) from rfl]
    rw [if_pos (by omega), if_pos (by omega), hbt, w10]
    rw [show wrap64 ((A.length : Int) + (pre.length : Int) + 1) = (A.length : Int) + ((pre ++ [c]).length : Int) from by clear w10; unfold wrap64; simp; omega]
    simp only [getGo]
    by_cases h10 : 10 ≤ pre.length
    · have e : camshaftref02_Get.j2 (k + 1) s (A.length : Int) ((A.length : Int) + (pre.length : Int)) = some (0, 0, 3) := by
        simp only [camshaftref02_Get.j2]
        rw [w10, if_pos (by omega)]
      rw [if_neg (show ¬ (A.length : Int) + (pre.length : Int) < (A.length : Int) + 10 by omega), e, if_pos h10, conv_err _ (by decide)]
      split <;> rfl
    · rw [if_neg h10]
      by_cases hc : 128 ≤ c.toNat
      · rw [if_pos (by omega), if_pos (by omega), if_pos hc]
        exact ih A (pre ++ [c]) (k + 1) (by rw [hL]; simp) (Hi_snoc hp hc) (by simp; omega) (by simp; omega)
      · rw [if_neg (by omega), if_neg hc]
        simp only [camshaftref02_Get.j2]
        rw [w10, if_neg (by omega), if_neg (by omega)]
        have := rget_l1 s hs A (pre ++ [c]) r (by rw [hL]; simp) (by simp) (pre.length + 1) k [] (by simp) (by simp) (by omega)
        rw [last1_eq _ hp (by omega) (by omega)] at this
        rw [← this]
        congr 1
        · simp; omega
        · omega

theorem rget_eq (s : ByteArray) (hs : s.size ≤ 1000000) (at_ : Int) {k : Nat} (hk : 70 ≤ k) : camshaftref02_Get.f k s at_ = some (getS s at_) := by
  unfold camshaftref02_Get.f getS
  obtain ⟨k, rfl⟩ : ∃ m, k = m + 1 := ⟨k - 1, by omega⟩
  by_cases h0 : at_ < 0
  · rw [if_pos h0, if_pos (.inl h0)]
    simp only [camshaftref02_Get.j0, if_true]
  · rw [if_neg h0]
    simp only [camshaftref02_Get.j0]
    by_cases h1 : (s.size : Int) < at_
    · rw [if_pos (show at_ < 0 ∨ (s.size : Int) < at_ from .inr h1), if_pos (show decide (at_ > (s.size : Int)) = true from decide_eq_true h1)]
    · rw [if_neg (show ¬ (at_ < 0 ∨ (s.size : Int) < at_) by omega), if_neg (show ¬ decide (at_ > (s.size : Int)) = true by simpa using h1)]
      have hlen : ((bl s).take at_.toNat).length = at_.toNat := by rw [List.length_take, ← bl_size]; omega
      have := rget_l0 s hs ((bl s).drop at_.toNat) ((bl s).take at_.toNat) [] k (by simp) Hi_nil (by simp) (by simp; omega)
      rw [hlen] at this
      have e2 : ((at_.toNat : Nat) : Int) = at_ := by omega
      rw [e2] at this
      simpa using this

end Go.Proofs.Ytnfoebbdmekbiaa.CL
