/- TypesMore: what is whole and has its stacks has them still, with a part ahead that leaves nothing; what a part's stacks are is told by the part alone; for all rows. -/
import Derived.Test.YtdhlhbhclggheaaTF
import Derived.Test.YtdhlhbhclggheaaPx2
import Derived.Test.YtdhlhbhclggheaaPx12
namespace Go.Proofs.Ytdhlhbhclggheaa.Pure
open Go.RowKit Go.Proofs.Ytdhlhbhclggheaa.P Go.Proofs.Ytdhlhbhclggheaa.NL Go.Proofs.YtdhlhbhclggheaaW.PrintWords Go.Proofs.YtdhlhbhclggheaaW.PrintLast Go.Proofs.YtdhlhbhclggheaaW.PrintMore

theorem known_more {k : Nat} (hk : 60 ≤ k) : camshaftlaw07_known.f k = some true := at_rounds camshaftlaw07_known.mono hk camshaftlaw07_known.run
theorem same_l0 (a : List ByteArray) (hn : a.length ≤ 1000000) : ∀ (d i k : Nat), i + d = a.length → d < k → camshaftref07_Same.l0 k a a (i : Int) = some true := by
  intro d
  induction d with
  | zero =>
    intro i k hi hk
    obtain ⟨k, rfl⟩ : ∃ m, k = m + 1 := ⟨k - 1, by omega⟩
    simp only [camshaftref07_Same.l0]
    rw [if_neg (by omega)]
  | succ d ih =>
    intro i k hi hk
    obtain ⟨k, rfl⟩ : ∃ m, k = m + 1 := ⟨k - 1, by omega⟩
    simp only [camshaftref07_Same.l0]
    rw [if_pos (by omega), if_pos (by omega), if_pos (by omega), if_pos trivial, show wrap64 ((i : Int) + 1) = ((i + 1 : Nat) : Int) from by unfold wrap64; omega]
    exact ih (i + 1) k (by omega) (by omega)
theorem same_self (a : List ByteArray) (hn : a.length ≤ 1000000) {k : Nat} (hk : a.length < k) : camshaftref07_Same.f k a a = some true := by
  unfold camshaftref07_Same.f
  rw [if_pos rfl]
  exact same_l0 a hn a.length 0 k (by omega) hk
section
variable {a b c : List Ins} {n : Nat} {ma mb mc : List Int} {sa sb : List ByteArray}
theorem cl_left (h : Two a b c n) {q i : Nat} (hi : i < n) (hc : Cl a q i) : Cl c q i := by
  obtain ⟨h1, r, h2, h3⟩ := hc
  have hq : q < i := (stk_dec h2).1
  exact ⟨by rw [h.l i hi]; exact h1, r, (h.stkl (by omega)).trans h2, by rw [h.l i hi, h.l q (by omega)]; exact h3⟩
theorem cl_right (h : Two a b c n) {q i : Nat} (hi : i < b.length) (hc : Cl b q i) : Cl c (n + q) (n + i) := by
  obtain ⟨h1, r, h2, h3⟩ := hc
  have hq : q < i := (stk_dec h2).1
  exact ⟨by rw [h.r i hi]; exact h1, r.map (fun q => n + q), h.stkr (by omega) h2, by rw [h.r i hi, h.r q (by omega)]; exact h3⟩
theorem cls22 {l : List Ins} {i : Nat} (h : (gI l i).f0 = 22) : cls (gI l i) = true := by unfold cls; rw [h]; rfl
theorem st_two (h : Two a b c n) (hA : MT a ma) (hB : MT b mb) (hC : MT c mc) (SA : St a ma sa) (SB : St b mb sb) (hlast : sAt sa n = ByteArray.empty) : St c mc (sa.take n ++ sb) := by
  have han := h.an
  have hcn := h.cn
  have hsa := SA.len
  have hsb := SB.len
  have hW := h.ha
  have hWb := h.hb
  have ht : (sa.take n).length = n := by rw [List.length_take]; omega
  have oL : ∀ i, i < n → sAt (sa.take n ++ sb) i = sAt sa i := fun i hi => by
    simp only [sAt, List.getD, List.getElem?_append_left (show i < (sa.take n).length by omega), List.getElem?_take, hi, if_true]
  have oR : ∀ i, sAt (sa.take n ++ sb) (n + i) = sAt sb i := fun i => by
    simp only [sAt, List.getD, List.getElem?_append_right (show (sa.take n).length ≤ n + i by omega), ht, show n + i - n = i by omega]
  have oN : sAt (sa.take n ++ sb) n = ByteArray.empty := by have := oR 0; rw [Nat.add_zero] at this; rw [this]; exact SB.zero
  have nL : ∀ i t, i < n → (nx c i t ↔ nx a i t) := fun i t hi => by unfold nx; rw [h.l i hi]
  have nR : ∀ i t, i < b.length → (nx c (n + i) (n + t) ↔ nx b i t) := fun i t hi => by unfold nx; rw [h.r i hi]; omega
  have hsplit : ∀ i, i < c.length → i < n ∨ ∃ j, i = n + j ∧ j < b.length := fun i hi => by
    by_cases g : i < n
    · exact .inl g
    · exact .inr ⟨i - n, by omega, by omega⟩
  refine ⟨by rw [List.length_append, ht]; omega, ?_, fun i hi => ?_, fun t ht' => ?_, fun i hi => ?_, fun i hi t hn => ?_, fun i hi h22 => ?_⟩
  · by_cases g : 0 < n
    · rw [oL 0 g]; exact SA.zero
    · have : n = 0 := by omega
      rw [this] at oN ⊢; exact oN
  · rcases hsplit i hi with g | ⟨j, rfl, g⟩
    · rw [oL i g]; exact SA.size i (by omega)
    · rw [oR]; exact SB.size j g
  · by_cases g : t ≤ n
    · rcases SA.reach t (by omega) with h0 | ⟨j, j1, j2⟩
      · exact .inl h0
      · exact .inr ⟨j, j1, (nL j t (by omega)).2 j2⟩
    · obtain ⟨u, rfl⟩ : ∃ u, t = n + u := ⟨t - n, by omega⟩
      rcases SB.reach u (by omega) with h0 | ⟨j, j1, j2⟩
      · omega
      · exact .inr ⟨n + j, by omega, (nR j u (by omega)).2 j2⟩
  · rcases hsplit i hi with g | ⟨j, rfl, g⟩
    · rw [oL i g, h.l i g]; exact SA.ok i (by omega)
    · rw [oR, h.r j g]; exact SB.ok j g
  · rcases hsplit i hi with g | ⟨j, rfl, g⟩
    · have hn' := (nL i t g).1 hn
      have hlt := (nx_lt hW (by omega) hn').2
      rw [oL i g, h.l i g, ← SA.next i (by omega) t hn']
      by_cases e : t = n
      · rw [e, oN, hlast]
      · exact oL t (by omega)
    · have hge : n + j < t := by
        rcases hn with ⟨e, _⟩ | ⟨e1, e2⟩
        · omega
        · rw [h.r j g] at e1 e2
          have := (ok_args (hWb.1.at g)).2.2.2.2.1 e1
          omega
      obtain ⟨u, rfl⟩ : ∃ u, t = n + u := ⟨t - n, by omega⟩
      rw [oR, oR, h.r j g]
      exact SB.next j g u ((nR j u g).1 hn)
  · have hcl := cls22 h22
    obtain ⟨q, q1, q2⟩ := (hC.2 i hi).2.1 hcl
    have hq : mc.getD i 0 = (q : Int) := by simpa [rd] using q1
    rw [hq]
    rcases hsplit i hi with g | ⟨j, rfl, g⟩
    · rw [h.l i g] at h22
      obtain ⟨q', e1, e2⟩ := (hA.2 i (by omega)).2.1 (cls22 h22)
      have hq' : ma.getD i 0 = (q' : Int) := by simpa [rd] using e1
      have := q2.uniq' (cl_left h g e2)
      subst this
      have hb := SA.back i (by omega) h22
      rw [hq'] at hb
      have := q2.lt
      rw [oL i g, show ((q : Nat) : Int).toNat = q from rfl, oL q (by omega)]
      exact hb
    · rw [h.r j g] at h22
      obtain ⟨q', e1, e2⟩ := (hB.2 j g).2.1 (cls22 h22)
      have hq' : mb.getD j 0 = (q' : Int) := by simpa [rd] using e1
      have := q2.uniq' (cl_right h g e2)
      subst this
      have hb := SB.back j g h22
      rw [hq'] at hb
      rw [oR, show ((n + q' : Nat) : Int).toNat = n + q' from rfl, oR]
      exact hb
end
theorem two_of {a b : List Ins} (ha : W a) (hb : W b) (h200 : a.length + b.length ≤ 200) : ∃ n, a.length = n + 1 ∧ Two a b (a.take n ++ b) n := by
  obtain ⟨n, an, sn, en⟩ := ha.last
  have ht : (a.take n).length = n := by rw [List.length_take]; omega
  refine ⟨n, an, ⟨ha, hb, an, sn, en, by rw [List.length_append, ht], by rw [List.length_append, ht]; omega, fun i hi => ?_, fun i _ => ?_⟩⟩
  · rw [gI_left (by omega), gI_take hi]
  · have := gI_right (a.take n) b i
    rw [ht] at this
    exact this
theorem toList_nil {s : ByteArray} (h : s.toList = []) : s = ByteArray.empty := by
  rw [ByteArray.toList_eq] at h
  cases s with
  | mk d => exact congrArg ByteArray.mk (Array.toList_inj.1 h)
theorem TypesMore : camshaftlaw07_TypesMore.Pure := by
  intro a b ha24 hwa hb24 hwb
  obtain ⟨k, hk⟩ : ∃ k, k = 4 * (a.length + b.length) + 1000 := ⟨_, rfl⟩
  refine ⟨k + 2, ?_⟩
  have K : camshaftlaw07_known.f (k + 1) = some true := known_more (by omega)
  have K0 : camshaftlaw07_known.f k = some true := known_more (by omega)
  have T0 : camshaftlaw07_TypesMore.j0 (k + 2) a b true = some true := by
    simp only [camshaftlaw07_TypesMore.j0]
    rw [if_pos trivial, K]; rfl
  unfold camshaftlaw07_TypesMore.f
  by_cases h1 : (a.length : Int) < 1
  · rw [if_pos h1]; exact T0
  rw [if_neg h1]
  by_cases h2 : wrap64 ((a.length : Int) + (b.length : Int)) > 200
  · rw [decide_eq_true h2]; exact T0
  rw [decide_eq_false h2]
  have hab : a.length + b.length ≤ 200 := by
    have : wrap64 ((a.length : Int) + (b.length : Int)) = (a.length : Int) + (b.length : Int) := by clear hk K K0 T0 h1 h2; unfold wrap64; omega
    omega
  clear h2 T0
  obtain ⟨ra, ea, a1, a2, _⟩ := stacks_eq (a.map toD) (by rw [List.length_map]; omega) (k := k + 1) (by rw [List.length_map]; omega)
  obtain ⟨rb, eb, b1, b2, _⟩ := stacks_eq (b.map toD) (by rw [List.length_map]; omega) (k := k + 1) (by rw [List.length_map]; omega)
  have ea' : types_Stacks.f (k + 1) a = some ra := ea
  have eb' : types_Stacks.f (k + 1) b = some rb := eb
  have T1 : ∀ x y, camshaftlaw07_TypesMore.j1 (k + 1) a b x y true = some true := fun x y => by
    simp only [camshaftlaw07_TypesMore.j1]
    rw [if_pos trivial, K0]; rfl
  simp only [camshaftlaw07_TypesMore.j0]
  rw [if_neg (by decide), ea', Option.bind_some, eb', Option.bind_some]
  by_cases g1 : ra.2 = 0
  · rw [if_pos g1]
    by_cases g2 : rb.2 = 0
    · rw [if_pos g2]
      obtain ⟨hWa, ma, hMa, hSa⟩ := a2 g1
      obtain ⟨hWb, mb, hMb, hSb⟩ := b2 g2
      have la : ra.1.length = a.length := by rw [hSa.len, List.length_map]
      have lb : rb.1.length = b.length := by rw [hSb.len, List.length_map]
      rw [decide_eq_false (by omega)]
      simp only [camshaftlaw07_TypesMore.j1]
      rw [if_neg (by decide)]
      obtain ⟨n, hn, hT⟩ := two_of hWa hWb (by rw [List.length_map, List.length_map]; omega)
      rw [List.length_map] at hn
      have w1 : wrap64 ((ra.1.length : Int) - 1) = (n : Int) := by rw [la, hn]; unfold wrap64; omega
      have w2 : wrap64 ((a.length : Int) - 1) = (n : Int) := by rw [hn]; unfold wrap64; omega
      rw [w1, w2, if_pos (by omega), if_pos (by omega)]
      have hr : rdOf ByteArray.empty ra.1 (n : Int) = sAt ra.1 n := by simp [rdOf]
      rw [hr]
      by_cases g3 : (sAt ra.1 n).toList = ([] : List UInt8)
      · rw [if_pos g3]
        have hlast := toList_nil g3
        refine Option.bind_eq_some_iff.2 ⟨_, rfl, ?_⟩
        rw [if_pos (by omega), if_pos (by omega)]
        refine Option.bind_eq_some_iff.2 ⟨_, rfl, ?_⟩
        have tl : (a.take n).length = n := by rw [List.length_take]; omega
        rw [show ((n : Nat) : Int).toNat = n from rfl, List.nil_append, List.length_nil, if_pos (by rw [tl]; omega)]
        refine Option.bind_eq_some_iff.2 ⟨_, rfl, ?_⟩
        rw [if_pos (by rw [tl]; omega)]
        have hcm : (a.take n ++ b).map toD = (a.map toD).take n ++ b.map toD := by rw [List.map_append, List.map_take]
        have hok : ((a.map toD).take n ++ b.map toD).all okI = true := by
          rw [List.all_append, Bool.and_eq_true]
          refine ⟨List.all_eq_true.2 fun x hx => List.all_eq_true.1 hWa.1.2.2 x (List.mem_of_mem_take hx), hWb.1.2.2⟩
        have hWc := hT.whole hok
        obtain ⟨rc, ec, c1, c2, c3⟩ := stacks_eq ((a.take n ++ b).map toD) (by rw [List.length_map, List.length_append, tl]; omega) (k := k) (by rw [List.length_map, List.length_append, tl]; omega)
        rw [hcm] at ec c3
        obtain ⟨mm, em, hmm⟩ := match_eq ((a.map toD).take n ++ b.map toD) (by rw [← hcm, List.length_map, List.length_append, tl]; omega) (k := k) (by rw [← hcm, List.length_map, List.length_append, tl]; omega)
        have hMc : MT ((a.map toD).take n ++ b.map toD) mm.1 := by
          rcases hmm with ⟨g, _⟩ | ⟨_, g, _⟩ | ⟨_, _, _, g⟩
          · exact absurd hWc.1 g
          · exact absurd hWc.2.1 g
          · exact g
        have hrc := c3 mm.1 _ hWc hMc (st_two hT hMa hMb hMc hSa hSb hlast)
        subst hrc
        refine Option.bind_eq_some_iff.2 ⟨(ra.1.take n ++ rb.1, 0), ?_, ?_⟩
        · show stacksF k ((a.take n ++ b).map toD) = _
          rw [hcm]; exact ec
        rw [if_pos rfl]
        refine Option.bind_eq_some_iff.2 ⟨_, rfl, ?_⟩
        rw [if_pos (by omega)]
        refine Option.bind_eq_some_iff.2 ⟨_, rfl, ?_⟩
        have tr : (ra.1.take n).length = n := by rw [List.length_take]; omega
        rw [List.nil_append, List.length_nil, if_pos (by rw [tr]; omega)]
        refine Option.bind_eq_some_iff.2 ⟨_, rfl, ?_⟩
        rw [if_pos (by rw [tr]; omega)]
        refine Option.bind_eq_some_iff.2 ⟨_, same_self _ (by rw [List.length_append, tr]; omega) (by rw [List.length_append, tr]; omega), ?_⟩
        rw [if_pos rfl, K0]
        rfl
      · rw [if_neg g3, K0]; rfl
    · rw [if_neg g2]; exact T1 _ _
  · rw [if_neg g1]; exact T1 _ _
end Go.Proofs.Ytdhlhbhclggheaa.Pure
