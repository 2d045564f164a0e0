/- The reference's numbers and cuts; for all texts. -/
import Derived.Test.YtldbochclabmjaaTR
import Derived.Test.YtldbochclabmjaaPx6
import Derived.Test.YtldbochclabmjaaPx7
namespace Go.Proofs.Ytldbochclabmjaa.TL
open Go.RowKit Go.Proofs.Ytldbochclabmjaa.C Go.Proofs.Ytldbochclabmjaa.P Go.Proofs.YtldbochclabmjaaW.PrintWords Go.Proofs.YtldbochclabmjaaW.PrintLast Go.Proofs.YtldbochclabmjaaW.PrintMore
set_option linter.unusedVariables false
set_option linter.unusedSimpArgs false

theorem bt_is {s : ByteArray} {i : Nat} (h : i < (bl s).length) : bt s (i : Int) = (((bl s)[i]).toNat : Int) := by
  unfold bt
  have h' : ((i : Int)).toNat < s.size := by rw [bl_size]; simpa using h
  rw [dif_pos h']
  rfl
/-! ### Cut -/
theorem rcut_l0 (s : ByteArray) (hs : s.size ≤ 1000000) (a : UInt8) : ∀ (d b i k : Nat) (acc : List ByteArray), b ≤ i → i + d = s.size → d + 1 ≤ k → acc.length + d ≤ 2000000 →
    camshaftref05_cut.l0 k s (a.toNat : Int) acc (b : Int) (i : Int) = some (acc ++ (glue (((bl s).take i).drop b) (cutB a ((bl s).drop i))).map fun p => ofL p.1) := by
  have hl : (bl s).length = s.size := (bl_size s).symm
  intro d
  induction d with
  | zero =>
    intro b i k acc hb hi hk ha
    obtain ⟨k, rfl⟩ : ∃ m, k = m + 1 := ⟨k - 1, by omega⟩
    rw [camshaftref05_cut.l0, if_neg (by omega), if_pos (by omega), if_pos (by omega), if_pos (by omega), List.drop_eq_nil_of_le (show (bl s).length ≤ i by omega)]
    simp only [cutB, glue, List.append_nil, List.map_cons, List.map_nil]
    refine congrArg some (congrArg (acc ++ [·]) (bl_inj ?_))
    rw [bl_extract, bl_ofL, Int.toNat_natCast, show i = s.size by omega]
  | succ d ih =>
    intro b i k acc hb hi hk ha
    obtain ⟨k, rfl⟩ : ∃ m, k = m + 1 := ⟨k - 1, by omega⟩
    have hlt : i < (bl s).length := by omega
    have hw : wrap64 ((i : Int) + 1) = ((i + 1 : Nat) : Int) := wrap64_id (by unfold I64; omega)
    have hd : (bl s).drop i = (bl s)[i] :: (bl s).drop (i + 1) := List.drop_eq_getElem_cons hlt
    rw [camshaftref05_cut.l0, if_pos (by omega), if_pos (by omega), bt_is hlt, hw, hd]
    by_cases hc : (bl s)[i] = a
    · rw [if_pos (by rw [hc]), if_pos (by omega), if_pos (by omega), if_pos (by omega), if_pos (by omega), ih (i + 1) (i + 1) k _ (Nat.le_refl _) (by omega) (by omega) (by simp; omega), hc]
      rw [show ((bl s).take (i + 1)).drop (i + 1) = [] from List.drop_eq_nil_of_le (by rw [List.length_take]; omega), glue_nil, cutB, if_pos rfl]
      simp only [glue, List.append_nil, List.map_cons, List.append_assoc, List.singleton_append]
      refine congrArg some (congrArg (fun z => acc ++ z :: _) (bl_inj ?_))
      rw [bl_extract, bl_ofL, Int.toNat_natCast, Int.toNat_natCast]
    · rw [if_neg (fun e => hc (UInt8.toNat_inj.1 (by omega))), ih b (i + 1) k acc (by omega) (by omega) (by omega) (by omega), cutB_cons_ne hc]
      rw [List.take_succ_eq_append_getElem hlt, List.drop_append_of_le_length (by rw [List.length_take]; omega)]
theorem rcut_eq (s : ByteArray) (hs : s.size ≤ 1000000) (a : UInt8) {k : Nat} (hk : s.size + 1 ≤ k) : camshaftref05_cut.f k s (a.toNat : Int) = some ((cutB a (bl s)).map fun p => ofL p.1) := by
  have := rcut_l0 s hs a s.size 0 0 k [] (Nat.le_refl _) (by omega) hk (by simp; omega)
  unfold camshaftref05_cut.f
  refine this.trans ?_
  rw [List.nil_append, List.drop_zero]
  exact congrArg (fun z => some (List.map _ z)) (glue_nil _)

/-! ### Number -/
def rStep (neg : Bool) (n : Int) (c : UInt8) : Int := if c = 45 then n else if neg = true then wrap64 (wrap64 (10 * n) - wrap64 (wrap64 (c.toNat : Int) - 48)) else wrap64 (wrap64 (wrap64 (10 * n) + wrap64 (c.toNat : Int)) - 48)
def rAcc (neg : Bool) (n : Int) (l : List UInt8) : Int := l.foldl (rStep neg) n
def numFin (n : Int) (l : List UInt8) : Int × Int := if digL n = l then (n, 0) else (0, 3)
theorem rStep_I64 {neg : Bool} {n : Int} (h : I64 n) (c : UInt8) : I64 (rStep neg n c) := by
  unfold rStep
  split
  · exact h
  · split
    · exact wrap64_I64 _
    · exact wrap64_I64 _
theorem rAcc_I64 (neg : Bool) : ∀ (l : List UInt8) (n : Int), I64 n → I64 (rAcc neg n l)
  | [], _, h => h
  | c :: l, n, h => rAcc_I64 neg l _ (rStep_I64 h c)
theorem rnum_l0 (s : ByteArray) (hs : s.size ≤ 9223372036854775807) : ∀ (d i k : Nat) (n : Int), I64 n → i + d = min 30 s.size → 2 * d + 60 ≤ k →
    camshaftref05_Number.l0 k s n (i : Int) = some (numFin (rAcc (decide ((bl s).head? = some 45)) n (((bl s).take 30).drop i)) (bl s)) := by
  have hl : (bl s).length = s.size := (bl_size s).symm
  intro d
  induction d with
  | zero =>
    intro i k n hn hi hk
    obtain ⟨k, rfl⟩ : ∃ m, k = m + 42 := ⟨k - 42, by omega⟩
    have fin : camshaftref05_Number.j1 (k + 41) s n (i : Int) false = some (numFin n (bl s)) := by
      rw [show k + 41 = (k + 40) + 1 from rfl, camshaftref05_Number.j1, if_neg (by decide)]
      refine Option.bind_eq_some_iff.2 ⟨_, rdigits_eq n hn k, ?_⟩
      unfold numFin
      rw [toList_bl, toList_bl, show bl (digS n) = digL n from rfl]
      by_cases h : digL n = bl s
      · rw [if_pos h, if_pos h]
      · rw [if_neg h, if_neg h]
    rw [List.drop_eq_nil_of_le (by rw [List.length_take]; omega), show k + 42 = (k + 41) + 1 from rfl, camshaftref05_Number.l0]
    by_cases h1 : (i : Int) < (s.size : Int)
    · rw [if_pos h1, show decide ((i : Int) < 30) = false from decide_eq_false (by omega)]
      exact fin
    · rw [if_neg h1]
      exact fin
  | succ d ih =>
    intro i k n hn hi hk
    obtain ⟨k, rfl⟩ : ∃ m, k = m + 2 := ⟨k - 2, by omega⟩
    have hlt : i < (bl s).length := by omega
    have hlt2 : i < ((bl s).take 30).length := by rw [List.length_take]; omega
    have h0 : 0 < (bl s).length := by omega
    have hw : wrap64 ((i : Int) + 1) = ((i + 1 : Nat) : Int) := wrap64_id (by unfold I64; omega)
    have hd : ((bl s).take 30).drop i = (bl s)[i] :: ((bl s).take 30).drop (i + 1) := by
      rw [List.drop_eq_getElem_cons hlt2, List.getElem_take]
    have hb0 : bt s 0 = (((bl s)[0]).toNat : Int) := bt_is h0
    have hh : (bl s).head? = some (bl s)[0] := by rw [List.head?_eq_getElem?, List.getElem?_eq_getElem h0]
    rw [show k + 2 = (k + 1) + 1 from rfl, camshaftref05_Number.l0, if_pos (by omega), show decide ((i : Int) < 30) = true from decide_eq_true (by omega), camshaftref05_Number.j1, if_pos (by rfl), if_pos (by omega), if_pos (by omega), bt_is hlt, hw, hd]
    show _ = some (numFin (rAcc _ (rStep _ n (bl s)[i]) _) _)
    have ne45 : ∀ c : UInt8, ((c.toNat : Int) = 45) ↔ c = 45 := fun c => ⟨fun e => UInt8.toNat_inj.1 (show c.toNat = 45 by omega), fun e => by rw [e]; rfl⟩
    by_cases hc : (bl s)[i] = 45
    · rw [if_pos ((ne45 _).2 hc), ih (i + 1) k n hn (by omega) (by omega)]
      rw [show rStep (decide ((bl s).head? = some 45)) n (bl s)[i] = n by unfold rStep; rw [if_pos hc]]
    · rw [if_neg (fun e => hc ((ne45 _).1 e)), if_pos (by omega), hb0]
      by_cases hz : (bl s)[0] = 45
      · have hneg : decide ((bl s).head? = some 45) = true := decide_eq_true (by rw [hh, hz])
        rw [if_pos ((ne45 _).2 hz), ih (i + 1) k _ (wrap64_I64 _) (by omega) (by omega), hneg]
        rw [show rStep true n (bl s)[i] = wrap64 (wrap64 (10 * n) - wrap64 (wrap64 ((bl s)[i].toNat : Int) - 48)) by unfold rStep; rw [if_neg hc, if_pos (by rfl)]]
      · have hneg : decide ((bl s).head? = some 45) = false := decide_eq_false (by rw [hh]; simpa using hz)
        rw [if_neg (fun e => hz ((ne45 _).1 e)), ih (i + 1) k _ (wrap64_I64 _) (by omega) (by omega), hneg]
        rw [show rStep false n (bl s)[i] = wrap64 (wrap64 (wrap64 (10 * n) + wrap64 ((bl s)[i].toNat : Int)) - 48) by unfold rStep; rw [if_neg hc, if_neg (by decide)]]
theorem rAcc_snoc (neg : Bool) (n : Int) (l : List UInt8) (c : UInt8) : rAcc neg n (l ++ [c]) = rStep neg (rAcc neg n l) c := by simp [rAcc]
theorem dig_ne45 {d : Nat} (h : d < 10) : ¬ UInt8.ofNat (48 + d) = 45 := ofNat_ne45 h
theorem rstep_neg {m d : Nat} (hd : d < 10) (hm : 10 * m + d ≤ 9223372036854775808) : rStep true (-(m : Int)) (UInt8.ofNat (48 + d)) = -((10 * m + d : Nat) : Int) := by
  unfold rStep
  rw [if_neg (dig_ne45 hd), if_pos (by rfl), toNat_dig hd]
  have e1 : wrap64 (10 * -(m : Int)) = -(10 * (m : Int)) := by rw [show 10 * -(m : Int) = -(10 * (m : Int)) by omega]; exact wrap64_id (by unfold I64; omega)
  have e2 : wrap64 (wrap64 ((48 + d : Nat) : Int) - 48) = (d : Int) := by rw [wrap64_id (n := ((48 + d : Nat) : Int)) (by unfold I64; omega), wrap64_id (by unfold I64; omega)]; omega
  rw [e1, e2, wrap64_id (by unfold I64; omega)]
  omega
theorem rstep_pos {m d : Nat} (hd : d < 10) (hm : 10 * m + d ≤ 9223372036854775807) : rStep false (m : Int) (UInt8.ofNat (48 + d)) = ((10 * m + d : Nat) : Int) := by
  unfold rStep
  rw [if_neg (dig_ne45 hd), if_neg (by decide), toNat_dig hd]
  have e1 : wrap64 (10 * (m : Int)) = 10 * (m : Int) := wrap64_id (by unfold I64; omega)
  have e2 : wrap64 ((48 + d : Nat) : Int) = ((48 + d : Nat) : Int) := wrap64_id (by unfold I64; omega)
  rw [e1, e2]
  clear e1 e2
  unfold wrap64
  omega
theorem racc_neg : ∀ (f m : Nat), m < 10 ^ (f + 1) → m ≤ 9223372036854775808 → rAcc true 0 (dg (f + 1) m) = -(m : Int)
  | f, m, hb, hm => by
    by_cases hs : m < 10
    · rw [dg_small hs]
      have := rstep_neg (m := 0) hs (by omega)
      show rStep true 0 _ = _
      simpa using this
    · cases f with
      | zero => simp at hb; omega
      | succ f =>
        rw [dg_big hs, rAcc_snoc, racc_neg f (m / 10) (by rw [Nat.div_lt_iff_lt_mul (by decide)]; rw [Nat.pow_succ] at hb; exact hb) (by omega), rstep_neg (Nat.mod_lt _ (by decide)) (by omega)]
        rw [Nat.div_add_mod]
theorem racc_pos : ∀ (f m : Nat), m < 10 ^ (f + 1) → m ≤ 9223372036854775807 → rAcc false 0 (dg (f + 1) m) = (m : Int)
  | f, m, hb, hm => by
    by_cases hs : m < 10
    · rw [dg_small hs]
      have := rstep_pos (m := 0) hs (by omega)
      show rStep false 0 _ = _
      simpa using this
    · cases f with
      | zero => simp at hb; omega
      | succ f =>
        rw [dg_big hs, rAcc_snoc, racc_pos f (m / 10) (by rw [Nat.div_lt_iff_lt_mul (by decide)]; rw [Nat.pow_succ] at hb; exact hb) (by omega), rstep_pos (Nat.mod_lt _ (by decide)) (by omega)]
        rw [Nat.div_add_mod]
theorem racc_dig {n : Int} (h : I64 n) : rAcc (decide ((digL n).head? = some 45)) 0 (digL n) = n := by
  have hb : n.natAbs < 10 ^ (19 + 1) := by unfold I64 at h; omega
  unfold digL
  by_cases hn : n < 0
  · rw [if_pos hn, show decide ((45 :: dg 20 n.natAbs).head? = some 45) = true from rfl]
    show rAcc true (rStep true 0 45) (dg 20 n.natAbs) = n
    rw [show rStep true 0 45 = 0 from rfl]
    have := racc_neg 19 n.natAbs hb (by unfold I64 at h; omega)
    rw [show dg 20 n.natAbs = dg (19 + 1) n.natAbs from rfl, this]
    omega
  · obtain ⟨d, r, hd, e⟩ := dg_head 19 n.natAbs
    rw [if_neg hn, show decide ((dg 20 n.natAbs).head? = some 45) = false from decide_eq_false (by rw [show dg 20 n.natAbs = dg (19 + 1) n.natAbs from rfl, e]; simpa using ofNat_ne45 hd)]
    have := racc_pos 19 n.natAbs hb (by unfold I64 at h; omega)
    rw [show dg 20 n.natAbs = dg (19 + 1) n.natAbs from rfl, this]
    omega
theorem rnumber_eq (s : ByteArray) (hs : s.size ≤ 9223372036854775807) {k : Nat} (hk : 120 ≤ k) : camshaftref05_Number.f k s = some (numberL (bl s)) := by
  unfold camshaftref05_Number.f
  have z : I64 0 := by unfold I64; omega
  have := rnum_l0 s hs (min 30 s.size) 0 k 0 z (by omega) (by omega)
  refine this.trans (congrArg some ?_)
  rw [List.drop_zero]
  rcases numberL_cases (bl s) with ⟨n, hn, e1, e2⟩ | ⟨h1, e2⟩
  · rw [e2, e1, List.take_of_length_le (by have := digL_len n; omega), racc_dig hn]
    unfold numFin
    rw [if_pos rfl]
  · rw [e2]
    unfold numFin
    rw [if_neg (fun e => h1 _ (rAcc_I64 _ _ 0 z) e.symm)]

end Go.Proofs.Ytldbochclabmjaa.TL
