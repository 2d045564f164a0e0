/- Lines as lists of bytes: cut at a byte, read, shown; for all texts. -/
import Derived.Test.YtldbochclabmjaaPx0
namespace Go.Proofs.Ytldbochclabmjaa.TL
open Go.RowKit Go.Proofs.Ytldbochclabmjaa.C Go.Proofs.Ytldbochclabmjaa.P Go.Proofs.YtldbochclabmjaaW.PrintWords Go.Proofs.YtldbochclabmjaaW.PrintLast Go.Proofs.YtldbochclabmjaaW.PrintMore
set_option linter.unusedVariables false
set_option linter.unusedSimpArgs false

/-! ### A text cut at a byte -/
def cutB (a : UInt8) : List UInt8 → List (List UInt8 × Bool)
  | [] => [([], false)]
  | c :: cs => if c = a then ([], true) :: cutB a cs else
      match cutB a cs with
      | [] => []
      | (p, e) :: r => (c :: p, e) :: r
theorem cutB_no {a : UInt8} : ∀ {t : List UInt8}, a ∉ t → cutB a t = [(t, false)]
  | [], _ => rfl
  | c :: cs, h => by
    have h1 : ¬ c = a := fun e => h (by rw [e]; exact List.mem_cons_self)
    rw [cutB, if_neg h1, cutB_no (fun m => h (List.mem_cons_of_mem _ m))]
theorem cutB_app {a : UInt8} : ∀ {p : List UInt8} (r : List UInt8), a ∉ p → cutB a (p ++ a :: r) = (p, true) :: cutB a r
  | [], r, _ => by rw [List.nil_append, cutB, if_pos rfl]
  | c :: cs, r, h => by
    have h1 : ¬ c = a := fun e => h (by rw [e]; exact List.mem_cons_self)
    rw [List.cons_append, cutB, if_neg h1, cutB_app r (fun m => h (List.mem_cons_of_mem _ m))]
theorem cut_at (a : UInt8) : ∀ t : List UInt8, a ∉ t ∨ ∃ p r, a ∉ p ∧ t = p ++ a :: r
  | [] => .inl (by simp)
  | c :: cs => by
    by_cases h : c = a
    · exact .inr ⟨[], cs, by simp, by rw [h]; rfl⟩
    · rcases cut_at a cs with h1 | ⟨p, r, h1, h2⟩
      · exact .inl (fun m => (List.mem_cons.1 m).elim (fun e => h e.symm) h1)
      · exact .inr ⟨c :: p, r, fun m => (List.mem_cons.1 m).elim (fun e => h e.symm) h1, by rw [h2]; rfl⟩
def glue (q : List UInt8) : List (List UInt8 × Bool) → List (List UInt8 × Bool)
  | [] => []
  | (p, e) :: r => (q ++ p, e) :: r
theorem glue_nil (l : List (List UInt8 × Bool)) : glue [] l = l := by cases l <;> rfl
def toB (p : Part) : List UInt8 × Bool := (bl p.1.1, p.1.2)
theorem toB_mk {s : ByteArray} (h : s.size ≤ 9223372036854775807) (b : Bool) : toB (mkPart s b) = (bl s, b) := by unfold toB; rw [mkPart_val b h]
theorem cutB_cons_ne {a c : UInt8} (h : ¬ c = a) (cs q : List UInt8) : glue q (cutB a (c :: cs)) = glue (q ++ [c]) (cutB a cs) := by
  rw [cutB, if_neg h]
  cases cutB a cs with
  | nil => rfl
  | cons x r => obtain ⟨p, e⟩ := x; simp [glue]
theorem partsFrom_cut (s : ByteArray) (hs : s.size ≤ 9223372036854775807) (a : UInt8) : ∀ (f b i : Nat), b ≤ i → i + f = s.size →
    (partsFrom s (a.toNat : Int) f b i).map toB = glue (((bl s).take i).drop b) (cutB a ((bl s).drop i))
  | 0, b, i, h1, h2 => by
    have hl : (bl s).length = s.size := (bl_size s).symm
    rw [partsFrom, List.map_cons, List.map_nil, toB_mk (ext_size hs _ _), bl_extract, List.drop_eq_nil_of_le (show (bl s).length ≤ i by omega)]
    rw [show i = s.size by omega]
    simp [cutB, glue]
  | f + 1, b, i, h1, h2 => by
    have hl : (bl s).length = s.size := (bl_size s).symm
    have hi : i < (bl s).length := by omega
    have hg : s.data.toList.getD i 0 = (bl s)[i] := by rw [List.getD, List.getElem?_eq_getElem hi]; rfl
    rw [partsFrom, hg, List.drop_eq_getElem_cons hi]
    by_cases hc : (bl s)[i] = a
    · rw [if_pos (by rw [hc]), List.map_cons, toB_mk (ext_size hs _ _), bl_extract, partsFrom_cut s hs a f (i + 1) (i + 1) (Nat.le_refl _) (by omega), hc]
      rw [show ((bl s).take (i + 1)).drop (i + 1) = [] from List.drop_eq_nil_of_le (by rw [List.length_take]; omega), glue_nil, cutB, if_pos rfl]
      simp [glue]
    · rw [if_neg (fun e => hc (UInt8.toNat_inj.1 (by omega))), partsFrom_cut s hs a f b (i + 1) (by omega) (by omega), cutB_cons_ne hc]
      congr 1
      rw [List.take_succ_eq_append_getElem hi, List.drop_append_of_le_length (by rw [List.length_take]; omega)]
theorem partsOf_cut (s : ByteArray) (hs : s.size ≤ 9223372036854775807) (a : UInt8) : (partsOf s (a.toNat : Int)).map toB = cutB a (bl s) := by
  unfold partsOf
  rw [partsFrom_cut s hs a s.size 0 0 (Nat.le_refl _) (by omega)]
  exact glue_nil _

/-! ### One line -/
def whichB (w : List UInt8) : Int := whichS (ofL w)
def lineOfB : List (List UInt8 × Bool) → Option Ln
  | [] => some (0, 0, 0)
  | [a] => some (whichB a.1, 0, 0)
  | [a, b] => if (numberL b.1).2 = 0 then some (whichB a.1, (numberL b.1).1, 0) else none
  | [a, b, c] => if (numberL b.1).2 = 0 ∧ (numberL c.1).2 = 0 then some (whichB a.1, (numberL b.1).1, (numberL c.1).1) else none
  | _ => none
theorem lineOf_B : ∀ ps : List Part, lineOf ps = lineOfB (ps.map toB)
  | [] => rfl
  | [_] => rfl
  | [_, _] => rfl
  | [_, _, _] => rfl
  | _ :: _ :: _ :: _ :: _ => rfl
def oneB (t : List UInt8) : Ln × Int :=
  match lineOfB (cutB 32 t) with
  | none => ((0, 0, 0), 3)
  | some (o, x, y) => if o = 0 ∨ ((cutB 32 t).length : Int) - 1 ≠ (kindOf o).2.1 then ((0, 0, 0), 3) else if rightK (kindOf o) x y = true then ((o, x, y), 0) else ((0, 0, 0), 6)
theorem oneS_B (s : ByteArray) (hs : s.size ≤ 9223372036854775807) : oneS s = oneB (bl s) := by
  have h : (partsOf s 32).map toB = cutB 32 (bl s) := partsOf_cut s hs 32
  unfold oneS oneB
  rw [lineOf_B, ← h, List.length_map]
  rfl
def stepB (l : List Ln) (p : List UInt8 × Bool) : List Ln ⊕ (List Ln × Int) :=
  if p.1 = [] ∧ p.2 = false then .inr (l, 0) else if l.length = 200 then .inr ([], 4) else if p.2 = false then .inr ([], 3) else
    if (oneB p.1).2 = 0 then .inl (l ++ [(oneB p.1).1]) else .inr ([], (oneB p.1).2)
def runB : List Ln → List (List UInt8 × Bool) → List Ln ⊕ (List Ln × Int)
  | l, [] => .inl l
  | l, p :: ps => match stepB l p with
    | .inl l' => runB l' ps
    | .inr r => .inr r
def parseB (t : List UInt8) : List Ln × Int :=
  match runB [] (cutB 10 t) with
  | .inl l => (l, 0)
  | .inr r => r
theorem step_B (l : List Ln) (p : Part) : parseStep l p.1 = stepB l (toB p) := by
  obtain ⟨⟨s, b⟩, h⟩ := p
  unfold parseStep stepB toB
  dsimp only at h ⊢
  rw [oneS_B s h, toList_bl]
theorem run_B : ∀ (ps : List Part) (l : List Ln), parseRun l ps = runB l (ps.map toB)
  | [], _ => rfl
  | p :: ps, l => by
    rw [parseRun, List.map_cons, runB, step_B]
    cases stepB l (toB p) with
    | inl l' => exact run_B ps l'
    | inr r => rfl
theorem parseS_B (s : ByteArray) (hs : s.size ≤ 9223372036854775807) : parseS s = parseB (bl s) := by
  have h : (partsOf s 10).map toB = cutB 10 (bl s) := partsOf_cut s hs 10
  unfold parseS parseB
  rw [run_B, h]
  rfl

/-! ### Names, digits -/
theorem name_chars {a : Int} (h : 1 ≤ a ∧ a ≤ 25) : (bl (kindOf a).1).all (fun c => decide (65 ≤ c.toNat ∧ c.toNat ≤ 90)) = true ∧ bl (kindOf a).1 ≠ [] ∧ (bl (kindOf a).1).getLast? ≠ some 69 := by
  rcases op_cases h.1 h.2 with rfl | rfl | rfl | rfl | rfl | rfl | rfl | rfl | rfl | rfl | rfl | rfl | rfl | rfl | rfl | rfl | rfl | rfl | rfl | rfl | rfl | rfl | rfl | rfl | rfl <;> exact ⟨by decide, by decide, by decide⟩
theorem name_not {a : Int} (h : 1 ≤ a ∧ a ≤ 25) {c : UInt8} (hc : c.toNat < 65) : c ∉ bl (kindOf a).1 := by
  intro m
  have := List.all_eq_true.1 (name_chars h).1 c m
  simp at this
  omega
theorem which_name {a : Int} (h : 1 ≤ a ∧ a ≤ 25) : whichS (kindOf a).1 = a := by
  rcases op_cases h.1 h.2 with rfl | rfl | rfl | rfl | rfl | rfl | rfl | rfl | rfl | rfl | rfl | rfl | rfl | rfl | rfl | rfl | rfl | rfl | rfl | rfl | rfl | rfl | rfl | rfl | rfl <;> kernel_rfl
theorem whichFrom_ok : ∀ (f : Nat) (o : Int) (s : ByteArray), 1 ≤ o → whichFrom f o s ≠ 0 → (kindOf (whichFrom f o s)).1 = s ∧ o ≤ whichFrom f o s ∧ whichFrom f o s < o + f
  | 0, _, _, _, h => absurd rfl h
  | f + 1, o, s, ho, h => by
    unfold whichFrom at h ⊢
    by_cases e : (kindOf o).1 = s
    · rw [if_pos e]
      exact ⟨e, Int.le_refl _, by omega⟩
    · rw [if_neg e] at h ⊢
      obtain ⟨a, b, c⟩ := whichFrom_ok f (o + 1) s (by omega) h
      exact ⟨a, by omega, by omega⟩
theorem which_ok {s : ByteArray} (h : whichS s ≠ 0) : (kindOf (whichS s)).1 = s ∧ 1 ≤ whichS s ∧ whichS s ≤ 25 := by
  obtain ⟨a, b, c⟩ := whichFrom_ok 25 1 s (by omega) h
  exact ⟨a, b, by unfold whichS; omega⟩
theorem dg_chars : ∀ (f m : Nat) (c : UInt8), c ∈ dg f m → 48 ≤ c.toNat ∧ c.toNat ≤ 57
  | 0, _, _, h => by cases h
  | f + 1, m, c, h => by
    by_cases hm : m < 10
    · rw [dg_small hm] at h
      obtain rfl := List.mem_singleton.1 h
      rw [toNat_dig hm]; omega
    · rw [dg_big hm] at h
      rcases List.mem_append.1 h with h | h
      · exact dg_chars f _ c h
      · obtain rfl := List.mem_singleton.1 h
        rw [toNat_dig (Nat.mod_lt _ (by decide))]
        have := Nat.mod_lt m (show 0 < 10 by decide)
        omega
theorem dig_chars {n : Int} {c : UInt8} (h : c ∈ digL n) : c = 45 ∨ (48 ≤ c.toNat ∧ c.toNat ≤ 57) := by
  unfold digL at h
  split at h
  · rcases List.mem_cons.1 h with h | h
    · exact .inl h
    · exact .inr (dg_chars _ _ _ h)
  · exact .inr (dg_chars _ _ _ h)
theorem dig_not (n : Int) {c : UInt8} (hc : c.toNat < 45) : c ∉ digL n := by
  intro m
  rcases dig_chars m with h | h
  · subst h; exact absurd hc (by decide)
  · omega
theorem digL_ne (n : Int) : digL n ≠ [] := by
  unfold digL
  split
  · simp
  · exact dg_ne 19 _
theorem right_range {a b c : Int} (h : rightK (kindOf a) b c = true) : 1 ≤ a ∧ a ≤ 25 := by
  by_cases h1 : 1 ≤ a ∧ a ≤ 25
  · exact h1
  · unfold rightK at h
    rw [kindOf_none (by omega)] at h
    simp at h
theorem right_zero {a b c : Int} (h : rightK (kindOf a) b c = true) : ((kindOf a).2.1 = 0 → b = 0) ∧ ((kindOf a).2.1 ≤ 1 → c = 0) := by
  unfold rightK at h
  split at h
  · rw [Bool.and_eq_true, decide_eq_true_eq, decide_eq_true_eq] at h
    exact ⟨fun _ => h.1, fun _ => h.2⟩
  · split at h
    · rw [Bool.and_eq_true, decide_eq_true_eq] at h
      exact ⟨fun e => absurd e ‹_›, fun _ => h.2⟩
    · split at h
      · exact ⟨fun e => absurd e ‹_›, fun e => by omega⟩
      · cases h

/-! ### A line's instruction -/
def bodyL (a b c : Int) : List UInt8 := bl (kindOf a).1 ++ ((if (kindOf a).2.1 = 0 then [] else 32 :: digL b) ++ (if (kindOf a).2.1 = 2 then 32 :: digL c else []))
theorem lineL_body {a b c : Int} (h : rightK (kindOf a) b c = true) : lineL a b c = bodyL a b c ++ [10] := by
  unfold lineL bodyL
  rw [if_pos h]
  simp only [List.append_assoc]
def I64x (x : Ln) : Prop := I64 x.1 ∧ I64 x.2.1 ∧ I64 x.2.2
def rightX (x : Ln) : Bool := rightK (kindOf x.1) x.2.1 x.2.2
def lineX (x : Ln) : List UInt8 := lineL x.1 x.2.1 x.2.2
def bodyX (x : Ln) : List UInt8 := bodyL x.1 x.2.1 x.2.2
theorem numberL_is {l : List UInt8} {n : Int} (h : numberL l = (n, 0)) : I64 n ∧ l = digL n := by
  rcases numberL_cases l with ⟨m, hm, e, e2⟩ | ⟨_, e2⟩
  · rw [e2] at h
    obtain rfl := (Prod.mk.inj h).1
    exact ⟨hm, e⟩
  · rw [e2] at h
    exact absurd (Prod.mk.inj h).2 (by decide)
theorem one_body {x : Ln} (hR : rightX x = true) (hb : I64 x.2.1) (hc : I64 x.2.2) : oneB (bodyX x) = (x, 0) := by
  obtain ⟨a, b, c⟩ := x
  unfold rightX at hR
  dsimp only at hR hb hc
  have hr := right_range hR
  have hz := right_zero hR
  have hw : whichB (bl (kindOf a).1) = a := which_name hr
  have n32 : (32 : UInt8) ∉ bl (kindOf a).1 := name_not hr (by decide)
  have b32 : (32 : UInt8) ∉ digL b := dig_not b (by decide)
  have c32 : (32 : UInt8) ∉ digL c := dig_not c (by decide)
  unfold bodyX bodyL oneB
  dsimp only
  rcases right_argsL hR with h0 | h1 | h2
  · obtain rfl := hz.1 h0
    obtain rfl := hz.2 (by omega)
    rw [if_pos h0, if_neg (by rw [h0]; decide), List.append_nil, List.append_nil, cutB_no n32]
    simp only [lineOfB, hw]
    rw [if_neg (by rw [h0]; simp; omega), if_pos hR]
  · obtain rfl := hz.2 (by omega)
    rw [if_neg (by rw [h1]; decide), if_neg (by rw [h1]; decide), List.append_nil, cutB_app _ n32, cutB_no b32]
    simp only [lineOfB, hw, numberL_dig hb, if_true]
    rw [if_neg (by rw [h1]; simp; omega), if_pos hR]
  · rw [if_neg (by rw [h2]; decide), if_pos h2, List.cons_append, cutB_app _ n32, cutB_app _ b32, cutB_no c32]
    simp only [lineOfB, hw, numberL_dig hb, numberL_dig hc, and_self, if_true]
    rw [if_neg (by rw [h2]; simp; omega), if_pos hR]
theorem one_ok {t : List UInt8} {x : Ln} (h : oneB t = (x, 0)) : rightX x = true ∧ I64x x ∧ t = bodyX x := by
  have hI : ∀ a : Int, 1 ≤ a ∧ a ≤ 25 → I64 a := fun a ha => by unfold I64; omega
  have z64 : I64 0 := by unfold I64; omega
  unfold oneB at h
  rcases cut_at 32 t with h0 | ⟨p, r, hp, rfl⟩
  · rw [cutB_no h0] at h
    simp only [lineOfB] at h
    split at h
    · exact absurd (Prod.mk.inj h).2 (by decide)
    · rename_i hn
      split at h
      · rename_i hR
        obtain rfl := (Prod.mk.inj h).1
        have ho : whichB t ≠ 0 := fun e => hn (.inl e)
        obtain ⟨w1, w2, w3⟩ := which_ok ho
        have ha : (kindOf (whichB t)).2.1 = 0 := by
          have := not_or.1 hn
          have := Classical.not_not.1 this.2
          simpa using this.symm
        refine ⟨hR, ⟨hI _ ⟨w2, w3⟩, z64, z64⟩, ?_⟩
        unfold bodyX bodyL
        dsimp only
        rw [if_pos ha, if_neg (by rw [ha]; decide), List.append_nil, List.append_nil]
        exact (congrArg bl w1).symm
      · exact absurd (Prod.mk.inj h).2 (by decide)
  · rw [cutB_app _ hp] at h
    rcases cut_at 32 r with h0 | ⟨q, u, hq, rfl⟩
    · rw [cutB_no h0] at h
      simp only [lineOfB] at h
      split at h
      · exact absurd (Prod.mk.inj h).2 (by decide)
      · rename_i o x1 y1 he
        split at he
        · rename_i hnum
          obtain ⟨e1, e2, e3⟩ : whichB p = o ∧ (numberL r).1 = x1 ∧ 0 = y1 := by simpa using he
          subst e1 e2 e3
          obtain ⟨i1, i2⟩ := numberL_is (l := r) (n := (numberL r).1) (by rw [← hnum])
          split at h
          · exact absurd (Prod.mk.inj h).2 (by decide)
          · rename_i hn
            split at h
            · rename_i hR
              obtain rfl := (Prod.mk.inj h).1
              have ho : whichB p ≠ 0 := fun e => hn (.inl e)
              obtain ⟨w1, w2, w3⟩ := which_ok ho
              have ha : (kindOf (whichB p)).2.1 = 1 := by
                have := not_or.1 hn
                have := Classical.not_not.1 this.2
                simpa using this.symm
              refine ⟨hR, ⟨hI _ ⟨w2, w3⟩, i1, z64⟩, ?_⟩
              unfold bodyX bodyL
              dsimp only
              rw [if_neg (by rw [ha]; decide), if_neg (by rw [ha]; decide), List.append_nil, ← i2]
              exact congrArg (· ++ 32 :: r) (congrArg bl w1).symm
            · exact absurd (Prod.mk.inj h).2 (by decide)
        · cases he
    · rw [cutB_app _ hq] at h
      rcases cut_at 32 u with h0 | ⟨v, u2, hv, rfl⟩
      · rw [cutB_no h0] at h
        simp only [lineOfB] at h
        split at h
        · exact absurd (Prod.mk.inj h).2 (by decide)
        · rename_i o x1 y1 he
          split at he
          · rename_i hnum
            obtain ⟨e1, e2, e3⟩ : whichB p = o ∧ (numberL q).1 = x1 ∧ (numberL u).1 = y1 := by simpa using he
            subst e1 e2 e3
            obtain ⟨i1, i2⟩ := numberL_is (l := q) (n := (numberL q).1) (by rw [← hnum.1])
            obtain ⟨j1, j2⟩ := numberL_is (l := u) (n := (numberL u).1) (by rw [← hnum.2])
            split at h
            · exact absurd (Prod.mk.inj h).2 (by decide)
            · rename_i hn
              split at h
              · rename_i hR
                obtain rfl := (Prod.mk.inj h).1
                have ho : whichB p ≠ 0 := fun e => hn (.inl e)
                obtain ⟨w1, w2, w3⟩ := which_ok ho
                have ha : (kindOf (whichB p)).2.1 = 2 := by
                  have := not_or.1 hn
                  have := Classical.not_not.1 this.2
                  simpa using this.symm
                refine ⟨hR, ⟨hI _ ⟨w2, w3⟩, i1, j1⟩, ?_⟩
                unfold bodyX bodyL
                dsimp only
                rw [if_neg (by rw [ha]; decide), if_pos ha, ← i2, ← j2, List.cons_append]
                exact congrArg (· ++ 32 :: (q ++ 32 :: u)) (congrArg bl w1).symm
              · exact absurd (Prod.mk.inj h).2 (by decide)
          · cases he
      · rw [cutB_app _ hv] at h
        have hno : ∀ l : List (List UInt8 × Bool), l ≠ [] → lineOfB ((p, true) :: (q, true) :: (v, true) :: l) = none := by
          intro l hl
          cases l with
          | nil => exact absurd rfl hl
          | cons y l => rfl
        have hne : cutB 32 u2 ≠ [] := by
          rcases cut_at 32 u2 with h0 | ⟨a, b, ha, rfl⟩
          · rw [cutB_no h0]; simp
          · rw [cutB_app _ ha]; simp
        rw [hno _ hne] at h
        exact absurd (Prod.mk.inj h).2 (by decide)

end Go.Proofs.Ytldbochclabmjaa.TL
