/- The reference's instruction of a line's words, and Parse; for all texts. -/
import Derived.Test.YtldbochclabmjaaTN
import Derived.Test.YtldbochclabmjaaPx8
import Derived.Test.YtldbochclabmjaaPx9
namespace Go.Proofs.Ytldbochclabmjaa.TL
open Go.RowKit Go.Proofs.Ytldbochclabmjaa.C Go.Proofs.Ytldbochclabmjaa.P Go.Proofs.YtldbochclabmjaaW.PrintWords Go.Proofs.YtldbochclabmjaaW.PrintLast Go.Proofs.YtldbochclabmjaaW.PrintMore
set_option linter.unusedVariables false
set_option linter.unusedSimpArgs false

theorem args_range (a : Int) : -1 ≤ (kindOf a).2.1 ∧ (kindOf a).2.1 ≤ 2 := by
  by_cases h1 : 1 ≤ a ∧ a ≤ 25
  · rcases op_cases h1.1 h1.2 with rfl | rfl | rfl | rfl | rfl | rfl | rfl | rfl | rfl | rfl | rfl | rfl | rfl | rfl | rfl | rfl | rfl | rfl | rfl | rfl | rfl | rfl | rfl | rfl | rfl <;> decide
  · rw [kindOf_none (by omega)]; decide
/-- Behind the words' count. -/
theorem one_tail (k : Nat) (o : Int) (x y : Int) (hx : I64 x) : ((camshaftref04_Right.f (k + 4) o x y).bind fun t => (if t = true then (some (o, x, y, (0 : Int))) else (some (0, 0, 0, 6)))) =
    some (if rightK (kindOf o) x y = true then (o, x, y, 0) else (0, 0, 0, 6)) := by
  rw [rright hx, Option.bind_some]
  by_cases h : rightK (kindOf o) x y = true
  · rw [if_pos h, if_pos h]
  · rw [if_neg h, if_neg h]
def flat4 (r : Ln × Int) : Int × Int × Int × Int := (r.1.1, r.1.2.1, r.1.2.2, r.2)
/-- What is told of an operation and a line's parts. -/
def oneP (o : Int) (ps : List (List UInt8 × Bool)) : Ln × Int :=
  match lineOfB ps with
  | none => ((0, 0, 0), 3)
  | some (_, x, y) => if o = 0 ∨ (ps.length : Int) - 1 ≠ (kindOf o).2.1 then ((0, 0, 0), 3) else if rightK (kindOf o) x y = true then ((o, x, y), 0) else ((0, 0, 0), 6)
theorem numberL_I64 (l : List UInt8) : I64 (numberL l).1 := by
  rcases numberL_cases l with ⟨n, hn, _, e⟩ | ⟨_, e⟩
  · rw [e]; exact hn
  · rw [e]; unfold I64; omega
theorem numberL_bad {l : List UInt8} (h : ¬ (numberL l).2 = 0) : numberL l = (0, 3) := by
  rcases numberL_cases l with ⟨n, hn, _, e⟩ | ⟨_, e⟩
  · rw [e] at h; exact absurd rfl h
  · exact e
abbrev wds (ps : List (List UInt8 × Bool)) : List ByteArray := ps.map fun p => ofL p.1
theorem one_j1 (k : Nat) (hk : 200 ≤ k) (o : Int) (ho : 1 ≤ o ∧ o ≤ 25) (ps : List (List UInt8 × Bool)) (hps : ps ≠ []) (hz : ∀ p ∈ ps, p.1.length ≤ 1000000) (hl : ps.length ≤ 1000000) :
    camshaftref05_one.j1 (k + 5) (wds ps) (((wds ps).length : Int) != wrap64 ((kindOf o).2.1 + 1)) o 0 0 = some (flat4 (oneP o ps)) := by
  have ha := args_range o
  have hw : wrap64 ((kindOf o).2.1 + 1) = (kindOf o).2.1 + 1 := wrap64_id (by unfold I64; omega)
  have hn : ∀ (p : List UInt8 × Bool) (q : Nat), p ∈ ps → 120 ≤ q → camshaftref05_Number.f q (ofL p.1) = some (numberL p.1) := fun p q hp hq =>
    rnumber_eq (ofL p.1) (by rw [bl_size, bl_ofL]; have := hz p hp; omega) hq
  have z64 : I64 0 := by unfold I64; omega
  have hwl : (wds ps).length = ps.length := List.length_map _
  have ho0 : ¬ o = 0 := by omega
  rw [hw, show k + 5 = (k + 4) + 1 from rfl, camshaftref05_one.j1]
  by_cases hc : (ps.length : Int) = (kindOf o).2.1 + 1
  · have hcc : ¬ (o = 0 ∨ (ps.length : Int) - 1 ≠ (kindOf o).2.1) := fun h => h.elim ho0 (fun h => h (by omega))
    rw [if_neg (by rw [hwl, hc]; simp)]
    match ps, hps with
    | [a], _ =>
      rw [show k + 4 = (k + 3) + 1 from rfl, camshaftref05_one.l1, if_neg (by simp), show k + 3 = (k - 1) + 4 by omega, one_tail _ _ _ _ z64]
      unfold oneP
      simp only [lineOfB]
      rw [if_neg hcc]
      split <;> rfl
    | [a, b], _ =>
      rw [show k + 4 = (k + 3) + 1 from rfl, camshaftref05_one.l1, if_pos (by simp), if_pos (by decide)]
      rw [show rdOf ByteArray.empty (wds [a, b]) 1 = ofL b.1 from rfl, hn b _ (by simp) (by omega), Option.bind_some]
      unfold oneP
      simp only [lineOfB]
      by_cases h1 : (numberL b.1).2 = 0
      · rw [if_pos h1, if_pos h1, if_pos (by simp), show wrap64 (1 + 1) = 2 from by unfold wrap64; omega, show k + 3 = (k + 2) + 1 from rfl, camshaftref05_one.l1, if_neg (by simp), show k + 2 = (k - 2) + 4 by omega, one_tail _ _ _ _ (numberL_I64 _)]
        dsimp only
        rw [if_neg hcc]
        split <;> rfl
      · rw [if_neg h1, if_neg h1, numberL_bad h1]
        rfl
    | [a, b, c], _ =>
      rw [show k + 4 = (k + 3) + 1 from rfl, camshaftref05_one.l1, if_pos (by simp), if_pos (by decide)]
      rw [show rdOf ByteArray.empty (wds [a, b, c]) 1 = ofL b.1 from rfl, hn b _ (by simp) (by omega), Option.bind_some]
      unfold oneP
      simp only [lineOfB]
      by_cases h1 : (numberL b.1).2 = 0
      · rw [if_pos h1, if_pos (by simp), show wrap64 (1 + 1) = 2 from by unfold wrap64; omega, show k + 3 = (k + 2) + 1 from rfl, camshaftref05_one.l1, if_pos (by simp), if_pos (by decide)]
        rw [show rdOf ByteArray.empty (wds [a, b, c]) 2 = ofL c.1 from rfl, hn c _ (by simp) (by omega), Option.bind_some]
        by_cases h2 : (numberL c.1).2 = 0
        · rw [if_pos h2, if_neg (show ¬ ((2 : Int) = 1) by decide), if_pos (show (numberL b.1).2 = 0 ∧ (numberL c.1).2 = 0 from ⟨h1, h2⟩), show wrap64 (2 + 1) = 3 from by unfold wrap64; omega, show k + 2 = (k + 1) + 1 from rfl, camshaftref05_one.l1, if_neg (by simp), show k + 1 = (k - 3) + 4 by omega, one_tail _ _ _ _ (numberL_I64 _)]
          dsimp only
          rw [if_neg hcc]
          split <;> rfl
        · rw [if_neg h2, if_neg (show ¬ ((numberL b.1).2 = 0 ∧ (numberL c.1).2 = 0) from fun q => h2 q.2), numberL_bad h2]
          rfl
      · rw [if_neg h1, if_neg (show ¬ ((numberL b.1).2 = 0 ∧ (numberL c.1).2 = 0) from fun q => h1 q.1), numberL_bad h1]
        rfl
    | _ :: _ :: _ :: _ :: _, _ => exact absurd hc (by simp; omega)
  · rw [if_pos (by rw [hwl]; exact bne_iff_ne.2 hc)]
    unfold oneP
    cases lineOfB ps with
    | none => rfl
    | some t =>
      obtain ⟨t1, t2, t3⟩ := t
      dsimp only
      rw [if_pos (.inr (fun e => hc (by omega)))]
      rfl
theorem one_l0 (ps : List (List UInt8 × Bool)) (hps : ps ≠ []) (hz : ∀ p ∈ ps, p.1.length ≤ 1000000) (hl : ps.length ≤ 1000000) (w0 : List UInt8) (hw0 : rdOf ByteArray.empty (wds ps) 0 = ofL w0) :
    ∀ (f : Nat) (o cur : Int) (k : Nat), 1 ≤ o → o + f = 26 → ((cur = 0 ∧ ∀ q : Int, 1 ≤ q → q < o → (kindOf q).1 ≠ ofL w0) ∨ (1 ≤ cur ∧ cur ≤ 25 ∧ (kindOf cur).1 = ofL w0)) → 210 + f ≤ k →
    camshaftref05_one.l0 k (wds ps) o cur 0 0 = some (flat4 (oneP (whichB w0) ps)) := by
  have hlen : (0 : Int) < ((wds ps).length : Int) := by
    rw [List.length_map]
    cases ps with
    | nil => exact absurd rfl hps
    | cons a b => simp
  intro f
  induction f with
  | zero =>
    intro o cur k h1 h2 hc hk
    obtain ⟨k, rfl⟩ : ∃ m, k = m + 6 := ⟨k - 6, by omega⟩
    rw [show k + 6 = (k + 5) + 1 from rfl, camshaftref05_one.l0, if_neg (by omega)]
    rcases hc with ⟨rfl, hq⟩ | ⟨c1, c2, c3⟩
    · rw [if_pos (by rfl)]
      have h0 : whichB w0 = 0 := by
        refine Classical.byContradiction fun hne => ?_
        obtain ⟨a, b, c⟩ := which_ok hne
        exact hq _ b (by omega) a
      rw [h0, show k + 5 = (k + 4) + 1 from rfl, camshaftref05_one.j1, if_pos (by rfl)]
      unfold oneP
      cases lineOfB ps with
      | none => rfl
      | some t =>
        obtain ⟨t1, t2, t3⟩ := t
        dsimp only
        rw [if_pos (.inl rfl)]
        rfl
    · have h0 : whichB w0 = cur := by unfold whichB; rw [← c3]; exact which_name ⟨c1, c2⟩
      rw [if_neg (by omega), h0]
      refine Option.bind_eq_some_iff.2 ⟨_, rargs cur, ?_⟩
      exact one_j1 k (by omega) cur ⟨c1, c2⟩ ps hps hz hl
  | succ f ih =>
    intro o cur k h1 h2 hc hk
    obtain ⟨k, rfl⟩ : ∃ m, k = m + 1 := ⟨k - 1, by omega⟩
    have hw : wrap64 (o + 1) = o + 1 := wrap64_id (by unfold I64; omega)
    rw [camshaftref05_one.l0, if_pos (by omega)]
    refine Option.bind_eq_some_iff.2 ⟨_, rname o, ?_⟩
    rw [if_pos hlen, hw, hw0]
    by_cases he : (kindOf o).1.toList = (ofL w0).toList
    · rw [if_pos he]
      exact ih (o + 1) o k (by omega) (by omega) (.inr ⟨by omega, by omega, toList_inj he⟩) (by omega)
    · rw [if_neg he]
      refine ih (o + 1) cur k (by omega) (by omega) ?_ (by omega)
      rcases hc with ⟨c1, hq⟩ | c
      · refine .inl ⟨c1, fun q q1 q2 => ?_⟩
        by_cases hqo : q = o
        · rw [hqo]; exact fun e => he (by rw [e])
        · exact hq q q1 (by omega)
      · exact .inr c
theorem cutB_len (a : UInt8) : ∀ t : List UInt8, (∀ p ∈ cutB a t, p.1.length ≤ t.length) ∧ (cutB a t).length ≤ t.length + 1 ∧ cutB a t ≠ []
  | [] => ⟨fun p hp => by simp [cutB] at hp; rw [hp]; exact Nat.le_refl _, Nat.le_refl _, by simp [cutB]⟩
  | c :: cs => by
    obtain ⟨h1, h2, h3⟩ := cutB_len a cs
    rw [cutB]
    by_cases hc : c = a
    · rw [if_pos hc]
      refine ⟨fun p hp => ?_, by simp; omega, by simp⟩
      rcases List.mem_cons.1 hp with rfl | hp
      · simp
      · have := h1 p hp; simp; omega
    · rw [if_neg hc]
      cases hr : cutB a cs with
      | nil => exact absurd hr h3
      | cons x r =>
        obtain ⟨q, e⟩ := x
        rw [hr] at h1 h2
        dsimp only
        refine ⟨fun p hp => ?_, by simp at h2 ⊢; omega, by simp⟩
        rcases List.mem_cons.1 hp with rfl | hp
        · have := h1 (q, e) List.mem_cons_self; simp at this ⊢; omega
        · have := h1 p (List.mem_cons_of_mem _ hp); simp; omega
theorem rone_eq (t : List UInt8) (ht : t.length ≤ 100000) {k : Nat} (hk : 300 ≤ k) : camshaftref05_one.f k (wds (cutB 32 t)) = some (flat4 (oneB t)) := by
  obtain ⟨h1, h2, h3⟩ := cutB_len 32 t
  have hz : ∀ p ∈ cutB 32 t, p.1.length ≤ 1000000 := fun p hp => by have := h1 p hp; omega
  unfold camshaftref05_one.f
  cases hp : cutB 32 t with
  | nil => exact absurd hp h3
  | cons a r =>
    rw [hp] at hz h2 h3
    have := one_l0 (a :: r) h3 hz (by omega) a.1 rfl 25 1 0 k (by omega) (by omega) (.inl ⟨rfl, fun q q1 q2 => by omega⟩) (by omega)
    refine this.trans (congrArg some (congrArg flat4 ?_))
    unfold oneB oneP
    rw [hp]
    have hfst : ∀ (ps : List (List UInt8 × Bool)) (x : List UInt8 × Bool) (v : Ln), lineOfB (x :: ps) = some v → v.1 = whichB x.1 := by
      intro ps x v hv
      match ps, hv with
      | [], hv => simp only [lineOfB, Option.some.injEq] at hv; rw [← hv]
      | [_], hv =>
        simp only [lineOfB] at hv
        split at hv
        · rw [← Option.some.inj hv]
        · cases hv
      | [_, _], hv =>
        simp only [lineOfB] at hv
        split at hv
        · rw [← Option.some.inj hv]
        · cases hv
      | _ :: _ :: _ :: _, hv => cases hv
    cases hv : lineOfB (a :: r) with
    | none => rfl
    | some v =>
      obtain ⟨v1, v2, v3⟩ := v
      have := hfst r a _ hv
      dsimp only at this ⊢
      rw [this]

/-! ### Parse -/
def fin2 (r : List Ln ⊕ (List Ln × Int)) : List Ins × Int := match r with
  | .inl l => (l.map inS, 0)
  | .inr q => (q.1.map inS, q.2)
theorem run_last (acc : List Ln) (r : List UInt8) : runB acc [(r, false)] = if r = [] then .inr (acc, 0) else if acc.length = 200 then .inr ([], 4) else .inr ([], 3) := by
  unfold runB stepB
  by_cases h1 : r = []
  · rw [if_pos ⟨h1, rfl⟩, if_pos h1]
  · rw [if_neg (fun q => h1 q.1), if_neg h1]
    by_cases h2 : acc.length = 200
    · rw [if_pos h2, if_pos h2]
    · rw [if_neg h2, if_neg h2, if_pos rfl]
theorem run_cons (acc : List Ln) (p : List UInt8) (ps : List (List UInt8 × Bool)) : runB acc ((p, true) :: ps) = if acc.length = 200 then .inr ([], 4) else if (oneB p).2 = 0 then runB (acc ++ [(oneB p).1]) ps else .inr ([], (oneB p).2) := by
  rw [runB]
  unfold stepB
  rw [if_neg (show ¬ (p = [] ∧ true = false) from fun q => absurd q.2 (by decide))]
  by_cases h2 : acc.length = 200
  · rw [if_pos h2, if_pos h2]
  · rw [if_neg h2, if_neg h2, if_neg (show ¬ (true = false) by decide)]
    by_cases h3 : (oneB p).2 = 0
    · rw [if_pos h3, if_pos h3]
    · rw [if_neg h3, if_neg h3]
theorem rd_at (pre : List ByteArray) (x : ByteArray) (r : List ByteArray) : rdOf ByteArray.empty (pre ++ x :: r) (pre.length : Int) = x := by
  unfold rdOf
  rw [Int.toNat_natCast, List.getD_eq_getElem?_getD, List.getElem?_append_right (Nat.le_refl _), Nat.sub_self]
  rfl
theorem rparse_l0 (t : List UInt8) (ht : t.length ≤ 3000) (ws : List ByteArray) (hws : ws.length ≤ 4000) : ∀ (n : Nat) (r : List UInt8) (pre : List ByteArray) (acc : List Ln) (k : Nat), r.length ≤ n → r.length ≤ 3000 → ws = pre ++ wds (cutB 10 r) → acc.length ≤ 200 → 4000 + 3 * n ≤ k →
    camshaftref05_Parse.l0 k ws (acc.map inS) (pre.length : Int) = some (fin2 (runB acc (cutB 10 r))) := by
  intro n
  induction n with
  | zero =>
    intro r pre acc k hr hr3 hw ha hk
    obtain rfl := List.length_eq_zero_iff.1 (Nat.le_zero.1 hr)
    obtain ⟨k, rfl⟩ : ∃ m, k = m + 2 := ⟨k - 2, by omega⟩
    have hwl : ws.length = pre.length + 1 := by rw [hw]; simp [cutB]
    have hw1 : wrap64 ((ws.length : Int) - 1) = (pre.length : Int) := by rw [hwl]; unfold wrap64; omega
    have hrd : rdOf ByteArray.empty ws (pre.length : Int) = ofL [] := by rw [hw]; exact rd_at pre (ofL []) []
    rw [show k + 2 = (k + 1) + 1 from rfl, camshaftref05_Parse.l0, if_pos (by omega), hw1, if_pos (by rfl), if_pos (by omega), hrd, camshaftref05_Parse.j1]
    rw [if_pos (by rw [toList_bl, bl_ofL]; rfl)]
    show _ = some (fin2 (runB acc [([], false)]))
    rw [run_last, if_pos rfl]
    rfl
  | succ n ih =>
    intro r pre acc k hr hr3 hw ha hk
    obtain ⟨k, rfl⟩ : ∃ m, k = m + 2 := ⟨k - 2, by omega⟩
    rcases cut_at 10 r with h0 | ⟨p, q, hp, rfl⟩
    · rw [cutB_no h0] at hw ⊢
      have hwl : ws.length = pre.length + 1 := by rw [hw]; simp
      have hw1 : wrap64 ((ws.length : Int) - 1) = (pre.length : Int) := by rw [hwl]; unfold wrap64; omega
      have hrd : rdOf ByteArray.empty ws (pre.length : Int) = ofL r := by rw [hw]; exact rd_at pre (ofL r) []
      have hl200 : ((acc.map inS).length : Int) = (acc.length : Int) := by rw [List.length_map]
      rw [show k + 2 = (k + 1) + 1 from rfl, camshaftref05_Parse.l0, if_pos (by omega), hw1, if_pos (by rfl), if_pos (by omega), hrd, camshaftref05_Parse.j1, toList_bl, bl_ofL, hl200, hw1, run_last]
      by_cases c1 : r = []
      · rw [if_pos (show (r == ([] : List UInt8)) = true from beq_iff_eq.2 c1), if_pos c1]
        rfl
      · rw [if_neg (show ¬ (r == ([] : List UInt8)) = true from fun e => c1 (beq_iff_eq.1 e)), if_neg c1]
        by_cases c2 : acc.length = 200
        · rw [if_pos (show (acc.length : Int) = 200 by omega), if_pos c2]
          rfl
        · rw [if_neg (show ¬ (acc.length : Int) = 200 by omega), if_neg c2, if_pos (show (pre.length : Int) = (pre.length : Int) from rfl)]
          rfl
    · rw [cutB_app _ hp] at hw ⊢
      have hql : (cutB 10 q).length ≥ 1 := by
        have := (cutB_len 10 q).2.2
        cases hq : cutB 10 q with
        | nil => exact absurd hq this
        | cons a b => simp
      have hwl : ws.length = pre.length + 1 + (cutB 10 q).length := by rw [hw]; simp; omega
      have hw1 : wrap64 ((ws.length : Int) - 1) = (ws.length : Int) - 1 := wrap64_id (by unfold I64; omega)
      have hrd : rdOf ByteArray.empty ws (pre.length : Int) = ofL p := by rw [hw]; exact rd_at pre (ofL p) _
      have hpl : p.length ≤ 3000 := by simp at hr3; omega
      have hl200 : ((acc.map inS).length : Int) = (acc.length : Int) := by rw [List.length_map]
      rw [show k + 2 = (k + 1) + 1 from rfl, camshaftref05_Parse.l0, if_pos (by omega), hw1, if_neg (by omega), camshaftref05_Parse.j1, if_neg (by decide), hl200, hw1, run_cons]
      by_cases c2 : acc.length = 200
      · rw [if_pos (show (acc.length : Int) = 200 by omega), if_pos c2]
        rfl
      · rw [if_neg (show ¬ (acc.length : Int) = 200 by omega), if_neg c2, if_neg (show ¬ (pre.length : Int) = (ws.length : Int) - 1 by omega), if_pos (show (0 : Int) ≤ (pre.length : Int) by omega), if_pos (show (pre.length : Int) < (ws.length : Int) by omega), hrd]
        have hsz : (ofL p).size = p.length := by rw [bl_size, bl_ofL]
        refine Option.bind_eq_some_iff.2 ⟨_, rcut_eq (ofL p) (by omega) 32 (by omega), ?_⟩
        refine Option.bind_eq_some_iff.2 ⟨_, rone_eq p (by omega) (by omega), ?_⟩
        by_cases c3 : (oneB p).2 = 0
        · rw [if_pos (show (flat4 (oneB p)).2.2.2 = 0 from c3), if_pos (show (acc.map inS).length < 5864062014805 by rw [List.length_map]; omega), if_pos c3]
          have hw2 : wrap64 ((pre.length : Int) + 1) = ((pre ++ [ofL p]).length : Int) := by rw [List.length_append]; simp; exact wrap64_id (by unfold I64; omega)
          rw [hw2, show acc.map inS ++ [(⟨(flat4 (oneB p)).1, (flat4 (oneB p)).2.1, (flat4 (oneB p)).2.2.1⟩ : S24)] = (acc ++ [(oneB p).1]).map inS by rw [List.map_append]; rfl]
          exact ih q (pre ++ [ofL p]) (acc ++ [(oneB p).1]) k (by simp at hr; omega) (by simp at hr3; omega) (by rw [hw]; simp) (by simp; omega) (by omega)
        · rw [if_neg (show ¬ (flat4 (oneB p)).2.2.2 = 0 from c3), if_neg c3]
          rfl
theorem rparse_eq (s : ByteArray) (hs : s.size ≤ 3000) {k : Nat} (hk : 20000 ≤ k) : camshaftref05_Parse.f k s = some (parseI (bl s)) := by
  have hl : (bl s).length = s.size := (bl_size s).symm
  obtain ⟨h1, h2, h3⟩ := cutB_len 10 (bl s)
  unfold camshaftref05_Parse.f
  refine Option.bind_eq_some_iff.2 ⟨_, rcut_eq s (by omega) 10 (by omega), ?_⟩
  have := rparse_l0 (bl s) (by omega) (wds (cutB 10 (bl s))) (by rw [List.length_map]; omega) 3000 (bl s) [] [] k (by omega) (by omega) (by simp) (by simp) (by omega)
  refine this.trans (congrArg some ?_)
  unfold parseI parseB fin2
  cases runB [] (cutB 10 (bl s)) <;> rfl

end Go.Proofs.Ytldbochclabmjaa.TL
