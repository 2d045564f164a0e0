/- nest.scan, Match, Home: what they answer, in plain words. No conditions beyond those that each lemma states. -/
import Derived.Test.YtdhlhbhclggheaaNM7
import Derived.Test.YtdhlhbhclggheaaDx2
import Derived.Test.YtdhlhbhclggheaaDx3
import Derived.Test.YtdhlhbhclggheaaDx5
namespace Go.Proofs.Ytdhlhbhclggheaa.NL
open Go.RowKit Go.Proofs.Ytdhlhbhclggheaa.P Go.Proofs.Ytdhlhbhclggheaa.D Go.Proofs.YtdhlhbhclggheaaW.PrintWords Go.Proofs.YtdhlhbhclggheaaW.PrintLast Go.Proofs.YtdhlhbhclggheaaW.PrintMore

theorem ins_ext {x y : Ins} (h0 : x.f0 = y.f0) (h1 : x.f1 = y.f1) (h2 : x.f2 = y.f2) : x = y := by
  cases x; cases y; simp only at h0 h1 h2; subst h0 h1 h2; rfl
theorem ins_ne (x y : Ins) : (!(x.f0 == y.f0) || (!(x.f1 == y.f1) || !(x.f2 == y.f2))) = true ↔ x ≠ y := by
  constructor
  · intro h e; subst e; simp at h
  · intro h
    by_cases h0 : x.f0 = y.f0
    · by_cases h1 : x.f1 = y.f1
      · have h2 : x.f2 ≠ y.f2 := fun h2 => h (ins_ext h0 h1 h2)
        simp [h0, h1, h2]
      · simp [h1]
    · simp [h0]
theorem right_l0 (l : List Ins) (hn : l.length ≤ 1000000) : ∀ (d i k : Nat), i + d = l.length → d < k →
    ∃ r, nest_right.l0 k l l (l.length : Int) (i : Int) = some r ∧ (r = true ↔ (1 ≤ l.length ∧ l.length ≤ 200 ∧ (l.drop i).all okI = true)) := by
  intro d
  induction d with
  | zero =>
    intro i k hi hk
    obtain ⟨k, rfl⟩ : ∃ m, k = m + 1 := ⟨k - 1, by omega⟩
    simp only [nest_right.l0]
    rw [if_neg (by omega), List.drop_eq_nil_of_le (by omega)]
    by_cases h : (l.length : Int) > 0
    · rw [if_pos h]
      exact ⟨_, rfl, by rw [decide_eq_true_iff]; exact ⟨fun h2 => ⟨by omega, by omega, rfl⟩, fun h2 => by omega⟩⟩
    · rw [if_neg h]
      exact ⟨_, rfl, by constructor; · intro e; cases e
                        · intro e; omega⟩
  | succ d ih =>
    intro i k hi hk
    obtain ⟨k, rfl⟩ : ∃ m, k = m + 1 := ⟨k - 1, by omega⟩
    simp only [nest_right.l0]
    rw [if_pos (by omega), if_pos (by omega), if_pos (by omega), gI_drop (show i < l.length by omega), List.all_cons, Bool.and_eq_true]
    by_cases h : okI (gI l i) = true
    · obtain ⟨r, e1, e2⟩ := ih (i + 1) k (by omega) (by omega)
      refine ⟨r, Option.bind_eq_some_iff.2 ⟨okI (gI l i), rfl, ?_⟩, by rw [e2, h]; simp⟩
      rw [if_pos h, show wrap64 ((i : Int) + 1) = ((i + 1 : Nat) : Int) from by unfold wrap64; omega]
      exact e1
    · refine ⟨false, Option.bind_eq_some_iff.2 ⟨okI (gI l i), rfl, ?_⟩, by simp [h]⟩
      rw [if_neg h]
theorem right_eq (l : List Ins) (hn : l.length ≤ 1000000) {k : Nat} (hk : l.length < k) : ∃ r, nest_right.f k l = some r ∧ (r = true ↔ Rt l) := by
  have := right_l0 l hn l.length 0 k (by omega) hk
  rw [List.drop_zero] at this
  exact this

def endsOf (x : Ins) : Ins := if x.f0 = 21 then ⟨22, 0, 0⟩ else ⟨24, x.f1, 0⟩
def regOf (l : List Ins) (q : Nat) : S64 := ⟨(q : Int), endsOf (gI l q)⟩
def opens (l : List Ins) (s : List Nat) : List S64 := (s.map (regOf l)).reverse
theorem opens_cons (l : List Ins) (q : Nat) (s : List Nat) : opens l (q :: s) = opens l s ++ [regOf l q] := by simp [opens]
theorem opens_len (l : List Ins) (s : List Nat) : (opens l s).length = s.length := by simp [opens]
theorem opens_top (l : List Ins) (q : Nat) (s : List Nat) : rd_T64 (opens l (q :: s)) (s.length : Int) = regOf l q := by
  rw [opens_cons]; simp [rd_T64, List.getD, opens_len]
theorem opens_take (l : List Ins) (q : Nat) (s : List Nat) : (opens l (q :: s)).take s.length = opens l s := by
  rw [opens_cons]
  have := opens_len l s
  rw [List.take_append_of_le_length (by omega), List.take_of_length_le (by omega)]
theorem ends_eq {a x : Ins} (ha : opn a = true) (hx : okI x = true) : endsOf a = x ↔ mtc a x = true := by
  unfold opn at ha
  rw [Bool.or_eq_true, beq_iff_eq, beq_iff_eq] at ha
  have hA := ok_args hx
  unfold endsOf mtc
  rcases ha with h | h
  · rw [if_pos h, h]
    constructor
    · intro e; rw [← e]; rfl
    · intro e
      have e : x.f0 = 22 := by simpa using e
      obtain ⟨e1, e2⟩ := hA.2.1 e
      exact ins_ext e.symm e1.symm e2.symm
  · rw [if_neg (by omega), h]
    constructor
    · intro e; rw [← e]; simp
    · intro e
      have e : x.f0 = 24 ∧ a.f1 = x.f1 := by simpa using e
      obtain ⟨_, _, e2⟩ := hA.2.2.1 (.inr e.1)
      exact ins_ext e.1.symm e.2 e2.symm
theorem dec_len : ∀ {s : List Nat} {i : Nat}, Dec i s → s.length ≤ i
  | [], i, _ => Nat.zero_le i
  | q :: r, i, h => by have := dec_len h.2; have := h.1; rw [List.length_cons]; omega
theorem rd_set_self {M : List Int} {j : Nat} {v : Int} (h : j < M.length) : rd (M.set j v) (j : Int) = v := by
  simp [rd, List.getD, h]
theorem rd_set_ne {M : List Int} {j k : Nat} {v : Int} (h : j ≠ k) : rd (M.set j v) (k : Int) = rd M (k : Int) := by
  simp [rd, List.getD, List.getElem?_set_ne h]
theorem stk_succ {l : List Ins} {i : Nat} {s : List Nat} (h : stk l i = some s) : stk l (i + 1) = step l i s := by
  show (stk l i).bind _ = _
  rw [h]; rfl
theorem step_open {l : List Ins} {i : Nat} {s : List Nat} (h : opn (gI l i) = true) : step l i s = some (i :: s) := by unfold step; rw [if_pos h]
theorem step_close {l : List Ins} {i : Nat} {s : List Nat} (h : cls (gI l i) = true) : step l i s = pop l i s := by
  unfold step; rw [if_neg (by rw [cls_opn h]; decide), if_pos h]
theorem step_plain {l : List Ins} {i : Nat} {s : List Nat} (h : ¬ opn (gI l i) = true) (h' : ¬ cls (gI l i) = true) : step l i s = some s := by
  unfold step; rw [if_neg h, if_neg h']
theorem notV {l : List Ins} {i : Nat} (h : stk l i = none) (hi : i ≤ l.length) : ¬ V l := by
  intro hv
  obtain ⟨s, hs⟩ := hv.at hi
  rw [h] at hs; cases hs
structure Inv (l : List Ins) (i : Nat) (M H : List Int) (s : List Nat) : Prop where
  lm : M.length = l.length
  lh : H.length = l.length
  st : stk l i = some s
  m : ∀ k, k < i → (opn (gI l k) = true → (k ∈ s ∧ rd M (k : Int) = -1) ∨ ∃ c : Nat, c < i ∧ rd M (k : Int) = (c : Int) ∧ Cl l k c) ∧ (cls (gI l k) = true → ∃ q : Nat, rd M (k : Int) = (q : Int) ∧ Cl l q k) ∧ (opn (gI l k) = false → cls (gI l k) = false → rd M (k : Int) = -1)
  h : ∀ k, k < i → ∃ s', stk l k = some s' ∧ rd H (k : Int) = hd s'
def Res (l : List Ins) (r : List Int × List Int × Int) : Prop := (V l ∧ r.2.2 = 0 ∧ MT l r.1 ∧ HT l r.2.1) ∨ (¬ V l ∧ r = ([], [], 7))
theorem scan_l0 (l : List Ins) (hn : l.length ≤ 200) (hok : ∀ i, i < l.length → okI (gI l i) = true) : ∀ (d i k : Nat) (M H : List Int) (s : List Nat), i + d = l.length → 3 * d + 3 ≤ k → Inv l i M H s →
    ∃ r, nest_scan.l0 k M H (opens l s) l (l.length : Int) (i : Int) = some r ∧ Res l r := by
  intro d
  induction d with
  | zero =>
    intro i k M H s hi hk I
    obtain ⟨k, rfl⟩ : ∃ m, k = m + 1 := ⟨k - 1, by omega⟩
    simp only [nest_scan.l0]
    rw [if_neg (by omega)]
    have hi : i = l.length := by omega
    have hlen := opens_len l s
    cases s with
    | nil =>
      rw [if_neg (by rw [hlen]; simp)]
      refine ⟨_, rfl, .inl ⟨by unfold V; rw [← hi]; exact I.st, rfl, ⟨I.lm, fun q hq => ?_⟩, ⟨I.lh, fun q hq => I.h q (by omega)⟩⟩⟩
      obtain ⟨a, b, c⟩ := I.m q (by omega)
      refine ⟨fun ho => ?_, b, c⟩
      rcases a ho with ⟨h, _⟩ | ⟨e, h1, h2⟩
      · cases h
      · exact ⟨e, by omega, h2⟩
    | cons q r =>
      rw [if_pos (by rw [hlen, List.length_cons]; omega)]
      refine ⟨_, rfl, .inr ⟨?_, rfl⟩⟩
      unfold V
      rw [← hi, I.st]
      intro e; cases e
  | succ d ih =>
    intro i k M H s hi hk I
    obtain ⟨k, rfl⟩ : ∃ m, k = m + 3 := ⟨k - 3, by omega⟩
    have hil : i < l.length := by omega
    have hs1 := stk_succ I.st
    have hO := opens_len l s
    have hsl := dec_len (stk_dec I.st)
    have hx := hok i hil
    have hw : wrap64 ((i : Int) + 1) = ((i + 1 : Nat) : Int) := by unfold wrap64; omega
    have J : ∀ H2 : List Int, H2.length = l.length → (∀ q, q < i → rd H2 (q : Int) = rd H (q : Int)) → rd H2 (i : Int) = hd s →
        ∃ r, nest_scan.j1 (k + 2) (M.set i (-1)) H2 (opens l s) (i : Int) l (l.length : Int) (i : Int) (gI l i).f0 (gI l i).f1 (gI l i).f2 = some r ∧ Res l r := by
      intro H2 h1 h2 h3
      have hH : ∀ q, q < i + 1 → ∃ s', stk l q = some s' ∧ rd H2 (q : Int) = hd s' := by
        intro q hq
        by_cases e : q = i
        · subst e; exact ⟨s, I.st, h3⟩
        · rw [h2 q (by omega)]; exact I.h q (by omega)
      have hM1 : ∀ q, q ≠ i → rd (M.set i (-1)) (q : Int) = rd M (q : Int) := fun q hq => rd_set_ne (fun e => hq e.symm)
      have hMi : rd (M.set i (-1)) (i : Int) = -1 := rd_set_self (by rw [I.lm]; exact hil)
      have hLM : (M.set i (-1)).length = l.length := by rw [List.length_set, I.lm]
      simp only [nest_scan.j1, nest_opening.f]
      by_cases ho : opn (gI l i) = true
      · have hst : stk l (i + 1) = some (i :: s) := hs1.trans (step_open ho)
        have hI : Inv l (i + 1) (M.set i (-1)) H2 (i :: s) := by
          refine ⟨hLM, h1, hst, fun q hq => ?_, hH⟩
          by_cases e : q = i
          · subst e
            refine ⟨fun _ => .inl ⟨List.mem_cons_self .., hMi⟩, fun hc => ?_, fun hc => ?_⟩
            · rw [cls_opn hc] at ho; cases ho
            · rw [hc] at ho; cases ho
          · rw [hM1 q e]
            obtain ⟨a, b, c⟩ := I.m q (by omega)
            refine ⟨fun h => ?_, b, c⟩
            rcases a h with ⟨a1, a2⟩ | ⟨c, a1, a2⟩
            · exact .inl ⟨List.mem_cons_of_mem _ a1, a2⟩
            · exact .inr ⟨c, by omega, a2⟩
        obtain ⟨r, e1, e2⟩ := ih (i + 1) (k + 1) (M.set i (-1)) H2 (i :: s) (by omega) (by omega) hI
        refine ⟨r, ?_, e2⟩
        rw [opens_cons] at e1
        have ho' := ho
        unfold opn at ho'
        rw [Bool.or_eq_true, beq_iff_eq, beq_iff_eq] at ho'
        rcases ho' with h | h
        · rw [if_pos h]
          refine Option.bind_eq_some_iff.2 ⟨_, rfl, ?_⟩
          rw [if_pos rfl, if_pos (by omega), hw]
          rw [show regOf l i = (⟨(i : Int), ⟨22, 0, 0⟩⟩ : S64) from by unfold regOf endsOf; rw [if_pos h]] at e1
          exact e1
        · rw [if_neg (by omega), if_pos h]
          refine Option.bind_eq_some_iff.2 ⟨_, rfl, ?_⟩
          rw [if_pos rfl, if_pos (by omega), hw]
          rw [show regOf l i = (⟨(i : Int), ⟨24, (gI l i).f1, 0⟩⟩ : S64) from by unfold regOf endsOf; rw [if_neg (by omega)]] at e1
          exact e1
      · have ho' := ho
        unfold opn at ho'
        rw [Bool.or_eq_true, beq_iff_eq, beq_iff_eq] at ho'
        rw [if_neg (fun h => ho' (.inl h)), if_neg (fun h => ho' (.inr h))]
        by_cases hc : cls (gI l i) = true
        · have hst : stk l (i + 1) = pop l i s := hs1.trans (step_close hc)
          have K : ∃ r, nest_scan.j2 (k + 1) (M.set i (-1)) H2 (opens l s) (i : Int) l (l.length : Int) (i : Int) false (gI l i).f0 (gI l i).f1 (gI l i).f2 = some r ∧ Res l r := by
            simp only [nest_scan.j2]
            rw [if_neg (by decide)]
            cases s with
            | nil =>
              rw [if_pos (by rw [hO]; rfl)]
              exact ⟨_, rfl, .inr ⟨notV hst (by omega), rfl⟩⟩
            | cons t r =>
              rw [List.length_cons] at hO hsl
              have hwl : wrap64 (((opens l (t :: r)).length : Int) - 1) = (r.length : Int) := by rw [hO]; clear hs1 hst hx ih; unfold wrap64; omega
              have htd := stk_dec I.st
              have hto := stk_opn I.st (List.mem_cons_self ..)
              rw [if_neg (by omega), hwl, if_pos (by omega), if_pos (by omega), opens_top, show (regOf l t).f1 = endsOf (gI l t) from rfl]
              by_cases hm : mtc (gI l t) (gI l i) = true
              · have hst : stk l (i + 1) = some r := by rw [hst]; simp only [pop]; rw [if_pos hm]
                have hC : Cl l t i := ⟨hc, r, I.st, hm⟩
                have h3 : rd H2 (i : Int) = (t : Int) := h3
                have hti : t < i := htd.1
                rw [if_neg (fun e => (ins_ne _ _).1 e ((ends_eq hto hx).2 hm)), if_pos (by omega), if_pos (by omega), if_pos (by omega), h3, if_pos (by omega), if_pos (by omega), if_pos (by omega), hw, show ((r.length : Nat) : Int).toNat = r.length from rfl, show ((t : Nat) : Int).toNat = t from rfl, show ((i : Nat) : Int).toNat = i from rfl, opens_take]
                refine ih (i + 1) k _ H2 r (by omega) (by omega) ⟨by rw [List.length_set, List.length_set, hLM], h1, hst, fun q hq => ?_, hH⟩
                by_cases e : q = i
                · subst e
                  rw [rd_set_ne (by omega), rd_set_self (by omega)]
                  exact ⟨fun h => absurd h ho, fun _ => ⟨t, rfl, hC⟩, fun _ h => by rw [hc] at h; cases h⟩
                · by_cases e2 : q = t
                  · subst e2
                    rw [rd_set_self (by rw [List.length_set]; omega)]
                    exact ⟨fun _ => .inr ⟨i, by omega, rfl, hC⟩, fun h => (by rw [cls_opn h] at hto; cases hto), fun h => by rw [hto] at h; cases h⟩
                  · rw [rd_set_ne (fun e => e2 e.symm), rd_set_ne (fun e' => e e'.symm), hM1 q e]
                    obtain ⟨a, b, c⟩ := I.m q (by omega)
                    refine ⟨fun h => ?_, b, c⟩
                    rcases a h with ⟨a1, a2⟩ | ⟨c, a1, a2⟩
                    · rcases List.mem_cons.1 a1 with h | h
                      · exact absurd h e2
                      · exact .inl ⟨h, a2⟩
                    · exact .inr ⟨c, by omega, a2⟩
              · rw [if_pos ((ins_ne _ _).2 (fun e => hm ((ends_eq hto hx).1 e)))]
                refine ⟨_, rfl, .inr ⟨notV (i := i + 1) (by rw [hst]; simp only [pop]; rw [if_neg hm]) (by omega), rfl⟩⟩
          obtain ⟨r, e1, e2⟩ := K
          refine ⟨r, Option.bind_eq_some_iff.2 ⟨_, rfl, ?_⟩, e2⟩
          rw [if_neg (by simp)]
          have hc' := hc
          unfold cls at hc'
          rw [Bool.or_eq_true, beq_iff_eq, beq_iff_eq] at hc'
          by_cases h : (gI l i).f0 = 22
          · rw [if_pos h]; exact e1
          · have h24 : (gI l i).f0 = 24 := hc'.resolve_left h
            rw [if_neg h, show ((gI l i).f0 != 24) = false from by rw [h24]; rfl]
            exact e1
        · have hst : stk l (i + 1) = some s := hs1.trans (step_plain ho hc)
          have hI : Inv l (i + 1) (M.set i (-1)) H2 s := by
            refine ⟨hLM, h1, hst, fun q hq => ?_, hH⟩
            by_cases e : q = i
            · subst e
              exact ⟨fun h => absurd h ho, fun h => absurd h hc, fun _ _ => hMi⟩
            · rw [hM1 q e]
              obtain ⟨a, b, c⟩ := I.m q (by omega)
              refine ⟨fun h => ?_, b, c⟩
              rcases a h with ⟨a1, a2⟩ | ⟨c, a1, a2⟩
              · exact .inl ⟨a1, a2⟩
              · exact .inr ⟨c, by omega, a2⟩
          obtain ⟨r, e1, e2⟩ := ih (i + 1) k (M.set i (-1)) H2 s (by omega) (by omega) hI
          refine ⟨r, Option.bind_eq_some_iff.2 ⟨_, rfl, ?_⟩, e2⟩
          have hc' := hc
          unfold cls at hc'
          rw [Bool.or_eq_true, beq_iff_eq, beq_iff_eq] at hc'
          rw [if_neg (by simp), if_neg (fun h => hc' (.inl h)), show ((gI l i).f0 != 24) = true from by rw [bne_iff_ne]; exact fun h => hc' (.inr h)]
          simp only [nest_scan.j2]
          rw [if_pos trivial, hw]
          exact e1
    simp only [nest_scan.l0]
    rw [if_pos (by omega), if_pos (by omega), if_pos (by omega), if_pos (by rw [I.lm]; omega)]
    have hLH := I.lh
    have hS : ∀ v : Int, (H.set i v).length = l.length := fun v => by rw [List.length_set, hLH]
    cases s with
    | nil =>
      obtain ⟨r, e1, e2⟩ := J (H.set i (-1)) (hS _) (fun q hq => rd_set_ne (by omega)) (rd_set_self (by omega))
      refine ⟨r, Option.bind_eq_some_iff.2 ⟨_, rfl, ?_⟩, e2⟩
      rw [if_pos (by omega)]
      refine Option.bind_eq_some_iff.2 ⟨_, rfl, ?_⟩
      rw [if_neg (by rw [hO]; simp)]
      exact e1
    | cons t r =>
      rw [List.length_cons] at hO hsl
      obtain ⟨r2, e1, e2⟩ := J ((H.set i (-1)).set i (t : Int)) (by rw [List.length_set, hS]) (fun q hq => by rw [rd_set_ne (by omega), rd_set_ne (by omega)]) (rd_set_self (by rw [hS]; omega))
      refine ⟨r2, Option.bind_eq_some_iff.2 ⟨_, rfl, ?_⟩, e2⟩
      rw [if_pos (by omega)]
      refine Option.bind_eq_some_iff.2 ⟨_, rfl, ?_⟩
      have hwl : wrap64 (((opens l (t :: r)).length : Int) - 1) = (r.length : Int) := by rw [hO]; clear hs1 hx ih J; unfold wrap64; omega
      rw [if_pos (by omega), hwl, if_pos (by omega), if_pos (by omega), opens_top]
      exact e1
/-- nest.scan. -/
def Scan (l : List Ins) (r : List Int × List Int × Int) : Prop := (¬ Rt l ∧ r = ([], [], 1)) ∨ (Rt l ∧ Res l r)
theorem scan_eq (l : List Ins) (hn : l.length ≤ 1000000) {k : Nat} (hk : 3 * l.length + 10 ≤ k) : ∃ r, nest_scan.f k l = some r ∧ Scan l r := by
  unfold nest_scan.f
  obtain ⟨b, e1, e2⟩ := right_eq l hn (k := k) (by omega)
  by_cases h : Rt l
  · have hb := e2.2 h
    have h200 := h.2.1
    have hR : ∀ v : Int, (List.replicate l.length v).length = l.length := fun v => List.length_replicate
    obtain ⟨r, e3, e4⟩ := scan_l0 l h.2.1 (fun i hi => h.at hi) l.length 0 k (List.replicate l.length 0) (List.replicate l.length 0) [] (by omega) (by omega) ⟨hR 0, hR 0, rfl, fun q hq => by omega, fun q hq => by omega⟩
    refine ⟨r, Option.bind_eq_some_iff.2 ⟨_, e1, ?_⟩, .inr ⟨h, e4⟩⟩
    rw [if_pos hb, if_pos (by omega), show ((l.length : Nat) : Int).toNat = l.length from rfl, if_pos (by omega)]
    exact e3
  · refine ⟨_, Option.bind_eq_some_iff.2 ⟨_, e1, ?_⟩, .inl ⟨h, rfl⟩⟩
    rw [if_neg (fun hb => h (e2.1 hb))]
/-- nest.Match, nest.Home. -/
def MSpec (l : List Ins) (r : List Int × Int) : Prop := (¬ Rt l ∧ r = ([], 1)) ∨ (Rt l ∧ ¬ V l ∧ r = ([], 7)) ∨ (Rt l ∧ V l ∧ r.2 = 0 ∧ MT l r.1)
def HSpec (l : List Ins) (r : List Int × Int) : Prop := (¬ Rt l ∧ r = ([], 1)) ∨ (Rt l ∧ ¬ V l ∧ r = ([], 7)) ∨ (Rt l ∧ V l ∧ r.2 = 0 ∧ HT l r.1)
theorem match_eq (l : List Ins) (hn : l.length ≤ 1000000) {k : Nat} (hk : 3 * l.length + 10 ≤ k) : ∃ r, nest_Match.f k l = some r ∧ MSpec l r := by
  obtain ⟨r, e1, e2⟩ := scan_eq l hn hk
  refine ⟨_, Option.bind_eq_some_iff.2 ⟨_, e1, rfl⟩, ?_⟩
  rcases e2 with ⟨h1, rfl⟩ | ⟨h1, ⟨h2, h3, h4, _⟩ | ⟨h2, rfl⟩⟩
  · exact .inl ⟨h1, rfl⟩
  · exact .inr (.inr ⟨h1, h2, h3, h4⟩)
  · exact .inr (.inl ⟨h1, h2, rfl⟩)
end Go.Proofs.Ytdhlhbhclggheaa.NL
