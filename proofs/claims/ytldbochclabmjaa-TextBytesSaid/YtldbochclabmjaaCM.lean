/- Plain mathematics of numbers as bytes (seven bits a byte, the lowest first): what is put is got, and only that. No conditions beyond those that each lemma states. -/
import Derived.Laws.BitsLemmas
import Derived.RowKit
namespace Go.Proofs.Ytldbochclabmjaa.CM
open Go.RowKit

/-- What an int holds. -/
def I64 (n : Int) : Prop := -9223372036854775808 ≤ n ∧ n ≤ 9223372036854775807
/-- A number's turned one, and back. -/
def zz (n : Int) : Nat := if 0 ≤ n then (2 * n).toNat else (-2 * n - 1).toNat
def unzz (u : Nat) : Int := if u % 2 = 0 then ((u / 2 : Nat) : Int) else -((u / 2 : Nat) : Int) - 1

theorem zz_lt {n : Int} (h : I64 n) : zz n < 18446744073709551616 := by
  unfold I64 at h; unfold zz; split <;> omega
theorem unzz_zz (n : Int) : unzz (zz n) = n := by
  unfold unzz zz; split <;> split <;> omega
theorem zz_unzz (u : Nat) : zz (unzz u) = u := by
  unfold unzz zz; split <;> split <;> omega
theorem unzz_I64 {u : Nat} (h : u < 18446744073709551616) : I64 (unzz u) := by
  unfold unzz I64; split <;> omega

/-- A turned number's bytes. -/
def enc (u : Nat) : List UInt8 :=
  if h : u < 128 then [UInt8.ofNat u] else UInt8.ofNat (u % 128 + 128) :: enc (u / 128)
  termination_by u
theorem enc_small {u : Nat} (h : u < 128) : enc u = [UInt8.ofNat u] := by rw [enc, dif_pos h]
theorem enc_big {u : Nat} (h : ¬ u < 128) : enc u = UInt8.ofNat (u % 128 + 128) :: enc (u / 128) := by rw [enc, dif_neg h]

theorem enc_pos (u : Nat) : 1 ≤ (enc u).length := by
  by_cases h : u < 128
  · rw [enc_small h]; simp
  · rw [enc_big h]; simp
theorem enc_ne (u : Nat) : enc u ≠ [] := by
  intro h; have := enc_pos u; rw [h] at this; simp at this
theorem enc_len_le : ∀ (f u : Nat), u < 128 ^ (f + 1) → (enc u).length ≤ f + 1
  | 0, u, h => by rw [enc_small (by simpa using h)]; simp
  | f + 1, u, h => by
    by_cases hu : u < 128
    · rw [enc_small hu]; simp
    · rw [enc_big hu]
      have := enc_len_le f (u / 128) (by rw [Nat.div_lt_iff_lt_mul (by decide)]; rw [Nat.pow_succ] at h; exact h)
      simp; omega
theorem enc_len_ge : ∀ (f u : Nat), 128 ^ f ≤ u → f + 1 ≤ (enc u).length
  | 0, u, _ => by have := enc_pos u; omega
  | f + 1, u, h => by
    have h1 : ¬ u < 128 := by
      have : 128 ^ 1 ≤ 128 ^ (f + 1) := Nat.pow_le_pow_right (by decide) (by omega)
      omega
    rw [enc_big h1]
    have := enc_len_ge f (u / 128) (by rw [Nat.le_div_iff_mul_le (by decide)]; rw [Nat.pow_succ] at h; exact h)
    simp; omega
theorem enc_len_ten {u : Nat} (h : u < 18446744073709551616) : (enc u).length ≤ 10 :=
  enc_len_le 9 u (by omega)
theorem enc_len_mono : ∀ (n u v : Nat), u ≤ n → u ≤ v → (enc u).length ≤ (enc v).length := by
  intro n
  induction n with
  | zero => intro u v h1 h2; rw [enc_small (show u < 128 by omega)]; exact enc_pos v
  | succ n ih =>
    intro u v h1 h2
    by_cases hu : u < 128
    · rw [enc_small hu]; exact enc_pos v
    · rw [enc_big hu, enc_big (show ¬ v < 128 by omega)]
      have := ih (u / 128) (v / 128) (by omega) (by omega)
      simp; omega

/-- What bytes come to. -/
def val : List UInt8 → Nat
  | [] => 0
  | c :: r => c.toNat % 128 + 128 * val r
theorem val_append (a b : List UInt8) : val (a ++ b) = val a + 128 ^ a.length * val b := by
  induction a with
  | nil => simp [val]
  | cons c r ih => simp only [List.cons_append, val, ih, List.length_cons, Nat.pow_succ]; rw [Nat.mul_add, Nat.add_assoc, ← Nat.mul_assoc, Nat.mul_comm 128 (128 ^ r.length)]
theorem val_lt (a : List UInt8) : val a < 128 ^ a.length := by
  induction a with
  | nil => simp [val]
  | cons c r ih => simp only [val, List.length_cons, Nat.pow_succ]; have := Nat.mod_lt c.toNat (show 128 > 0 by decide); omega
theorem toNat_ofNat {n : Nat} (h : n < 256) : (UInt8.ofNat n).toNat = n := by simp; omega
theorem val_enc : ∀ (n u : Nat), u ≤ n → val (enc u) = u := by
  intro n
  induction n with
  | zero => intro u h; rw [enc_small (show u < 128 by omega)]; simp only [val]; rw [toNat_ofNat (by omega)]; omega
  | succ n ih =>
    intro u h
    by_cases hu : u < 128
    · rw [enc_small hu]; simp only [val]; rw [toNat_ofNat (by omega)]; omega
    · rw [enc_big hu]; simp only [val]; rw [ih (u / 128) (by omega), toNat_ofNat (by omega)]; omega
theorem val_enc' (u : Nat) : val (enc u) = u := val_enc u u (Nat.le_refl _)
theorem enc_inj {u v : Nat} (h : enc u = enc v) : u = v := by rw [← val_enc' u, h, val_enc']

/-- All with the bit 128. -/
def Hi (l : List UInt8) : Prop := ∀ c ∈ l, 128 ≤ c.toNat
theorem Hi_nil : Hi [] := fun _ h => by simp at h
theorem Hi_snoc {l : List UInt8} {c : UInt8} (h : Hi l) (hc : 128 ≤ c.toNat) : Hi (l ++ [c]) := by
  intro x hx
  rcases List.mem_append.1 hx with h1 | h1
  · exact h x h1
  · rw [List.mem_singleton.1 h1]; exact hc
theorem Hi_cons {l : List UInt8} {c : UInt8} (h : Hi l) (hc : 128 ≤ c.toNat) : Hi (c :: l) := by
  intro x hx
  rcases List.mem_cons.1 hx with h1 | h1
  · rw [h1]; exact hc
  · exact h x h1
theorem Hi_append {a b : List UInt8} (h : Hi a) (hb : Hi b) : Hi (a ++ b) := fun x hx => (List.mem_append.1 hx).elim (h x) (hb x)

theorem enc_shape : ∀ (n u : Nat), u ≤ n → ∃ pre c, enc u = pre ++ [c] ∧ Hi pre ∧ c.toNat < 128 ∧ (pre ≠ [] → c.toNat ≠ 0) := by
  intro n
  induction n with
  | zero => intro u h; exact ⟨[], UInt8.ofNat u, enc_small (by omega), Hi_nil, by rw [toNat_ofNat (by omega)]; omega, fun h => absurd rfl h⟩
  | succ n ih =>
    intro u h
    by_cases hu : u < 128
    · exact ⟨[], UInt8.ofNat u, enc_small hu, Hi_nil, by rw [toNat_ofNat (by omega)]; omega, fun h => absurd rfl h⟩
    · obtain ⟨pre, c, e, h1, h2, h3⟩ := ih (u / 128) (by omega)
      refine ⟨UInt8.ofNat (u % 128 + 128) :: pre, c, by rw [enc_big hu, e]; rfl, Hi_cons h1 (by rw [toNat_ofNat (by omega)]; omega), h2, fun _ => ?_⟩
      by_cases hp : pre = []
      · subst hp
        intro h0
        have := congrArg val e
        rw [val_enc'] at this
        simp [val, h0] at this
        omega
      · exact h3 hp
theorem val_pos_of {pre : List UInt8} {c : UInt8} (hc : c.toNat < 128) (h : c.toNat ≠ 0) : 1 ≤ val (pre ++ [c]) := by
  rw [val_append]
  have h1 : val [c] = c.toNat := by simp [val]; omega
  have : 0 < 128 ^ pre.length := Nat.pow_pos (by decide)
  have h2 : 1 * 1 ≤ 128 ^ pre.length * val [c] := Nat.mul_le_mul this (by omega)
  omega
theorem byte_eq {c : UInt8} {n : Nat} (h : c.toNat = n) : UInt8.ofNat n = c := by
  rw [← h]; simp
theorem enc_of_shape : ∀ (pre : List UInt8) (c : UInt8), Hi pre → c.toNat < 128 → (pre ≠ [] → c.toNat ≠ 0) → enc (val (pre ++ [c])) = pre ++ [c] := by
  intro pre
  induction pre with
  | nil =>
    intro c _ hc _
    have h1 : val ([] ++ [c]) = c.toNat := by simp [val]; omega
    rw [h1, enc_small hc]
    simp
  | cons d pre ih =>
    intro c hp hc hz
    have hz' := hz (by simp)
    have hd : 128 ≤ d.toNat := hp d (by simp)
    have hd2 : d.toNat < 256 := d.toNat_lt
    have hv : val (d :: pre ++ [c]) = d.toNat % 128 + 128 * val (pre ++ [c]) := rfl
    have h1 := val_pos_of (pre := pre) hc hz'
    have ih' := ih c (fun x hx => hp x (by simp [hx])) hc (fun _ => hz')
    rw [hv, enc_big (by omega)]
    rw [show (d.toNat % 128 + 128 * val (pre ++ [c])) / 128 = val (pre ++ [c]) by omega, ih']
    rw [byte_eq (c := d) (by omega)]
    rfl

/-- The number at the head of bytes: the number, how many bytes, what is wrong (0: nothing). -/
def getGo (pre : List UInt8) : List UInt8 → Int × Int × Int
  | [] => if 10 ≤ pre.length then (0, 0, 3) else (0, 0, 2)
  | c :: r => if 10 ≤ pre.length then (0, 0, 3) else if 128 ≤ c.toNat then getGo (pre ++ [c]) r
      else if (pre ≠ [] ∧ c.toNat = 0) ∨ (pre.length = 9 ∧ 1 < c.toNat) then (0, 0, 3) else (unzz (val (pre ++ [c])), ((pre.length + 1 : Nat) : Int), 0)
theorem getGo_ten {pre : List UInt8} (h : 10 ≤ pre.length) (L : List UInt8) : getGo pre L = (0, 0, 3) := by
  cases L <;> simp [getGo, h]
theorem getGo_hi (h : List UInt8) : ∀ (pre L : List UInt8), Hi h → pre.length + h.length ≤ 10 → getGo pre (h ++ L) = getGo (pre ++ h) L := by
  induction h with
  | nil => intro pre L _ _; simp
  | cons c h ih =>
    intro pre L hh hl
    simp at hl
    have hc : 128 ≤ c.toNat := hh c (by simp)
    rw [List.cons_append, getGo, if_neg (by omega), if_pos hc, ih _ _ (fun x hx => hh x (by simp [hx])) (by simp; omega)]
    simp

/-- The three ways of it. -/
theorem getGo_cases (L : List UInt8) : ∀ (pre : List UInt8), Hi pre → pre.length ≤ 10 →
    (∃ t c r, L = t ++ c :: r ∧ Hi (pre ++ t) ∧ c.toNat < 128 ∧ (pre ++ t).length ≤ 9 ∧
      getGo pre L = if (pre ++ t ≠ [] ∧ c.toNat = 0) ∨ ((pre ++ t).length = 9 ∧ 1 < c.toNat) then (0, 0, 3) else (unzz (val (pre ++ t ++ [c])), (((pre ++ t).length + 1 : Nat) : Int), 0)) ∨
    (∃ t r, L = t ++ r ∧ Hi (pre ++ t) ∧ (pre ++ t).length = 10 ∧ getGo pre L = (0, 0, 3)) ∨
    (Hi (pre ++ L) ∧ (pre ++ L).length < 10 ∧ getGo pre L = (0, 0, 2)) := by
  induction L with
  | nil =>
    intro pre hp hl
    by_cases h10 : pre.length = 10
    · exact .inr (.inl ⟨[], [], rfl, by simpa using hp, by simpa using h10, getGo_ten (by omega) _⟩)
    · exact .inr (.inr ⟨by simpa using hp, by simp; omega, by simp [getGo]; omega⟩)
  | cons c r ih =>
    intro pre hp hl
    by_cases h10 : pre.length = 10
    · exact .inr (.inl ⟨[], c :: r, rfl, by simpa using hp, by simpa using h10, getGo_ten (by omega) _⟩)
    · by_cases hc : 128 ≤ c.toNat
      · have e : getGo pre (c :: r) = getGo (pre ++ [c]) r := by rw [getGo, if_neg (by omega), if_pos hc]
        rw [e]
        rcases ih (pre ++ [c]) (Hi_snoc hp hc) (by simp; omega) with ⟨t, d, r', h1, h2, h3, h4, h5⟩ | ⟨t, r', h1, h2, h3, h4⟩ | ⟨h1, h2, h3⟩
        · exact .inl ⟨c :: t, d, r', by rw [h1]; rfl, by simpa using h2, h3, by simpa using h4, by rw [h5]; simp⟩
        · exact .inr (.inl ⟨c :: t, r', by rw [h1]; rfl, by simpa using h2, by simpa using h3, h4⟩)
        · exact .inr (.inr ⟨by simpa using h1, by simpa using h2, h3⟩)
      · refine .inl ⟨[], c, r, rfl, by simpa using hp, by omega, by simp; omega, ?_⟩
        rw [getGo, if_neg (by omega), if_neg hc]
        simp

theorem getGo_enc {u : Nat} (hu : u < 18446744073709551616) (r : List UInt8) : getGo [] (enc u ++ r) = (unzz u, ((enc u).length : Int), 0) := by
  obtain ⟨pre, c, e, h1, h2, h3⟩ := enc_shape u u (Nat.le_refl _)
  have hl := enc_len_ten hu
  rw [e] at hl
  simp at hl
  have hv : val (pre ++ [c]) = u := by rw [← e, val_enc']
  rw [e, List.append_assoc, getGo_hi pre [] _ h1 (by simp; omega)]
  simp only [List.nil_append, List.cons_append, getGo]
  rw [if_neg (by omega), if_neg (by omega), if_neg, hv]
  · simp
  · rintro (⟨h4, h5⟩ | ⟨h4, h5⟩)
    · exact h3 h4 h5
    · rw [val_append, h4] at hv
      have : val [c] = c.toNat := by simp [val]; omega
      rw [this] at hv
      have : 128 ^ 9 * 2 ≤ 128 ^ 9 * c.toNat := Nat.mul_le_mul_left _ h5
      omega

/-- What is got has the bytes that stand there. -/
theorem getGo_ok {L : List UInt8} {n m : Int} (h : getGo [] L = (n, m, 0)) :
    ∃ r, L = enc (zz n) ++ r ∧ m = ((enc (zz n)).length : Int) ∧ I64 n := by
  rcases getGo_cases L [] Hi_nil (by simp) with ⟨t, c, r, h1, h2, h3, h4, h5⟩ | ⟨t, r', h1, h2, h3, h4⟩ | ⟨h1, h2, h3⟩
  · simp only [List.nil_append] at h2 h4 h5
    rw [h] at h5
    split at h5
    · simp at h5
    · rename_i hn
      simp only [Prod.mk.injEq, and_true] at h5
      obtain ⟨e1, e2⟩ := h5
      have hz : t ≠ [] → c.toNat ≠ 0 := fun ht h0 => hn (.inl ⟨ht, h0⟩)
      have e3 := enc_of_shape t c h2 h3 hz
      have hlt : val (t ++ [c]) < 18446744073709551616 := by
        rw [val_append]
        have hv := val_lt t
        have hc : val [c] = c.toNat := by simp [val]; omega
        rw [hc]
        by_cases h9 : t.length = 9
        · have : c.toNat ≤ 1 := by
            by_cases h : 1 < c.toNat
            · exact absurd (.inr ⟨h9, h⟩) hn
            · omega
          rw [h9] at hv ⊢
          have : 128 ^ 9 * c.toNat ≤ 128 ^ 9 * 1 := Nat.mul_le_mul_left _ this
          omega
        · have a1 : 128 ^ t.length ≤ 128 ^ 8 := Nat.pow_le_pow_right (by decide) (by omega)
          have a2 : 128 ^ t.length * c.toNat ≤ 128 ^ 8 * 127 := Nat.mul_le_mul a1 (by omega)
          omega
      rw [e1, zz_unzz, e3]
      exact ⟨r, by rw [h1]; simp, by rw [e2]; simp, unzz_I64 hlt⟩
  · rw [h] at h4; simp at h4
  · rw [h] at h3; simp at h3

theorem getGo_err {L : List UInt8} {n m e : Int} (h : getGo [] L = (n, m, e)) (he : e ≠ 0) : n = 0 ∧ m = 0 ∧ (e = 2 ∨ e = 3) := by
  rcases getGo_cases L [] Hi_nil (by simp) with ⟨t, c, r, h1, h2, h3, h4, h5⟩ | ⟨t, r', h1, h2, h3, h4⟩ | ⟨h1, h2, h3⟩
  · rw [h] at h5
    split at h5
    · simp only [Prod.mk.injEq] at h5; exact ⟨h5.1, h5.2.1, .inr h5.2.2⟩
    · simp only [Prod.mk.injEq] at h5; exact absurd h5.2.2 he
  · rw [h] at h4; simp only [Prod.mk.injEq] at h4; exact ⟨h4.1, h4.2.1, .inr h4.2.2⟩
  · rw [h] at h3; simp only [Prod.mk.injEq] at h3; exact ⟨h3.1, h3.2.1, .inl h3.2.2⟩

/-- Cut off it is short. -/
theorem getGo_cut {u : Nat} (hu : u < 18446744073709551616) {p q : List UInt8} (h : enc u = p ++ q) (hq : q ≠ []) : getGo [] p = (0, 0, 2) := by
  obtain ⟨pre, c, e, h1, h2, h3⟩ := enc_shape u u (Nat.le_refl _)
  have hl := enc_len_ten hu
  obtain ⟨q', d, rfl⟩ : ∃ q' d, q = q' ++ [d] := ⟨q.dropLast, q.getLast hq, (List.dropLast_concat_getLast hq).symm⟩
  rw [e, ← List.append_assoc] at h
  have h4 := List.append_inj_left' h rfl
  have hp : Hi p := fun x hx => h1 x (by rw [h4]; simp [hx])
  have hlen : p.length ≤ 9 := by rw [e, h4] at hl; simp at hl; omega
  have := getGo_hi p [] [] hp (by simp; omega)
  rw [List.append_nil, List.nil_append] at this
  rw [this, getGo, if_neg (by omega)]

/-- None of two numbers' bytes begin with the other one's. -/
theorem enc_prefix {u v : Nat} (hu : u < 18446744073709551616) (hv : v < 18446744073709551616) {r : List UInt8} (h : enc u ++ r = enc v) : u = v := by
  have a := getGo_enc hu r
  have b := getGo_enc hv []
  rw [List.append_nil, ← h, a] at b
  simp only [Prod.mk.injEq] at b
  have := congrArg zz b.1
  rwa [zz_unzz, zz_unzz] at this

end Go.Proofs.Ytldbochclabmjaa.CM
