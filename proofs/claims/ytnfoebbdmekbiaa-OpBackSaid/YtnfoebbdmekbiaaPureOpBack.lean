/- OpBack: instructions' bytes are read as these; what is read has the bytes that were read; two rows are the same just if their bytes are; for all rows and bytes. -/
import Derived.Test.YtnfoebbdmekbiaaOE
import Derived.Test.YtnfoebbdmekbiaaPx6
import Derived.Test.YtnfoebbdmekbiaaPx10
namespace Go.Proofs.Ytnfoebbdmekbiaa.Pure
open Go.RowKit Go.Proofs.Ytnfoebbdmekbiaa.C Go.Proofs.Ytnfoebbdmekbiaa.P Go.Proofs.Ytnfoebbdmekbiaa.CM Go.Proofs.Ytnfoebbdmekbiaa.CL Go.Proofs.Ytnfoebbdmekbiaa.OL Go.Proofs.YtnfoebbdmekbiaaW.PrintWords Go.Proofs.YtnfoebbdmekbiaaW.PrintLast Go.Proofs.YtnfoebbdmekbiaaW.PrintMore

theorem known_back {k : Nat} (hk : 60 ≤ k) : camshaftlaw04_known.f k = some true := at_rounds camshaftlaw04_known.mono hk camshaftlaw04_known.run
theorem enc_inj {l m : List Ins} (hl : ∀ x ∈ l, InI x ∧ okI x = true) (hm : ∀ x ∈ m, InI x ∧ okI x = true) (nl : l.length ≤ 200) (nm : m.length ≤ 200) (h : encR l = encR m) : l = m := by
  have a := readS_enc hl nl (s := ofL (encR l)) (bl_ofL _)
  have b := readS_enc hm nm (s := ofL (encR l)) ((bl_ofL _).trans h)
  exact (Prod.mk.inj (a.symm.trans b)).1
theorem codeS_full {l : List Ins} (h : ¬ (codeS l).toList = ([] : List UInt8)) : l.length ≤ 200 ∧ l.all okI = true := by
  by_cases h2 : l.length ≤ 200 ∧ l.all okI = true
  · exact h2
  · refine absurd ?_ h
    rw [toList_bl]
    unfold codeS
    rw [if_neg h2]
    rfl
theorem codeS_is {l : List Ins} (h : l.length ≤ 200 ∧ l.all okI = true) : codeS l = ofL (encR l) := by unfold codeS; rw [if_pos h]
theorem codeS_none {l : List Ins} (h : ¬ (l.length ≤ 200 ∧ l.all okI = true)) : (codeS l).toList = ([] : List UInt8) := by rw [toList_bl]; unfold codeS; rw [if_neg h]; rfl
theorem all_ok {l : List Ins} (hw : ∀ x ∈ l, InI x) (h : l.all okI = true) : ∀ x ∈ l, InI x ∧ okI x = true := fun x hx => ⟨hw x hx, List.all_eq_true.1 h x hx⟩
theorem back_j2 (l m : List Ins) (hl : ∀ x ∈ l, InI x) (hm : ∀ x ∈ m, InI x) (nl : l.length ≤ 250) (k : Nat) (hk : 400 ≤ k) : camshaftlaw04_OpBack.j2 (k + 1) l m (codeS l) (codeS m) false = some true := by
  have K := known_back (k := k) (by omega)
  simp only [camshaftlaw04_OpBack.j2]
  rw [if_neg (by decide)]
  obtain ⟨r1, e1, f1⟩ := sameI_eq l m (by omega) (k := k) (by omega)
  obtain ⟨r2, e2, f2⟩ := rsameI_eq l m (by omega) (k := k) (by omega)
  refine Option.bind_eq_some_iff.2 ⟨_, e1, ?_⟩
  refine Option.bind_eq_some_iff.2 ⟨_, e2, ?_⟩
  have h12 : r1 = r2 := Bool.eq_iff_iff.2 (f1.trans f2.symm)
  rw [if_pos (by rw [h12]; exact beq_self_eq_true _)]
  by_cases h1 : (codeS l).toList = ([] : List UInt8)
  · rw [if_pos h1]
    exact Option.bind_eq_some_iff.2 ⟨_, K, rfl⟩
  rw [if_neg h1]
  by_cases h2 : (codeS m).toList = ([] : List UInt8)
  · rw [if_pos h2]
    exact Option.bind_eq_some_iff.2 ⟨_, K, rfl⟩
  rw [if_neg h2]
  refine Option.bind_eq_some_iff.2 ⟨_, e1, ?_⟩
  have a1 := codeS_full h1
  have a2 := codeS_full h2
  have h3 : ((codeS l).toList == (codeS m).toList) = r1 := by
    apply Bool.eq_iff_iff.2
    rw [beq_iff_eq, f1]
    constructor
    · intro h
      rw [codeS_is a1, codeS_is a2, toList_bl, toList_bl, bl_ofL, bl_ofL] at h
      exact enc_inj (all_ok hl a1.2) (all_ok hm a2.2) a1.1 a2.1 h
    · intro h; rw [h]
  rw [if_pos (by rw [h3]; exact beq_self_eq_true _)]
  exact Option.bind_eq_some_iff.2 ⟨_, K, rfl⟩
theorem back_tail (l m : List Ins) (hl : ∀ x ∈ l, InI x) (hm : ∀ x ∈ m, InI x) (nl : l.length ≤ 250) (b : Bool) (hb : b = true ↔ (l.length ≤ 200 ∧ l.all okI = true)) (k : Nat) (hk : 500 ≤ k) :
    (if b = true then (if (readS (codeS l)).2 = 0 then ((op_Same.f k (readS (codeS l)).1 l).bind fun t => (if t = true then (camshaftlaw04_OpBack.j2 k l m (codeS l) (codeS m) false) else (camshaftlaw04_OpBack.j2 k l m (codeS l) (codeS m) true))) else (camshaftlaw04_OpBack.j2 k l m (codeS l) (codeS m) true)) else (camshaftlaw04_OpBack.j2 k l m (codeS l) (codeS m) ((codeS l).toList != ([] : List UInt8)))) = some true := by
  have J : camshaftlaw04_OpBack.j2 k l m (codeS l) (codeS m) false = some true := by
    obtain ⟨k, rfl⟩ : ∃ q, k = q + 1 := ⟨k - 1, by omega⟩
    exact back_j2 l m hl hm nl k (by omega)
  by_cases h : b = true
  · rw [if_pos h]
    have h2 := hb.1 h
    have R : readS (codeS l) = (l, 0) := readS_enc (all_ok hl h2.2) h2.1 (by rw [codeS_is h2, bl_ofL])
    rw [show (readS (codeS l)).2 = 0 from congrArg Prod.snd R, show (readS (codeS l)).1 = l from congrArg Prod.fst R, if_pos rfl]
    obtain ⟨r1, e1, f1⟩ := sameI_eq l l (by omega) (k := k) (by omega)
    refine Option.bind_eq_some_iff.2 ⟨_, e1, ?_⟩
    rw [if_pos (f1.2 rfl)]
    exact J
  · rw [if_neg h, codeS_none (fun h2 => h (hb.2 h2))]
    exact J
theorem back_l0 (l m : List Ins) (s : ByteArray) (hl : ∀ x ∈ l, InI x) (hm : ∀ x ∈ m, InI x) (nl : l.length ≤ 250) : ∀ (d i k : Nat) (b : Bool), i + d = l.length → d + 600 ≤ k → ((b = true ∧ (l.drop i).all okI = true) ↔ (l.length ≤ 200 ∧ l.all okI = true)) →
    camshaftlaw04_OpBack.l0 k l m s (codeS l) (codeS m) (readS (codeS l)).1 (readS (codeS l)).2 (readS s).1 (readS s).2 b (i : Int) = some true := by
  intro d
  induction d with
  | zero =>
    intro i k b hi hk hb
    obtain ⟨k, rfl⟩ : ∃ q, k = q + 1 := ⟨k - 1, by omega⟩
    rw [List.drop_eq_nil_of_le (by omega), List.all_nil, and_iff_left rfl] at hb
    have T := back_tail l m hl hm nl b hb k (by omega)
    simp only [camshaftlaw04_OpBack.l0]
    rw [if_neg (by omega)]
    by_cases hf : (readS s).2 = 0
    · rw [if_pos hf]
      obtain ⟨y, e1, e2, e3, e4⟩ := read_back s (s.size + 1) [] 0 (readS s).1 (by omega) (by omega) (by simp) (show readS s = _ from Prod.ext rfl hf)
      rw [List.nil_append] at e1
      rw [show (0 : Int).toNat = 0 from rfl, List.take_zero, List.nil_append] at e3
      rw [e1] at e2 ⊢
      have hok : y.length ≤ 200 ∧ y.all okI = true := ⟨e2, List.all_eq_true.2 fun x hx => (e4 x hx).2⟩
      refine Option.bind_eq_some_iff.2 ⟨_, code_eq (fun x hx => (e4 x hx).1) (by omega), ?_⟩
      rw [if_pos (by rw [codeS_is hok, toList_bl, toList_bl, bl_ofL, e3])]
      exact T
    · rw [if_neg hf]
      exact T
  | succ d ih =>
    intro i k b hi hk hb
    obtain ⟨k, rfl⟩ : ∃ q, k = q + 1 := ⟨k - 1, by omega⟩
    have hlt : i < l.length := by omega
    rw [rdT_drop hlt, List.all_cons, Bool.and_eq_true] at hb
    simp only [camshaftlaw04_OpBack.l0]
    rw [if_pos (by omega), show wrap64 ((i : Int) + 1) = ((i + 1 : Nat) : Int) from by clear hb; unfold wrap64; omega]
    by_cases h : b = true
    · rw [if_pos h, if_pos (by omega)]
      refine Option.bind_eq_some_iff.2 ⟨okI (rd_T23 l (i : Int)), rfl, ?_⟩
      exact ih (i + 1) k _ (by omega) (by omega) (by rw [← hb]; simp [h])
    · rw [if_neg h]
      exact ih (i + 1) k _ (by omega) (by omega) (by rw [← hb]; simp [h])
theorem back_all (k : Nat) (hk : 10000 ≤ k) (l m : List Ins) (s : ByteArray) (hl : ∀ x ∈ l, InI x) (hm : ∀ x ∈ m, InI x) : camshaftlaw04_OpBack.f k l m s = some true := by
  obtain ⟨k, rfl⟩ : ∃ q, k = q + 1 := ⟨k - 1, by omega⟩
  have K := known_back (k := k) (by omega)
  have J : camshaftlaw04_OpBack.j0 (k + 1) l m s true = some true := by
    simp only [camshaftlaw04_OpBack.j0]
    rw [if_pos trivial]
    exact Option.bind_eq_some_iff.2 ⟨_, K, rfl⟩
  unfold camshaftlaw04_OpBack.f
  by_cases h1 : (l.length : Int) > 250
  · rw [if_pos h1]; exact J
  rw [if_neg h1]
  by_cases h2 : (m.length : Int) > 250
  · rw [if_pos h2]; exact J
  rw [if_neg h2]
  by_cases h3 : (s.size : Int) > 3000
  · rw [decide_eq_true h3]; exact J
  rw [decide_eq_false h3]
  simp only [camshaftlaw04_OpBack.j0]
  rw [if_neg (by decide)]
  refine Option.bind_eq_some_iff.2 ⟨_, code_eq hl (by omega), ?_⟩
  refine Option.bind_eq_some_iff.2 ⟨_, code_eq hm (by omega), ?_⟩
  have hsz : (codeS l).size ≤ 5000 := by
    rw [bl_size]
    by_cases h : l.length ≤ 200 ∧ l.all okI = true
    · rw [codeS_is h, bl_ofL]
      have := (encR_len hl).2
      omega
    · rw [← toList_bl, codeS_none h]; simp
  refine Option.bind_eq_some_iff.2 ⟨_, read_eq _ (by omega) (by omega), ?_⟩
  refine Option.bind_eq_some_iff.2 ⟨_, read_eq _ (by omega) (by omega), ?_⟩
  exact back_l0 l m s hl hm (by omega) l.length 0 k _ (by omega) (by omega) (by rw [List.drop_zero]; exact and_congr (by rw [decide_eq_true_iff]; omega) Iff.rfl)
theorem OpBack : camshaftlaw04_OpBack.Pure := fun l m s _ wl _ wm _ => ⟨10000, back_all 10000 (Nat.le_refl _) l m s (InI_of wl) (InI_of wm)⟩

end Go.Proofs.Ytnfoebbdmekbiaa.Pure
