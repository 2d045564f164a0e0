/- The reference's Decode and Read are the program's: for all bytes and places. No conditions beyond those that each lemma states. -/
import Derived.Test.YtnfoebbdmekbiaaOR
import Derived.Test.YtnfoebbdmekbiaaOC
import Derived.Test.YtnfoebbdmekbiaaCRG
import Derived.Test.YtnfoebbdmekbiaaPx8
import Derived.Test.YtnfoebbdmekbiaaPx9
namespace Go.Proofs.Ytnfoebbdmekbiaa.OL
open Go.RowKit Go.Proofs.Ytnfoebbdmekbiaa.C Go.Proofs.Ytnfoebbdmekbiaa.P Go.Proofs.Ytnfoebbdmekbiaa.CM Go.Proofs.Ytnfoebbdmekbiaa.CL Go.Proofs.YtnfoebbdmekbiaaW.PrintWords Go.Proofs.YtnfoebbdmekbiaaW.PrintLast Go.Proofs.YtnfoebbdmekbiaaW.PrintMore

theorem Z64 : I64 0 := by unfold I64; omega
/-- The end of it: whether the instruction can be. -/
theorem rdec_fin (k : Nat) (o b c nx : Int) (hb : I64 b) : ((camshaftref04_Right.f (k + 4) o b c).bind fun t200 => (if t200 = true then (some (o, b, c, nx, 0)) else (some (0, 0, 0, 0, 6)))) = some (finI o b c nx) := by
  refine Option.bind_eq_some_iff.2 ⟨_, rright_eq hb, ?_⟩
  unfold finI rightI
  by_cases h : rightK (kindOf o) b c = true
  · rw [if_pos h, if_pos h]
  · rw [if_neg h, if_neg h]
theorem rdecode_eq (s : ByteArray) (hs : s.size ≤ 1000000) (a1 : Int) {k : Nat} (hk : 100 ≤ k) : camshaftref04_Decode.f k s a1 = some (decS s a1) := by
  obtain ⟨k, rfl⟩ : ∃ m, k = m + 8 := ⟨k - 8, by omega⟩
  unfold camshaftref04_Decode.f decS
  by_cases h0 : a1 < 0
  · rw [if_pos h0, if_pos h0]
    simp only [camshaftref04_Decode.j0, if_true]
  rw [if_neg h0, if_neg h0]
  by_cases h1 : (s.size : Int) < a1
  · rw [if_pos h1, show decide (a1 > (s.size : Int)) = true from decide_eq_true h1]
    simp only [camshaftref04_Decode.j0, if_true]
  rw [if_neg h1, show decide (a1 > (s.size : Int)) = false from decide_eq_false h1]
  rw [show camshaftref04_Decode.j0 (k + 8) s a1 false = (if a1 = (s.size : Int) then (some (0, 0, 0, 0, 2)) else (if 0 ≤ a1 then (if a1 < (s.size : Int) then ((camshaftref04_Name.f (wrap64 (bt s a1))).bind fun t198 => (if t198.toList = ([] : List UInt8) then (some (0, 0, 0, 0, 6)) else (camshaftref04_Decode.l0 (k + 7) s (wrap64 (a1 + 1)) 0 (wrap64 (bt s a1)) 0 0))) else (none)) else (none))) from rfl]
  by_cases h2 : a1 = (s.size : Int)
  · rw [if_pos h2, if_pos h2]
  have hbr := bt_range s a1
  rw [if_neg h2, if_neg h2, if_pos (by omega), if_pos (by omega), show wrap64 (a1 + 1) = a1 + 1 from by unfold wrap64; omega, show wrap64 (bt s a1) = bt s a1 from by unfold wrap64; omega]
  generalize bt s a1 = o at *
  refine Option.bind_eq_some_iff.2 ⟨_, rname_eq o, ?_⟩
  by_cases hr : 1 ≤ o ∧ o ≤ 25
  · rw [if_neg (fun e => (name_nil o).1 e hr)]
    have hn := (args_nonneg o).2 hr
    have hm := (argsOf_range o).2
    rw [show camshaftref04_Decode.l0 (k + 7) s (a1 + 1) 0 o 0 0 = ((camshaftref04_Args.f o).bind fun t199 => (if 0 < t199 then ((camshaftref02_Get.f (k + 6) s (a1 + 1)).bind fun bt201 => (if bt201.2.2 = 0 then (if (0 : Int) = 0 then (camshaftref04_Decode.l0 (k + 6) s bt201.2.1 (wrap64 (0 + 1)) o bt201.1 0) else (camshaftref04_Decode.l0 (k + 6) s bt201.2.1 (wrap64 (0 + 1)) o 0 bt201.1)) else (some (0, 0, 0, 0, bt201.2.2)))) else ((camshaftref04_Right.f (k + 6) o 0 0).bind fun t200 => (if t200 = true then (some (o, 0, 0, a1 + 1, 0)) else (some (0, 0, 0, 0, 6)))))) from rfl]
    refine Option.bind_eq_some_iff.2 ⟨argsOf o, rargs_eq o, ?_⟩
    by_cases h3 : argsOf o ≤ 0
    · rw [if_pos h3, if_neg (by omega)]
      exact rdec_fin (k + 2) o 0 0 (a1 + 1) Z64
    · rw [if_neg h3, if_pos (by omega)]
      refine Option.bind_eq_some_iff.2 ⟨_, rget_eq s hs (a1 + 1) (by omega), ?_⟩
      by_cases h4 : (getS s (a1 + 1)).2.2 = 0
      · rw [if_pos h4, if_pos h4, if_pos rfl]
        have hI1 := (getS_ok (s := s) (at_ := a1 + 1) (n := (getS s (a1 + 1)).1) (nx := (getS s (a1 + 1)).2.1) (by rw [← h4])).2.1
        generalize (getS s (a1 + 1)).1 = n1 at *
        generalize (getS s (a1 + 1)).2.1 = x1 at *
        rw [show wrap64 (0 + 1) = 1 from by unfold wrap64; omega]
        rw [show camshaftref04_Decode.l0 (k + 6) s x1 1 o n1 0 = ((camshaftref04_Args.f o).bind fun t199 => (if 1 < t199 then ((camshaftref02_Get.f (k + 5) s x1).bind fun bt201 => (if bt201.2.2 = 0 then (if (1 : Int) = 0 then (camshaftref04_Decode.l0 (k + 5) s bt201.2.1 (wrap64 (1 + 1)) o bt201.1 0) else (camshaftref04_Decode.l0 (k + 5) s bt201.2.1 (wrap64 (1 + 1)) o n1 bt201.1)) else (some (0, 0, 0, 0, bt201.2.2)))) else ((camshaftref04_Right.f (k + 5) o n1 0).bind fun t200 => (if t200 = true then (some (o, n1, 0, x1, 0)) else (some (0, 0, 0, 0, 6)))))) from rfl]
        refine Option.bind_eq_some_iff.2 ⟨argsOf o, rargs_eq o, ?_⟩
        by_cases h5 : argsOf o ≤ 1
        · rw [if_pos h5, if_neg (by omega)]
          exact rdec_fin (k + 1) o n1 0 x1 hI1
        · rw [if_neg h5, if_pos (by omega)]
          refine Option.bind_eq_some_iff.2 ⟨_, rget_eq s hs x1 (by omega), ?_⟩
          by_cases h6 : (getS s x1).2.2 = 0
          · rw [if_pos h6, if_pos h6, if_neg (by decide)]
            generalize (getS s x1).1 = n2 at *
            generalize (getS s x1).2.1 = x2 at *
            rw [show wrap64 (1 + 1) = 2 from by unfold wrap64; omega]
            rw [show camshaftref04_Decode.l0 (k + 5) s x2 2 o n1 n2 = ((camshaftref04_Args.f o).bind fun t199 => (if 2 < t199 then ((camshaftref02_Get.f (k + 4) s x2).bind fun bt201 => (if bt201.2.2 = 0 then (if (2 : Int) = 0 then (camshaftref04_Decode.l0 (k + 4) s bt201.2.1 (wrap64 (2 + 1)) o bt201.1 n2) else (camshaftref04_Decode.l0 (k + 4) s bt201.2.1 (wrap64 (2 + 1)) o n1 bt201.1)) else (some (0, 0, 0, 0, bt201.2.2)))) else ((camshaftref04_Right.f (k + 4) o n1 n2).bind fun t200 => (if t200 = true then (some (o, n1, n2, x2, 0)) else (some (0, 0, 0, 0, 6)))))) from rfl]
            refine Option.bind_eq_some_iff.2 ⟨argsOf o, rargs_eq o, ?_⟩
            rw [if_neg (by omega)]
            exact rdec_fin k o n1 n2 x2 hI1
          · rw [if_neg h6, if_neg h6]
      · rw [if_neg h4, if_neg h4]
  · rw [if_pos ((name_nil o).2 hr)]
    have ha : argsOf o = -1 := by unfold argsOf; rw [kindOf_none (by omega)]
    rw [if_pos (by omega)]
    unfold finI
    rw [if_neg (show ¬ rightK (kindOf o) 0 0 = true from fun e => hr (right_range (a := o) (b := 0) (c := 0) e))]
theorem rread_l0 (s : ByteArray) (hs : s.size ≤ 1000000) : ∀ (f : Nat) (acc : List Ins) (at_ : Int) (k : Nat), (s.size : Int) + 1 ≤ f + at_ → at_ ≤ s.size → f + 120 ≤ k → acc.length ≤ 200 →
    camshaftref04_Read.l0 k s acc at_ = some (readI f s acc at_) := by
  intro f
  induction f with
  | zero => intro acc at_ k h1 h2 _ _; omega
  | succ f ih =>
    intro acc at_ k h1 h2 hk ha
    obtain ⟨k, rfl⟩ : ∃ m, k = m + 1 := ⟨k - 1, by omega⟩
    simp only [camshaftref04_Read.l0, readI]
    by_cases h3 : at_ < (s.size : Int)
    · rw [if_pos h3, if_pos h3]
      by_cases h4 : acc.length = 200
      · rw [if_pos (by omega), if_pos h4]
      · rw [if_neg (by omega), if_neg h4]
        refine Option.bind_eq_some_iff.2 ⟨_, rdecode_eq s hs at_ (by omega), ?_⟩
        by_cases h5 : (decS s at_).2.2.2.2 = 0
        · rw [if_pos h5, if_pos h5, if_pos (by omega)]
          obtain ⟨h6, h7⟩ := decS_step h5
          exact ih _ _ k (by omega) h7 (by omega) (by simp; omega)
        · rw [if_neg h5, if_neg h5]
    · rw [if_neg h3, if_neg h3]
theorem rread_eq (s : ByteArray) (hs : s.size ≤ 1000000) {k : Nat} (hk : s.size + 130 ≤ k) : camshaftref04_Read.f k s = some (readS s) :=
  rread_l0 s hs (s.size + 1) [] 0 k (by omega) (by omega) (by omega) (by simp)
theorem readI_len (s : ByteArray) : ∀ (f : Nat) (acc : List Ins) (at_ : Int), acc.length ≤ 200 → (readI f s acc at_).1.length ≤ 200 := by
  intro f
  induction f with
  | zero => intro acc at_ h; simp [readI]
  | succ f ih =>
    intro acc at_ h
    simp only [readI]
    split
    · split
      · simp
      · split
        · exact ih _ _ (by simp; omega)
        · simp
    · exact h
theorem readS_len (s : ByteArray) : (readS s).1.length ≤ 200 := readI_len s _ [] 0 (by simp)

end Go.Proofs.Ytnfoebbdmekbiaa.OL
