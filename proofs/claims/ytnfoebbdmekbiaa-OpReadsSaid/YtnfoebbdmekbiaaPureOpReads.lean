/- OpReads: the instruction at any place of any bytes, and all, or what is wrong, is as the document says; for all bytes within the statement's bounds and all places. -/
import Derived.Test.YtnfoebbdmekbiaaODR
import Derived.Test.YtnfoebbdmekbiaaPx6
import Derived.Test.YtnfoebbdmekbiaaPx9
namespace Go.Proofs.Ytnfoebbdmekbiaa.Pure
open Go.RowKit Go.Proofs.Ytnfoebbdmekbiaa.C Go.Proofs.Ytnfoebbdmekbiaa.P Go.Proofs.Ytnfoebbdmekbiaa.CM Go.Proofs.Ytnfoebbdmekbiaa.CL Go.Proofs.Ytnfoebbdmekbiaa.OL Go.Proofs.YtnfoebbdmekbiaaW.PrintWords Go.Proofs.YtnfoebbdmekbiaaW.PrintLast Go.Proofs.YtnfoebbdmekbiaaW.PrintMore

theorem known_reads {k : Nat} (hk : 60 ≤ k) : camshaftlaw04_known.f k = some true := at_rounds camshaftlaw04_known.mono hk camshaftlaw04_known.run
theorem reads_all (k : Nat) (hk : 10000 ≤ k) (s : ByteArray) (a : Int) : camshaftlaw04_OpReads.f k s a = some true := by
  have K := known_reads (k := k) (by omega)
  unfold camshaftlaw04_OpReads.f
  by_cases h : (s.size : Int) > 3000
  · rw [if_pos h]
    exact Option.bind_eq_some_iff.2 ⟨_, K, rfl⟩
  · rw [if_neg h]
    refine Option.bind_eq_some_iff.2 ⟨_, decode_eq s (by omega) a (by omega), ?_⟩
    refine Option.bind_eq_some_iff.2 ⟨_, rdecode_eq s (by omega) a (by omega), ?_⟩
    refine Option.bind_eq_some_iff.2 ⟨_, read_eq s (by omega) (by omega), ?_⟩
    refine Option.bind_eq_some_iff.2 ⟨_, rread_eq s (by omega) (by omega), ?_⟩
    have hl := readS_len s
    rw [if_pos (by simp), if_pos rfl, if_pos rfl]
    obtain ⟨r, e1, e2⟩ := rsameI_eq (readS s).1 (readS s).1 (by omega) (k := k) (by omega)
    refine Option.bind_eq_some_iff.2 ⟨_, e1, ?_⟩
    rw [if_pos (e2.2 rfl), if_pos rfl]
    exact Option.bind_eq_some_iff.2 ⟨_, K, rfl⟩
theorem OpReads : camshaftlaw04_OpReads.Pure := fun s a _ _ => ⟨10000, reads_all 10000 (Nat.le_refl _) s a⟩

end Go.Proofs.Ytnfoebbdmekbiaa.Pure
