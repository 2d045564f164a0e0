/- OpTells: whether any instruction can be, its bytes, its name, and how many numbers it has, is as the document says; for all instructions. -/
import Derived.Test.YtnfoebbdmekbiaaORR
import Derived.Test.YtnfoebbdmekbiaaPx6
import Derived.Test.YtnfoebbdmekbiaaPx7
namespace Go.Proofs.Ytnfoebbdmekbiaa.Pure
open Go.RowKit Go.Proofs.Ytnfoebbdmekbiaa.C Go.Proofs.Ytnfoebbdmekbiaa.P Go.Proofs.Ytnfoebbdmekbiaa.CM Go.Proofs.Ytnfoebbdmekbiaa.CL Go.Proofs.Ytnfoebbdmekbiaa.OL Go.Proofs.YtnfoebbdmekbiaaW.PrintWords Go.Proofs.YtnfoebbdmekbiaaW.PrintLast Go.Proofs.YtnfoebbdmekbiaaW.PrintMore

theorem known_tells {k : Nat} (hk : 60 ≤ k) : camshaftlaw04_known.f k = some true := at_rounds camshaftlaw04_known.mono hk camshaftlaw04_known.run
theorem tells_all (k : Nat) (hk : 60 ≤ k) (a b c : Int) (hb : I64 b) (hc : I64 c) : camshaftlaw04_OpTells.f (k + 4) a b c = some true := by
  have K := known_tells (k := k + 4) (by omega)
  unfold camshaftlaw04_OpTells.f
  refine Option.bind_eq_some_iff.2 ⟨rightI a b c, rfl, ?_⟩
  refine Option.bind_eq_some_iff.2 ⟨_, rright_eq hb, (if_pos (by simp)).trans ?_⟩
  refine Option.bind_eq_some_iff.2 ⟨_, encode_eq hb hc (by omega), ?_⟩
  refine Option.bind_eq_some_iff.2 ⟨_, rencode_eq hb hc (by omega), (if_pos rfl).trans ?_⟩
  refine Option.bind_eq_some_iff.2 ⟨_, rfl, ?_⟩
  refine Option.bind_eq_some_iff.2 ⟨_, rname_eq a, (if_pos rfl).trans ?_⟩
  refine Option.bind_eq_some_iff.2 ⟨_, rfl, ?_⟩
  refine Option.bind_eq_some_iff.2 ⟨_, rargs_eq a, (if_pos rfl).trans ?_⟩
  exact Option.bind_eq_some_iff.2 ⟨_, K, rfl⟩
theorem OpTells : camshaftlaw04_OpTells.Pure := fun a b c _ wb wc => ⟨60 + 4, tells_all 60 (Nat.le_refl _) a b c (I64_of wb) (I64_of wc)⟩

end Go.Proofs.Ytnfoebbdmekbiaa.Pure
