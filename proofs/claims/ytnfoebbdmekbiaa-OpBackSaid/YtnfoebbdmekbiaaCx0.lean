-- Written by a program of this session (wip/tools: patched print) for this claim. Not trusted: Lean checks it.
import Derived.Test.YtnfoebbdmekbiaaProg
import Derived.Below
import Derived.Deep.Draws
import Derived.Deep.AppendLies
import Derived.Maps.AppendAt
import Derived.OwnWalk
import Derived.Laws.BytesArg
import Derived.Laws.MakeOwn
import Derived.Laws.OwnMore
import Derived.Deep.OwnRows
import Derived.Tactics
import Derived.Lib.ConvBytes
import Derived.Laws.Slices
import Derived.WalkKit
import Derived.KernelRfl
import Derived.RowKit3
import Derived.Deep.LoopGhost
import Derived.Deep.QuietTactic
import Derived.BigQuiet
import Derived.WideLaws
import Derived.Deep.DeepCutAuto
import Derived.Deep.CutBlock
import Derived.Deep.RegionHeld3
import Derived.Laws.Rows
import Derived.Lib.AppendStr
import Derived.ArgAppend
import Derived.Laws.IdiomCopy
import Derived.OrdersHeld
import Derived.Laws.BitsLemmas
import Derived.RowKit
import Derived.Test.YtnfoebbdmekbiaaG0
import Derived.Test.YtnfoebbdmekbiaaWWords
import Derived.Test.YtnfoebbdmekbiaaWLast
import Derived.Test.YtnfoebbdmekbiaaWTab
import Derived.Test.YtnfoebbdmekbiaaWFour
import Derived.Test.YtnfoebbdmekbiaaWQPut
import Derived.Test.YtnfoebbdmekbiaaWApart
import Derived.Test.YtnfoebbdmekbiaaWArr
import Derived.Test.YtnfoebbdmekbiaaWZeros
import Derived.Test.YtnfoebbdmekbiaaWFoot
import Derived.Test.YtnfoebbdmekbiaaWKept
import Derived.Test.YtnfoebbdmekbiaaWShare
import Derived.Test.YtnfoebbdmekbiaaWN
import Derived.Test.YtnfoebbdmekbiaaWFootNe
import Derived.Test.YtnfoebbdmekbiaaWAt
import Derived.Test.YtnfoebbdmekbiaaWEqStruct
import Derived.Test.YtnfoebbdmekbiaaWRepsOne
import Derived.Test.YtnfoebbdmekbiaaWInv
import Derived.Test.YtnfoebbdmekbiaaWInvWords
import Derived.Test.YtnfoebbdmekbiaaWGuard
import Derived.Test.YtnfoebbdmekbiaaWNEv
import Derived.Test.YtnfoebbdmekbiaaWMore
namespace Go.Proofs.Ytnfoebbdmekbiaa.C
open Go.RowKit Go.Proofs.YtnfoebbdmekbiaaW.PrintWords Go.Proofs.YtnfoebbdmekbiaaW.PrintLast Go.Proofs.YtnfoebbdmekbiaaW.PrintMore
attribute [local go_sem] max2_int min2_int max_two min_two max_three min_three max_four min_four   -- for this text's walks alone
set_option linter.unusedVariables false
set_option linter.unusedSimpArgs false



def errW : Option Int → Value
  | none => .nilIface
  | some c => .iface 0 (.int .i64 c)
theorem errW_none : errW none = .nilIface := rfl
theorem errW_some (c : Int) : errW (some c) = .iface 0 (.int .i64 c) := rfl

theorem info5 : (Try.prog.info? 5).map (fun i => (i.zero, i.size, i.bytes)) = some (some (.int .u8 0), 1, 1) := by kernel_rfl
-- the values' own types

end Go.Proofs.Ytnfoebbdmekbiaa.C
