-- Words of the kit's print, shortened by a program of this session (wip/tools/trimw.py): what this claim names. Not trusted: Lean checks it.
import Derived.Test.YtljgllcllddcdaaWInv
import Derived.Test.YtljgllcllddcdaaWFootNe
namespace Go.Proofs.YtljgllcllddcdaaW.PrintWords
open Go.RowKit
end Go.Proofs.YtljgllcllddcdaaW.PrintWords
namespace Go.Proofs.YtljgllcllddcdaaW.PrintLast
section
variable {ops : Array Oper} {a : Act} {o og : Oper} {g : Nat} {t : Tmp} {u : Bool}
end
end Go.Proofs.YtljgllcllddcdaaW.PrintLast
