-- Words of the kit's print, shortened by a program of this session (wip/tools/trimw.py): what this claim names. Not trusted: Lean checks it.
import Derived.Test.YtljgllcllddcdaaWTab
namespace Go.Proofs.YtljgllcllddcdaaW.PrintLast
section
variable {P : Program} {ops : Array Oper} {Q : Exit → Act → World → Prop} {md : Region.Mode} {S : World → Prop} {ds : List Nat} {T : Bool × List (List Nat × List Nat)}
end
end Go.Proofs.YtljgllcllddcdaaW.PrintLast
