-- Words of the kit's print, shortened by a program of this session (wip/tools/trimw.py): what this claim names. Not trusted: Lean checks it.
import Derived.Test.YtljgllcllddcdaaWN
namespace Go.Proofs.YtljgllcllddcdaaW.PrintWords
open Go.RowKit
namespace Kd
section
variable {α : Type} {d : Kd α} {W : World} {g n : Nat} {S ok : Nat → Prop} {A : Option Addr} {ad : Addr} {xs : List α}
end
end Kd
end Go.Proofs.YtljgllcllddcdaaW.PrintWords
