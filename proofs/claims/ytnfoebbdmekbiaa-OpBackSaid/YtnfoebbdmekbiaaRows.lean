/-
  No cell of these rows narrows 'for every input' (looked for: loops, veiled, ifaces, maps, wideKeys, modest, calm, conditions, laid).
  DERIVED. THE GIVEN ROWS OF THIS SEAT. 7 by the template 'for every input the law returns true; each argument reads behind the call as it read before'; 0 by the template 'total and deterministic' (their statements: YtnfoebbdmekbiaaTotals.lean).
  GIVEN WITH THE SEED: the statements are not yours to turn. If you find one false, say at which input.
  Laid BY PROGRAM, IN A SANDBOX (cutbox-rows.mjs): the forced cells as the released guide's own fill.sh prints them over the translation 03e16518e96385f8… (all of the seat's roots in one cut). By AI agents, Wed Nov 11 2026. No macro, syntax, notation, axiom, sorry.
-/
import Derived.Test.YtnfoebbdmekbiaaChecked
import GoSem.Claim
import GoSem.ClaimJoined
import GoSem.ClaimMapViews
import Derived.JoinedTies
import Derived.KernelRfl
namespace Go.Proofs.Ytnfoebbdmekbiaa
/- THE CELL 'sum', in the pinned program and in every row, IS THE sha256 OF THE DUMP (.gsa) THAT YtnfoebbdmekbiaaProg.lean LOADS. Nothing in Lean hashes anything: it is a label: what it is worth is what the hold of that sum in a sandbox is worth. -/
noncomputable def Try.pinned : Pinned := { name := "ytnfoebbdmekbiaa", sum := "03e16518e96385f8138e8ef1b270ac8dc3cf16f55d63a4d9962d6cc2e4edc1ff", checked := Try.checked }
namespace Rows
def none {H : Type} : Left H := { results := [], args := [] }

/-- 'camshaftlaw04.OpTells': WHATEVER THE INPUT: true; the input reads as it did. -/
def opTellsSpec : ChangeSpec := { name := "opTells", fn := fun _ => fun
  | [d] => { results := [.lit (.bool true)], args := [d] }
  | _ => none }
def opTellsRow : OpenClaim := { program := "ytnfoebbdmekbiaa", sum := "03e16518e96385f8138e8ef1b270ac8dc3cf16f55d63a4d9962d6cc2e4edc1ff", func := "camshaft/camshaftlaw04.OpTells", spec := "opTells", unfollowed := true, recurses := true, apart := false }
def OpTellsSaid : Prop := opTellsRow.holds Try.pinned (OpenSpec.ofChange opTellsSpec)

/-- ITS FALSE NEIGHBOUR: 'it returns false'. Refute it at one input. -/
def opTellsWrong : ChangeSpec := { name := "opTells", fn := fun _ => fun
  | [d] => { results := [.lit (.bool false)], args := [d] }
  | _ => none }
def OpTellsWrongFalsely : Prop := opTellsRow.holds Try.pinned (OpenSpec.ofChange opTellsWrong)

/-- 'camshaftlaw04.OpReads': WHATEVER THE INPUT: true; the input reads as it did. -/
def opReadsSpec : ChangeSpec := { name := "opReads", fn := fun _ => fun
  | [d1, d2] => { results := [.lit (.bool true)], args := [d1, d2] }
  | _ => none }
def opReadsRow : OpenClaim := { program := "ytnfoebbdmekbiaa", sum := "03e16518e96385f8138e8ef1b270ac8dc3cf16f55d63a4d9962d6cc2e4edc1ff", func := "camshaft/camshaftlaw04.OpReads", spec := "opReads", unfollowed := true, recurses := true, apart := false }
def OpReadsSaid : Prop := opReadsRow.holds Try.pinned (OpenSpec.ofChange opReadsSpec)

/-- ITS FALSE NEIGHBOUR: 'it returns false'. Refute it at one input. -/
def opReadsWrong : ChangeSpec := { name := "opReads", fn := fun _ => fun
  | [d1, d2] => { results := [.lit (.bool false)], args := [d1, d2] }
  | _ => none }
def OpReadsWrongFalsely : Prop := opReadsRow.holds Try.pinned (OpenSpec.ofChange opReadsWrong)

/-- 'camshaftlaw04.OpBack': WHATEVER THE INPUT: true; the input reads as it did. -/
def opBackSpec : ChangeSpec := { name := "opBack", fn := fun _ => fun
  | [d1, d2, d3] => { results := [.lit (.bool true)], args := [d1, d2, d3] }
  | _ => none }
def opBackRow : OpenClaim := { program := "ytnfoebbdmekbiaa", sum := "03e16518e96385f8138e8ef1b270ac8dc3cf16f55d63a4d9962d6cc2e4edc1ff", func := "camshaft/camshaftlaw04.OpBack", spec := "opBack", unfollowed := true, recurses := true, apart := false }
def OpBackSaid : Prop := opBackRow.holds Try.pinned (OpenSpec.ofChange opBackSpec)

/-- ITS FALSE NEIGHBOUR: 'it returns false'. Refute it at one input. -/
def opBackWrong : ChangeSpec := { name := "opBack", fn := fun _ => fun
  | [d1, d2, d3] => { results := [.lit (.bool false)], args := [d1, d2, d3] }
  | _ => none }
def OpBackWrongFalsely : Prop := opBackRow.holds Try.pinned (OpenSpec.ofChange opBackWrong)

/-- 'camshaftlaw04.OpParts': WHATEVER THE INPUT: true; the input reads as it did. -/
def opPartsSpec : ChangeSpec := { name := "opParts", fn := fun _ => fun
  | [d] => { results := [.lit (.bool true)], args := [d] }
  | _ => none }
def opPartsRow : OpenClaim := { program := "ytnfoebbdmekbiaa", sum := "03e16518e96385f8138e8ef1b270ac8dc3cf16f55d63a4d9962d6cc2e4edc1ff", func := "camshaft/camshaftlaw04.OpParts", spec := "opParts", unfollowed := true, recurses := true, apart := false }
def OpPartsSaid : Prop := opPartsRow.holds Try.pinned (OpenSpec.ofChange opPartsSpec)

/-- ITS FALSE NEIGHBOUR: 'it returns false'. Refute it at one input. -/
def opPartsWrong : ChangeSpec := { name := "opParts", fn := fun _ => fun
  | [d] => { results := [.lit (.bool false)], args := [d] }
  | _ => none }
def OpPartsWrongFalsely : Prop := opPartsRow.holds Try.pinned (OpenSpec.ofChange opPartsWrong)

/-- 'camshaftlaw04.OpSizes': WHATEVER THE INPUT: true; the input reads as it did. -/
def opSizesSpec : ChangeSpec := { name := "opSizes", fn := fun _ => fun
  | [d] => { results := [.lit (.bool true)], args := [d] }
  | _ => none }
def opSizesRow : OpenClaim := { program := "ytnfoebbdmekbiaa", sum := "03e16518e96385f8138e8ef1b270ac8dc3cf16f55d63a4d9962d6cc2e4edc1ff", func := "camshaft/camshaftlaw04.OpSizes", spec := "opSizes", unfollowed := true, recurses := true, apart := false }
def OpSizesSaid : Prop := opSizesRow.holds Try.pinned (OpenSpec.ofChange opSizesSpec)

/-- ITS FALSE NEIGHBOUR: 'it returns false'. Refute it at one input. -/
def opSizesWrong : ChangeSpec := { name := "opSizes", fn := fun _ => fun
  | [d] => { results := [.lit (.bool false)], args := [d] }
  | _ => none }
def OpSizesWrongFalsely : Prop := opSizesRow.holds Try.pinned (OpenSpec.ofChange opSizesWrong)

/-- 'camshaftlaw04.OpCuts': WHATEVER THE INPUT: true; the input reads as it did. -/
def opCutsSpec : ChangeSpec := { name := "opCuts", fn := fun _ => fun
  | [d1, d2] => { results := [.lit (.bool true)], args := [d1, d2] }
  | _ => none }
def opCutsRow : OpenClaim := { program := "ytnfoebbdmekbiaa", sum := "03e16518e96385f8138e8ef1b270ac8dc3cf16f55d63a4d9962d6cc2e4edc1ff", func := "camshaft/camshaftlaw04.OpCuts", spec := "opCuts", unfollowed := true, recurses := true, apart := false }
def OpCutsSaid : Prop := opCutsRow.holds Try.pinned (OpenSpec.ofChange opCutsSpec)

/-- ITS FALSE NEIGHBOUR: 'it returns false'. Refute it at one input. -/
def opCutsWrong : ChangeSpec := { name := "opCuts", fn := fun _ => fun
  | [d1, d2] => { results := [.lit (.bool false)], args := [d1, d2] }
  | _ => none }
def OpCutsWrongFalsely : Prop := opCutsRow.holds Try.pinned (OpenSpec.ofChange opCutsWrong)

/-- 'camshaftlaw04.OpNames': WHATEVER THE INPUT: true; the input reads as it did. -/
def opNamesSpec : ChangeSpec := { name := "opNames", fn := fun _ => fun
  | [d1, d2, d3] => { results := [.lit (.bool true)], args := [d1, d2, d3] }
  | _ => none }
def opNamesRow : OpenClaim := { program := "ytnfoebbdmekbiaa", sum := "03e16518e96385f8138e8ef1b270ac8dc3cf16f55d63a4d9962d6cc2e4edc1ff", func := "camshaft/camshaftlaw04.OpNames", spec := "opNames", unfollowed := true, recurses := true, apart := false }
def OpNamesSaid : Prop := opNamesRow.holds Try.pinned (OpenSpec.ofChange opNamesSpec)

/-- ITS FALSE NEIGHBOUR: 'it returns false'. Refute it at one input. -/
def opNamesWrong : ChangeSpec := { name := "opNames", fn := fun _ => fun
  | [d1, d2, d3] => { results := [.lit (.bool false)], args := [d1, d2, d3] }
  | _ => none }
def OpNamesWrongFalsely : Prop := opNamesRow.holds Try.pinned (OpenSpec.ofChange opNamesWrong)

/- THE SECOND FORM. 'bulk': how many values and letters a reading holds, each counted each time it is reached (what is shared counts as often as it is met; a slice's spare places count too). A statement '..UptoSaid' is the law's where the arguments, and the package variables that the reading takes, are together of bulk at most 1048576: NARROWER than '..Said'. Prove '..Said' where nothing that the law and all that it calls make is longer than what came in: it says more and counts as full. Else prove '..UptoSaid'. A law counts once. -/
mutual
def uptoBulk {H : Type} : DataW H → Nat
  | .lit (.string bytes) => bytes.length + 1
  | .lit _ => 1
  | .nil => 1
  | .ptr d => uptoBulk d + 1
  | .slice elems spare => uptoBulkAll elems + uptoBulkAll spare + 1
  | .agg parts => uptoBulkAll parts + 1
  | .iface _ d => uptoBulk d + 1
  | .map entries => uptoBulkEntries entries + 1
  | .held _ => 1
def uptoBulkAll {H : Type} : List (DataW H) → Nat
  | [] => 0
  | d :: r => uptoBulk d + uptoBulkAll r
def uptoBulkEntries {H : Type} : List (Lit × DataW H) → Nat
  | [] => 0
  | x :: r => uptoBulkEntry x + uptoBulkEntries r
def uptoBulkEntry {H : Type} : Lit × DataW H → Nat
  | (.string bytes, d) => bytes.length + uptoBulk d + 1
  | (_, d) => uptoBulk d + 1
 end
def uptoSmall : (H : Type) → List (DataW H) → Bool := fun _ ds => decide (uptoBulkAll ds ≤ 1048576)
def OpenSpec.upto (s : _root_.Go.ChangeSpec) : _root_.Go.OpenSpec := { _root_.Go.OpenSpec.ofChange s with cond := some uptoSmall }

/-- 'camshaftlaw04.OpTells', WHERE WHAT IT READS IS OF BULK AT MOST 1048576: true; the input reads as it did. -/
def opTellsUptoRow : OpenClaim := { program := "ytnfoebbdmekbiaa", sum := "03e16518e96385f8138e8ef1b270ac8dc3cf16f55d63a4d9962d6cc2e4edc1ff", func := "camshaft/camshaftlaw04.OpTells", spec := "opTells", unfollowed := true, recurses := true, apart := false, narrowed := true }
def OpTellsUptoSaid : Prop := opTellsUptoRow.holds Try.pinned (OpenSpec.upto opTellsSpec)

/-- 'camshaftlaw04.OpReads', WHERE WHAT IT READS IS OF BULK AT MOST 1048576: true; the input reads as it did. -/
def opReadsUptoRow : OpenClaim := { program := "ytnfoebbdmekbiaa", sum := "03e16518e96385f8138e8ef1b270ac8dc3cf16f55d63a4d9962d6cc2e4edc1ff", func := "camshaft/camshaftlaw04.OpReads", spec := "opReads", unfollowed := true, recurses := true, apart := false, narrowed := true }
def OpReadsUptoSaid : Prop := opReadsUptoRow.holds Try.pinned (OpenSpec.upto opReadsSpec)

/-- 'camshaftlaw04.OpBack', WHERE WHAT IT READS IS OF BULK AT MOST 1048576: true; the input reads as it did. -/
def opBackUptoRow : OpenClaim := { program := "ytnfoebbdmekbiaa", sum := "03e16518e96385f8138e8ef1b270ac8dc3cf16f55d63a4d9962d6cc2e4edc1ff", func := "camshaft/camshaftlaw04.OpBack", spec := "opBack", unfollowed := true, recurses := true, apart := false, narrowed := true }
def OpBackUptoSaid : Prop := opBackUptoRow.holds Try.pinned (OpenSpec.upto opBackSpec)

/-- 'camshaftlaw04.OpParts', WHERE WHAT IT READS IS OF BULK AT MOST 1048576: true; the input reads as it did. -/
def opPartsUptoRow : OpenClaim := { program := "ytnfoebbdmekbiaa", sum := "03e16518e96385f8138e8ef1b270ac8dc3cf16f55d63a4d9962d6cc2e4edc1ff", func := "camshaft/camshaftlaw04.OpParts", spec := "opParts", unfollowed := true, recurses := true, apart := false, narrowed := true }
def OpPartsUptoSaid : Prop := opPartsUptoRow.holds Try.pinned (OpenSpec.upto opPartsSpec)

/-- 'camshaftlaw04.OpSizes', WHERE WHAT IT READS IS OF BULK AT MOST 1048576: true; the input reads as it did. -/
def opSizesUptoRow : OpenClaim := { program := "ytnfoebbdmekbiaa", sum := "03e16518e96385f8138e8ef1b270ac8dc3cf16f55d63a4d9962d6cc2e4edc1ff", func := "camshaft/camshaftlaw04.OpSizes", spec := "opSizes", unfollowed := true, recurses := true, apart := false, narrowed := true }
def OpSizesUptoSaid : Prop := opSizesUptoRow.holds Try.pinned (OpenSpec.upto opSizesSpec)

/-- 'camshaftlaw04.OpCuts', WHERE WHAT IT READS IS OF BULK AT MOST 1048576: true; the input reads as it did. -/
def opCutsUptoRow : OpenClaim := { program := "ytnfoebbdmekbiaa", sum := "03e16518e96385f8138e8ef1b270ac8dc3cf16f55d63a4d9962d6cc2e4edc1ff", func := "camshaft/camshaftlaw04.OpCuts", spec := "opCuts", unfollowed := true, recurses := true, apart := false, narrowed := true }
def OpCutsUptoSaid : Prop := opCutsUptoRow.holds Try.pinned (OpenSpec.upto opCutsSpec)

/-- 'camshaftlaw04.OpNames', WHERE WHAT IT READS IS OF BULK AT MOST 1048576: true; the input reads as it did. -/
def opNamesUptoRow : OpenClaim := { program := "ytnfoebbdmekbiaa", sum := "03e16518e96385f8138e8ef1b270ac8dc3cf16f55d63a4d9962d6cc2e4edc1ff", func := "camshaft/camshaftlaw04.OpNames", spec := "opNames", unfollowed := true, recurses := true, apart := false, narrowed := true }
def OpNamesUptoSaid : Prop := opNamesUptoRow.holds Try.pinned (OpenSpec.upto opNamesSpec)

end Rows
end Go.Proofs.Ytnfoebbdmekbiaa
