/-
  No cell of these rows narrows 'for every input' (looked for: loops, veiled, ifaces, maps, wideKeys, modest, calm, conditions, laid).
  DERIVED. THE GIVEN ROWS OF THIS SEAT. 5 by the template 'for every input the law returns true; each argument reads behind the call as it read before'; 0 by the template 'total and deterministic' (their statements: YtdhlhbhclggheaaTotals.lean).
  GIVEN WITH THE SEED: the statements are not yours to turn. If you find one false, say at which input.
  Laid BY PROGRAM, IN A SANDBOX (cutbox-rows.mjs): the forced cells as the released guide's own fill.sh prints them over the translation e089a221ccd51369… (all of the seat's roots in one cut). By AI agents, Wed Nov 11 2026. No macro, syntax, notation, axiom, sorry.
-/
import Derived.Test.YtdhlhbhclggheaaChecked
import GoSem.Claim
import GoSem.ClaimJoined
import GoSem.ClaimMapViews
import Derived.JoinedTies
import Derived.KernelRfl
namespace Go.Proofs.Ytdhlhbhclggheaa
/- THE CELL 'sum', in the pinned program and in every row, IS THE sha256 OF THE DUMP (.gsa) THAT YtdhlhbhclggheaaProg.lean LOADS. Nothing in Lean hashes anything: it is a label: what it is worth is what the hold of that sum in a sandbox is worth. -/
noncomputable def Try.pinned : Pinned := { name := "ytdhlhbhclggheaa", sum := "e089a221ccd51369af571335dfbdbfc69399205c0ff4f1ca30d03843ff9fe4e4", checked := Try.checked }
namespace Rows
def none {H : Type} : Left H := { results := [], args := [] }

/-- 'camshaftlaw07.TypesStack': WHATEVER THE INPUT: true; the input reads as it did. -/
def typesStackSpec : ChangeSpec := { name := "typesStack", fn := fun _ => fun
  | [d] => { results := [.lit (.bool true)], args := [d] }
  | _ => none }
def typesStackRow : OpenClaim := { program := "ytdhlhbhclggheaa", sum := "e089a221ccd51369af571335dfbdbfc69399205c0ff4f1ca30d03843ff9fe4e4", func := "camshaft/camshaftlaw07.TypesStack", spec := "typesStack", unfollowed := true, recurses := true, apart := false }
def TypesStackSaid : Prop := typesStackRow.holds Try.pinned (OpenSpec.ofChange typesStackSpec)

/-- ITS FALSE NEIGHBOUR: 'it returns false'. Refute it at one input. -/
def typesStackWrong : ChangeSpec := { name := "typesStack", fn := fun _ => fun
  | [d] => { results := [.lit (.bool false)], args := [d] }
  | _ => none }
def TypesStackWrongFalsely : Prop := typesStackRow.holds Try.pinned (OpenSpec.ofChange typesStackWrong)

/-- 'camshaftlaw07.TypesFlow': WHATEVER THE INPUT: true; the input reads as it did. -/
def typesFlowSpec : ChangeSpec := { name := "typesFlow", fn := fun _ => fun
  | [d] => { results := [.lit (.bool true)], args := [d] }
  | _ => none }
def typesFlowRow : OpenClaim := { program := "ytdhlhbhclggheaa", sum := "e089a221ccd51369af571335dfbdbfc69399205c0ff4f1ca30d03843ff9fe4e4", func := "camshaft/camshaftlaw07.TypesFlow", spec := "typesFlow", unfollowed := true, recurses := true, apart := false }
def TypesFlowSaid : Prop := typesFlowRow.holds Try.pinned (OpenSpec.ofChange typesFlowSpec)

/-- ITS FALSE NEIGHBOUR: 'it returns false'. Refute it at one input. -/
def typesFlowWrong : ChangeSpec := { name := "typesFlow", fn := fun _ => fun
  | [d] => { results := [.lit (.bool false)], args := [d] }
  | _ => none }
def TypesFlowWrongFalsely : Prop := typesFlowRow.holds Try.pinned (OpenSpec.ofChange typesFlowWrong)

/-- 'camshaftlaw07.TypesMore': WHATEVER THE INPUT: true; the input reads as it did. -/
def typesMoreSpec : ChangeSpec := { name := "typesMore", fn := fun _ => fun
  | [d1, d2] => { results := [.lit (.bool true)], args := [d1, d2] }
  | _ => none }
def typesMoreRow : OpenClaim := { program := "ytdhlhbhclggheaa", sum := "e089a221ccd51369af571335dfbdbfc69399205c0ff4f1ca30d03843ff9fe4e4", func := "camshaft/camshaftlaw07.TypesMore", spec := "typesMore", unfollowed := true, recurses := true, apart := false }
def TypesMoreSaid : Prop := typesMoreRow.holds Try.pinned (OpenSpec.ofChange typesMoreSpec)

/-- ITS FALSE NEIGHBOUR: 'it returns false'. Refute it at one input. -/
def typesMoreWrong : ChangeSpec := { name := "typesMore", fn := fun _ => fun
  | [d1, d2] => { results := [.lit (.bool false)], args := [d1, d2] }
  | _ => none }
def TypesMoreWrongFalsely : Prop := typesMoreRow.holds Try.pinned (OpenSpec.ofChange typesMoreWrong)

/-- 'camshaftlaw07.TypesKinds': WHATEVER THE INPUT: true; the input reads as it did. -/
def typesKindsSpec : ChangeSpec := { name := "typesKinds", fn := fun _ => fun
  | [d1, d2, d3] => { results := [.lit (.bool true)], args := [d1, d2, d3] }
  | _ => none }
def typesKindsRow : OpenClaim := { program := "ytdhlhbhclggheaa", sum := "e089a221ccd51369af571335dfbdbfc69399205c0ff4f1ca30d03843ff9fe4e4", func := "camshaft/camshaftlaw07.TypesKinds", spec := "typesKinds", unfollowed := true, recurses := true, apart := false }
def TypesKindsSaid : Prop := typesKindsRow.holds Try.pinned (OpenSpec.ofChange typesKindsSpec)

/-- ITS FALSE NEIGHBOUR: 'it returns false'. Refute it at one input. -/
def typesKindsWrong : ChangeSpec := { name := "typesKinds", fn := fun _ => fun
  | [d1, d2, d3] => { results := [.lit (.bool false)], args := [d1, d2, d3] }
  | _ => none }
def TypesKindsWrongFalsely : Prop := typesKindsRow.holds Try.pinned (OpenSpec.ofChange typesKindsWrong)

/-- 'camshaftlaw07.TypesDeep': WHATEVER THE INPUT: true; the input reads as it did. -/
def typesDeepSpec : ChangeSpec := { name := "typesDeep", fn := fun _ => fun
  | [d] => { results := [.lit (.bool true)], args := [d] }
  | _ => none }
def typesDeepRow : OpenClaim := { program := "ytdhlhbhclggheaa", sum := "e089a221ccd51369af571335dfbdbfc69399205c0ff4f1ca30d03843ff9fe4e4", func := "camshaft/camshaftlaw07.TypesDeep", spec := "typesDeep", unfollowed := true, recurses := true, apart := false }
def TypesDeepSaid : Prop := typesDeepRow.holds Try.pinned (OpenSpec.ofChange typesDeepSpec)

/-- ITS FALSE NEIGHBOUR: 'it returns false'. Refute it at one input. -/
def typesDeepWrong : ChangeSpec := { name := "typesDeep", fn := fun _ => fun
  | [d] => { results := [.lit (.bool false)], args := [d] }
  | _ => none }
def TypesDeepWrongFalsely : Prop := typesDeepRow.holds Try.pinned (OpenSpec.ofChange typesDeepWrong)

/- THE SECOND FORM. 'bulk': how many values and letters a reading holds, each counted each time it is reached (what is shared counts as often as it is met; a slice's spare places count too). A statement '..UptoSaid' is the law's where the arguments, and the package variables that the reading takes, are together of bulk at most 1048576: NARROWER than '..Said'. Prove '..Said' where nothing that the law and all that it calls make is longer than what came in: it says more and counts as full. Else prove '..UptoSaid'. A law counts once. -/
mutual
def uptoBulk {H : Type} : DataW H → Nat
  | .lit (.string bytes) => bytes.length + 1
  | .lit _ => 1
  | .nil => 1
  | .ptr d => uptoBulk d + 1
  | .slice elems spare => uptoBulkAll elems + uptoBulkAll spare + 1
  | .agg parts => uptoBulkAll parts + 1
  | .iface _ d => uptoBulk d + 1
  | .map entries => uptoBulkEntries entries + 1
  | .held _ => 1
def uptoBulkAll {H : Type} : List (DataW H) → Nat
  | [] => 0
  | d :: r => uptoBulk d + uptoBulkAll r
def uptoBulkEntries {H : Type} : List (Lit × DataW H) → Nat
  | [] => 0
  | x :: r => uptoBulkEntry x + uptoBulkEntries r
def uptoBulkEntry {H : Type} : Lit × DataW H → Nat
  | (.string bytes, d) => bytes.length + uptoBulk d + 1
  | (_, d) => uptoBulk d + 1
 end
def uptoSmall : (H : Type) → List (DataW H) → Bool := fun _ ds => decide (uptoBulkAll ds ≤ 1048576)
def OpenSpec.upto (s : _root_.Go.ChangeSpec) : _root_.Go.OpenSpec := { _root_.Go.OpenSpec.ofChange s with cond := some uptoSmall }

/-- 'camshaftlaw07.TypesStack', WHERE WHAT IT READS IS OF BULK AT MOST 1048576: true; the input reads as it did. -/
def typesStackUptoRow : OpenClaim := { program := "ytdhlhbhclggheaa", sum := "e089a221ccd51369af571335dfbdbfc69399205c0ff4f1ca30d03843ff9fe4e4", func := "camshaft/camshaftlaw07.TypesStack", spec := "typesStack", unfollowed := true, recurses := true, apart := false, narrowed := true }
def TypesStackUptoSaid : Prop := typesStackUptoRow.holds Try.pinned (OpenSpec.upto typesStackSpec)

/-- 'camshaftlaw07.TypesFlow', WHERE WHAT IT READS IS OF BULK AT MOST 1048576: true; the input reads as it did. -/
def typesFlowUptoRow : OpenClaim := { program := "ytdhlhbhclggheaa", sum := "e089a221ccd51369af571335dfbdbfc69399205c0ff4f1ca30d03843ff9fe4e4", func := "camshaft/camshaftlaw07.TypesFlow", spec := "typesFlow", unfollowed := true, recurses := true, apart := false, narrowed := true }
def TypesFlowUptoSaid : Prop := typesFlowUptoRow.holds Try.pinned (OpenSpec.upto typesFlowSpec)

/-- 'camshaftlaw07.TypesMore', WHERE WHAT IT READS IS OF BULK AT MOST 1048576: true; the input reads as it did. -/
def typesMoreUptoRow : OpenClaim := { program := "ytdhlhbhclggheaa", sum := "e089a221ccd51369af571335dfbdbfc69399205c0ff4f1ca30d03843ff9fe4e4", func := "camshaft/camshaftlaw07.TypesMore", spec := "typesMore", unfollowed := true, recurses := true, apart := false, narrowed := true }
def TypesMoreUptoSaid : Prop := typesMoreUptoRow.holds Try.pinned (OpenSpec.upto typesMoreSpec)

/-- 'camshaftlaw07.TypesKinds', WHERE WHAT IT READS IS OF BULK AT MOST 1048576: true; the input reads as it did. -/
def typesKindsUptoRow : OpenClaim := { program := "ytdhlhbhclggheaa", sum := "e089a221ccd51369af571335dfbdbfc69399205c0ff4f1ca30d03843ff9fe4e4", func := "camshaft/camshaftlaw07.TypesKinds", spec := "typesKinds", unfollowed := true, recurses := true, apart := false, narrowed := true }
def TypesKindsUptoSaid : Prop := typesKindsUptoRow.holds Try.pinned (OpenSpec.upto typesKindsSpec)

/-- 'camshaftlaw07.TypesDeep', WHERE WHAT IT READS IS OF BULK AT MOST 1048576: true; the input reads as it did. -/
def typesDeepUptoRow : OpenClaim := { program := "ytdhlhbhclggheaa", sum := "e089a221ccd51369af571335dfbdbfc69399205c0ff4f1ca30d03843ff9fe4e4", func := "camshaft/camshaftlaw07.TypesDeep", spec := "typesDeep", unfollowed := true, recurses := true, apart := false, narrowed := true }
def TypesDeepUptoSaid : Prop := typesDeepUptoRow.holds Try.pinned (OpenSpec.upto typesDeepSpec)

end Rows
end Go.Proofs.Ytdhlhbhclggheaa
