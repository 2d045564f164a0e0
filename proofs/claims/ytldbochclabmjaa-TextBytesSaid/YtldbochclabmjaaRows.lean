/-
  No cell of these rows narrows 'for every input' (looked for: loops, veiled, ifaces, maps, wideKeys, modest, calm, conditions, laid).
  DERIVED. THE GIVEN ROWS OF THIS SEAT. 7 by the template 'for every input the law returns true; each argument reads behind the call as it read before'; 0 by the template 'total and deterministic' (their statements: YtldbochclabmjaaTotals.lean).
  GIVEN WITH THE SEED: the statements are not yours to turn. If you find one false, say at which input.
  Laid BY PROGRAM, IN A SANDBOX (cutbox-rows.mjs): the forced cells as the released guide's own fill.sh prints them over the translation 93692ce1d13e336c… (all of the seat's roots in one cut). By AI agents, Wed Nov 11 2026. No macro, syntax, notation, axiom, sorry.
-/
import Derived.Test.YtldbochclabmjaaChecked
import GoSem.Claim
import GoSem.ClaimJoined
import GoSem.ClaimMapViews
import Derived.JoinedTies
import Derived.KernelRfl
namespace Go.Proofs.Ytldbochclabmjaa
/- THE CELL 'sum', in the pinned program and in every row, IS THE sha256 OF THE DUMP (.gsa) THAT YtldbochclabmjaaProg.lean LOADS. Nothing in Lean hashes anything: it is a label: what it is worth is what the hold of that sum in a sandbox is worth. -/
noncomputable def Try.pinned : Pinned := { name := "ytldbochclabmjaa", sum := "93692ce1d13e336c42cce852b4b7fcbbe41988a8fb95d3a9af4785177792c7af", checked := Try.checked }
namespace Rows
def none {H : Type} : Left H := { results := [], args := [] }

/-- 'camshaftlaw05.TextShows': WHATEVER THE INPUT: true; the input reads as it did. -/
def textShowsSpec : ChangeSpec := { name := "textShows", fn := fun _ => fun
  | [d1, d2] => { results := [.lit (.bool true)], args := [d1, d2] }
  | _ => none }
def textShowsRow : OpenClaim := { program := "ytldbochclabmjaa", sum := "93692ce1d13e336c42cce852b4b7fcbbe41988a8fb95d3a9af4785177792c7af", func := "camshaft/camshaftlaw05.TextShows", spec := "textShows", unfollowed := true, recurses := true, apart := false }
def TextShowsSaid : Prop := textShowsRow.holds Try.pinned (OpenSpec.ofChange textShowsSpec)

/-- ITS FALSE NEIGHBOUR: 'it returns false'. Refute it at one input. -/
def textShowsWrong : ChangeSpec := { name := "textShows", fn := fun _ => fun
  | [d1, d2] => { results := [.lit (.bool false)], args := [d1, d2] }
  | _ => none }
def TextShowsWrongFalsely : Prop := textShowsRow.holds Try.pinned (OpenSpec.ofChange textShowsWrong)

/-- 'camshaftlaw05.TextReads': WHATEVER THE INPUT: true; the input reads as it did. -/
def textReadsSpec : ChangeSpec := { name := "textReads", fn := fun _ => fun
  | [d1, d2] => { results := [.lit (.bool true)], args := [d1, d2] }
  | _ => none }
def textReadsRow : OpenClaim := { program := "ytldbochclabmjaa", sum := "93692ce1d13e336c42cce852b4b7fcbbe41988a8fb95d3a9af4785177792c7af", func := "camshaft/camshaftlaw05.TextReads", spec := "textReads", unfollowed := true, recurses := true, apart := false }
def TextReadsSaid : Prop := textReadsRow.holds Try.pinned (OpenSpec.ofChange textReadsSpec)

/-- ITS FALSE NEIGHBOUR: 'it returns false'. Refute it at one input. -/
def textReadsWrong : ChangeSpec := { name := "textReads", fn := fun _ => fun
  | [d1, d2] => { results := [.lit (.bool false)], args := [d1, d2] }
  | _ => none }
def TextReadsWrongFalsely : Prop := textReadsRow.holds Try.pinned (OpenSpec.ofChange textReadsWrong)

/-- 'camshaftlaw05.TextBack': WHATEVER THE INPUT: true; the input reads as it did. -/
def textBackSpec : ChangeSpec := { name := "textBack", fn := fun _ => fun
  | [d1, d2] => { results := [.lit (.bool true)], args := [d1, d2] }
  | _ => none }
def textBackRow : OpenClaim := { program := "ytldbochclabmjaa", sum := "93692ce1d13e336c42cce852b4b7fcbbe41988a8fb95d3a9af4785177792c7af", func := "camshaft/camshaftlaw05.TextBack", spec := "textBack", unfollowed := true, recurses := true, apart := false }
def TextBackSaid : Prop := textBackRow.holds Try.pinned (OpenSpec.ofChange textBackSpec)

/-- ITS FALSE NEIGHBOUR: 'it returns false'. Refute it at one input. -/
def textBackWrong : ChangeSpec := { name := "textBack", fn := fun _ => fun
  | [d1, d2] => { results := [.lit (.bool false)], args := [d1, d2] }
  | _ => none }
def TextBackWrongFalsely : Prop := textBackRow.holds Try.pinned (OpenSpec.ofChange textBackWrong)

/-- 'camshaftlaw05.TextNumbers': WHATEVER THE INPUT: true; the input reads as it did. -/
def textNumbersSpec : ChangeSpec := { name := "textNumbers", fn := fun _ => fun
  | [d1, d2] => { results := [.lit (.bool true)], args := [d1, d2] }
  | _ => none }
def textNumbersRow : OpenClaim := { program := "ytldbochclabmjaa", sum := "93692ce1d13e336c42cce852b4b7fcbbe41988a8fb95d3a9af4785177792c7af", func := "camshaft/camshaftlaw05.TextNumbers", spec := "textNumbers", unfollowed := true, recurses := true, apart := false }
def TextNumbersSaid : Prop := textNumbersRow.holds Try.pinned (OpenSpec.ofChange textNumbersSpec)

/-- ITS FALSE NEIGHBOUR: 'it returns false'. Refute it at one input. -/
def textNumbersWrong : ChangeSpec := { name := "textNumbers", fn := fun _ => fun
  | [d1, d2] => { results := [.lit (.bool false)], args := [d1, d2] }
  | _ => none }
def TextNumbersWrongFalsely : Prop := textNumbersRow.holds Try.pinned (OpenSpec.ofChange textNumbersWrong)

/-- 'camshaftlaw05.TextParts': WHATEVER THE INPUT: true; the input reads as it did. -/
def textPartsSpec : ChangeSpec := { name := "textParts", fn := fun _ => fun
  | [d1, d2] => { results := [.lit (.bool true)], args := [d1, d2] }
  | _ => none }
def textPartsRow : OpenClaim := { program := "ytldbochclabmjaa", sum := "93692ce1d13e336c42cce852b4b7fcbbe41988a8fb95d3a9af4785177792c7af", func := "camshaft/camshaftlaw05.TextParts", spec := "textParts", unfollowed := true, recurses := true, apart := false }
def TextPartsSaid : Prop := textPartsRow.holds Try.pinned (OpenSpec.ofChange textPartsSpec)

/-- ITS FALSE NEIGHBOUR: 'it returns false'. Refute it at one input. -/
def textPartsWrong : ChangeSpec := { name := "textParts", fn := fun _ => fun
  | [d1, d2] => { results := [.lit (.bool false)], args := [d1, d2] }
  | _ => none }
def TextPartsWrongFalsely : Prop := textPartsRow.holds Try.pinned (OpenSpec.ofChange textPartsWrong)

/-- 'camshaftlaw05.TextTwice': WHATEVER THE INPUT: true; the input reads as it did. -/
def textTwiceSpec : ChangeSpec := { name := "textTwice", fn := fun _ => fun
  | [d] => { results := [.lit (.bool true)], args := [d] }
  | _ => none }
def textTwiceRow : OpenClaim := { program := "ytldbochclabmjaa", sum := "93692ce1d13e336c42cce852b4b7fcbbe41988a8fb95d3a9af4785177792c7af", func := "camshaft/camshaftlaw05.TextTwice", spec := "textTwice", unfollowed := true, recurses := true, apart := false }
def TextTwiceSaid : Prop := textTwiceRow.holds Try.pinned (OpenSpec.ofChange textTwiceSpec)

/-- ITS FALSE NEIGHBOUR: 'it returns false'. Refute it at one input. -/
def textTwiceWrong : ChangeSpec := { name := "textTwice", fn := fun _ => fun
  | [d] => { results := [.lit (.bool false)], args := [d] }
  | _ => none }
def TextTwiceWrongFalsely : Prop := textTwiceRow.holds Try.pinned (OpenSpec.ofChange textTwiceWrong)

/-- 'camshaftlaw05.TextBytes': WHATEVER THE INPUT: true; the input reads as it did. -/
def textBytesSpec : ChangeSpec := { name := "textBytes", fn := fun _ => fun
  | [d1, d2] => { results := [.lit (.bool true)], args := [d1, d2] }
  | _ => none }
def textBytesRow : OpenClaim := { program := "ytldbochclabmjaa", sum := "93692ce1d13e336c42cce852b4b7fcbbe41988a8fb95d3a9af4785177792c7af", func := "camshaft/camshaftlaw05.TextBytes", spec := "textBytes", unfollowed := true, recurses := true, apart := false }
def TextBytesSaid : Prop := textBytesRow.holds Try.pinned (OpenSpec.ofChange textBytesSpec)

/-- ITS FALSE NEIGHBOUR: 'it returns false'. Refute it at one input. -/
def textBytesWrong : ChangeSpec := { name := "textBytes", fn := fun _ => fun
  | [d1, d2] => { results := [.lit (.bool false)], args := [d1, d2] }
  | _ => none }
def TextBytesWrongFalsely : Prop := textBytesRow.holds Try.pinned (OpenSpec.ofChange textBytesWrong)

/- THE SECOND FORM. 'bulk': how many values and letters a reading holds, each counted each time it is reached (what is shared counts as often as it is met; a slice's spare places count too). A statement '..UptoSaid' is the law's where the arguments, and the package variables that the reading takes, are together of bulk at most 1048576: NARROWER than '..Said'. Prove '..Said' where nothing that the law and all that it calls make is longer than what came in: it says more and counts as full. Else prove '..UptoSaid'. A law counts once. -/
mutual
def uptoBulk {H : Type} : DataW H → Nat
  | .lit (.string bytes) => bytes.length + 1
  | .lit _ => 1
  | .nil => 1
  | .ptr d => uptoBulk d + 1
  | .slice elems spare => uptoBulkAll elems + uptoBulkAll spare + 1
  | .agg parts => uptoBulkAll parts + 1
  | .iface _ d => uptoBulk d + 1
  | .map entries => uptoBulkEntries entries + 1
  | .held _ => 1
def uptoBulkAll {H : Type} : List (DataW H) → Nat
  | [] => 0
  | d :: r => uptoBulk d + uptoBulkAll r
def uptoBulkEntries {H : Type} : List (Lit × DataW H) → Nat
  | [] => 0
  | x :: r => uptoBulkEntry x + uptoBulkEntries r
def uptoBulkEntry {H : Type} : Lit × DataW H → Nat
  | (.string bytes, d) => bytes.length + uptoBulk d + 1
  | (_, d) => uptoBulk d + 1
 end
def uptoSmall : (H : Type) → List (DataW H) → Bool := fun _ ds => decide (uptoBulkAll ds ≤ 1048576)
def OpenSpec.upto (s : _root_.Go.ChangeSpec) : _root_.Go.OpenSpec := { _root_.Go.OpenSpec.ofChange s with cond := some uptoSmall }

/-- 'camshaftlaw05.TextShows', WHERE WHAT IT READS IS OF BULK AT MOST 1048576: true; the input reads as it did. -/
def textShowsUptoRow : OpenClaim := { program := "ytldbochclabmjaa", sum := "93692ce1d13e336c42cce852b4b7fcbbe41988a8fb95d3a9af4785177792c7af", func := "camshaft/camshaftlaw05.TextShows", spec := "textShows", unfollowed := true, recurses := true, apart := false, narrowed := true }
def TextShowsUptoSaid : Prop := textShowsUptoRow.holds Try.pinned (OpenSpec.upto textShowsSpec)

/-- 'camshaftlaw05.TextReads', WHERE WHAT IT READS IS OF BULK AT MOST 1048576: true; the input reads as it did. -/
def textReadsUptoRow : OpenClaim := { program := "ytldbochclabmjaa", sum := "93692ce1d13e336c42cce852b4b7fcbbe41988a8fb95d3a9af4785177792c7af", func := "camshaft/camshaftlaw05.TextReads", spec := "textReads", unfollowed := true, recurses := true, apart := false, narrowed := true }
def TextReadsUptoSaid : Prop := textReadsUptoRow.holds Try.pinned (OpenSpec.upto textReadsSpec)

/-- 'camshaftlaw05.TextBack', WHERE WHAT IT READS IS OF BULK AT MOST 1048576: true; the input reads as it did. -/
def textBackUptoRow : OpenClaim := { program := "ytldbochclabmjaa", sum := "93692ce1d13e336c42cce852b4b7fcbbe41988a8fb95d3a9af4785177792c7af", func := "camshaft/camshaftlaw05.TextBack", spec := "textBack", unfollowed := true, recurses := true, apart := false, narrowed := true }
def TextBackUptoSaid : Prop := textBackUptoRow.holds Try.pinned (OpenSpec.upto textBackSpec)

/-- 'camshaftlaw05.TextNumbers', WHERE WHAT IT READS IS OF BULK AT MOST 1048576: true; the input reads as it did. -/
def textNumbersUptoRow : OpenClaim := { program := "ytldbochclabmjaa", sum := "93692ce1d13e336c42cce852b4b7fcbbe41988a8fb95d3a9af4785177792c7af", func := "camshaft/camshaftlaw05.TextNumbers", spec := "textNumbers", unfollowed := true, recurses := true, apart := false, narrowed := true }
def TextNumbersUptoSaid : Prop := textNumbersUptoRow.holds Try.pinned (OpenSpec.upto textNumbersSpec)

/-- 'camshaftlaw05.TextParts', WHERE WHAT IT READS IS OF BULK AT MOST 1048576: true; the input reads as it did. -/
def textPartsUptoRow : OpenClaim := { program := "ytldbochclabmjaa", sum := "93692ce1d13e336c42cce852b4b7fcbbe41988a8fb95d3a9af4785177792c7af", func := "camshaft/camshaftlaw05.TextParts", spec := "textParts", unfollowed := true, recurses := true, apart := false, narrowed := true }
def TextPartsUptoSaid : Prop := textPartsUptoRow.holds Try.pinned (OpenSpec.upto textPartsSpec)

/-- 'camshaftlaw05.TextTwice', WHERE WHAT IT READS IS OF BULK AT MOST 1048576: true; the input reads as it did. -/
def textTwiceUptoRow : OpenClaim := { program := "ytldbochclabmjaa", sum := "93692ce1d13e336c42cce852b4b7fcbbe41988a8fb95d3a9af4785177792c7af", func := "camshaft/camshaftlaw05.TextTwice", spec := "textTwice", unfollowed := true, recurses := true, apart := false, narrowed := true }
def TextTwiceUptoSaid : Prop := textTwiceUptoRow.holds Try.pinned (OpenSpec.upto textTwiceSpec)

/-- 'camshaftlaw05.TextBytes', WHERE WHAT IT READS IS OF BULK AT MOST 1048576: true; the input reads as it did. -/
def textBytesUptoRow : OpenClaim := { program := "ytldbochclabmjaa", sum := "93692ce1d13e336c42cce852b4b7fcbbe41988a8fb95d3a9af4785177792c7af", func := "camshaft/camshaftlaw05.TextBytes", spec := "textBytes", unfollowed := true, recurses := true, apart := false, narrowed := true }
def TextBytesUptoSaid : Prop := textBytesUptoRow.holds Try.pinned (OpenSpec.upto textBytesSpec)

end Rows
end Go.Proofs.Ytldbochclabmjaa
