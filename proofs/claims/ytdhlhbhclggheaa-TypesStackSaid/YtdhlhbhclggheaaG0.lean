/- A label that nobody jumps to, and the scope around it, change nothing in a walk. No conditions. -/
import Derived.Test.YtdhlhbhclggheaaProg
import Derived.Scope
import Derived.WalkKit
namespace Go.Proofs.Ytdhlhbhclggheaa
open Go.RowKit

theorem wp_scope_plain {P : Program} {c : Code} {Q : Exit → Act → World → Prop} {a : Act} {w : World}
    (hg : ∀ l a w, Q (.goto l) a w → False) (h : c.wp P Q a w) : (Code.scope c).wp P Q a w :=
  wp_scope_straight (wp_mono h (fun e a w hq => by
    cases e with
    | goto l => exact (hg l a w hq).elim
    | normal => exact hq
    | exit id => exact hq
    | ret => exact hq
    | panic ch => exact hq
    | outgrown => exact hq))

theorem bne_nil_eq (l : List UInt8) : (l != []) = !l.isEmpty := by cases l <;> rfl
theorem beq_nil_eq (l : List UInt8) : (l == []) = l.isEmpty := by cases l <;> rfl

end Go.Proofs.Ytdhlhbhclggheaa
