/- The table of operations (op.kinds, op.of, op.Name, op.Args): what the program's functions come to, as plain data; for every int. No conditions. -/
import Derived.Test.YtdhlhbhclggheaaG0
import Derived.Test.YtdhlhbhclggheaaWWords
import Derived.Deep.WholeRow
import Derived.Laws.Rows
import Derived.Laws.Tables
import Derived.Laws.Build
import Derived.Laws.NewBlocks
import Derived.KernelRfl
import Derived.Below
namespace Go.Proofs.Ytdhlhbhclggheaa.P
open Go.RowKit Go.Proofs.YtdhlhbhclggheaaW.PrintWords Go.Proofs.YtdhlhbhclggheaaW.PrintLast Go.Proofs.YtdhlhbhclggheaaW.PrintMore

/-- Name, how many numbers, from where to where: of each operation. -/
def tab : List (ByteArray × Int × Int × Int) := [(⟨#[]⟩, 0, 0, 0), (⟨#[80, 85, 83, 72]⟩, 1, (-9223372036854775808), 9223372036854775807), (⟨#[68, 82, 79, 80]⟩, 0, 0, 0), (⟨#[68, 85, 80]⟩, 0, 0, 0), (⟨#[83, 87, 65, 80]⟩, 0, 0, 0), (⟨#[84, 87, 79]⟩, 1, 1, 12), (⟨#[78, 69, 71]⟩, 0, 0, 0), (⟨#[78, 79, 84]⟩, 0, 0, 0), (⟨#[66, 79, 84, 72]⟩, 0, 0, 0), (⟨#[69, 73, 84, 72, 69, 82]⟩, 0, 0, 0), (⟨#[67, 65, 83, 84]⟩, 0, 0, 0), (⟨#[76, 79, 65, 68, 76]⟩, 1, 0, 7), (⟨#[83, 84, 79, 82, 69, 76]⟩, 1, 0, 7), (⟨#[76, 79, 65, 68, 82]⟩, 1, 0, 7), (⟨#[83, 84, 79, 82, 69, 82]⟩, 1, 0, 7), (⟨#[73, 78]⟩, 1, 0, 15), (⟨#[79, 85, 84]⟩, 1, 0, 15), (⟨#[71, 69, 84]⟩, 2, 0, 7), (⟨#[80, 85, 84]⟩, 2, 0, 7), (⟨#[74, 85, 77, 80]⟩, 1, 0, 199), (⟨#[66, 82, 65, 78, 67, 72]⟩, 1, 0, 199), (⟨#[76, 79, 79, 80]⟩, 1, 1, 1000), (⟨#[78, 69, 88, 84]⟩, 0, 0, 0), (⟨#[76, 79, 67, 75]⟩, 1, 0, 7), (⟨#[85, 78, 76, 79, 67, 75]⟩, 1, 0, 7), (⟨#[69, 78, 68]⟩, 0, 0, 0)]
/-- What an operation has; none: no name, and -1 numbers. -/
def kindOf (op : Int) : ByteArray × Int × Int × Int := if 1 ≤ op ∧ op ≤ 25 then tab.getD op.toNat (ByteArray.empty, -1, 0, 0) else (ByteArray.empty, -1, 0, 0)
def cellsOf (k : ByteArray × Int × Int × Int) : List Value := [.string k.1, .int .i64 k.2.1, .int .i64 k.2.2.1, .int .i64 k.2.2.2]
def tabCells : Array Value := (tab.flatMap cellsOf).toArray
def zeroCells : Array Value := ((List.replicate 26 ((ByteArray.empty, 0, 0, 0) : ByteArray × Int × Int × Int)).flatMap cellsOf).toArray
theorem zeroTab (w : World) : (zeroValue 74).run Try.prog w = .ok (.agg zeroCells) w := by kernel_rfl
theorem sizeTab : (Try.prog.info? 74).map (·.size) = some tabCells.size := by kernel_rfl
theorem zeroKind (w : World) : (zeroValue 68).run Try.prog w = .ok (.agg #[.string ByteArray.empty, .int .i64 0, .int .i64 0, .int .i64 0]) w := by kernel_rfl
theorem ones : tabCells.all (·.oneCell') = true := by kernel_rfl
theorem oldSize : zeroCells.size = tabCells.size := by kernel_rfl
/-- A value built, known whole. -/
theorem wpList_build_is {P : Program} {ops : Array Oper} {rest : List Oper} {o : Oper} {a : Act} {w : World} {Q : Exit → Act → World → Prop} (hg : o.guard = none) (t : TypeId) (parts : Array (Nat × Operand)) (ho : o.op = .build t parts)
    (cs : Array Value) (hf : P.built t (parts.map fun (i, x) => (i, a.eval x)).toList = some cs) (h : wpList P ops Q rest (a.put o.dst (.agg cs)) w) : wpList P ops Q (o :: rest) a w :=
  wpList_build hg t parts ho (by rw [hf]; rfl) (by rw [hf]; exact h)
set_option maxHeartbeats 4000000 in
set_option maxRecDepth 100000 in
theorem kinds_any (w : World) : Calls Try.prog 48 #[] w fun e w' => e = .returned (.agg tabCells) ∧ w' = w.alloc (.cells tabCells 74) := by
  have hz := zeroTab
  go_enter Try.func48, Try.ntmps48
  go_wp2_with (first
    | ((with_reducible refine gate_dst (N := 26) rfl ?_); refine wpList_build_is rfl 74 _ rfl tabCells ?b55 ?_; (case b55 => kernel_rfl))
    | ((with_reducible refine gate_store (t := 74) (p := 0) (v := .tmp 26) rfl ?_); refine wpList_plain rfl fun K hK => wp_store_row 74 (.tmp 0) (.tmp 26) rfl w.heap.size tabCells rfl rfl 74 zeroCells (heap_alloc_last w _) sizeTab oldSize ones (hK _ _ ?_); rw [World.setRow_alloc_new]))
  refine bodyPost_ret (v := .agg tabCells) ?_ rfl ⟨rfl, rfl⟩
  exact results_cell_row rfl _ _ w.heap.size 74 tabCells (0, 0) _ rfl (heap_alloc_last w _) Try.underlying74 rfl sizeTab

end Go.Proofs.Ytdhlhbhclggheaa.P
