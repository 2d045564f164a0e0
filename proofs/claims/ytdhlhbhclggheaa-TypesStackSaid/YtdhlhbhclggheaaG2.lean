/- op.of, op.Name, op.Args: what an operation has, its name, how many numbers; for every int. No conditions. -/
import Derived.Test.YtdhlhbhclggheaaG1
namespace Go.Proofs.Ytdhlhbhclggheaa.P
open Go.RowKit Go.Proofs.YtdhlhbhclggheaaW.PrintWords Go.Proofs.YtdhlhbhclggheaaW.PrintLast Go.Proofs.YtdhlhbhclggheaaW.PrintMore

/-- A kind as a value. -/
def kindV (k : ByteArray × Int × Int × Int) : Value := .agg #[.string k.1, .int .i64 k.2.1, .int .i64 k.2.2.1, .int .i64 k.2.2.2]
theorem op_cases {op : Int} (h1 : 1 ≤ op) (h2 : op ≤ 25) : op = 1 ∨ op = 2 ∨ op = 3 ∨ op = 4 ∨ op = 5 ∨ op = 6 ∨ op = 7 ∨ op = 8 ∨ op = 9 ∨ op = 10 ∨ op = 11 ∨ op = 12 ∨ op = 13 ∨ op = 14 ∨ op = 15 ∨ op = 16 ∨ op = 17 ∨ op = 18 ∨ op = 19 ∨ op = 20 ∨ op = 21 ∨ op = 22 ∨ op = 23 ∨ op = 24 ∨ op = 25 := by omega
theorem index_tab {op : Int} (h1 : 1 ≤ op) (h2 : op ≤ 25) (w : World) : (Instr.index 74 (.agg tabCells) (.int .i64 op)).run Try.prog w = .ok (kindV (kindOf op)) w := by
  rcases op_cases h1 h2 with rfl | rfl | rfl | rfl | rfl | rfl | rfl | rfl | rfl | rfl | rfl | rfl | rfl | rfl | rfl | rfl | rfl | rfl | rfl | rfl | rfl | rfl | rfl | rfl | rfl <;> kernel_rfl
theorem kindOf_none {op : Int} (h : op < 1 ∨ 25 < op) : kindOf op = (ByteArray.empty, -1, 0, 0) := by
  unfold kindOf
  rw [if_neg (by omega)]
theorem of_none (op : Int) (h : op < 1 ∨ 25 < op) (w : World) : Calls Try.prog 39 #[.int .i64 op] w fun e w' => e = .returned (kindV (kindOf op)) ∧ Below w.heap.size w w' := by
  rw [kindOf_none h]
  have hz := zeroKind
  rcases h with h | h
  · go_enter Try.func39, Try.ntmps39
    go_wp2_with (fail)
    exact bodyPost_ret (v := kindV (ByteArray.empty, -1, 0, 0)) (by simp [results, Try.results39, go_sem]; rfl) rfl ⟨rfl, (((Below.refl _ _).alloc (Nat.le_refl _) _))⟩
  · have h' : ¬ op < 1 := by omega
    go_enter Try.func39, Try.ntmps39
    go_wp2_with (fail)
    exact bodyPost_ret (v := kindV (ByteArray.empty, -1, 0, 0)) (by simp [results, Try.results39, go_sem]; rfl) rfl ⟨rfl, (((Below.refl _ _).alloc (Nat.le_refl _) _))⟩
theorem of_some (op : Int) (h1 : 1 ≤ op) (h2 : op ≤ 25) (w : World) : Calls Try.prog 39 #[.int .i64 op] w fun e w' => e = .returned (kindV (kindOf op)) ∧ Below w.heap.size w w' := by
  have hz := zeroKind
  have hx := @index_tab op h1 h2
  obtain ⟨⟨kn, ka, kl, kh⟩, hk⟩ : ∃ k, kindOf op = k := ⟨_, rfl⟩
  rw [hk] at hx ⊢
  clear hk
  simp only [kindV] at hx ⊢
  go_enter Try.func39, Try.ntmps39
  go_wp2_with (go_at_call 48; refine (kinds_any _).mono ?_; rintro e w' ⟨rfl, rfl⟩)
  refine bodyPost_ret (v := .agg #[.string kn, .int .i64 ka, .int .i64 kl, .int .i64 kh]) ?_ rfl ⟨rfl, ?_⟩
  · simp [results, Try.results39, go_sem]
  · exact ((Below.refl _ _).alloc (Nat.le_refl _) _).alloc (by simp) _
theorem of_any (op : Int) (w : World) : Calls Try.prog 39 #[.int .i64 op] w fun e w' => e = .returned (kindV (kindOf op)) ∧ Below w.heap.size w w' := by
  by_cases h : 1 ≤ op ∧ op ≤ 25
  · exact of_some op h.1 h.2 w
  · exact of_none op (by omega) w


/-! ### The contracts that the printed functions call -/

end Go.Proofs.Ytdhlhbhclggheaa.P
