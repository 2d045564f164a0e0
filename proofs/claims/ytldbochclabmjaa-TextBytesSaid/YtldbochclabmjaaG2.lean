/- op.of, op.Name, op.Args: what an operation has, its name, how many numbers; for every int. No conditions. -/
import Derived.Test.YtldbochclabmjaaG1
namespace Go.Proofs.Ytldbochclabmjaa.P
open Go.RowKit Go.Proofs.YtldbochclabmjaaW.PrintWords Go.Proofs.YtldbochclabmjaaW.PrintLast Go.Proofs.YtldbochclabmjaaW.PrintMore

/-- A kind as a value. -/
def kindV (k : ByteArray × Int × Int × Int) : Value := .agg #[.string k.1, .int .i64 k.2.1, .int .i64 k.2.2.1, .int .i64 k.2.2.2]
theorem op_cases {op : Int} (h1 : 1 ≤ op) (h2 : op ≤ 25) : op = 1 ∨ op = 2 ∨ op = 3 ∨ op = 4 ∨ op = 5 ∨ op = 6 ∨ op = 7 ∨ op = 8 ∨ op = 9 ∨ op = 10 ∨ op = 11 ∨ op = 12 ∨ op = 13 ∨ op = 14 ∨ op = 15 ∨ op = 16 ∨ op = 17 ∨ op = 18 ∨ op = 19 ∨ op = 20 ∨ op = 21 ∨ op = 22 ∨ op = 23 ∨ op = 24 ∨ op = 25 := by omega
theorem index_tab {op : Int} (h1 : 1 ≤ op) (h2 : op ≤ 25) (w : World) : (Instr.index 58 (.agg tabCells) (.int .i64 op)).run Try.prog w = .ok (kindV (kindOf op)) w := by
  rcases op_cases h1 h2 with rfl | rfl | rfl | rfl | rfl | rfl | rfl | rfl | rfl | rfl | rfl | rfl | rfl | rfl | rfl | rfl | rfl | rfl | rfl | rfl | rfl | rfl | rfl | rfl | rfl <;> kernel_rfl
theorem kindOf_none {op : Int} (h : op < 1 ∨ 25 < op) : kindOf op = (ByteArray.empty, -1, 0, 0) := by
  unfold kindOf
  rw [if_neg (by omega)]
theorem of_none (op : Int) (h : op < 1 ∨ 25 < op) (w : World) : Calls Try.prog 34 #[.int .i64 op] w fun e w' => e = .returned (kindV (kindOf op)) ∧ Below w.heap.size w w' := by
  rw [kindOf_none h]
  have hz := zeroKind
  rcases h with h | h
  · go_enter Try.func34, Try.ntmps34
    go_wp2_with (fail)
    exact bodyPost_ret (v := kindV (ByteArray.empty, -1, 0, 0)) (by simp [results, Try.results34, go_sem]; rfl) rfl ⟨rfl, (((Below.refl _ _).alloc (Nat.le_refl _) _))⟩
  · have h' : ¬ op < 1 := by omega
    go_enter Try.func34, Try.ntmps34
    go_wp2_with (fail)
    exact bodyPost_ret (v := kindV (ByteArray.empty, -1, 0, 0)) (by simp [results, Try.results34, go_sem]; rfl) rfl ⟨rfl, (((Below.refl _ _).alloc (Nat.le_refl _) _))⟩
theorem of_some (op : Int) (h1 : 1 ≤ op) (h2 : op ≤ 25) (w : World) : Calls Try.prog 34 #[.int .i64 op] w fun e w' => e = .returned (kindV (kindOf op)) ∧ Below w.heap.size w w' := by
  have hz := zeroKind
  have hx := @index_tab op h1 h2
  obtain ⟨⟨kn, ka, kl, kh⟩, hk⟩ : ∃ k, kindOf op = k := ⟨_, rfl⟩
  rw [hk] at hx ⊢
  clear hk
  simp only [kindV] at hx ⊢
  go_enter Try.func34, Try.ntmps34
  go_wp2_with (go_at_call 40; refine (kinds_any _).mono ?_; rintro e w' ⟨rfl, rfl⟩)
  refine bodyPost_ret (v := .agg #[.string kn, .int .i64 ka, .int .i64 kl, .int .i64 kh]) ?_ rfl ⟨rfl, ?_⟩
  · simp [results, Try.results34, go_sem]
  · exact ((Below.refl _ _).alloc (Nat.le_refl _) _).alloc (by simp) _
theorem of_any (op : Int) (w : World) : Calls Try.prog 34 #[.int .i64 op] w fun e w' => e = .returned (kindV (kindOf op)) ∧ Below w.heap.size w w' := by
  by_cases h : 1 ≤ op ∧ op ≤ 25
  · exact of_some op h.1 h.2 w
  · exact of_none op (by omega) w

theorem fieldName (n : ByteArray) (a b c : Int) (w : World) : (Instr.field 52 (.agg #[.string n, .int .i64 a, .int .i64 b, .int .i64 c]) 0).run Try.prog w = .ok (.string n) w := by kernel_rfl
theorem fieldArgs (n : ByteArray) (a b c : Int) (w : World) : (Instr.field 52 (.agg #[.string n, .int .i64 a, .int .i64 b, .int .i64 c]) 1).run Try.prog w = .ok (.int .i64 a) w := by kernel_rfl


/-! ### The contracts that the printed functions call -/
def op_Name.f (a0 : Int) : Option (ByteArray) := some (kindOf a0).1
theorem op_Name.calls (a0 : Int) (r : ByteArray) (w : World) (h : op_Name.f a0 = some r) :
    Calls Try.prog 22 #[.int .i64 a0] w fun e w' => e = .returned (.string r) ∧ Below w.heap.size w w' := by
  have ho := of_any a0
  unfold op_Name.f at h
  obtain ⟨⟨kn, ka, kl, kh⟩, hk⟩ : ∃ k, kindOf a0 = k := ⟨_, rfl⟩
  rw [hk] at ho h
  obtain rfl := Option.some.inj h
  clear hk h
  simp only [kindV] at ho
  have HO := Aside0.mk ho
  clear ho
  have hfl := fieldName
  go_enter Try.func22, Try.ntmps22
  go_wp2_with (go_at_call 34; refine (HO.out _).mono ?_; rintro e w' ⟨rfl, hb⟩)
  go_ret
  exact ⟨rfl, hb⟩
def op_Args.f (a0 : Int) : Option (Int) := some (kindOf a0).2.1
theorem op_Args.calls (a0 : Int) (r : Int) (w : World) (h : op_Args.f a0 = some r) :
    Calls Try.prog 23 #[.int .i64 a0] w fun e w' => e = .returned (.int .i64 r) ∧ Below w.heap.size w w' := by
  have ho := of_any a0
  unfold op_Args.f at h
  obtain ⟨⟨kn, ka, kl, kh⟩, hk⟩ : ∃ k, kindOf a0 = k := ⟨_, rfl⟩
  rw [hk] at ho h
  obtain rfl := Option.some.inj h
  clear hk h
  simp only [kindV] at ho
  have HO := Aside0.mk ho
  clear ho
  have hfl := fieldArgs
  go_enter Try.func23, Try.ntmps23
  go_wp2_with (go_at_call 34; refine (HO.out _).mono ?_; rintro e w' ⟨rfl, hb⟩)
  go_ret
  exact ⟨rfl, hb⟩

end Go.Proofs.Ytldbochclabmjaa.P
