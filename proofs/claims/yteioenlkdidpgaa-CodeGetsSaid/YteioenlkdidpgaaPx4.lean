-- Written by a program of this session (wip/tools: patched print) for this claim. Not trusted: Lean checks it.
import Derived.Test.YteioenlkdidpgaaPx0
import Derived.Test.YteioenlkdidpgaaPx1
import Derived.Test.YteioenlkdidpgaaPx2
import Derived.Test.YteioenlkdidpgaaPx3
namespace Go.Proofs.Yteioenlkdidpgaa.P
open Go.RowKit Go.Proofs.YteioenlkdidpgaaW.PrintWords Go.Proofs.YteioenlkdidpgaaW.PrintLast Go.Proofs.YteioenlkdidpgaaW.PrintMore
attribute [local go_sem] max2_int min2_int max_two min_two max_three min_three max_four min_four   -- for this text's walks alone
set_option linter.unusedVariables false
set_option linter.unusedSimpArgs false

/-! ### camshaftlaw02_known: function 10 -/
def camshaftlaw02_known.f (k : Nat)  : Option (Bool) := (code_Get.f k (⟨#[120, 128, 1, 121]⟩ : ByteArray) 1).bind fun bt127 => ((code_Get.f k (⟨#[128]⟩ : ByteArray) 0).bind fun bt130 => ((code_Get.f k (⟨#[128, 0]⟩ : ByteArray) 0).bind fun bt133 => ((code_Get.f k (⟨#[]⟩ : ByteArray) 1).bind fun bt136 => ((code_GetList.f k (⟨#[4, 1, 2, 122]⟩ : ByteArray) 0 5).bind fun bt139 => ((code_GetList.f k (⟨#[4, 1, 2, 122]⟩ : ByteArray) 0 1).bind fun bt144 => ((code_GetList.f k (⟨#[1]⟩ : ByteArray) 0 1).bind fun bt149 => ((code_Put.f k 0).bind fun t154 => (if t154.toList = ([0] : List UInt8) then ((code_Put.f k (-1)).bind fun t155 => (if t155.toList = ([1] : List UInt8) then ((code_Put.f k 64).bind fun t156 => (if t156.toList = ([128, 1] : List UInt8) then ((code_Size.f k 64).bind fun t157 => (if t157 = 2 then (if bt127.1 = 64 then (if bt127.2.1 = 3 then (if bt127.2.2 = 0 then (if bt130.2.2 = 2 then (if bt133.2.2 = 3 then (if bt136.2.2 = 1 then ((camshaftref02_Same.f k bt139.1 (([(-1), 1] : List Int))).bind fun t161 => (if t161 = true then (if bt139.2.1 = 3 then (if bt139.2.2 = 0 then (if bt144.2.2 = 4 then (if bt149.2.2 = 3 then ((code_List.f k (([(-1), 1] : List Int))).bind fun t165 => (some (t165.toList == ([4, 1, 2] : List UInt8)))) else (some false)) else (some false)) else (some false)) else (some false)) else (some false))) else (some false)) else (some false)) else (some false)) else (some false)) else (some false)) else (some false)) else (some false))) else (some false))) else (some false))) else (some false)))))))))
theorem camshaftlaw02_known.mono : ∀ k, LeO (camshaftlaw02_known.f k ) (camshaftlaw02_known.f (k + 1) ) := by
  intro  k
  unfold camshaftlaw02_known.f
  repeat' first
      | (with_reducible exact camshaftref02_Same.mono _ _ _)
      | (with_reducible exact code_Get.mono _ _ _)
      | (with_reducible exact code_GetList.mono _ _ _ _)
      | (with_reducible exact code_List.mono _ _)
      | (with_reducible exact code_Put.mono _ _)
      | (with_reducible exact code_Size.mono _ _)
      | (with_reducible exact LeO.refl _)
      | (with_reducible exact LeO.none _)
      | (with_reducible refine LeO.ite ?_ ?_)
      | (with_reducible refine LeO.bind ?_ (fun _ => ?_))
      | exact camshaftref02_Same.mono _ _ _
      | exact code_Get.mono _ _ _
      | exact code_GetList.mono _ _ _ _
      | exact code_List.mono _ _
      | exact code_Put.mono _ _
      | exact code_Size.mono _ _
      | exact LeO.none _
      | refine LeO.ite ?_ ?_
      | refine LeO.bind ?_ (fun _ => ?_)
theorem camshaftlaw02_known.run : camshaftlaw02_known.f 60 = some true := by kernel_rfl
theorem camshaftlaw02_known.only (k : Nat) (r : Bool) (h : camshaftlaw02_known.f k = some r) : r = true := by
  have a := at_rounds camshaftlaw02_known.mono (Nat.le_max_left k 60) h
  have b := at_rounds camshaftlaw02_known.mono (Nat.le_max_right k 60) camshaftlaw02_known.run
  exact Option.some.inj (a.symm.trans b)
set_option maxHeartbeats 8000000 in
set_option maxRecDepth 100000 in
theorem camshaftlaw02_known.calls (k : Nat)  (r : Bool) (w : World) (h : camshaftlaw02_known.f k  = some r) :
    Calls Try.prog 10 #[] w fun e w' => e = .returned (.bool r) ∧ Below w.heap.size w w' := by
  have HT := Aside0.mk (camshaftlaw02_known.only k r h)
  have HB := Aside0.mk (Below.refl w.heap.size w)
  have H : ((code_Get.f k (⟨#[120, 128, 1, 121]⟩ : ByteArray) 1).bind fun bt127 => ((code_Get.f k (⟨#[128]⟩ : ByteArray) 0).bind fun bt130 => ((code_Get.f k (⟨#[128, 0]⟩ : ByteArray) 0).bind fun bt133 => ((code_Get.f k (⟨#[]⟩ : ByteArray) 1).bind fun bt136 => ((code_GetList.f k (⟨#[4, 1, 2, 122]⟩ : ByteArray) 0 5).bind fun bt139 => ((code_GetList.f k (⟨#[4, 1, 2, 122]⟩ : ByteArray) 0 1).bind fun bt144 => ((code_GetList.f k (⟨#[1]⟩ : ByteArray) 0 1).bind fun bt149 => ((code_Put.f k 0).bind fun t154 => (if t154.toList = ([0] : List UInt8) then ((code_Put.f k (-1)).bind fun t155 => (if t155.toList = ([1] : List UInt8) then ((code_Put.f k 64).bind fun t156 => (if t156.toList = ([128, 1] : List UInt8) then ((code_Size.f k 64).bind fun t157 => (if t157 = 2 then (if bt127.1 = 64 then (if bt127.2.1 = 3 then (if bt127.2.2 = 0 then (if bt130.2.2 = 2 then (if bt133.2.2 = 3 then (if bt136.2.2 = 1 then ((camshaftref02_Same.f k bt139.1 (([(-1), 1] : List Int))).bind fun t161 => (if t161 = true then (if bt139.2.1 = 3 then (if bt139.2.2 = 0 then (if bt144.2.2 = 4 then (if bt149.2.2 = 3 then ((code_List.f k (([(-1), 1] : List Int))).bind fun t165 => (some (t165.toList == ([4, 1, 2] : List UInt8)))) else (some false)) else (some false)) else (some false)) else (some false)) else (some false))) else (some false)) else (some false)) else (some false)) else (some false)) else (some false)) else (some false)) else (some false))) else (some false))) else (some false))) else (some false)))))))))) = some r := h
  clear h
  replace H := Option.bind_eq_some_iff.mp H
  obtain ⟨⟨t127, t128, t129⟩, A10, H⟩ := H
  replace H : ((code_Get.f k (⟨#[128]⟩ : ByteArray) 0).bind fun bt130 => ((code_Get.f k (⟨#[128, 0]⟩ : ByteArray) 0).bind fun bt133 => ((code_Get.f k (⟨#[]⟩ : ByteArray) 1).bind fun bt136 => ((code_GetList.f k (⟨#[4, 1, 2, 122]⟩ : ByteArray) 0 5).bind fun bt139 => ((code_GetList.f k (⟨#[4, 1, 2, 122]⟩ : ByteArray) 0 1).bind fun bt144 => ((code_GetList.f k (⟨#[1]⟩ : ByteArray) 0 1).bind fun bt149 => ((code_Put.f k 0).bind fun t154 => (if t154.toList = ([0] : List UInt8) then ((code_Put.f k (-1)).bind fun t155 => (if t155.toList = ([1] : List UInt8) then ((code_Put.f k 64).bind fun t156 => (if t156.toList = ([128, 1] : List UInt8) then ((code_Size.f k 64).bind fun t157 => (if t157 = 2 then (if t127 = 64 then (if t128 = 3 then (if t129 = 0 then (if bt130.2.2 = 2 then (if bt133.2.2 = 3 then (if bt136.2.2 = 1 then ((camshaftref02_Same.f k bt139.1 (([(-1), 1] : List Int))).bind fun t161 => (if t161 = true then (if bt139.2.1 = 3 then (if bt139.2.2 = 0 then (if bt144.2.2 = 4 then (if bt149.2.2 = 3 then ((code_List.f k (([(-1), 1] : List Int))).bind fun t165 => (some (t165.toList == ([4, 1, 2] : List UInt8)))) else (some false)) else (some false)) else (some false)) else (some false)) else (some false))) else (some false)) else (some false)) else (some false)) else (some false)) else (some false)) else (some false)) else (some false))) else (some false))) else (some false))) else (some false))))))))) = some r := H
  have A1 := Aside0.mk A10
  clear A10
  replace H := Option.bind_eq_some_iff.mp H
  obtain ⟨⟨t130, t131, t132⟩, A20, H⟩ := H
  replace H : ((code_Get.f k (⟨#[128, 0]⟩ : ByteArray) 0).bind fun bt133 => ((code_Get.f k (⟨#[]⟩ : ByteArray) 1).bind fun bt136 => ((code_GetList.f k (⟨#[4, 1, 2, 122]⟩ : ByteArray) 0 5).bind fun bt139 => ((code_GetList.f k (⟨#[4, 1, 2, 122]⟩ : ByteArray) 0 1).bind fun bt144 => ((code_GetList.f k (⟨#[1]⟩ : ByteArray) 0 1).bind fun bt149 => ((code_Put.f k 0).bind fun t154 => (if t154.toList = ([0] : List UInt8) then ((code_Put.f k (-1)).bind fun t155 => (if t155.toList = ([1] : List UInt8) then ((code_Put.f k 64).bind fun t156 => (if t156.toList = ([128, 1] : List UInt8) then ((code_Size.f k 64).bind fun t157 => (if t157 = 2 then (if t127 = 64 then (if t128 = 3 then (if t129 = 0 then (if t132 = 2 then (if bt133.2.2 = 3 then (if bt136.2.2 = 1 then ((camshaftref02_Same.f k bt139.1 (([(-1), 1] : List Int))).bind fun t161 => (if t161 = true then (if bt139.2.1 = 3 then (if bt139.2.2 = 0 then (if bt144.2.2 = 4 then (if bt149.2.2 = 3 then ((code_List.f k (([(-1), 1] : List Int))).bind fun t165 => (some (t165.toList == ([4, 1, 2] : List UInt8)))) else (some false)) else (some false)) else (some false)) else (some false)) else (some false))) else (some false)) else (some false)) else (some false)) else (some false)) else (some false)) else (some false)) else (some false))) else (some false))) else (some false))) else (some false)))))))) = some r := H
  have A2 := Aside0.mk A20
  clear A20
  replace H := Option.bind_eq_some_iff.mp H
  obtain ⟨⟨t133, t134, t135⟩, A30, H⟩ := H
  replace H : ((code_Get.f k (⟨#[]⟩ : ByteArray) 1).bind fun bt136 => ((code_GetList.f k (⟨#[4, 1, 2, 122]⟩ : ByteArray) 0 5).bind fun bt139 => ((code_GetList.f k (⟨#[4, 1, 2, 122]⟩ : ByteArray) 0 1).bind fun bt144 => ((code_GetList.f k (⟨#[1]⟩ : ByteArray) 0 1).bind fun bt149 => ((code_Put.f k 0).bind fun t154 => (if t154.toList = ([0] : List UInt8) then ((code_Put.f k (-1)).bind fun t155 => (if t155.toList = ([1] : List UInt8) then ((code_Put.f k 64).bind fun t156 => (if t156.toList = ([128, 1] : List UInt8) then ((code_Size.f k 64).bind fun t157 => (if t157 = 2 then (if t127 = 64 then (if t128 = 3 then (if t129 = 0 then (if t132 = 2 then (if t135 = 3 then (if bt136.2.2 = 1 then ((camshaftref02_Same.f k bt139.1 (([(-1), 1] : List Int))).bind fun t161 => (if t161 = true then (if bt139.2.1 = 3 then (if bt139.2.2 = 0 then (if bt144.2.2 = 4 then (if bt149.2.2 = 3 then ((code_List.f k (([(-1), 1] : List Int))).bind fun t165 => (some (t165.toList == ([4, 1, 2] : List UInt8)))) else (some false)) else (some false)) else (some false)) else (some false)) else (some false))) else (some false)) else (some false)) else (some false)) else (some false)) else (some false)) else (some false)) else (some false))) else (some false))) else (some false))) else (some false))))))) = some r := H
  have A3 := Aside0.mk A30
  clear A30
  replace H := Option.bind_eq_some_iff.mp H
  obtain ⟨⟨t136, t137, t138⟩, A40, H⟩ := H
  replace H : ((code_GetList.f k (⟨#[4, 1, 2, 122]⟩ : ByteArray) 0 5).bind fun bt139 => ((code_GetList.f k (⟨#[4, 1, 2, 122]⟩ : ByteArray) 0 1).bind fun bt144 => ((code_GetList.f k (⟨#[1]⟩ : ByteArray) 0 1).bind fun bt149 => ((code_Put.f k 0).bind fun t154 => (if t154.toList = ([0] : List UInt8) then ((code_Put.f k (-1)).bind fun t155 => (if t155.toList = ([1] : List UInt8) then ((code_Put.f k 64).bind fun t156 => (if t156.toList = ([128, 1] : List UInt8) then ((code_Size.f k 64).bind fun t157 => (if t157 = 2 then (if t127 = 64 then (if t128 = 3 then (if t129 = 0 then (if t132 = 2 then (if t135 = 3 then (if t138 = 1 then ((camshaftref02_Same.f k bt139.1 (([(-1), 1] : List Int))).bind fun t161 => (if t161 = true then (if bt139.2.1 = 3 then (if bt139.2.2 = 0 then (if bt144.2.2 = 4 then (if bt149.2.2 = 3 then ((code_List.f k (([(-1), 1] : List Int))).bind fun t165 => (some (t165.toList == ([4, 1, 2] : List UInt8)))) else (some false)) else (some false)) else (some false)) else (some false)) else (some false))) else (some false)) else (some false)) else (some false)) else (some false)) else (some false)) else (some false)) else (some false))) else (some false))) else (some false))) else (some false)))))) = some r := H
  have A4 := Aside0.mk A40
  clear A40
  replace H := Option.bind_eq_some_iff.mp H
  obtain ⟨⟨t139, t140, t141⟩, A50, H⟩ := H
  replace H : ((code_GetList.f k (⟨#[4, 1, 2, 122]⟩ : ByteArray) 0 1).bind fun bt144 => ((code_GetList.f k (⟨#[1]⟩ : ByteArray) 0 1).bind fun bt149 => ((code_Put.f k 0).bind fun t154 => (if t154.toList = ([0] : List UInt8) then ((code_Put.f k (-1)).bind fun t155 => (if t155.toList = ([1] : List UInt8) then ((code_Put.f k 64).bind fun t156 => (if t156.toList = ([128, 1] : List UInt8) then ((code_Size.f k 64).bind fun t157 => (if t157 = 2 then (if t127 = 64 then (if t128 = 3 then (if t129 = 0 then (if t132 = 2 then (if t135 = 3 then (if t138 = 1 then ((camshaftref02_Same.f k t139 (([(-1), 1] : List Int))).bind fun t161 => (if t161 = true then (if t140 = 3 then (if t141 = 0 then (if bt144.2.2 = 4 then (if bt149.2.2 = 3 then ((code_List.f k (([(-1), 1] : List Int))).bind fun t165 => (some (t165.toList == ([4, 1, 2] : List UInt8)))) else (some false)) else (some false)) else (some false)) else (some false)) else (some false))) else (some false)) else (some false)) else (some false)) else (some false)) else (some false)) else (some false)) else (some false))) else (some false))) else (some false))) else (some false))))) = some r := H
  have A5 := Aside0.mk A50
  clear A50
  replace H := Option.bind_eq_some_iff.mp H
  obtain ⟨⟨t144, t145, t146⟩, A60, H⟩ := H
  replace H : ((code_GetList.f k (⟨#[1]⟩ : ByteArray) 0 1).bind fun bt149 => ((code_Put.f k 0).bind fun t154 => (if t154.toList = ([0] : List UInt8) then ((code_Put.f k (-1)).bind fun t155 => (if t155.toList = ([1] : List UInt8) then ((code_Put.f k 64).bind fun t156 => (if t156.toList = ([128, 1] : List UInt8) then ((code_Size.f k 64).bind fun t157 => (if t157 = 2 then (if t127 = 64 then (if t128 = 3 then (if t129 = 0 then (if t132 = 2 then (if t135 = 3 then (if t138 = 1 then ((camshaftref02_Same.f k t139 (([(-1), 1] : List Int))).bind fun t161 => (if t161 = true then (if t140 = 3 then (if t141 = 0 then (if t146 = 4 then (if bt149.2.2 = 3 then ((code_List.f k (([(-1), 1] : List Int))).bind fun t165 => (some (t165.toList == ([4, 1, 2] : List UInt8)))) else (some false)) else (some false)) else (some false)) else (some false)) else (some false))) else (some false)) else (some false)) else (some false)) else (some false)) else (some false)) else (some false)) else (some false))) else (some false))) else (some false))) else (some false)))) = some r := H
  have A6 := Aside0.mk A60
  clear A60
  replace H := Option.bind_eq_some_iff.mp H
  obtain ⟨⟨t149, t150, t151⟩, A70, H⟩ := H
  replace H : ((code_Put.f k 0).bind fun t154 => (if t154.toList = ([0] : List UInt8) then ((code_Put.f k (-1)).bind fun t155 => (if t155.toList = ([1] : List UInt8) then ((code_Put.f k 64).bind fun t156 => (if t156.toList = ([128, 1] : List UInt8) then ((code_Size.f k 64).bind fun t157 => (if t157 = 2 then (if t127 = 64 then (if t128 = 3 then (if t129 = 0 then (if t132 = 2 then (if t135 = 3 then (if t138 = 1 then ((camshaftref02_Same.f k t139 (([(-1), 1] : List Int))).bind fun t161 => (if t161 = true then (if t140 = 3 then (if t141 = 0 then (if t146 = 4 then (if t151 = 3 then ((code_List.f k (([(-1), 1] : List Int))).bind fun t165 => (some (t165.toList == ([4, 1, 2] : List UInt8)))) else (some false)) else (some false)) else (some false)) else (some false)) else (some false))) else (some false)) else (some false)) else (some false)) else (some false)) else (some false)) else (some false)) else (some false))) else (some false))) else (some false))) else (some false))) = some r := H
  have A7 := Aside0.mk A70
  clear A70
  replace H := Option.bind_eq_some_iff.mp H
  obtain ⟨t154, A80, H⟩ := H
  replace H : (if t154.toList = ([0] : List UInt8) then ((code_Put.f k (-1)).bind fun t155 => (if t155.toList = ([1] : List UInt8) then ((code_Put.f k 64).bind fun t156 => (if t156.toList = ([128, 1] : List UInt8) then ((code_Size.f k 64).bind fun t157 => (if t157 = 2 then (if t127 = 64 then (if t128 = 3 then (if t129 = 0 then (if t132 = 2 then (if t135 = 3 then (if t138 = 1 then ((camshaftref02_Same.f k t139 (([(-1), 1] : List Int))).bind fun t161 => (if t161 = true then (if t140 = 3 then (if t141 = 0 then (if t146 = 4 then (if t151 = 3 then ((code_List.f k (([(-1), 1] : List Int))).bind fun t165 => (some (t165.toList == ([4, 1, 2] : List UInt8)))) else (some false)) else (some false)) else (some false)) else (some false)) else (some false))) else (some false)) else (some false)) else (some false)) else (some false)) else (some false)) else (some false)) else (some false))) else (some false))) else (some false))) else (some false)) = some r := H
  have A8 := Aside0.mk A80
  clear A80
  by_cases c9 : t154.toList = ([0] : List UInt8)
  · rw [if_pos c9] at H
    have c9b0 : (t154.toList == ([0] : List UInt8)) = true := beq_iff_eq.mpr c9
    have c9b1 : (t154.toList != ([0] : List UInt8)) = false := bne_eq_false_iff_eq.mpr c9
    clear c9
    replace H := Option.bind_eq_some_iff.mp H
    obtain ⟨t155, A100, H⟩ := H
    replace H : (if t155.toList = ([1] : List UInt8) then ((code_Put.f k 64).bind fun t156 => (if t156.toList = ([128, 1] : List UInt8) then ((code_Size.f k 64).bind fun t157 => (if t157 = 2 then (if t127 = 64 then (if t128 = 3 then (if t129 = 0 then (if t132 = 2 then (if t135 = 3 then (if t138 = 1 then ((camshaftref02_Same.f k t139 (([(-1), 1] : List Int))).bind fun t161 => (if t161 = true then (if t140 = 3 then (if t141 = 0 then (if t146 = 4 then (if t151 = 3 then ((code_List.f k (([(-1), 1] : List Int))).bind fun t165 => (some (t165.toList == ([4, 1, 2] : List UInt8)))) else (some false)) else (some false)) else (some false)) else (some false)) else (some false))) else (some false)) else (some false)) else (some false)) else (some false)) else (some false)) else (some false)) else (some false))) else (some false))) else (some false)) = some r := H
    have A10 := Aside0.mk A100
    clear A100
    by_cases c11 : t155.toList = ([1] : List UInt8)
    · rw [if_pos c11] at H
      have c11b0 : (t155.toList == ([1] : List UInt8)) = true := beq_iff_eq.mpr c11
      have c11b1 : (t155.toList != ([1] : List UInt8)) = false := bne_eq_false_iff_eq.mpr c11
      clear c11
      replace H := Option.bind_eq_some_iff.mp H
      obtain ⟨t156, A120, H⟩ := H
      replace H : (if t156.toList = ([128, 1] : List UInt8) then ((code_Size.f k 64).bind fun t157 => (if t157 = 2 then (if t127 = 64 then (if t128 = 3 then (if t129 = 0 then (if t132 = 2 then (if t135 = 3 then (if t138 = 1 then ((camshaftref02_Same.f k t139 (([(-1), 1] : List Int))).bind fun t161 => (if t161 = true then (if t140 = 3 then (if t141 = 0 then (if t146 = 4 then (if t151 = 3 then ((code_List.f k (([(-1), 1] : List Int))).bind fun t165 => (some (t165.toList == ([4, 1, 2] : List UInt8)))) else (some false)) else (some false)) else (some false)) else (some false)) else (some false))) else (some false)) else (some false)) else (some false)) else (some false)) else (some false)) else (some false)) else (some false))) else (some false)) = some r := H
      have A12 := Aside0.mk A120
      clear A120
      by_cases c13 : t156.toList = ([128, 1] : List UInt8)
      · rw [if_pos c13] at H
        have c13b0 : (t156.toList == ([128, 1] : List UInt8)) = true := beq_iff_eq.mpr c13
        have c13b1 : (t156.toList != ([128, 1] : List UInt8)) = false := bne_eq_false_iff_eq.mpr c13
        clear c13
        replace H := Option.bind_eq_some_iff.mp H
        obtain ⟨t157, A140, H⟩ := H
        replace H : (if t157 = 2 then (if t127 = 64 then (if t128 = 3 then (if t129 = 0 then (if t132 = 2 then (if t135 = 3 then (if t138 = 1 then ((camshaftref02_Same.f k t139 (([(-1), 1] : List Int))).bind fun t161 => (if t161 = true then (if t140 = 3 then (if t141 = 0 then (if t146 = 4 then (if t151 = 3 then ((code_List.f k (([(-1), 1] : List Int))).bind fun t165 => (some (t165.toList == ([4, 1, 2] : List UInt8)))) else (some false)) else (some false)) else (some false)) else (some false)) else (some false))) else (some false)) else (some false)) else (some false)) else (some false)) else (some false)) else (some false)) else (some false)) = some r := H
        have A14 := Aside0.mk A140
        clear A140
        by_cases c15 : t157 = 2
        · rw [if_pos c15] at H
          have c15b0 : (t157 == 2) = true := beq_iff_eq.mpr c15
          have c15b1 : (t157 != 2) = false := bne_eq_false_iff_eq.mpr c15
          clear c15
          by_cases c16 : t127 = 64
          · rw [if_pos c16] at H
            have c16b0 : (t127 == 64) = true := beq_iff_eq.mpr c16
            have c16b1 : (t127 != 64) = false := bne_eq_false_iff_eq.mpr c16
            clear c16
            by_cases c17 : t128 = 3
            · rw [if_pos c17] at H
              have c17b0 : (t128 == 3) = true := beq_iff_eq.mpr c17
              have c17b1 : (t128 != 3) = false := bne_eq_false_iff_eq.mpr c17
              clear c17
              by_cases c18 : t129 = 0
              · rw [if_pos c18] at H
                have c18b0 : (t129 == 0) = true := beq_iff_eq.mpr c18
                have c18b1 : (t129 != 0) = false := bne_eq_false_iff_eq.mpr c18
                clear c18
                by_cases c19 : t132 = 2
                · rw [if_pos c19] at H
                  have c19b0 : (t132 == 2) = true := beq_iff_eq.mpr c19
                  have c19b1 : (t132 != 2) = false := bne_eq_false_iff_eq.mpr c19
                  clear c19
                  by_cases c20 : t135 = 3
                  · rw [if_pos c20] at H
                    have c20b0 : (t135 == 3) = true := beq_iff_eq.mpr c20
                    have c20b1 : (t135 != 3) = false := bne_eq_false_iff_eq.mpr c20
                    clear c20
                    by_cases c21 : t138 = 1
                    · rw [if_pos c21] at H
                      have c21b0 : (t138 == 1) = true := beq_iff_eq.mpr c21
                      have c21b1 : (t138 != 1) = false := bne_eq_false_iff_eq.mpr c21
                      clear c21
                      obtain ⟨y158, hy158⟩ : ∃ y_ : List Int, y_ = (([(-1), 1] : List Int)) := ⟨_, rfl⟩
                      replace H : ((camshaftref02_Same.f k t139 y158).bind fun t161 => (if t161 = true then (if t140 = 3 then (if t141 = 0 then (if t146 = 4 then (if t151 = 3 then ((code_List.f k (([(-1), 1] : List Int))).bind fun t165 => (some (t165.toList == ([4, 1, 2] : List UInt8)))) else (some false)) else (some false)) else (some false)) else (some false)) else (some false))) = some r := by first | (rw [hy158]; with_reducible exact H) | (have H2_ := (Option.bind_some _ _).symm.trans H; rw [hy158]; with_reducible exact H2_) | (have H2_ := (Option.bind_some _ _).symm.trans H; with_reducible exact H2_) | with_reducible exact H | (rw [hy158]; exact H) | exact H
                      have Ny158 := Aside0.mk hy158
                      clear hy158
                      replace H := Option.bind_eq_some_iff.mp H
                      obtain ⟨t161, A220, H⟩ := H
                      replace H : (if t161 = true then (if t140 = 3 then (if t141 = 0 then (if t146 = 4 then (if t151 = 3 then ((code_List.f k (([(-1), 1] : List Int))).bind fun t165 => (some (t165.toList == ([4, 1, 2] : List UInt8)))) else (some false)) else (some false)) else (some false)) else (some false)) else (some false)) = some r := H
                      have A22 := Aside0.mk A220
                      clear A220
                      by_cases c23 : t161 = true
                      · subst c23
                        have H1 : (if t140 = 3 then (if t141 = 0 then (if t146 = 4 then (if t151 = 3 then ((code_List.f k (([(-1), 1] : List Int))).bind fun t165 => (some (t165.toList == ([4, 1, 2] : List UInt8)))) else (some false)) else (some false)) else (some false)) else (some false)) = some r := by rw [if_pos rfl] at H; exact H
                        clear H
                        have H := H1
                        clear H1
                        by_cases c24 : t140 = 3
                        · rw [if_pos c24] at H
                          have c24b0 : (t140 == 3) = true := beq_iff_eq.mpr c24
                          have c24b1 : (t140 != 3) = false := bne_eq_false_iff_eq.mpr c24
                          clear c24
                          by_cases c25 : t141 = 0
                          · rw [if_pos c25] at H
                            have c25b0 : (t141 == 0) = true := beq_iff_eq.mpr c25
                            have c25b1 : (t141 != 0) = false := bne_eq_false_iff_eq.mpr c25
                            clear c25
                            by_cases c26 : t146 = 4
                            · rw [if_pos c26] at H
                              have c26b0 : (t146 == 4) = true := beq_iff_eq.mpr c26
                              have c26b1 : (t146 != 4) = false := bne_eq_false_iff_eq.mpr c26
                              clear c26
                              by_cases c27 : t151 = 3
                              · rw [if_pos c27] at H
                                have c27b0 : (t151 == 3) = true := beq_iff_eq.mpr c27
                                have c27b1 : (t151 != 3) = false := bne_eq_false_iff_eq.mpr c27
                                clear c27
                                obtain ⟨y162, hy162⟩ : ∃ y_ : List Int, y_ = (([(-1), 1] : List Int)) := ⟨_, rfl⟩
                                replace H : ((code_List.f k y162).bind fun t165 => (some (t165.toList == ([4, 1, 2] : List UInt8)))) = some r := by first | (rw [hy162]; with_reducible exact H) | (have H2_ := (Option.bind_some _ _).symm.trans H; rw [hy162]; with_reducible exact H2_) | (have H2_ := (Option.bind_some _ _).symm.trans H; with_reducible exact H2_) | with_reducible exact H | (rw [hy162]; exact H) | exact H
                                have Ny162 := Aside0.mk hy162
                                clear hy162
                                replace H := Option.bind_eq_some_iff.mp H
                                obtain ⟨t165, A280, H⟩ := H
                                replace H : (some (t165.toList == ([4, 1, 2] : List UInt8))) = some r := H
                                have A28 := Aside0.mk A280
                                clear A280
                                obtain rfl := Option.some.inj H
                                go_enter Try.func10, Try.ntmps10
                                go_wp2_with (first | ((with_reducible refine gate_callee (f := 16) rfl ?_); refine goesL_ (some 23) rfl rfl Try.func16 (by kernel_rfl) rfl #[.string (⟨#[120, 128, 1, 121]⟩ : ByteArray), .int .i64 1] rfl (by (try simp only [List.map_toArray, List.map_cons, List.map_nil]); first | done | rfl | (simp only [List.length_drop, List.length_take]; rfl)) ?_; (with_reducible refine (code_Get.calls k (⟨#[120, 128, 1, 121]⟩ : ByteArray) 1 t127 t128 t129 _ A1.out).mono ?_); rintro e w' ⟨rfl, ⟨nd, rfl⟩⟩; refine ⟨_, rfl, ?_⟩) | ((with_reducible refine gate_callee (f := 16) rfl ?_); refine goesL_ (some 28) rfl rfl Try.func16 (by kernel_rfl) rfl #[.string (⟨#[128]⟩ : ByteArray), .int .i64 0] rfl (by (try simp only [List.map_toArray, List.map_cons, List.map_nil]); first | done | rfl | (simp only [List.length_drop, List.length_take]; rfl)) ?_; (with_reducible refine (code_Get.calls k (⟨#[128]⟩ : ByteArray) 0 t130 t131 t132 _ A2.out).mono ?_); rintro e w' ⟨rfl, ⟨nd, rfl⟩⟩; refine ⟨_, rfl, ?_⟩) | ((with_reducible refine gate_callee (f := 16) rfl ?_); refine goesL_ (some 33) rfl rfl Try.func16 (by kernel_rfl) rfl #[.string (⟨#[128, 0]⟩ : ByteArray), .int .i64 0] rfl (by (try simp only [List.map_toArray, List.map_cons, List.map_nil]); first | done | rfl | (simp only [List.length_drop, List.length_take]; rfl)) ?_; (with_reducible refine (code_Get.calls k (⟨#[128, 0]⟩ : ByteArray) 0 t133 t134 t135 _ A3.out).mono ?_); rintro e w' ⟨rfl, ⟨nd, rfl⟩⟩; refine ⟨_, rfl, ?_⟩) | ((with_reducible refine gate_callee (f := 16) rfl ?_); refine goesL_ (some 38) rfl rfl Try.func16 (by kernel_rfl) rfl #[.string (⟨#[]⟩ : ByteArray), .int .i64 1] rfl (by (try simp only [List.map_toArray, List.map_cons, List.map_nil]); first | done | rfl | (simp only [List.length_drop, List.length_take]; rfl)) ?_; (with_reducible refine (code_Get.calls k (⟨#[]⟩ : ByteArray) 1 t136 t137 t138 _ A4.out).mono ?_); rintro e w' ⟨rfl, ⟨nd, rfl⟩⟩; refine ⟨_, rfl, ?_⟩) | ((with_reducible refine gate_callee (f := 18) rfl ?_); refine goesL_ (some 43) rfl rfl Try.func18 (by kernel_rfl) rfl #[.string (⟨#[4, 1, 2, 122]⟩ : ByteArray), .int .i64 0, .int .i64 5] rfl (by (try simp only [List.map_toArray, List.map_cons, List.map_nil]); first | done | rfl | (simp only [List.length_drop, List.length_take]; rfl)) ?_; (with_reducible refine (code_GetList.calls k (⟨#[4, 1, 2, 122]⟩ : ByteArray) 0 5 t139 t140 t141 _ A5.out).mono ?_); rintro e w29 ⟨v142, rfl, ho0, hb⟩; refine ⟨_, rfl, ?_⟩; have n0_ := Aside0.mk (Kd.R_lower ho0 (below_size (by repeat (first | (with_reducible first | exact HB.out | apply below_alloc | apply pw_below_drewN | apply below_drew1) | exact HB.out)))); have n1_ := Aside0.mk (below_step (by repeat (first | (with_reducible first | exact HB.out | apply below_alloc | apply pw_below_drewN | apply below_drew1) | exact HB.out)) hb); clear HB; have HO143 := n0_; have HB := n1_; clear n0_ n1_; (try clear hb); (try clear hb2); (try clear hk); (try clear hi); (try clear ho0)) | ((with_reducible refine gate_callee (f := 18) rfl ?_); refine goesL_ (some 48) rfl rfl Try.func18 (by kernel_rfl) rfl #[.string (⟨#[4, 1, 2, 122]⟩ : ByteArray), .int .i64 0, .int .i64 1] rfl (by (try simp only [List.map_toArray, List.map_cons, List.map_nil]); first | done | rfl | (simp only [List.length_drop, List.length_take]; rfl)) ?_; (with_reducible refine (code_GetList.calls k (⟨#[4, 1, 2, 122]⟩ : ByteArray) 0 1 t144 t145 t146 _ A6.out).mono ?_); rintro e w30 ⟨v147, rfl, ho0, hb⟩; refine ⟨_, rfl, ?_⟩; have n0_ := Aside0.mk (Kd.R_elder' (by (with_reducible repeat (first | apply Kd.R_alloc | apply Kd.R_drewN | apply Kd.R_drew)); exact HO143.out) (Kd.R_base ho0) hb); have n1_ := Aside0.mk (Kd.R_lower (Kd.R_new' ho0 (Kd.R_lt (by (with_reducible repeat (first | apply Kd.R_alloc | apply Kd.R_drewN | apply Kd.R_drew)); exact HO143.out))) (below_size (by repeat (first | (with_reducible first | exact HB.out | apply below_alloc | apply pw_below_drewN | apply below_drew1) | exact HB.out)))); have n2_ := Aside0.mk (below_step (by repeat (first | (with_reducible first | exact HB.out | apply below_alloc | apply pw_below_drewN | apply below_drew1) | exact HB.out)) hb); clear HO143; clear HB; have HO143 := n0_; have HO148 := n1_; have HB := n2_; clear n0_ n1_ n2_; (try clear hb); (try clear hb2); (try clear hk); (try clear hi); (try clear ho0)) | ((with_reducible refine gate_callee (f := 18) rfl ?_); refine goesL_ (some 53) rfl rfl Try.func18 (by kernel_rfl) rfl #[.string (⟨#[1]⟩ : ByteArray), .int .i64 0, .int .i64 1] rfl (by (try simp only [List.map_toArray, List.map_cons, List.map_nil]); first | done | rfl | (simp only [List.length_drop, List.length_take]; rfl)) ?_; (with_reducible refine (code_GetList.calls k (⟨#[1]⟩ : ByteArray) 0 1 t149 t150 t151 _ A7.out).mono ?_); rintro e w31 ⟨v152, rfl, ho0, hb⟩; refine ⟨_, rfl, ?_⟩; have n0_ := Aside0.mk (Kd.R_elder' (by (with_reducible repeat (first | apply Kd.R_alloc | apply Kd.R_drewN | apply Kd.R_drew)); exact HO143.out) (Kd.R_base ho0) hb); have n1_ := Aside0.mk (Kd.R_elder' (by (with_reducible repeat (first | apply Kd.R_alloc | apply Kd.R_drewN | apply Kd.R_drew)); exact HO148.out) (Kd.R_base ho0) hb); have n2_ := Aside0.mk (Kd.R_lower (Kd.R_new' (Kd.R_new' ho0 (Kd.R_lt (by (with_reducible repeat (first | apply Kd.R_alloc | apply Kd.R_drewN | apply Kd.R_drew)); exact HO143.out))) (Kd.R_lt (by (with_reducible repeat (first | apply Kd.R_alloc | apply Kd.R_drewN | apply Kd.R_drew)); exact HO148.out))) (below_size (by repeat (first | (with_reducible first | exact HB.out | apply below_alloc | apply pw_below_drewN | apply below_drew1) | exact HB.out)))); have n3_ := Aside0.mk (below_step (by repeat (first | (with_reducible first | exact HB.out | apply below_alloc | apply pw_below_drewN | apply below_drew1) | exact HB.out)) hb); clear HO143; clear HO148; clear HB; have HO143 := n0_; have HO148 := n1_; have HO153 := n2_; have HB := n3_; clear n0_ n1_ n2_ n3_; (try clear hb); (try clear hb2); (try clear hk); (try clear hi); (try clear ho0)) | ((with_reducible refine gate_callee (f := 11) rfl ?_); refine goesL_ (some 57) rfl rfl Try.func11 (by kernel_rfl) rfl #[.int .i64 0] rfl (by (try simp only [List.map_toArray, List.map_cons, List.map_nil]); first | done | rfl | (simp only [List.length_drop, List.length_take]; rfl)) ?_; (with_reducible refine (code_Put.calls k 0 t154 _ A8.out).mono ?_); rintro e w32 ⟨rfl, hb⟩; refine ⟨_, rfl, ?_⟩; have n0_ := Aside0.mk (Kd.R_below (by (with_reducible repeat (first | apply Kd.R_alloc | apply Kd.R_drewN | apply Kd.R_drew)); exact HO143.out) hb); have n1_ := Aside0.mk (Kd.R_below (by (with_reducible repeat (first | apply Kd.R_alloc | apply Kd.R_drewN | apply Kd.R_drew)); exact HO148.out) hb); have n2_ := Aside0.mk (Kd.R_below (by (with_reducible repeat (first | apply Kd.R_alloc | apply Kd.R_drewN | apply Kd.R_drew)); exact HO153.out) hb); have n3_ := Aside0.mk (below_step (by repeat (first | (with_reducible first | exact HB.out | apply below_alloc | apply pw_below_drewN | apply below_drew1) | exact HB.out)) hb); clear HO143; clear HO148; clear HO153; clear HB; have HO143 := n0_; have HO148 := n1_; have HO153 := n2_; have HB := n3_; clear n0_ n1_ n2_ n3_; (try clear hb); (try clear hb2); (try clear hk); (try clear hi)) | (go_at_call 11; (with_reducible refine (code_Put.calls k 0 t154 _ A8.out).mono ?_); rintro e w32 ⟨rfl, hb⟩; have n0_ := Aside0.mk (Kd.R_below (by (with_reducible repeat (first | apply Kd.R_alloc | apply Kd.R_drewN | apply Kd.R_drew)); exact HO143.out) hb); have n1_ := Aside0.mk (Kd.R_below (by (with_reducible repeat (first | apply Kd.R_alloc | apply Kd.R_drewN | apply Kd.R_drew)); exact HO148.out) hb); have n2_ := Aside0.mk (Kd.R_below (by (with_reducible repeat (first | apply Kd.R_alloc | apply Kd.R_drewN | apply Kd.R_drew)); exact HO153.out) hb); have n3_ := Aside0.mk (below_step (by repeat (first | (with_reducible first | exact HB.out | apply below_alloc | apply pw_below_drewN | apply below_drew1) | exact HB.out)) hb); clear HO143; clear HO148; clear HO153; clear HB; have HO143 := n0_; have HO148 := n1_; have HO153 := n2_; have HB := n3_; clear n0_ n1_ n2_ n3_; (try clear hb); (try clear hb2); (try clear hk); (try clear hi)) | (go_at_call 11; (with_reducible refine (code_Put.calls k (-1) t155 _ A10.out).mono ?_); rintro e w33 ⟨rfl, hb⟩; have n0_ := Aside0.mk (Kd.R_below (by (with_reducible repeat (first | apply Kd.R_alloc | apply Kd.R_drewN | apply Kd.R_drew)); exact HO143.out) hb); have n1_ := Aside0.mk (Kd.R_below (by (with_reducible repeat (first | apply Kd.R_alloc | apply Kd.R_drewN | apply Kd.R_drew)); exact HO148.out) hb); have n2_ := Aside0.mk (Kd.R_below (by (with_reducible repeat (first | apply Kd.R_alloc | apply Kd.R_drewN | apply Kd.R_drew)); exact HO153.out) hb); have n3_ := Aside0.mk (below_step (by repeat (first | (with_reducible first | exact HB.out | apply below_alloc | apply pw_below_drewN | apply below_drew1) | exact HB.out)) hb); clear HO143; clear HO148; clear HO153; clear HB; have HO143 := n0_; have HO148 := n1_; have HO153 := n2_; have HB := n3_; clear n0_ n1_ n2_ n3_; (try clear hb); (try clear hb2); (try clear hk); (try clear hi)) | (go_at_call 11; (with_reducible refine (code_Put.calls k 64 t156 _ A12.out).mono ?_); rintro e w34 ⟨rfl, hb⟩; have n0_ := Aside0.mk (Kd.R_below (by (with_reducible repeat (first | apply Kd.R_alloc | apply Kd.R_drewN | apply Kd.R_drew)); exact HO143.out) hb); have n1_ := Aside0.mk (Kd.R_below (by (with_reducible repeat (first | apply Kd.R_alloc | apply Kd.R_drewN | apply Kd.R_drew)); exact HO148.out) hb); have n2_ := Aside0.mk (Kd.R_below (by (with_reducible repeat (first | apply Kd.R_alloc | apply Kd.R_drewN | apply Kd.R_drew)); exact HO153.out) hb); have n3_ := Aside0.mk (below_step (by repeat (first | (with_reducible first | exact HB.out | apply below_alloc | apply pw_below_drewN | apply below_drew1) | exact HB.out)) hb); clear HO143; clear HO148; clear HO153; clear HB; have HO143 := n0_; have HO148 := n1_; have HO153 := n2_; have HB := n3_; clear n0_ n1_ n2_ n3_; (try clear hb); (try clear hb2); (try clear hk); (try clear hi)) | (go_at_call 13; (with_reducible refine (code_Size.calls k 64 t157 _ A14.out).mono ?_); rintro e w35 ⟨rfl, hb⟩; have n0_ := Aside0.mk (Kd.R_below (by (with_reducible repeat (first | apply Kd.R_alloc | apply Kd.R_drewN | apply Kd.R_drew)); exact HO143.out) hb); have n1_ := Aside0.mk (Kd.R_below (by (with_reducible repeat (first | apply Kd.R_alloc | apply Kd.R_drewN | apply Kd.R_drew)); exact HO148.out) hb); have n2_ := Aside0.mk (Kd.R_below (by (with_reducible repeat (first | apply Kd.R_alloc | apply Kd.R_drewN | apply Kd.R_drew)); exact HO153.out) hb); have n3_ := Aside0.mk (below_step (by repeat (first | (with_reducible first | exact HB.out | apply below_alloc | apply pw_below_drewN | apply below_drew1) | exact HB.out)) hb); clear HO143; clear HO148; clear HO153; clear HB; have HO143 := n0_; have HO148 := n1_; have HO153 := n2_; have HB := n3_; clear n0_ n1_ n2_ n3_; (try clear hb); (try clear hb2); (try clear hk); (try clear hi)) | ((with_reducible refine gate_dst (N := 97) rfl ?_); (try (refine gate_guard (by rfl) ?_; dsimp only)); refine Kd.R_lit (Kd.int .i64) _ 3 ?hg (N := 97) ?hd (xs := ([(-1), 1] : List Int)) (inner := [.int .i64 (-1), .int .i64 1]) (ok := fun _ => True) (okp := fun _ => True) ?hr ?hp (fun _ hk => hk) trivial (Below.refl _ _) (Nat.le_refl _) (by simp) ?_; (case hd => rfl); (case hg => rfl); (case hr => first | (go_simp; done) | (go_simp; rfl)); (case hp => exact (Reps.one (show Kd.M (Kd.int .i64) _ _ _ (-1) [.int .i64 (-1)] from rfl) (Reps.one (show Kd.M (Kd.int .i64) _ _ _ 1 [.int .i64 1] from rfl) (Reps.none _ _)))); intro v159 w36 ho37 hb hg_ hnew_; clear hg_ hnew_; (first | rw [← Ny158.out] at ho37 | (simp only [Int.reduceToNat] at ho37; rw [← Ny158.out] at ho37)); have n0_ := Aside0.mk (Kd.R_elder' (by (with_reducible repeat (first | apply Kd.R_alloc | apply Kd.R_drewN | apply Kd.R_drew)); exact HO143.out) (Kd.R_base ho37) hb); have n1_ := Aside0.mk (Kd.R_elder' (by (with_reducible repeat (first | apply Kd.R_alloc | apply Kd.R_drewN | apply Kd.R_drew)); exact HO148.out) (Kd.R_base ho37) hb); have n2_ := Aside0.mk (Kd.R_elder' (by (with_reducible repeat (first | apply Kd.R_alloc | apply Kd.R_drewN | apply Kd.R_drew)); exact HO153.out) (Kd.R_base ho37) hb); have n3_ := Aside0.mk (Kd.R_lower (Kd.R_new' (Kd.R_new' (Kd.R_new' ho37 (Kd.R_lt (by (with_reducible repeat (first | apply Kd.R_alloc | apply Kd.R_drewN | apply Kd.R_drew)); exact HO143.out))) (Kd.R_lt (by (with_reducible repeat (first | apply Kd.R_alloc | apply Kd.R_drewN | apply Kd.R_drew)); exact HO148.out))) (Kd.R_lt (by (with_reducible repeat (first | apply Kd.R_alloc | apply Kd.R_drewN | apply Kd.R_drew)); exact HO153.out))) (below_size (by repeat (first | (with_reducible first | exact HB.out | apply below_alloc | apply pw_below_drewN | apply below_drew1) | exact HB.out)))); have n4_ := Aside0.mk (below_step (by repeat (first | (with_reducible first | exact HB.out | apply below_alloc | apply pw_below_drewN | apply below_drew1) | exact HB.out)) hb); clear HO143; clear HO148; clear HO153; clear HB; have HO143 := n0_; have HO148 := n1_; have HO153 := n2_; have HO160 := n3_; have HB := n4_; clear n0_ n1_ n2_ n3_ n4_; clear hb ho37; obtain ⟨Ao38, co38, eo38⟩ := Kd.R_slice HO143.out; subst eo38; obtain ⟨Ao39, co39, eo39⟩ := Kd.R_slice HO160.out; subst eo39) | (go_at_call 20; (with_reducible refine (camshaftref02_Same.calls k _ _ t139 _ _ y158 true _ ?side1 ?side2 ?side3 ?side4 A22.out).mono ?_); (case side1 => repeat (first | exact (Kd.R_reads' HO143.out).2.2 | (with_reducible refine Kd.C_alloc ?_ _) | (with_reducible refine Kd.C_drewN ?_ _) | (with_reducible refine Kd.C_drew ?_))); (case side2 => exact (Kd.R_reads' HO143.out).2.1); (case side3 => repeat (first | exact (Kd.R_reads' HO160.out).2.2 | (with_reducible refine Kd.C_alloc ?_ _) | (with_reducible refine Kd.C_drewN ?_ _) | (with_reducible refine Kd.C_drew ?_))); (case side4 => exact (Kd.R_reads' HO160.out).2.1); rintro e w' ⟨rfl, ⟨nd, rfl⟩⟩) | ((with_reducible refine gate_dst (N := 117) rfl ?_); (try (refine gate_guard (by rfl) ?_; dsimp only)); refine Kd.R_lit (Kd.int .i64) _ 3 ?hg (N := 117) ?hd (xs := ([(-1), 1] : List Int)) (inner := [.int .i64 (-1), .int .i64 1]) (ok := fun _ => True) (okp := fun _ => True) ?hr ?hp (fun _ hk => hk) trivial (Below.refl _ _) (Nat.le_refl _) (by simp) ?_; (case hd => rfl); (case hg => rfl); (case hr => first | (go_simp; done) | (go_simp; rfl)); (case hp => exact (Reps.one (show Kd.M (Kd.int .i64) _ _ _ (-1) [.int .i64 (-1)] from rfl) (Reps.one (show Kd.M (Kd.int .i64) _ _ _ 1 [.int .i64 1] from rfl) (Reps.none _ _)))); intro v163 w40 ho41 hb hg_ hnew_; clear hg_ hnew_; (first | rw [← Ny162.out] at ho41 | (simp only [Int.reduceToNat] at ho41; rw [← Ny162.out] at ho41)); have n0_ := Aside0.mk (Kd.R_elder' (by (with_reducible repeat (first | apply Kd.R_alloc | apply Kd.R_drewN | apply Kd.R_drew)); exact HO143.out) (Kd.R_base ho41) hb); have n1_ := Aside0.mk (Kd.R_elder' (by (with_reducible repeat (first | apply Kd.R_alloc | apply Kd.R_drewN | apply Kd.R_drew)); exact HO148.out) (Kd.R_base ho41) hb); have n2_ := Aside0.mk (Kd.R_elder' (by (with_reducible repeat (first | apply Kd.R_alloc | apply Kd.R_drewN | apply Kd.R_drew)); exact HO153.out) (Kd.R_base ho41) hb); have n3_ := Aside0.mk (Kd.R_elder' (by (with_reducible repeat (first | apply Kd.R_alloc | apply Kd.R_drewN | apply Kd.R_drew)); exact HO160.out) (Kd.R_base ho41) hb); have n4_ := Aside0.mk (Kd.R_lower (Kd.R_new' (Kd.R_new' (Kd.R_new' (Kd.R_new' ho41 (Kd.R_lt (by (with_reducible repeat (first | apply Kd.R_alloc | apply Kd.R_drewN | apply Kd.R_drew)); exact HO143.out))) (Kd.R_lt (by (with_reducible repeat (first | apply Kd.R_alloc | apply Kd.R_drewN | apply Kd.R_drew)); exact HO148.out))) (Kd.R_lt (by (with_reducible repeat (first | apply Kd.R_alloc | apply Kd.R_drewN | apply Kd.R_drew)); exact HO153.out))) (Kd.R_lt (by (with_reducible repeat (first | apply Kd.R_alloc | apply Kd.R_drewN | apply Kd.R_drew)); exact HO160.out))) (below_size (by repeat (first | (with_reducible first | exact HB.out | apply below_alloc | apply pw_below_drewN | apply below_drew1) | exact HB.out)))); have n5_ := Aside0.mk (below_step (by repeat (first | (with_reducible first | exact HB.out | apply below_alloc | apply pw_below_drewN | apply below_drew1) | exact HB.out)) hb); clear HO143; clear HO148; clear HO153; clear HO160; clear HB; have HO143 := n0_; have HO148 := n1_; have HO153 := n2_; have HO160 := n3_; have HO164 := n4_; have HB := n5_; clear n0_ n1_ n2_ n3_ n4_ n5_; clear hb ho41; obtain ⟨Ao42, co42, eo42⟩ := Kd.R_slice HO164.out; subst eo42) | (go_at_call 14; (with_reducible refine (code_List.calls k _ _ y162 t165 _ ?side1 ?side2 A28.out).mono ?_); (case side1 => repeat (first | exact (Kd.R_reads' HO164.out).2.2 | (with_reducible refine Kd.C_alloc ?_ _) | (with_reducible refine Kd.C_drewN ?_ _) | (with_reducible refine Kd.C_drew ?_))); (case side2 => exact (Kd.R_reads' HO164.out).2.1); rintro e w43 ⟨rfl, hb⟩; have n0_ := Aside0.mk (Kd.R_below (by (with_reducible repeat (first | apply Kd.R_alloc | apply Kd.R_drewN | apply Kd.R_drew)); exact HO143.out) hb); have n1_ := Aside0.mk (Kd.R_below (by (with_reducible repeat (first | apply Kd.R_alloc | apply Kd.R_drewN | apply Kd.R_drew)); exact HO148.out) hb); have n2_ := Aside0.mk (Kd.R_below (by (with_reducible repeat (first | apply Kd.R_alloc | apply Kd.R_drewN | apply Kd.R_drew)); exact HO153.out) hb); have n3_ := Aside0.mk (Kd.R_below (by (with_reducible repeat (first | apply Kd.R_alloc | apply Kd.R_drewN | apply Kd.R_drew)); exact HO160.out) hb); have n4_ := Aside0.mk (Kd.R_below (by (with_reducible repeat (first | apply Kd.R_alloc | apply Kd.R_drewN | apply Kd.R_drew)); exact HO164.out) hb); have n5_ := Aside0.mk (below_step (by repeat (first | (with_reducible first | exact HB.out | apply below_alloc | apply pw_below_drewN | apply below_drew1) | exact HB.out)) hb); clear HO143; clear HO148; clear HO153; clear HO160; clear HO164; clear HB; have HO143 := n0_; have HO148 := n1_; have HO153 := n2_; have HO160 := n3_; have HO164 := n4_; have HB := n5_; clear n0_ n1_ n2_ n3_ n4_ n5_; (try clear hb); (try clear hb2); (try clear hk); (try clear hi)))
                                go_ret
                                exact ⟨by first | rfl | (simp [errW_none, errW_some] <;> rfl) | (simp [*, errW_none, errW_some] <;> rfl), by repeat (first | (with_reducible first | exact HB.out | apply below_alloc | apply pw_below_drewN | apply below_drew1) | exact HB.out | exact Below.refl _ _)⟩
                              · rw [if_neg c27] at H
                                have c27b0 : (t151 == 3) = false := beq_eq_false_iff_ne.mpr c27
                                have c27b1 : (t151 != 3) = true := bne_iff_ne.mpr c27
                                exact absurd ((Option.some.inj H).trans HT.out) (by decide)
                            · rw [if_neg c26] at H
                              have c26b0 : (t146 == 4) = false := beq_eq_false_iff_ne.mpr c26
                              have c26b1 : (t146 != 4) = true := bne_iff_ne.mpr c26
                              exact absurd ((Option.some.inj H).trans HT.out) (by decide)
                          · rw [if_neg c25] at H
                            have c25b0 : (t141 == 0) = false := beq_eq_false_iff_ne.mpr c25
                            have c25b1 : (t141 != 0) = true := bne_iff_ne.mpr c25
                            exact absurd ((Option.some.inj H).trans HT.out) (by decide)
                        · rw [if_neg c24] at H
                          have c24b0 : (t140 == 3) = false := beq_eq_false_iff_ne.mpr c24
                          have c24b1 : (t140 != 3) = true := bne_iff_ne.mpr c24
                          exact absurd ((Option.some.inj H).trans HT.out) (by decide)
                      · replace c23 := Bool.eq_false_iff.mpr c23
                        subst c23
                        have H1 : (some false) = some r := by rw [if_neg (show ¬ (false = true) by decide)] at H; exact H
                        clear H
                        have H := H1
                        clear H1
                        exact absurd ((Option.some.inj H).trans HT.out) (by decide)
                    · rw [if_neg c21] at H
                      have c21b0 : (t138 == 1) = false := beq_eq_false_iff_ne.mpr c21
                      have c21b1 : (t138 != 1) = true := bne_iff_ne.mpr c21
                      exact absurd ((Option.some.inj H).trans HT.out) (by decide)
                  · rw [if_neg c20] at H
                    have c20b0 : (t135 == 3) = false := beq_eq_false_iff_ne.mpr c20
                    have c20b1 : (t135 != 3) = true := bne_iff_ne.mpr c20
                    exact absurd ((Option.some.inj H).trans HT.out) (by decide)
                · rw [if_neg c19] at H
                  have c19b0 : (t132 == 2) = false := beq_eq_false_iff_ne.mpr c19
                  have c19b1 : (t132 != 2) = true := bne_iff_ne.mpr c19
                  exact absurd ((Option.some.inj H).trans HT.out) (by decide)
              · rw [if_neg c18] at H
                have c18b0 : (t129 == 0) = false := beq_eq_false_iff_ne.mpr c18
                have c18b1 : (t129 != 0) = true := bne_iff_ne.mpr c18
                exact absurd ((Option.some.inj H).trans HT.out) (by decide)
            · rw [if_neg c17] at H
              have c17b0 : (t128 == 3) = false := beq_eq_false_iff_ne.mpr c17
              have c17b1 : (t128 != 3) = true := bne_iff_ne.mpr c17
              exact absurd ((Option.some.inj H).trans HT.out) (by decide)
          · rw [if_neg c16] at H
            have c16b0 : (t127 == 64) = false := beq_eq_false_iff_ne.mpr c16
            have c16b1 : (t127 != 64) = true := bne_iff_ne.mpr c16
            exact absurd ((Option.some.inj H).trans HT.out) (by decide)
        · rw [if_neg c15] at H
          have c15b0 : (t157 == 2) = false := beq_eq_false_iff_ne.mpr c15
          have c15b1 : (t157 != 2) = true := bne_iff_ne.mpr c15
          exact absurd ((Option.some.inj H).trans HT.out) (by decide)
      · rw [if_neg c13] at H
        have c13b0 : (t156.toList == ([128, 1] : List UInt8)) = false := beq_eq_false_iff_ne.mpr c13
        have c13b1 : (t156.toList != ([128, 1] : List UInt8)) = true := bne_iff_ne.mpr c13
        exact absurd ((Option.some.inj H).trans HT.out) (by decide)
    · rw [if_neg c11] at H
      have c11b0 : (t155.toList == ([1] : List UInt8)) = false := beq_eq_false_iff_ne.mpr c11
      have c11b1 : (t155.toList != ([1] : List UInt8)) = true := bne_iff_ne.mpr c11
      exact absurd ((Option.some.inj H).trans HT.out) (by decide)
  · rw [if_neg c9] at H
    have c9b0 : (t154.toList == ([0] : List UInt8)) = false := beq_eq_false_iff_ne.mpr c9
    have c9b1 : (t154.toList != ([0] : List UInt8)) = true := bne_iff_ne.mpr c9
    exact absurd ((Option.some.inj H).trans HT.out) (by decide)

/-! ### camshaftref02_turned: function 22 -/
def camshaftref02_turned.f (a0 : Int) : Option (Int) := if a0 ≥ 0 then (some (IntKind.u64.wrap (2 * (IntKind.u64.wrap (a0))))) else (some (IntKind.u64.wrap ((IntKind.u64.wrap (2 * (IntKind.u64.wrap (wrap64 (-(wrap64 (a0 + 1))))))) + 1)))
set_option maxHeartbeats 8000000 in
set_option maxRecDepth 100000 in
theorem camshaftref02_turned.calls (a0 : Int) (r : Int) (w : World) (h : camshaftref02_turned.f a0 = some r) :
    Calls Try.prog 22 #[.int .i64 a0] w fun e w' => e = .returned (.int .u64 r) ∧ Drawn0 w w' := by
  have H : (if a0 ≥ 0 then (some (IntKind.u64.wrap (2 * (IntKind.u64.wrap (a0))))) else (some (IntKind.u64.wrap ((IntKind.u64.wrap (2 * (IntKind.u64.wrap (wrap64 (-(wrap64 (a0 + 1))))))) + 1)))) = some r := h
  clear h
  by_cases c2 : a0 ≥ 0
  · rw [if_pos c2] at H
    have c2b0 : decide (0 ≤ a0) = true := decide_eq_true c2
    clear c2
    obtain rfl := Option.some.inj H
    go_enter Try.func22, Try.ntmps22
    go_wp2
    go_ret
    exact ⟨by first | rfl | (simp; done) | (simp [*]; done), by repeat (first | exact Drawn0.refl _ | apply Drawn0.step)⟩
  · rw [if_neg c2] at H
    have c2b0 : decide (0 ≤ a0) = false := decide_eq_false c2
    clear c2
    obtain rfl := Option.some.inj H
    go_enter Try.func22, Try.ntmps22
    go_wp2
    go_ret
    exact ⟨by first | rfl | (simp; done) | (simp [*]; done), by repeat (first | exact Drawn0.refl _ | apply Drawn0.step)⟩

/-! ### camshaftref02_Put: function 12 -/
def camshaftref02_Put.l0 : Nat → Int → ByteArray → Option (ByteArray)
  | 0, _, _ => none
  | k + 1, x3, x4 => if x3 ≥ 128 then ((some (([(IntKind.u64.wrap ((Int.tmod x3 128) + 128)) % 256] : List Int) : List Int)).bind fun y167 => (if x4.size + (strOfNums y167).size ≤ 9223372036854775807 then (camshaftref02_Put.l0 k (IntKind.u64.wrap (Int.tdiv x3 128)) (x4 ++ (strOfNums y167))) else (none))) else ((some (([(x3) % 256] : List Int) : List Int)).bind fun y170 => (if x4.size + (strOfNums y170).size ≤ 9223372036854775807 then (some (x4 ++ (strOfNums y170))) else (none)))
def camshaftref02_Put.f (k : Nat) (a0 : Int) : Option (ByteArray) := (camshaftref02_turned.f a0).bind fun t166 => (camshaftref02_Put.l0 k t166 (⟨#[]⟩ : ByteArray))
theorem camshaftref02_Put.mono_l : ∀ k, (∀ y0 y1, LeO (camshaftref02_Put.l0 k y0 y1) (camshaftref02_Put.l0 (k + 1) y0 y1))
  | 0 => fun _ _ r h => by simp [camshaftref02_Put.l0] at h
  | k + 1 => by
    have ih0 := camshaftref02_Put.mono_l k
    · intro y0 y1
      unfold camshaftref02_Put.l0
      repeat' first
      | (with_reducible exact ih0 _ _)
      | (with_reducible exact LeO.refl _)
      | (with_reducible exact LeO.none _)
      | (with_reducible refine LeO.ite ?_ ?_)
      | (with_reducible refine LeO.bind ?_ (fun _ => ?_))
      | exact ih0 _ _
      | exact LeO.none _
      | refine LeO.ite ?_ ?_
      | refine LeO.bind ?_ (fun _ => ?_)
theorem camshaftref02_Put.mono : ∀ a0 k, LeO (camshaftref02_Put.f k a0) (camshaftref02_Put.f (k + 1) a0) := by
  intro a0 k
  have ih0 := camshaftref02_Put.mono_l k
  unfold camshaftref02_Put.f
  repeat' first
      | (with_reducible exact ih0 _ _)
      | (with_reducible exact LeO.refl _)
      | (with_reducible exact LeO.none _)
      | (with_reducible refine LeO.ite ?_ ?_)
      | (with_reducible refine LeO.bind ?_ (fun _ => ?_))
      | exact ih0 _ _
      | exact LeO.none _
      | refine LeO.ite ?_ ?_
      | refine LeO.bind ?_ (fun _ => ?_)
set_option maxHeartbeats 8000000 in
set_option maxRecDepth 100000 in
theorem camshaftref02_Put.calls (k : Nat) (a0 : Int) (r : ByteArray) (w : World) (h : camshaftref02_Put.f k a0 = some r) :
    Calls Try.prog 12 #[.int .i64 a0] w fun e w' => e = .returned (.string r) ∧ Below w.heap.size w w' := by
  have HB := Aside0.mk (Below.refl w.heap.size w)
  have H : ((camshaftref02_turned.f a0).bind fun t166 => (camshaftref02_Put.l0 k t166 (⟨#[]⟩ : ByteArray))) = some r := h
  clear h
  replace H := Option.bind_eq_some_iff.mp H
  obtain ⟨t166, A20, H⟩ := H
  replace H : (camshaftref02_Put.l0 k t166 (⟨#[]⟩ : ByteArray)) = some r := H
  have A2 := Aside0.mk A20
  clear A20
  have H' := Aside0.mk H
  clear H
  go_enter Try.func12, Try.ntmps12
  go_wp2_with (first | ((with_reducible refine gate_callee (f := 22) rfl ?_); refine goesL_ (some 6) rfl rfl Try.func22 (by kernel_rfl) rfl #[.int .i64 a0] rfl (by (try simp only [List.map_toArray, List.map_cons, List.map_nil]); first | done | rfl | (simp only [List.length_drop, List.length_take]; rfl)) ?_; (with_reducible refine (camshaftref02_turned.calls a0 t166 _ A2.out).mono ?_); rintro e w' ⟨rfl, ⟨nd, rfl⟩⟩; refine ⟨_, rfl, ?_⟩))
  go_loopg [3, 4] k (fun kq v3 v4 w' => ∃ (x3_1 : Int) (x4_1 : ByteArray), v3 = .int .u64 x3_1 ∧ v4 = .string x4_1 ∧ Aside0 (camshaftref02_Put.l0 kq x3_1 x4_1 = some r) ∧ Aside0 (kq ≤ k) ∧ Aside0 (Below w.heap.size w w'))
  case atStart => exact ⟨(t166), ((⟨#[]⟩ : ByteArray)), (by first | rfl | (simp; done) | (simp [*]; done)), (by first | rfl | (simp; done) | (simp [*]; done)), H', ⟨Nat.le_refl _⟩, ⟨by repeat (first | (with_reducible first | exact HB.out | apply below_alloc | apply pw_below_drewN | apply below_drew1) | exact HB.out)⟩⟩
  case round =>
    clear H'
    try clear c1
    try clear c2
    try clear p2
    obtain ⟨x3_1, x4_1, rfl, rfl, HA, HK1, HB⟩ := hrel
    cases gk with
    | zero => exact absurd HA.out (by simp [camshaftref02_Put.l0])
    | succ k1 =>
      have H := HA.out
      clear HA
      simp only [camshaftref02_Put.l0] at H
      by_cases c3 : x3_1 ≥ 128
      · rw [if_pos c3] at H
        have c3b0 : decide (128 ≤ x3_1) = true := decide_eq_true c3
        clear c3
        obtain ⟨y167, hy167⟩ : ∃ y_ : List Int, y_ = (([(IntKind.u64.wrap ((Int.tmod x3_1 128) + 128)) % 256] : List Int)) := ⟨_, rfl⟩
        replace H : (if x4_1.size + (strOfNums y167).size ≤ 9223372036854775807 then (camshaftref02_Put.l0 k1 (IntKind.u64.wrap (Int.tdiv x3_1 128)) (x4_1 ++ (strOfNums y167))) else (none)) = some r := by first | (rw [hy167]; with_reducible exact H) | (have H2_ := (Option.bind_some _ _).symm.trans H; rw [hy167]; with_reducible exact H2_) | (have H2_ := (Option.bind_some _ _).symm.trans H; with_reducible exact H2_) | with_reducible exact H | (rw [hy167]; exact H) | exact H
        have Ny167 := Aside0.mk hy167
        clear hy167
        by_cases c4 : x4_1.size + (strOfNums y167).size ≤ 9223372036854775807
        · rw [if_pos c4] at H
          have c4b0 := eq_true c4
          have c4b1 : decide (x4_1.size + (strOfNums y167).size ≤ 9223372036854775807) = true := decide_eq_true c4
          try have c4b2 : (9223372036854775807 < x4_1.size + (strOfNums y167).size) = False := eq_false (Nat.not_lt.2 c4)
          have H' := Aside0.mk H
          clear H
          go_wp2_with (first | ((with_reducible refine gate_dst (N := 14) rfl ?_); refine Kd.R_lit (Kd.int .u8) _ 5 ?hg (N := 14) ?hd (xs := ([(IntKind.u64.wrap ((Int.tmod x3_1 128) + 128)) % 256] : List Int)) (inner := [.int .u8 ((IntKind.u64.wrap ((Int.tmod x3_1 128) + 128)) % 256)]) (ok := fun _ => True) (okp := fun _ => True) ?hr ?hp (fun _ hk => hk) trivial (Below.refl _ _) (Nat.le_refl _) (by simp) ?_; (case hd => rfl); (case hg => rfl); (case hr => first | (go_simp; done) | (go_simp; rfl)); (case hp => exact (Reps.one (show Kd.M (Kd.int .u8) _ _ _ ((IntKind.u64.wrap ((Int.tmod x3_1 128) + 128)) % 256) [.int .u8 ((IntKind.u64.wrap ((Int.tmod x3_1 128) + 128)) % 256)] from rfl) (Reps.none _ _))); intro v168 w5 ho6 hb hg_ hnew_; clear hg_ hnew_; (first | rw [← Ny167.out] at ho6 | (simp only [Int.reduceToNat] at ho6; rw [← Ny167.out] at ho6)); have n0_ := Aside0.mk (Kd.R_lower ho6 (below_size (by repeat (first | (with_reducible first | exact HB.out | apply below_alloc | apply pw_below_drewN | apply below_drew1) | exact HB.out)))); have n1_ := Aside0.mk (below_step (by repeat (first | (with_reducible first | exact HB.out | apply below_alloc | apply pw_below_drewN | apply below_drew1) | exact HB.out)) hb); clear HB; have HO169 := n0_; have HB := n1_; clear n0_ n1_; clear hb ho6; have hcv7 := own_string (P := Try.prog) Try.underlying40 Try.underlying5 Try.underlying9 (Kd.own_of_R HO169.out)))
          go_roundg k1
          case measure => have := HK1.out; omega
          case rel => exact ⟨(IntKind.u64.wrap (Int.tdiv x3_1 128)), (x4_1 ++ (strOfNums y167)), (by first | rfl | (simp; done) | (simp [*]; done)), (by first | rfl | (simp; done) | (simp [*]; done)), H', ⟨by have := HK1.out; omega⟩, ⟨by repeat (first | (with_reducible first | exact HB.out | apply below_alloc | apply pw_below_drewN | apply below_drew1) | exact HB.out | exact Below.refl _ _)⟩⟩
        · rw [if_neg c4] at H
          exact absurd H (by simp)
      · rw [if_neg c3] at H
        have c3b0 : decide (128 ≤ x3_1) = false := decide_eq_false c3
        clear c3
        obtain ⟨y170, hy170⟩ : ∃ y_ : List Int, y_ = (([(x3_1) % 256] : List Int)) := ⟨_, rfl⟩
        replace H : (if x4_1.size + (strOfNums y170).size ≤ 9223372036854775807 then (some (x4_1 ++ (strOfNums y170))) else (none)) = some r := by first | (rw [hy170]; with_reducible exact H) | (have H2_ := (Option.bind_some _ _).symm.trans H; rw [hy170]; with_reducible exact H2_) | (have H2_ := (Option.bind_some _ _).symm.trans H; with_reducible exact H2_) | with_reducible exact H | (rw [hy170]; exact H) | exact H
        have Ny170 := Aside0.mk hy170
        clear hy170
        by_cases c8 : x4_1.size + (strOfNums y170).size ≤ 9223372036854775807
        · rw [if_pos c8] at H
          have c8b0 := eq_true c8
          have c8b1 : decide (x4_1.size + (strOfNums y170).size ≤ 9223372036854775807) = true := decide_eq_true c8
          try have c8b2 : (9223372036854775807 < x4_1.size + (strOfNums y170).size) = False := eq_false (Nat.not_lt.2 c8)
          obtain rfl := Option.some.inj H
          go_wp2_with (first | ((with_reducible refine gate_dst (N := 22) rfl ?_); refine Kd.R_lit (Kd.int .u8) _ 5 ?hg (N := 22) ?hd (xs := ([(x3_1) % 256] : List Int)) (inner := [.int .u8 ((x3_1) % 256)]) (ok := fun _ => True) (okp := fun _ => True) ?hr ?hp (fun _ hk => hk) trivial (Below.refl _ _) (Nat.le_refl _) (by simp) ?_; (case hd => rfl); (case hg => rfl); (case hr => first | (go_simp; done) | (go_simp; rfl)); (case hp => exact (Reps.one (show Kd.M (Kd.int .u8) _ _ _ ((x3_1) % 256) [.int .u8 ((x3_1) % 256)] from rfl) (Reps.none _ _))); intro v171 w9 ho10 hb hg_ hnew_; clear hg_ hnew_; (first | rw [← Ny170.out] at ho10 | (simp only [Int.reduceToNat] at ho10; rw [← Ny170.out] at ho10)); have n0_ := Aside0.mk (Kd.R_lower ho10 (below_size (by repeat (first | (with_reducible first | exact HB.out | apply below_alloc | apply pw_below_drewN | apply below_drew1) | exact HB.out)))); have n1_ := Aside0.mk (below_step (by repeat (first | (with_reducible first | exact HB.out | apply below_alloc | apply pw_below_drewN | apply below_drew1) | exact HB.out)) hb); clear HB; have HO172 := n0_; have HB := n1_; clear n0_ n1_; clear hb ho10; have hcv11 := own_string (P := Try.prog) Try.underlying40 Try.underlying5 Try.underlying9 (Kd.own_of_R HO172.out)))
          go_ret
          exact ⟨by first | rfl | (simp [errW_none, errW_some] <;> rfl) | (simp [*, errW_none, errW_some] <;> rfl), by repeat (first | (with_reducible first | exact HB.out | apply below_alloc | apply pw_below_drewN | apply below_drew1) | exact HB.out | exact Below.refl _ _)⟩
        · rw [if_neg c8] at H
          exact absurd H (by simp)

/-! ### camshaftref02_List: function 15 -/
def camshaftref02_List.l0 : Nat → List Int → ByteArray → Int → Option (ByteArray)
  | 0, _, _, _ => none
  | k + 1, x0, x3, x4 => if x4 < (x0.length : Int) then (if 0 ≤ x4 then ((camshaftref02_Put.f k (rd x0 x4)).bind fun t175 => (if x3.size + t175.size ≤ 9223372036854775807 then (camshaftref02_List.l0 k x0 (x3 ++ t175) (wrap64 (x4 + 1))) else (none))) else (none)) else (some x3)
def camshaftref02_List.f (k : Nat) (l0 : List Int) : Option (ByteArray) := (camshaftref02_Put.f k (l0.length : Int)).bind fun t173 => (camshaftref02_List.l0 k l0 t173 0)
theorem camshaftref02_List.mono_l : ∀ k, (∀ y0 y1 y2, LeO (camshaftref02_List.l0 k y0 y1 y2) (camshaftref02_List.l0 (k + 1) y0 y1 y2))
  | 0 => fun _ _ _ r h => by simp [camshaftref02_List.l0] at h
  | k + 1 => by
    have ih0 := camshaftref02_List.mono_l k
    · intro y0 y1 y2
      unfold camshaftref02_List.l0
      repeat' first
      | (with_reducible exact ih0 _ _ _)
      | (with_reducible exact camshaftref02_Put.mono _ _)
      | (with_reducible exact LeO.refl _)
      | (with_reducible exact LeO.none _)
      | (with_reducible refine LeO.ite ?_ ?_)
      | (with_reducible refine LeO.bind ?_ (fun _ => ?_))
      | exact ih0 _ _ _
      | exact camshaftref02_Put.mono _ _
      | exact LeO.none _
      | refine LeO.ite ?_ ?_
      | refine LeO.bind ?_ (fun _ => ?_)
theorem camshaftref02_List.mono : ∀ a0 k, LeO (camshaftref02_List.f k a0) (camshaftref02_List.f (k + 1) a0) := by
  intro a0 k
  have ih0 := camshaftref02_List.mono_l k
  unfold camshaftref02_List.f
  repeat' first
      | (with_reducible exact ih0 _ _ _)
      | (with_reducible exact camshaftref02_Put.mono _ _)
      | (with_reducible exact LeO.refl _)
      | (with_reducible exact LeO.none _)
      | (with_reducible refine LeO.ite ?_ ?_)
      | (with_reducible refine LeO.bind ?_ (fun _ => ?_))
      | exact ih0 _ _ _
      | exact camshaftref02_Put.mono _ _
      | exact LeO.none _
      | refine LeO.ite ?_ ?_
      | refine LeO.bind ?_ (fun _ => ?_)
set_option maxHeartbeats 8000000 in
set_option maxRecDepth 100000 in
theorem camshaftref02_List.calls (k : Nat) (A0 : Option Addr) (c0 : Nat) (l0 : List Int) (r : ByteArray) (w : World) (hr0 : Kd.C (Kd.int .i64) w A0 l0.length l0) (hc0 : l0.length ≤ c0) (h : camshaftref02_List.f k l0 = some r) :
    Calls Try.prog 15 #[.slice A0 l0.length c0] w fun e w' => e = .returned (.string r) ∧ Below w.heap.size w w' := by
  have HR0 := Aside0.mk hr0
  have HC0 := Aside0.mk hc0
  clear hr0 hc0
  have HB := Aside0.mk (Below.refl w.heap.size w)
  have H : ((camshaftref02_Put.f k (l0.length : Int)).bind fun t173 => (camshaftref02_List.l0 k l0 t173 0)) = some r := h
  clear h
  replace H := Option.bind_eq_some_iff.mp H
  obtain ⟨t173, A20, H⟩ := H
  replace H : (camshaftref02_List.l0 k l0 t173 0) = some r := H
  have A2 := Aside0.mk A20
  clear A20
  have H' := Aside0.mk H
  clear H
  go_enter Try.func15, Try.ntmps15
  go_wp2_with (first | ((with_reducible refine gate_callee (f := 12) rfl ?_); refine goesL_ (some 7) rfl rfl Try.func12 (by kernel_rfl) rfl #[.int .i64 (l0.length : Int)] rfl (by (try simp only [List.map_toArray, List.map_cons, List.map_nil]); first | done | rfl | (simp only [List.length_drop, List.length_take]; rfl)) ?_; (with_reducible refine (camshaftref02_Put.calls k (l0.length : Int) t173 _ A2.out).mono ?_); rintro e w3 ⟨rfl, hb⟩; refine ⟨_, rfl, ?_⟩; have n0_ := Aside0.mk (below_step (by repeat (first | (with_reducible first | exact HB.out | apply below_alloc | apply pw_below_drewN | apply below_drew1) | exact HB.out)) hb); clear HB; have HB := n0_; clear n0_; (try clear hb); (try clear hb2); (try clear hk); (try clear hi)))
  go_loopg [3, 4] k (fun kq v3 v4 w' => ∃ (x3_1 : ByteArray) (x4_1 : Int), v3 = .string x3_1 ∧ v4 = .int .i64 x4_1 ∧ Aside0 (camshaftref02_List.l0 kq l0 x3_1 x4_1 = some r) ∧ Aside0 (kq ≤ k) ∧ Aside0 (Below w.heap.size w w'))
  case atStart => exact ⟨(t173), (0), (by first | rfl | (simp; done) | (simp [*]; done)), (by first | rfl | (simp; done) | (simp [*]; done)), H', ⟨Nat.le_refl _⟩, ⟨by repeat (first | (with_reducible first | exact HB.out | apply below_alloc | apply pw_below_drewN | apply below_drew1) | exact HB.out)⟩⟩
  case round =>
    clear H'
    try clear c1
    try clear p2
    obtain ⟨x3_1, x4_1, rfl, rfl, HA, HK1, HB⟩ := hrel
    cases gk with
    | zero => exact absurd HA.out (by simp [camshaftref02_List.l0])
    | succ k1 =>
      have H := HA.out
      clear HA
      simp only [camshaftref02_List.l0] at H
      by_cases c4 : x4_1 < (l0.length : Int)
      · rw [if_pos c4] at H
        have c4b0 : decide (x4_1 < (l0.length : Int)) = true := decide_eq_true c4
        clear c4
        by_cases c5 : 0 ≤ x4_1
        · rw [if_pos c5] at H
          have c5b0 : decide (0 ≤ x4_1) = true := decide_eq_true c5
          clear c5
          replace H := Option.bind_eq_some_iff.mp H
          obtain ⟨t175, A60, H⟩ := H
          replace H : (if x3_1.size + t175.size ≤ 9223372036854775807 then (camshaftref02_List.l0 k1 l0 (x3_1 ++ t175) (wrap64 (x4_1 + 1))) else (none)) = some r := H
          have A6 := Aside0.mk A60
          clear A60
          by_cases c7 : x3_1.size + t175.size ≤ 9223372036854775807
          · rw [if_pos c7] at H
            have c7b0 := eq_true c7
            have c7b1 : decide (x3_1.size + t175.size ≤ 9223372036854775807) = true := decide_eq_true c7
            try have c7b2 : (9223372036854775807 < x3_1.size + t175.size) = False := eq_false (Nat.not_lt.2 c7)
            have H' := Aside0.mk H
            clear H
            have p174 : 0 ≤ (x4_1 : Int) := of_decide_eq_true (by first | (with_reducible assumption) | assumption)
            have q174 : x4_1 < (l0.length : Int) := of_decide_eq_true (by first | (with_reducible assumption) | assumption)
            obtain ⟨ad174, e174, hx174_0⟩ := Kd.at_int HR0.out x4_1 p174 q174
            cases e174
            replace hx174_0 := (HB.out.cell (World.block_lt_of_cell? w _ hx174_0)).trans hx174_0
            replace p174 := eq_true p174
            replace q174 := eq_true q174
            go_wp2_with (first | ((with_reducible refine gate_callee (f := 12) rfl ?_); refine goesL_ (some 19) rfl rfl Try.func12 (by kernel_rfl) rfl #[.int .i64 (rd l0 x4_1)] rfl (by (try simp only [List.map_toArray, List.map_cons, List.map_nil]); first | done | rfl | (simp only [List.length_drop, List.length_take]; rfl)) ?_; (with_reducible refine (camshaftref02_Put.calls k1 (rd l0 x4_1) t175 _ A6.out).mono ?_); rintro e w8 ⟨rfl, hb⟩; refine ⟨_, rfl, ?_⟩; have n0_ := Aside0.mk (below_step (by repeat (first | (with_reducible first | exact HB.out | apply below_alloc | apply pw_below_drewN | apply below_drew1) | exact HB.out)) hb); clear HB; have HB := n0_; clear n0_; (try clear hb); (try clear hb2); (try clear hk); (try clear hi)))
            go_roundg k1
            case measure => have := HK1.out; omega
            case rel => exact ⟨(x3_1 ++ t175), (wrap64 (x4_1 + 1)), (by first | rfl | (simp; done) | (simp [*]; done)), (by first | rfl | (simp; done) | (simp [*]; done)), H', ⟨by have := HK1.out; omega⟩, ⟨by repeat (first | (with_reducible first | exact HB.out | apply below_alloc | apply pw_below_drewN | apply below_drew1) | exact HB.out | exact Below.refl _ _)⟩⟩
          · rw [if_neg c7] at H
            exact absurd H (by simp)
        · rw [if_neg c5] at H
          exact absurd H (by simp)
      · rw [if_neg c4] at H
        have c4b0 : decide (x4_1 < (l0.length : Int)) = false := decide_eq_false c4
        clear c4
        obtain rfl := Option.some.inj H
        go_wp2
        go_ret
        exact ⟨by first | rfl | (simp [errW_none, errW_some] <;> rfl) | (simp [*, errW_none, errW_some] <;> rfl), by repeat (first | (with_reducible first | exact HB.out | apply below_alloc | apply pw_below_drewN | apply below_drew1) | exact HB.out | exact Below.refl _ _)⟩

end Go.Proofs.Yteioenlkdidpgaa.P
