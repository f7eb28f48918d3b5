/- HeapSorts of the package waypointlaw03 returns true for every list of keys; no condition beyond the row. -/
import Derived.Test.YtknkakaffjhlmaaHpT
import Derived.Test.YtknkakaffjhlmaaFrame
namespace Go.Proofs.Ytknkakaffjhlmaa
open Go.Wf Go.ChangeShapes Go.WideShapes Go.ChangeAt Go.RowKit Go.Joins
set_option linter.unusedVariables false

theorem own : ownKnob Try.prog.godebug = none := by kernel_rfl
theorem laidOut : laidOutB Try.prog = true := by kernel_rfl
theorem cells3 : Try.prog.cellsOf 3 = 1 := by kernel_rfl
theorem bytes3 : Try.prog.bytesOf 3 = 8 := by kernel_rfl
theorem list1 {α : Type _} {l : List α} (h : l.length = 1) : ∃ a, l = [a] := by
  match l, h with
  | [a], _ => exact ⟨a, rfl⟩
set_option maxHeartbeats 4000000 in
set_option maxRecDepth 100000 in
theorem heapSorts_lifted (os : Os) (started : os.Started) (H : Type) (enc : TypeId × Value → H) :
    ReturnsInHanded {} Try.checked os 3 .any (Rows.heapSortsSpec.pre6 enc Try.prog Try.f3 Rows.heapSortsRow.domain false) (Rows.heapSortsSpec.post enc Try.prog Try.f3 false true false false) := by
  refine law_lifted (C := Try.checked) started own laidOut (by kernel_rfl) Try.func3
    (ChangeSpec.witness6 (enc := enc) (C := Try.checked) false ⟨#[], #[.slice none 0 0], []⟩ 8 (by kernel_rfl) (by kernel_rfl) (by kernel_rfl) (by kernel_rfl))
    (by rw [Try.params3]; intro t ht; simp only [List.mem_cons, List.not_mem_nil, or_false] at ht; rcases ht with rfl <;> exact ⟨by kernel_rfl, of_decide_eq_true (by kernel_rfl)⟩)
    rfl Try.underlying4 rfl (by rw [Try.params3]; intro ds h; match ds, h with | [_], _ => rfl) ?_
  rw [Try.params3]
  intro W args hlen hargs0
  have hargs : ∀ (j : Nat) t v, #[22].toList[j]? = some t → args[j]? = some v → Arg Try.prog W t v := hargs0
  clear hargs0
  obtain ⟨a0, rfl⟩ := list1 hlen
  have ht := Arg.slice Try.underlying22 (hargs 0 22 a0 rfl rfl)
  obtain ⟨v_0, l_0, e, hr_0, hq_0, hn_0⟩ := Tr.ints Try.underlying22 Try.underlying3 cells3 ht
  rw [bytes3] at hn_0
  obtain rfl : a0 = v_0 := by simpa using e
  exact law_sorts l_0 a0 W hr_0

theorem heapSorts_holds : Rows.HeapSortsSaid :=
  OpenClaim.holds_of_wide 3 Try.f3 rfl rfl rfl rfl rfl rfl rfl ⟨rfl, rfl, rfl, rfl, rfl⟩ rfl rfl rfl rfl rfl (by kernel_rfl) Try.func3 (by kernel_rfl)
    (of_decide_eq_true (by kernel_rfl)) (by unfold Func.isWrapper; first | (rw [if_pos (by decide +kernel)]; kernel_rfl) | (rw [if_neg (by decide +kernel)]; exact ⟨rfl, rfl⟩))
    (fun os started H enc _ => heapSorts_lifted os started H enc)
#print axioms heapSorts_holds
end Go.Proofs.Ytknkakaffjhlmaa
