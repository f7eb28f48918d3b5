/- EventsSorted: events that are added in any order are taken out in the order of their times, and with equal times in the order in which they were added, for every list of times. No conditions. -/
import Derived.Test.YtcekjnfdgbeekaaEvS
import Derived.Test.YtcekjnfdgbeekaaBounds
import Derived.Test.YtcekjnfdgbeekaaFrame
import Derived.Test.YtcekjnfdgbeekaaRows
namespace Go.Proofs.Ytcekjnfdgbeekaa
open Go.Wf Go.ChangeShapes Go.WideShapes Go.ChangeAt Go.RowKit Go.Joins
set_option linter.unusedVariables false

theorem own : ownKnob Try.prog.godebug = none := by kernel_rfl
theorem laidOut : laidOutB Try.prog = true := by kernel_rfl
theorem cells39 : Try.prog.cellsOf 39 = 1 := by kernel_rfl
theorem bytes39 : Try.prog.bytesOf 39 = 2 := by kernel_rfl
theorem list1 {α : Type _} {l : List α} (h : l.length = 1) : ∃ a, l = [a] := by
  match l, h with
  | [a], _ => exact ⟨a, rfl⟩
set_option maxHeartbeats 4000000 in
set_option maxRecDepth 100000 in
theorem eventsSorted_lifted (os : Os) (started : os.Started) (H : Type) (enc : TypeId × Value → H) :
    ReturnsInHanded {} Try.checked os 6 .any (Rows.eventsSortedSpec.pre6 enc Try.prog Try.f6 Rows.eventsSortedRow.domain false) (Rows.eventsSortedSpec.post enc Try.prog Try.f6 false true false false) := by
  refine law_lifted (C := Try.checked) started own laidOut (by kernel_rfl) Try.func6
    (ChangeSpec.witness6 (enc := enc) (C := Try.checked) false ⟨#[], #[.slice none 0 0], []⟩ 8 (by kernel_rfl) (by kernel_rfl) (by kernel_rfl) (by kernel_rfl))
    (by rw [Try.params6]; intro t ht; simp only [List.mem_cons, List.not_mem_nil, or_false] at ht; rcases ht with rfl <;> exact ⟨by kernel_rfl, of_decide_eq_true (by kernel_rfl)⟩)
    rfl Try.underlying4 rfl (by rw [Try.params6]; intro ds h; match ds, h with | [_], _ => rfl) ?_
  rw [Try.params6]
  intro W args hlen hargs0
  have hargs : ∀ (j : Nat) t v, #[38].toList[j]? = some t → args[j]? = some v → Arg Try.prog W t v := hargs0
  clear hargs0
  obtain ⟨a0, rfl⟩ := list1 hlen
  have ht := Arg.slice Try.underlying38 (hargs 0 38 a0 rfl rfl)
  obtain ⟨v_0, l_0, e, hr_0, hq_0, hn_0⟩ := Tr.ints Try.underlying38 Try.underlying39 cells39 ht
  rw [bytes39] at hn_0
  obtain rfl : a0 = v_0 := by simpa using e
  exact law_sorted l_0 _ W hr_0 (fun n hn => u16w (hq_0 n hn))

theorem eventsSorted_holds : Rows.EventsSortedSaid :=
  OpenClaim.holds_of_wide 6 Try.f6 rfl rfl rfl rfl rfl rfl rfl ⟨rfl, rfl, rfl, rfl, rfl⟩ rfl rfl rfl rfl rfl (by kernel_rfl) Try.func6 (by kernel_rfl)
    (of_decide_eq_true (by kernel_rfl)) (by unfold Func.isWrapper; first | (rw [if_pos (by decide +kernel)]; kernel_rfl) | (rw [if_neg (by decide +kernel)]; exact ⟨rfl, rfl⟩))
    (fun os started H enc _ => eventsSorted_lifted os started H enc)
#print axioms eventsSorted_holds
end Go.Proofs.Ytcekjnfdgbeekaa
