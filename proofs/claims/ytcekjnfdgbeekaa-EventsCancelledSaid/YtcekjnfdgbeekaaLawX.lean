/- EventsCancelled: cancelled events are not taken out and all others are, in the same order as without them, for all lists. No conditions. -/
import Derived.Test.YtcekjnfdgbeekaaEvX
import Derived.Test.YtcekjnfdgbeekaaBounds
import Derived.Test.YtcekjnfdgbeekaaFrame
import Derived.Test.YtcekjnfdgbeekaaRows
namespace Go.Proofs.Ytcekjnfdgbeekaa
open Go.Wf Go.ChangeShapes Go.WideShapes Go.ChangeAt Go.RowKit Go.Joins
set_option linter.unusedVariables false

theorem own : ownKnob Try.prog.godebug = none := by kernel_rfl
theorem laidOut : laidOutB Try.prog = true := by kernel_rfl
theorem cells5 : Try.prog.cellsOf 5 = 1 := by kernel_rfl
theorem bytes5 : Try.prog.bytesOf 5 = 1 := by kernel_rfl
theorem list2 {α : Type _} {l : List α} (h : l.length = 2) : ∃ a0 a1, l = [a0, a1] := by
  match l, h with
  | [a0, a1], _ => exact ⟨a0, a1, rfl⟩
set_option maxHeartbeats 4000000 in
set_option maxRecDepth 100000 in
theorem eventsCancelled_lifted (os : Os) (started : os.Started) (H : Type) (enc : TypeId × Value → H) :
    ReturnsInHanded {} Try.checked os 4 .any (Rows.eventsCancelledSpec.pre6 enc Try.prog Try.f4 Rows.eventsCancelledRow.domain false) (Rows.eventsCancelledSpec.post enc Try.prog Try.f4 false true false false) := by
  refine law_lifted (C := Try.checked) started own laidOut (by kernel_rfl) Try.func4
    (ChangeSpec.witness6 (enc := enc) (C := Try.checked) false ⟨#[], #[.slice none 0 0, .slice none 0 0], []⟩ 8 (by kernel_rfl) (by kernel_rfl) (by kernel_rfl) (by kernel_rfl))
    (by rw [Try.params4]; intro t ht; simp only [List.mem_cons, List.not_mem_nil, or_false] at ht; rcases ht with rfl | rfl <;> exact ⟨by kernel_rfl, of_decide_eq_true (by kernel_rfl)⟩)
    rfl Try.underlying4 rfl (by rw [Try.params4]; intro ds h; match ds, h with | [_, _], _ => rfl) ?_
  rw [Try.params4]
  intro W args hlen hargs0
  have hargs : ∀ (j : Nat) t v, #[22, 22].toList[j]? = some t → args[j]? = some v → Arg Try.prog W t v := hargs0
  clear hargs0
  obtain ⟨a0, a1, rfl⟩ := list2 hlen
  have ht := Arg.slice Try.underlying22 (hargs 0 22 a0 rfl rfl)
  obtain ⟨v_0, l_0, e, hr_0, hq_0, hn_0⟩ := Tr.ints Try.underlying22 Try.underlying5 cells5 ht
  rw [bytes5] at hn_0
  obtain rfl : a0 = v_0 := by simpa using e
  have ht := Arg.slice Try.underlying22 (hargs 1 22 a1 rfl rfl)
  obtain ⟨v_1, l_1, e, hr_1, hq_1, hn_1⟩ := Tr.ints Try.underlying22 Try.underlying5 cells5 ht
  rw [bytes5] at hn_1
  obtain rfl : a1 = v_1 := by simpa using e
  exact law_cancelled l_0 l_1 _ _ W hr_0 (fun n hn => u8w (hq_0 n hn)) hr_1 (fun n hn => u8w (hq_1 n hn))

theorem eventsCancelled_holds : Rows.EventsCancelledSaid :=
  OpenClaim.holds_of_wide 4 Try.f4 rfl rfl rfl rfl rfl rfl rfl ⟨rfl, rfl, rfl, rfl, rfl⟩ rfl rfl rfl rfl rfl (by kernel_rfl) Try.func4 (by kernel_rfl)
    (of_decide_eq_true (by kernel_rfl)) (by unfold Func.isWrapper; first | (rw [if_pos (by decide +kernel)]; kernel_rfl) | (rw [if_neg (by decide +kernel)]; exact ⟨rfl, rfl⟩))
    (fun os started H enc _ => eventsCancelled_lifted os started H enc)
#print axioms eventsCancelled_holds
end Go.Proofs.Ytcekjnfdgbeekaa
