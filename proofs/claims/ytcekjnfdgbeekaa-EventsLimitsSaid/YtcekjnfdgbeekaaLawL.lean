/- EventsLimits: times beyond the greatest one are rejected, and 65536 events are accepted and not more, for every time and number. No conditions. -/
import Derived.Test.YtcekjnfdgbeekaaEvL
import Derived.Test.YtcekjnfdgbeekaaBounds
import Derived.Test.YtcekjnfdgbeekaaFrame
import Derived.Test.YtcekjnfdgbeekaaRows
namespace Go.Proofs.Ytcekjnfdgbeekaa
open Go.Wf Go.ChangeShapes Go.WideShapes Go.ChangeAt Go.RowKit Go.Joins
set_option linter.unusedVariables false

theorem own : ownKnob Try.prog.godebug = none := by kernel_rfl
theorem laidOut : laidOutB Try.prog = true := by kernel_rfl
theorem list2 {α : Type _} {l : List α} (h : l.length = 2) : ∃ a0 a1, l = [a0, a1] := by
  match l, h with
  | [a0, a1], _ => exact ⟨a0, a1, rfl⟩
set_option maxHeartbeats 4000000 in
set_option maxRecDepth 100000 in
theorem eventsLimits_lifted (os : Os) (started : os.Started) (H : Type) (enc : TypeId × Value → H) :
    ReturnsInHanded {} Try.checked os 5 .any (Rows.eventsLimitsSpec.pre6 enc Try.prog Try.f5 Rows.eventsLimitsRow.domain false) (Rows.eventsLimitsSpec.post enc Try.prog Try.f5 false true false false) := by
  refine law_lifted (C := Try.checked) started own laidOut (by kernel_rfl) Try.func5
    (ChangeSpec.witness6 (enc := enc) (C := Try.checked) false ⟨#[], #[.int .i64 0, .int .u8 0], []⟩ 8 (by kernel_rfl) (by kernel_rfl) (by kernel_rfl) (by kernel_rfl))
    (by rw [Try.params5]; intro t ht; simp only [List.mem_cons, List.not_mem_nil, or_false] at ht; rcases ht with rfl | rfl <;> exact ⟨by kernel_rfl, of_decide_eq_true (by kernel_rfl)⟩)
    rfl Try.underlying4 rfl (by rw [Try.params5]; intro ds h; match ds, h with | [_, _], _ => rfl) ?_
  rw [Try.params5]
  intro W args hlen hargs0
  have hargs : ∀ (j : Nat) t v, #[3, 5].toList[j]? = some t → args[j]? = some v → Arg Try.prog W t v := hargs0
  clear hargs0
  obtain ⟨a0, a1, rfl⟩ := list2 hlen
  obtain ⟨x_0, rfl, hx_0⟩ := Arg.int Try.underlying3 (hargs 0 3 a0 rfl rfl)
  obtain ⟨x_1, rfl, hx_1⟩ := Arg.int Try.underlying5 (hargs 1 5 a1 rfl rfl)
  exact law_limits x_0 x_1 (u8w hx_1) W

theorem eventsLimits_holds : Rows.EventsLimitsSaid :=
  OpenClaim.holds_of_wide 5 Try.f5 rfl rfl rfl rfl rfl rfl rfl ⟨rfl, rfl, rfl, rfl, rfl⟩ rfl rfl rfl rfl rfl (by kernel_rfl) Try.func5 (by kernel_rfl)
    (of_decide_eq_true (by kernel_rfl)) (by unfold Func.isWrapper; first | (rw [if_pos (by decide +kernel)]; kernel_rfl) | (rw [if_neg (by decide +kernel)]; exact ⟨rfl, rfl⟩))
    (fun os started H enc _ => eventsLimits_lifted os started H enc)
#print axioms eventsLimits_holds
end Go.Proofs.Ytcekjnfdgbeekaa
