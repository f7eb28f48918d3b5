/- EventsNil: the functions of a nil queue return the specified results, for every number. No conditions. -/
import Derived.Test.YtcekjnfdgbeekaaEvK
import Derived.Test.YtcekjnfdgbeekaaFrame
import Derived.Test.YtcekjnfdgbeekaaRows
namespace Go.Proofs.Ytcekjnfdgbeekaa
open Go.Wf Go.ChangeShapes Go.WideShapes Go.ChangeAt Go.RowKit Go.Joins
set_option linter.unusedVariables false

theorem own : ownKnob Try.prog.godebug = none := by kernel_rfl
theorem laidOut : laidOutB Try.prog = true := by kernel_rfl
theorem list1 {α : Type _} {l : List α} (h : l.length = 1) : ∃ a, l = [a] := by
  match l, h with
  | [a], _ => exact ⟨a, rfl⟩
set_option maxHeartbeats 4000000 in
set_option maxRecDepth 100000 in
theorem eventsNil_lifted (os : Os) (started : os.Started) (H : Type) (enc : TypeId × Value → H) :
    ReturnsInHanded {} Try.checked os 8 .any (Rows.eventsNilSpec.pre6 enc Try.prog Try.f8 Rows.eventsNilRow.domain false) (Rows.eventsNilSpec.post enc Try.prog Try.f8 false true false false) := by
  refine law_lifted (C := Try.checked) started own laidOut (by kernel_rfl) Try.func8
    (ChangeSpec.witness6 (enc := enc) (C := Try.checked) false ⟨#[], #[.int .i64 0], []⟩ 8 (by kernel_rfl) (by kernel_rfl) (by kernel_rfl) (by kernel_rfl))
    (by rw [Try.params8]; intro t ht; simp only [List.mem_cons, List.not_mem_nil, or_false] at ht; rcases ht with rfl <;> exact ⟨by kernel_rfl, of_decide_eq_true (by kernel_rfl)⟩)
    rfl Try.underlying4 rfl (by rw [Try.params8]; intro ds h; match ds, h with | [_], _ => rfl) ?_
  rw [Try.params8]
  intro W args hlen hargs0
  have hargs : ∀ (j : Nat) t v, #[3].toList[j]? = some t → args[j]? = some v → Arg Try.prog W t v := hargs0
  clear hargs0
  obtain ⟨a0, rfl⟩ := list1 hlen
  obtain ⟨x_0, rfl, hx_0⟩ := Arg.int Try.underlying3 (hargs 0 3 a0 rfl rfl)
  exact law_nil x_0 W

theorem eventsNil_holds : Rows.EventsNilSaid :=
  OpenClaim.holds_of_wide 8 Try.f8 rfl rfl rfl rfl rfl rfl rfl ⟨rfl, rfl, rfl, rfl, rfl⟩ rfl rfl rfl rfl rfl (by kernel_rfl) Try.func8 (by kernel_rfl)
    (of_decide_eq_true (by kernel_rfl)) (by unfold Func.isWrapper; first | (rw [if_pos (by decide +kernel)]; kernel_rfl) | (rw [if_neg (by decide +kernel)]; exact ⟨rfl, rfl⟩))
    (fun os started H enc _ => eventsNil_lifted os started H enc)
#print axioms eventsNil_holds
end Go.Proofs.Ytcekjnfdgbeekaa
