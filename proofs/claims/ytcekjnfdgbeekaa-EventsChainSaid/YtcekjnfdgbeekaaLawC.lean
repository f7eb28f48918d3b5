/- EventsChain: while each event adds another one, time never goes back and the events of one tick keep their order, for every list of delays and every number. No conditions. -/
import Derived.Test.YtcekjnfdgbeekaaEvC2
import Derived.Test.YtcekjnfdgbeekaaBounds
import Derived.Test.YtcekjnfdgbeekaaFrame
import Derived.Test.YtcekjnfdgbeekaaRows
namespace Go.Proofs.Ytcekjnfdgbeekaa
open Go.Wf Go.ChangeShapes Go.WideShapes Go.ChangeAt Go.RowKit Go.Joins
set_option linter.unusedVariables false

theorem own : ownKnob Try.prog.godebug = none := by kernel_rfl
theorem laidOut : laidOutB Try.prog = true := by kernel_rfl
theorem cells5 : Try.prog.cellsOf 5 = 1 := by kernel_rfl
theorem bytes5 : Try.prog.bytesOf 5 = 1 := by kernel_rfl
theorem list2 {α : Type _} {l : List α} (h : l.length = 2) : ∃ a0 a1, l = [a0, a1] := by
  match l, h with
  | [a0, a1], _ => exact ⟨a0, a1, rfl⟩
set_option maxHeartbeats 4000000 in
set_option maxRecDepth 100000 in
theorem eventsChain_lifted (os : Os) (started : os.Started) (H : Type) (enc : TypeId × Value → H) :
    ReturnsInHanded {} Try.checked os 3 .any (Rows.eventsChainSpec.pre6 enc Try.prog Try.f3 Rows.eventsChainRow.domain false) (Rows.eventsChainSpec.post enc Try.prog Try.f3 false true false false) := by
  refine law_lifted (C := Try.checked) started own laidOut (by kernel_rfl) Try.func3
    (ChangeSpec.witness6 (enc := enc) (C := Try.checked) false ⟨#[], #[.slice none 0 0, .int .u8 0], []⟩ 8 (by kernel_rfl) (by kernel_rfl) (by kernel_rfl) (by kernel_rfl))
    (by rw [Try.params3]; intro t ht; simp only [List.mem_cons, List.not_mem_nil, or_false] at ht; rcases ht with rfl | rfl <;> exact ⟨by kernel_rfl, of_decide_eq_true (by kernel_rfl)⟩)
    rfl Try.underlying4 rfl (by rw [Try.params3]; intro ds h; match ds, h with | [_, _], _ => rfl) ?_
  rw [Try.params3]
  intro W args hlen hargs0
  have hargs : ∀ (j : Nat) t v, #[22, 5].toList[j]? = some t → args[j]? = some v → Arg Try.prog W t v := hargs0
  clear hargs0
  obtain ⟨a0, a1, rfl⟩ := list2 hlen
  have ht := Arg.slice Try.underlying22 (hargs 0 22 a0 rfl rfl)
  obtain ⟨v_0, l_0, e, hr_0, hq_0, hn_0⟩ := Tr.ints Try.underlying22 Try.underlying5 cells5 ht
  rw [bytes5] at hn_0
  obtain rfl : a0 = v_0 := by simpa using e
  obtain ⟨x_1, rfl, hx_1⟩ := Arg.int Try.underlying5 (hargs 1 5 a1 rfl rfl)
  exact law_chain l_0 _ x_1 W hr_0 (fun n hn => u8w (hq_0 n hn)) (u8w hx_1)

theorem eventsChain_holds : Rows.EventsChainSaid :=
  OpenClaim.holds_of_wide 3 Try.f3 rfl rfl rfl rfl rfl rfl rfl ⟨rfl, rfl, rfl, rfl, rfl⟩ rfl rfl rfl rfl rfl (by kernel_rfl) Try.func3 (by kernel_rfl)
    (of_decide_eq_true (by kernel_rfl)) (by unfold Func.isWrapper; first | (rw [if_pos (by decide +kernel)]; kernel_rfl) | (rw [if_neg (by decide +kernel)]; exact ⟨rfl, rfl⟩))
    (fun os started H enc _ => eventsChain_lifted os started H enc)
#print axioms eventsChain_holds
end Go.Proofs.Ytcekjnfdgbeekaa
