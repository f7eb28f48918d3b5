/- The statement StagesOrder: a change leads through Old and Transition to Final, for all timers and any number of ticks; no condition. -/
import Derived.Test.YtlnbogggaajfbaaStE
import Derived.Test.YtlnbogggaajfbaaFrame
namespace Go.Proofs.Ytlnbogggaajfbaa
open Go.Wf Go.ChangeShapes Go.WideShapes Go.ChangeAt Go.RowKit Go.Joins
set_option linter.unusedVariables false

theorem own : ownKnob Try.prog.godebug = none := by kernel_rfl
theorem laidOut : laidOutB Try.prog = true := by kernel_rfl
theorem list3 {α : Type _} {l : List α} (h : l.length = 3) : ∃ a0 a1 a2, l = [a0, a1, a2] := by
  match l, h with
  | [a0, a1, a2], _ => exact ⟨a0, a1, a2, rfl⟩
set_option maxRecDepth 100000 in
theorem stagesOrder_lifted (os : Os) (started : os.Started) (H : Type) (enc : TypeId × Value → H) :
    ReturnsInHanded {} Try.checked os 4 .any (Rows.stagesOrderSpec.pre6 enc Try.prog Try.f4 Rows.stagesOrderRow.domain false) (Rows.stagesOrderSpec.post enc Try.prog Try.f4 false true false false) := by
  refine law_lifted (C := Try.checked) started own laidOut (by kernel_rfl) Try.func4
    (ChangeSpec.witness6 (enc := enc) (C := Try.checked) false ⟨#[], #[.int .u16 0, .int .u16 0, .int .u32 0], []⟩ 8 (by kernel_rfl) (by kernel_rfl) (by kernel_rfl) (by kernel_rfl))
    (by rw [Try.params4]; intro t ht; simp only [List.mem_cons, List.not_mem_nil, or_false] at ht; rcases ht with rfl | rfl | rfl <;> exact ⟨by kernel_rfl, of_decide_eq_true (by kernel_rfl)⟩)
    rfl Try.underlying4 rfl (by rw [Try.params4]; intro ds h; match ds, h with | [_, _, _], _ => rfl) ?_
  rw [Try.params4]
  intro W args hlen hargs0
  have hargs : ∀ (j : Nat) t v, #[38, 38, 39].toList[j]? = some t → args[j]? = some v → Arg Try.prog W t v := hargs0
  clear hargs0
  obtain ⟨a0, a1, a2, rfl⟩ := list3 hlen
  obtain ⟨x_0, rfl, hx_0⟩ := Arg.int Try.underlying38 (hargs 0 38 a0 rfl rfl)
  obtain ⟨x_1, rfl, hx_1⟩ := Arg.int Try.underlying38 (hargs 1 38 a1 rfl rfl)
  obtain ⟨x_2, rfl, hx_2⟩ := Arg.int Try.underlying39 (hargs 2 39 a2 rfl rfl)
  exact law_order x_0 x_1 x_2 (bounds_u16 hx_0) (bounds_u16 hx_1) (bounds_u32 hx_2) W

theorem stagesOrder_holds : Rows.StagesOrderSaid :=
  OpenClaim.holds_of_wide 4 Try.f4 rfl rfl rfl rfl rfl rfl rfl ⟨rfl, rfl, rfl, rfl, rfl⟩ rfl rfl rfl rfl rfl (by kernel_rfl) Try.func4 (by kernel_rfl)
    (of_decide_eq_true (by kernel_rfl)) (by unfold Func.isWrapper; first | (rw [if_pos (by decide +kernel)]; kernel_rfl) | (rw [if_neg (by decide +kernel)]; exact ⟨rfl, rfl⟩))
    (fun os started H enc _ => stagesOrder_lifted os started H enc)
#print axioms stagesOrder_holds
end Go.Proofs.Ytlnbogggaajfbaa
