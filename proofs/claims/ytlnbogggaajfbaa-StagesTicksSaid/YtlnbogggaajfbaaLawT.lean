/- The statement StagesTicks: Tick answers as the law says, for every stage, all timers and any number; no condition. -/
import Derived.Test.YtlnbogggaajfbaaStE
import Derived.Test.YtlnbogggaajfbaaFrame
namespace Go.Proofs.Ytlnbogggaajfbaa
open Go.Wf Go.ChangeShapes Go.WideShapes Go.ChangeAt Go.RowKit Go.Joins
set_option linter.unusedVariables false

theorem own : ownKnob Try.prog.godebug = none := by kernel_rfl
theorem laidOut : laidOutB Try.prog = true := by kernel_rfl
theorem cells3 : Try.prog.cellsOf 3 = 1 := by kernel_rfl
theorem cells23 : Try.prog.cellsOf 23 = 2 := by kernel_rfl
theorem cells25 : Try.prog.cellsOf 25 = 2 := by kernel_rfl
theorem list2 {α : Type _} {l : List α} (h : l.length = 2) : ∃ a0 a1, l = [a0, a1] := by
  match l, h with
  | [a0, a1], _ => exact ⟨a0, a1, rfl⟩
theorem list3 {α : Type _} {l : List α} (h : l.length = 3) : ∃ a0 a1 a2, l = [a0, a1, a2] := by
  match l, h with
  | [a0, a1, a2], _ => exact ⟨a0, a1, a2, rfl⟩
set_option maxRecDepth 100000 in
theorem stagesTicks_lifted (os : Os) (started : os.Started) (H : Type) (enc : TypeId × Value → H) :
    ReturnsInHanded {} Try.checked os 3 .any (Rows.stagesTicksSpec.pre6 enc Try.prog Try.f3 Rows.stagesTicksRow.domain false) (Rows.stagesTicksSpec.post enc Try.prog Try.f3 false true false false) := by
  refine law_lifted (C := Try.checked) started own laidOut (by kernel_rfl) Try.func3
    (ChangeSpec.witness6 (enc := enc) (C := Try.checked) false ⟨#[], #[.agg #[.int .i64 0, .int .i64 0], .agg #[.int .i64 0, .int .i64 0], .int .i64 0], []⟩ 8 (by kernel_rfl) (by kernel_rfl) (by kernel_rfl) (by kernel_rfl))
    (by rw [Try.params3]; intro t ht; simp only [List.mem_cons, List.not_mem_nil, or_false] at ht; rcases ht with rfl | rfl | rfl <;> exact ⟨by kernel_rfl, of_decide_eq_true (by kernel_rfl)⟩)
    rfl Try.underlying4 rfl (by rw [Try.params3]; intro ds h; match ds, h with | [_, _, _], _ => rfl) ?_
  rw [Try.params3]
  intro W args hlen hargs0
  have hargs : ∀ (j : Nat) t v, #[23, 25, 3].toList[j]? = some t → args[j]? = some v → Arg Try.prog W t v := hargs0
  clear hargs0
  obtain ⟨a0, a1, a2, rfl⟩ := list3 hlen
  obtain ⟨cs, rfl, hl, ht⟩ := Arg.agg (by rw [Try.underlying23]) (hargs 0 23 a0 rfl rfl)
  obtain ⟨c0_0, c0_1, rfl⟩ := list2 (hl.trans cells23)
  have hx_0_0 : Tr Try.prog W 3 [c0_0] := by have q := Tr.fieldAt Try.underlying23 ht 0 _ rfl 1 cells3; exact q
  obtain ⟨x_0_0, e, hx_0_0⟩ := Tr.int Try.underlying3 hx_0_0
  obtain rfl : c0_0 = .int .i64 x_0_0 := by simpa using e
  have hx_0_1 : Tr Try.prog W 3 [c0_1] := by have q := Tr.fieldAt Try.underlying23 ht 1 _ rfl 1 cells3; exact q
  obtain ⟨x_0_1, e, hx_0_1⟩ := Tr.int Try.underlying3 hx_0_1
  obtain rfl : c0_1 = .int .i64 x_0_1 := by simpa using e
  obtain ⟨cs, rfl, hl, ht⟩ := Arg.agg (by rw [Try.underlying25]) (hargs 1 25 a1 rfl rfl)
  obtain ⟨c1_0, c1_1, rfl⟩ := list2 (hl.trans cells25)
  have hx_1_0 : Tr Try.prog W 3 [c1_0] := by have q := Tr.fieldAt Try.underlying25 ht 0 _ rfl 1 cells3; exact q
  obtain ⟨x_1_0, e, hx_1_0⟩ := Tr.int Try.underlying3 hx_1_0
  obtain rfl : c1_0 = .int .i64 x_1_0 := by simpa using e
  have hx_1_1 : Tr Try.prog W 3 [c1_1] := by have q := Tr.fieldAt Try.underlying25 ht 1 _ rfl 1 cells3; exact q
  obtain ⟨x_1_1, e, hx_1_1⟩ := Tr.int Try.underlying3 hx_1_1
  obtain rfl : c1_1 = .int .i64 x_1_1 := by simpa using e
  obtain ⟨x_2, rfl, hx_2⟩ := Arg.int Try.underlying3 (hargs 2 3 a2 rfl rfl)
  exact law_ticks x_0_0 x_0_1 x_1_0 x_1_1 x_2 (by have := bounds_i64 hx_2; omega) W

theorem stagesTicks_holds : Rows.StagesTicksSaid :=
  OpenClaim.holds_of_wide 3 Try.f3 rfl rfl rfl rfl rfl rfl rfl ⟨rfl, rfl, rfl, rfl, rfl⟩ rfl rfl rfl rfl rfl (by kernel_rfl) Try.func3 (by kernel_rfl)
    (of_decide_eq_true (by kernel_rfl)) (by unfold Func.isWrapper; first | (rw [if_pos (by decide +kernel)]; kernel_rfl) | (rw [if_neg (by decide +kernel)]; exact ⟨rfl, rfl⟩))
    (fun os started H enc _ => stagesTicks_lifted os started H enc)
#print axioms stagesTicks_holds
end Go.Proofs.Ytlnbogggaajfbaa
