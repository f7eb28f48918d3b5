/- The statement StagesAdd: n ticks and then m ticks are n + m ticks, for every stage, all timers and any two numbers of 32 bits; no condition. -/
import Derived.Test.YtlnbogggaajfbaaStF
import Derived.Test.YtlnbogggaajfbaaFrame
namespace Go.Proofs.Ytlnbogggaajfbaa
open Go.Wf Go.ChangeShapes Go.WideShapes Go.ChangeAt Go.RowKit Go.Joins
set_option linter.unusedVariables false

theorem own : ownKnob Try.prog.godebug = none := by kernel_rfl
theorem laidOut : laidOutB Try.prog = true := by kernel_rfl
theorem cells3 : Try.prog.cellsOf 3 = 1 := by kernel_rfl
theorem cells23 : Try.prog.cellsOf 23 = 2 := by kernel_rfl
theorem cells25 : Try.prog.cellsOf 25 = 2 := by kernel_rfl
theorem cells39 : Try.prog.cellsOf 39 = 1 := by kernel_rfl
theorem cells45 : Try.prog.cellsOf 45 = 2 := by kernel_rfl
theorem list2 {α : Type _} {l : List α} (h : l.length = 2) : ∃ a0 a1, l = [a0, a1] := by
  match l, h with
  | [a0, a1], _ => exact ⟨a0, a1, rfl⟩
theorem list3 {α : Type _} {l : List α} (h : l.length = 3) : ∃ a0 a1 a2, l = [a0, a1, a2] := by
  match l, h with
  | [a0, a1, a2], _ => exact ⟨a0, a1, a2, rfl⟩
set_option maxRecDepth 100000 in
theorem stagesAdd_lifted (os : Os) (started : os.Started) (H : Type) (enc : TypeId × Value → H) :
    ReturnsInHanded {} Try.checked os 5 .any (Rows.stagesAddSpec.pre6 enc Try.prog Try.f5 Rows.stagesAddRow.domain false) (Rows.stagesAddSpec.post enc Try.prog Try.f5 false true false false) := by
  refine law_lifted (C := Try.checked) started own laidOut (by kernel_rfl) Try.func5
    (ChangeSpec.witness6 (enc := enc) (C := Try.checked) false ⟨#[], #[.agg #[.int .i64 0, .int .i64 0], .agg #[.int .i64 0, .int .i64 0], .agg #[.int .u32 0, .int .u32 0]], []⟩ 8 (by kernel_rfl) (by kernel_rfl) (by kernel_rfl) (by kernel_rfl))
    (by rw [Try.params5]; intro t ht; simp only [List.mem_cons, List.not_mem_nil, or_false] at ht; rcases ht with rfl | rfl | rfl <;> exact ⟨by kernel_rfl, of_decide_eq_true (by kernel_rfl)⟩)
    rfl Try.underlying4 rfl (by rw [Try.params5]; intro ds h; match ds, h with | [_, _, _], _ => rfl) ?_
  rw [Try.params5]
  intro W args hlen hargs0
  have hargs : ∀ (j : Nat) t v, #[23, 25, 45].toList[j]? = some t → args[j]? = some v → Arg Try.prog W t v := hargs0
  clear hargs0
  obtain ⟨a0, a1, a2, rfl⟩ := list3 hlen
  obtain ⟨cs, rfl, hl, ht⟩ := Arg.agg (by rw [Try.underlying23]) (hargs 0 23 a0 rfl rfl)
  obtain ⟨c0_0, c0_1, rfl⟩ := list2 (hl.trans cells23)
  have tx_0_0 : Tr Try.prog W 3 [c0_0] := by have q := Tr.fieldAt Try.underlying23 ht 0 _ rfl 1 cells3; exact q
  obtain ⟨x_0_0, e, hx_0_0⟩ := Tr.int Try.underlying3 tx_0_0
  obtain rfl : c0_0 = .int .i64 x_0_0 := by simpa using e
  have tx_0_1 : Tr Try.prog W 3 [c0_1] := by have q := Tr.fieldAt Try.underlying23 ht 1 _ rfl 1 cells3; exact q
  obtain ⟨x_0_1, e, hx_0_1⟩ := Tr.int Try.underlying3 tx_0_1
  obtain rfl : c0_1 = .int .i64 x_0_1 := by simpa using e
  obtain ⟨cs, rfl, hl, ht⟩ := Arg.agg (by rw [Try.underlying25]) (hargs 1 25 a1 rfl rfl)
  obtain ⟨c1_0, c1_1, rfl⟩ := list2 (hl.trans cells25)
  have tx_1_0 : Tr Try.prog W 3 [c1_0] := by have q := Tr.fieldAt Try.underlying25 ht 0 _ rfl 1 cells3; exact q
  obtain ⟨x_1_0, e, hx_1_0⟩ := Tr.int Try.underlying3 tx_1_0
  obtain rfl : c1_0 = .int .i64 x_1_0 := by simpa using e
  have tx_1_1 : Tr Try.prog W 3 [c1_1] := by have q := Tr.fieldAt Try.underlying25 ht 1 _ rfl 1 cells3; exact q
  obtain ⟨x_1_1, e, hx_1_1⟩ := Tr.int Try.underlying3 tx_1_1
  obtain rfl : c1_1 = .int .i64 x_1_1 := by simpa using e
  obtain ⟨cs, rfl, hl, ht⟩ := Arg.agg (by rw [Try.underlying45]) (hargs 2 45 a2 rfl rfl)
  obtain ⟨c2_0, c2_1, rfl⟩ := list2 (hl.trans cells45)
  have tx_2_0 : Tr Try.prog W 39 [c2_0] := by have q := Tr.elemAt Try.underlying45 ht 0 (by omega) 1 cells39; exact q
  obtain ⟨x_2_0, e, hx_2_0⟩ := Tr.int Try.underlying39 tx_2_0
  obtain rfl : c2_0 = .int .u32 x_2_0 := by simpa using e
  have tx_2_1 : Tr Try.prog W 39 [c2_1] := by have q := Tr.elemAt Try.underlying45 ht 1 (by omega) 1 cells39; exact q
  obtain ⟨x_2_1, e, hx_2_1⟩ := Tr.int Try.underlying39 tx_2_1
  obtain rfl : c2_1 = .int .u32 x_2_1 := by simpa using e
  exact law_add x_0_0 x_0_1 x_1_0 x_1_1 x_2_0 x_2_1 (bounds_u32 hx_2_0) (bounds_u32 hx_2_1) W

theorem stagesAdd_holds : Rows.StagesAddSaid :=
  OpenClaim.holds_of_wide 5 Try.f5 rfl rfl rfl rfl rfl rfl rfl ⟨rfl, rfl, rfl, rfl, rfl⟩ rfl rfl rfl rfl rfl (by kernel_rfl) Try.func5 (by kernel_rfl)
    (of_decide_eq_true (by kernel_rfl)) (by unfold Func.isWrapper; first | (rw [if_pos (by decide +kernel)]; kernel_rfl) | (rw [if_neg (by decide +kernel)]; exact ⟨rfl, rfl⟩))
    (fun os started H enc _ => stagesAdd_lifted os started H enc)
#print axioms stagesAdd_holds
end Go.Proofs.Ytlnbogggaajfbaa
