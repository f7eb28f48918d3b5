/- HeapCalls of the package waypointlaw03 returns true for every size and list of calls; no condition beyond the row. -/
import Derived.Test.YtknkakaffjhlmaaHpW
import Derived.Test.YtknkakaffjhlmaaFrame
namespace Go.Proofs.Ytknkakaffjhlmaa
open Go.Wf Go.ChangeShapes Go.WideShapes Go.ChangeAt Go.RowKit Go.Joins
set_option linter.unusedVariables false

theorem own : ownKnob Try.prog.godebug = none := by kernel_rfl
theorem laidOut : laidOutB Try.prog = true := by kernel_rfl
theorem cells3 : Try.prog.cellsOf 3 = 1 := by kernel_rfl
theorem cells5 : Try.prog.cellsOf 5 = 1 := by kernel_rfl
theorem cells44 : Try.prog.cellsOf 44 = 3 := by kernel_rfl
theorem bytes44 : Try.prog.bytesOf 44 = 24 := by kernel_rfl
theorem list2 {α : Type _} {l : List α} (h : l.length = 2) : ∃ a0 a1, l = [a0, a1] := by
  match l, h with
  | [a0, a1], _ => exact ⟨a0, a1, rfl⟩
theorem list3 {α : Type _} {l : List α} (h : l.length = 3) : ∃ a0 a1 a2, l = [a0, a1, a2] := by
  match l, h with
  | [a0, a1, a2], _ => exact ⟨a0, a1, a2, rfl⟩
theorem hLen44 {W : World} {es : List Value} (h : Tr Try.prog W 44 es) : es.length = Try.prog.cellsOf 44 := (Tr.field Try.underlying44 h).1
set_option maxHeartbeats 4000000 in
set_option maxRecDepth 100000 in
theorem heapCalls_lifted (os : Os) (started : os.Started) (H : Type) (enc : TypeId × Value → H) :
    ReturnsInHanded {} Try.checked os 6 .any (Rows.heapCallsSpec.pre6 enc Try.prog Try.f6 Rows.heapCallsRow.domain false) (Rows.heapCallsSpec.post enc Try.prog Try.f6 false true false false) := by
  refine law_lifted (C := Try.checked) started own laidOut (by kernel_rfl) Try.func6
    (ChangeSpec.witness6 (enc := enc) (C := Try.checked) false ⟨#[], #[.int .u8 0, .slice none 0 0], []⟩ 8 (by kernel_rfl) (by kernel_rfl) (by kernel_rfl) (by kernel_rfl))
    (by rw [Try.params6]; intro t ht; simp only [List.mem_cons, List.not_mem_nil, or_false] at ht; rcases ht with rfl | rfl <;> exact ⟨by kernel_rfl, of_decide_eq_true (by kernel_rfl)⟩)
    rfl Try.underlying4 rfl (by rw [Try.params6]; intro ds h; match ds, h with | [_, _], _ => rfl) ?_
  rw [Try.params6]
  intro W args hlen hargs0
  have hargs : ∀ (j : Nat) t v, #[5, 42].toList[j]? = some t → args[j]? = some v → Arg Try.prog W t v := hargs0
  clear hargs0
  obtain ⟨a0, a1, rfl⟩ := list2 hlen
  obtain ⟨x_0, rfl, hx_0⟩ := Arg.int Try.underlying5 (hargs 0 5 a0 rfl rfl)
  have ht := Arg.slice Try.underlying42 (hargs 1 42 a1 rfl rfl)
  obtain ⟨v_1, l_1, e, hr_1, hq_1, hn_1⟩ := Tr.slice_of (α := Int × Int × Int) (Q := fun a => (Lit.int .u8 a.1).wf = true ∧ (Lit.int .i64 a.2.1).wf = true ∧ (Lit.int .i64 a.2.2).wf = true) (f := fun a => [.int .u8 a.1, .int .i64 a.2.1, .int .i64 a.2.2]) Try.underlying42 (by rw [cells44]; decide) (fun es h => by
      obtain ⟨c0, c1, c2, rfl⟩ := list3 ((hLen44 h).trans cells44)
      have ty_0 : Tr Try.prog W 5 [c0] := by have q := Tr.fieldAt Try.underlying44 h 0 _ rfl 1 cells5; exact q
      obtain ⟨y_0, e, hy_0⟩ := Tr.int Try.underlying5 ty_0
      obtain rfl : c0 = .int .u8 y_0 := by simpa using e
      have ty_1 : Tr Try.prog W 3 [c1] := by have q := Tr.fieldAt Try.underlying44 h 1 _ rfl 1 cells3; exact q
      obtain ⟨y_1, e, hy_1⟩ := Tr.int Try.underlying3 ty_1
      obtain rfl : c1 = .int .i64 y_1 := by simpa using e
      have ty_2 : Tr Try.prog W 3 [c2] := by have q := Tr.fieldAt Try.underlying44 h 2 _ rfl 1 cells3; exact q
      obtain ⟨y_2, e, hy_2⟩ := Tr.int Try.underlying3 ty_2
      obtain rfl : c2 = .int .i64 y_2 := by simpa using e
      exact ⟨(y_0, y_1, y_2), rfl, hy_0, hy_1, hy_2⟩) ht
  rw [cells44] at hr_1
  rw [bytes44] at hn_1
  obtain rfl : a1 = v_1 := by simpa using e
  exact law_calls x_0 (bounds_u8 hx_0) l_1 a1 W hr_1 (fun a ha => (hq_1 a ha).1)

theorem heapCalls_holds : Rows.HeapCallsSaid :=
  OpenClaim.holds_of_wide 6 Try.f6 rfl rfl rfl rfl rfl rfl rfl ⟨rfl, rfl, rfl, rfl, rfl⟩ rfl rfl rfl rfl rfl (by kernel_rfl) Try.func6 (by kernel_rfl)
    (of_decide_eq_true (by kernel_rfl)) (by unfold Func.isWrapper; first | (rw [if_pos (by decide +kernel)]; kernel_rfl) | (rw [if_neg (by decide +kernel)]; exact ⟨rfl, rfl⟩))
    (fun os started H enc _ => heapCalls_lifted os started H enc)
#print axioms heapCalls_holds
end Go.Proofs.Ytknkakaffjhlmaa
