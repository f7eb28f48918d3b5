/- HeapChanged of the package waypointlaw03 returns true for every list of keys, changes and removed items; no condition beyond the row. -/
import Derived.Test.YtknkakaffjhlmaaHpV
import Derived.Test.YtknkakaffjhlmaaFrame
namespace Go.Proofs.Ytknkakaffjhlmaa
open Go.Wf Go.ChangeShapes Go.WideShapes Go.ChangeAt Go.RowKit Go.Joins
set_option linter.unusedVariables false

theorem own : ownKnob Try.prog.godebug = none := by kernel_rfl
theorem laidOut : laidOutB Try.prog = true := by kernel_rfl
theorem cells3 : Try.prog.cellsOf 3 = 1 := by kernel_rfl
theorem cells5 : Try.prog.cellsOf 5 = 1 := by kernel_rfl
theorem cells37 : Try.prog.cellsOf 37 = 2 := by kernel_rfl
theorem bytes3 : Try.prog.bytesOf 3 = 8 := by kernel_rfl
theorem bytes5 : Try.prog.bytesOf 5 = 1 := by kernel_rfl
theorem bytes37 : Try.prog.bytesOf 37 = 16 := by kernel_rfl
theorem list2 {α : Type _} {l : List α} (h : l.length = 2) : ∃ a0 a1, l = [a0, a1] := by
  match l, h with
  | [a0, a1], _ => exact ⟨a0, a1, rfl⟩
theorem list3 {α : Type _} {l : List α} (h : l.length = 3) : ∃ a0 a1 a2, l = [a0, a1, a2] := by
  match l, h with
  | [a0, a1, a2], _ => exact ⟨a0, a1, a2, rfl⟩
theorem hLen37 {W : World} {es : List Value} (h : Tr Try.prog W 37 es) : es.length = Try.prog.cellsOf 37 := (Tr.elem Try.underlying37 h).1
set_option maxHeartbeats 4000000 in
set_option maxRecDepth 100000 in
theorem heapChanged_lifted (os : Os) (started : os.Started) (H : Type) (enc : TypeId × Value → H) :
    ReturnsInHanded {} Try.checked os 4 .any (Rows.heapChangedSpec.pre6 enc Try.prog Try.f4 Rows.heapChangedRow.domain false) (Rows.heapChangedSpec.post enc Try.prog Try.f4 false true false false) := by
  refine law_lifted (C := Try.checked) started own laidOut (by kernel_rfl) Try.func4
    (ChangeSpec.witness6 (enc := enc) (C := Try.checked) false ⟨#[], #[.slice none 0 0, .slice none 0 0, .slice none 0 0], []⟩ 8 (by kernel_rfl) (by kernel_rfl) (by kernel_rfl) (by kernel_rfl))
    (by rw [Try.params4]; intro t ht; simp only [List.mem_cons, List.not_mem_nil, or_false] at ht; rcases ht with rfl | rfl | rfl <;> exact ⟨by kernel_rfl, of_decide_eq_true (by kernel_rfl)⟩)
    rfl Try.underlying4 rfl (by rw [Try.params4]; intro ds h; match ds, h with | [_, _, _], _ => rfl) ?_
  rw [Try.params4]
  intro W args hlen hargs0
  have hargs : ∀ (j : Nat) t v, #[22, 33, 34].toList[j]? = some t → args[j]? = some v → Arg Try.prog W t v := hargs0
  clear hargs0
  obtain ⟨a0, a1, a2, rfl⟩ := list3 hlen
  have ht := Arg.slice Try.underlying22 (hargs 0 22 a0 rfl rfl)
  obtain ⟨v_0, l_0, e, hr_0, hq_0, hn_0⟩ := Tr.ints Try.underlying22 Try.underlying3 cells3 ht
  rw [bytes3] at hn_0
  obtain rfl : a0 = v_0 := by simpa using e
  have ht := Arg.slice Try.underlying33 (hargs 1 33 a1 rfl rfl)
  obtain ⟨v_1, l_1, e, hr_1, hq_1, hn_1⟩ := Tr.slice_of (α := Int × Int) (Q := fun a => (Lit.int .i64 a.1).wf = true ∧ (Lit.int .i64 a.2).wf = true) (f := fun a => [.int .i64 a.1, .int .i64 a.2]) Try.underlying33 (by rw [cells37]; decide) (fun es h => by
      obtain ⟨c0, c1, rfl⟩ := list2 ((hLen37 h).trans cells37)
      have ty_0 : Tr Try.prog W 3 [c0] := by have q := Tr.elemAt Try.underlying37 h 0 (by omega) 1 cells3; exact q
      obtain ⟨y_0, e, hy_0⟩ := Tr.int Try.underlying3 ty_0
      obtain rfl : c0 = .int .i64 y_0 := by simpa using e
      have ty_1 : Tr Try.prog W 3 [c1] := by have q := Tr.elemAt Try.underlying37 h 1 (by omega) 1 cells3; exact q
      obtain ⟨y_1, e, hy_1⟩ := Tr.int Try.underlying3 ty_1
      obtain rfl : c1 = .int .i64 y_1 := by simpa using e
      exact ⟨(y_0, y_1), rfl, hy_0, hy_1⟩) ht
  rw [cells37] at hr_1
  rw [bytes37] at hn_1
  obtain rfl : a1 = v_1 := by simpa using e
  have ht := Arg.slice Try.underlying34 (hargs 2 34 a2 rfl rfl)
  obtain ⟨v_2, l_2, e, hr_2, hq_2, hn_2⟩ := Tr.ints Try.underlying34 Try.underlying5 cells5 ht
  rw [bytes5] at hn_2
  obtain rfl : a2 = v_2 := by simpa using e
  exact law_changed l_0 l_2 l_1 a0 a1 a2 W hr_0 hr_1 hr_2 hq_2

theorem heapChanged_holds : Rows.HeapChangedSaid :=
  OpenClaim.holds_of_wide 4 Try.f4 rfl rfl rfl rfl rfl rfl rfl ⟨rfl, rfl, rfl, rfl, rfl⟩ rfl rfl rfl rfl rfl (by kernel_rfl) Try.func4 (by kernel_rfl)
    (of_decide_eq_true (by kernel_rfl)) (by unfold Func.isWrapper; first | (rw [if_pos (by decide +kernel)]; kernel_rfl) | (rw [if_neg (by decide +kernel)]; exact ⟨rfl, rfl⟩))
    (fun os started H enc _ => heapChanged_lifted os started H enc)
#print axioms heapChanged_holds
end Go.Proofs.Ytknkakaffjhlmaa
