/- StagesApart of the package waypointlaw37 returns true for all timers and times; no condition beyond the row. -/
import Derived.Test.YtlnbogggaajfbaaStH
import Derived.Test.YtlnbogggaajfbaaFrame
namespace Go.Proofs.Ytlnbogggaajfbaa
open Go.Wf Go.ChangeShapes Go.WideShapes Go.ChangeAt Go.RowKit Go.Joins
set_option linter.unusedVariables false

theorem own : ownKnob Try.prog.godebug = none := by kernel_rfl
theorem laidOut : laidOutB Try.prog = true := by kernel_rfl
theorem cells5 : Try.prog.cellsOf 5 = 1 := by kernel_rfl
theorem cells49 : Try.prog.cellsOf 49 = 2 := by kernel_rfl
theorem bytes49 : Try.prog.bytesOf 49 = 2 := by kernel_rfl
theorem list2 {α : Type _} {l : List α} (h : l.length = 2) : ∃ a0 a1, l = [a0, a1] := by
  match l, h with
  | [a0, a1], _ => exact ⟨a0, a1, rfl⟩
theorem list3 {α : Type _} {l : List α} (h : l.length = 3) : ∃ a0 a1 a2, l = [a0, a1, a2] := by
  match l, h with
  | [a0, a1, a2], _ => exact ⟨a0, a1, a2, rfl⟩
theorem hLen49 {W : World} {es : List Value} (h : Tr Try.prog W 49 es) : es.length = Try.prog.cellsOf 49 := (Tr.elem Try.underlying49 h).1
set_option maxHeartbeats 4000000 in
set_option maxRecDepth 100000 in
theorem stagesApart_lifted (os : Os) (started : os.Started) (H : Type) (enc : TypeId × Value → H) :
    ReturnsInHanded {} Try.checked os 6 .any (Rows.stagesApartSpec.pre6 enc Try.prog Try.f6 Rows.stagesApartRow.domain false) (Rows.stagesApartSpec.post enc Try.prog Try.f6 false true false false) := by
  refine law_lifted (C := Try.checked) started own laidOut (by kernel_rfl) Try.func6
    (ChangeSpec.witness6 (enc := enc) (C := Try.checked) false ⟨#[], #[.int .u8 0, .int .u8 0, .slice none 0 0], []⟩ 8 (by kernel_rfl) (by kernel_rfl) (by kernel_rfl) (by kernel_rfl))
    (by rw [Try.params6]; intro t ht; simp only [List.mem_cons, List.not_mem_nil, or_false] at ht; rcases ht with rfl | rfl | rfl <;> exact ⟨by kernel_rfl, of_decide_eq_true (by kernel_rfl)⟩)
    rfl Try.underlying4 rfl (by rw [Try.params6]; intro ds h; match ds, h with | [_, _, _], _ => rfl) ?_
  rw [Try.params6]
  intro W args hlen hargs0
  have hargs : ∀ (j : Nat) t v, #[5, 5, 47].toList[j]? = some t → args[j]? = some v → Arg Try.prog W t v := hargs0
  clear hargs0
  obtain ⟨a0, a1, a2, rfl⟩ := list3 hlen
  obtain ⟨x_0, rfl, hx_0⟩ := Arg.int Try.underlying5 (hargs 0 5 a0 rfl rfl)
  obtain ⟨x_1, rfl, hx_1⟩ := Arg.int Try.underlying5 (hargs 1 5 a1 rfl rfl)
  have ht := Arg.slice Try.underlying47 (hargs 2 47 a2 rfl rfl)
  obtain ⟨v_2, l_2, e, hr_2, hq_2, hn_2⟩ := Tr.slice_of (α := Int × Int) (Q := fun a => (Lit.int .u8 a.1).wf = true ∧ (Lit.int .u8 a.2).wf = true) (f := fun a => [.int .u8 a.1, .int .u8 a.2]) Try.underlying47 (by rw [cells49]; decide) (fun es h => by
      obtain ⟨c0, c1, rfl⟩ := list2 ((hLen49 h).trans cells49)
      have ty_0 : Tr Try.prog W 5 [c0] := by have q := Tr.elemAt Try.underlying49 h 0 (by omega) 1 cells5; exact q
      obtain ⟨y_0, e, hy_0⟩ := Tr.int Try.underlying5 ty_0
      obtain rfl : c0 = .int .u8 y_0 := by simpa using e
      have ty_1 : Tr Try.prog W 5 [c1] := by have q := Tr.elemAt Try.underlying49 h 1 (by omega) 1 cells5; exact q
      obtain ⟨y_1, e, hy_1⟩ := Tr.int Try.underlying5 ty_1
      obtain rfl : c1 = .int .u8 y_1 := by simpa using e
      exact ⟨(y_0, y_1), rfl, hy_0, hy_1⟩) ht
  rw [cells49] at hr_2
  rw [bytes49] at hn_2
  obtain rfl : a2 = v_2 := by simpa using e
  exact law_apart x_0 x_1 (bounds_u8 hx_0) (bounds_u8 hx_1) l_2 a2 W hr_2 hq_2

theorem stagesApart_holds : Rows.StagesApartSaid :=
  OpenClaim.holds_of_wide 6 Try.f6 rfl rfl rfl rfl rfl rfl rfl ⟨rfl, rfl, rfl, rfl, rfl⟩ rfl rfl rfl rfl rfl (by kernel_rfl) Try.func6 (by kernel_rfl)
    (of_decide_eq_true (by kernel_rfl)) (by unfold Func.isWrapper; first | (rw [if_pos (by decide +kernel)]; kernel_rfl) | (rw [if_neg (by decide +kernel)]; exact ⟨rfl, rfl⟩))
    (fun os started H enc _ => stagesApart_lifted os started H enc)
#print axioms stagesApart_holds
end Go.Proofs.Ytlnbogggaajfbaa
