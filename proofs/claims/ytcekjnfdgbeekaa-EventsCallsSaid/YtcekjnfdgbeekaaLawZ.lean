/- EventsCalls: under any calls a queue returns the specified results, for every list of calls. No conditions. -/
import Derived.Test.YtcekjnfdgbeekaaEvZ
import Derived.Test.YtcekjnfdgbeekaaBounds
import Derived.Test.YtcekjnfdgbeekaaFrame
import Derived.Test.YtcekjnfdgbeekaaRows
namespace Go.Proofs.Ytcekjnfdgbeekaa
open Go.Wf Go.ChangeShapes Go.WideShapes Go.ChangeAt Go.RowKit Go.Joins
set_option linter.unusedVariables false

theorem own : ownKnob Try.prog.godebug = none := by kernel_rfl
theorem laidOut : laidOutB Try.prog = true := by kernel_rfl
theorem cells3 : Try.prog.cellsOf 3 = 1 := by kernel_rfl
theorem cells5 : Try.prog.cellsOf 5 = 1 := by kernel_rfl
theorem cells47 : Try.prog.cellsOf 47 = 3 := by kernel_rfl
theorem bytes47 : Try.prog.bytesOf 47 = 24 := by kernel_rfl
theorem list1 {α : Type _} {l : List α} (h : l.length = 1) : ∃ a, l = [a] := by
  match l, h with
  | [a], _ => exact ⟨a, rfl⟩
theorem list3 {α : Type _} {l : List α} (h : l.length = 3) : ∃ a0 a1 a2, l = [a0, a1, a2] := by
  match l, h with
  | [a0, a1, a2], _ => exact ⟨a0, a1, a2, rfl⟩
theorem hLen47 {W : World} {es : List Value} (h : Tr Try.prog W 47 es) : es.length = Try.prog.cellsOf 47 := (Tr.field Try.underlying47 h).1
set_option maxHeartbeats 4000000 in
set_option maxRecDepth 100000 in
theorem eventsCalls_lifted (os : Os) (started : os.Started) (H : Type) (enc : TypeId × Value → H) :
    ReturnsInHanded {} Try.checked os 7 .any (Rows.eventsCallsSpec.pre6 enc Try.prog Try.f7 Rows.eventsCallsRow.domain false) (Rows.eventsCallsSpec.post enc Try.prog Try.f7 false true false false) := by
  refine law_lifted (C := Try.checked) started own laidOut (by kernel_rfl) Try.func7
    (ChangeSpec.witness6 (enc := enc) (C := Try.checked) false ⟨#[], #[.slice none 0 0], []⟩ 8 (by kernel_rfl) (by kernel_rfl) (by kernel_rfl) (by kernel_rfl))
    (by rw [Try.params7]; intro t ht; simp only [List.mem_cons, List.not_mem_nil, or_false] at ht; rcases ht with rfl <;> exact ⟨by kernel_rfl, of_decide_eq_true (by kernel_rfl)⟩)
    rfl Try.underlying4 rfl (by rw [Try.params7]; intro ds h; match ds, h with | [_], _ => rfl) ?_
  rw [Try.params7]
  intro W args hlen hargs0
  have hargs : ∀ (j : Nat) t v, #[41].toList[j]? = some t → args[j]? = some v → Arg Try.prog W t v := hargs0
  clear hargs0
  obtain ⟨a0, rfl⟩ := list1 hlen
  have ht := Arg.slice Try.underlying41 (hargs 0 41 a0 rfl rfl)
  obtain ⟨v_0, l_0, e, hr_0, hq_0, hn_0⟩ := Tr.slice_of (α := Int × Int × Int) (Q := fun a => (Lit.int .u8 a.1).wf = true ∧ (Lit.int .i64 a.2.1).wf = true ∧ (Lit.int .i64 a.2.2).wf = true) (f := fun a => [.int .u8 a.1, .int .i64 a.2.1, .int .i64 a.2.2]) Try.underlying41 (by rw [cells47]; decide) (fun es h => by
      obtain ⟨c0, c1, c2, rfl⟩ := list3 ((hLen47 h).trans cells47)
      have ty_0 : Tr Try.prog W 5 [c0] := by have q := Tr.fieldAt Try.underlying47 h 0 _ rfl 1 cells5; exact q
      obtain ⟨y_0, e, hy_0⟩ := Tr.int Try.underlying5 ty_0
      obtain rfl : c0 = .int .u8 y_0 := by simpa using e
      have ty_1 : Tr Try.prog W 3 [c1] := by have q := Tr.fieldAt Try.underlying47 h 1 _ rfl 1 cells3; exact q
      obtain ⟨y_1, e, hy_1⟩ := Tr.int Try.underlying3 ty_1
      obtain rfl : c1 = .int .i64 y_1 := by simpa using e
      have ty_2 : Tr Try.prog W 3 [c2] := by have q := Tr.fieldAt Try.underlying47 h 2 _ rfl 1 cells3; exact q
      obtain ⟨y_2, e, hy_2⟩ := Tr.int Try.underlying3 ty_2
      obtain rfl : c2 = .int .i64 y_2 := by simpa using e
      exact ⟨(y_0, y_1, y_2), rfl, hy_0, hy_1, hy_2⟩) ht
  rw [cells47] at hr_0
  rw [bytes47] at hn_0
  obtain rfl : a0 = v_0 := by simpa using e
  exact law_calls l_0 _ W hr_0 (fun a ha => u8w (hq_0 a ha).1)

theorem eventsCalls_holds : Rows.EventsCallsSaid :=
  OpenClaim.holds_of_wide 7 Try.f7 rfl rfl rfl rfl rfl rfl rfl ⟨rfl, rfl, rfl, rfl, rfl⟩ rfl rfl rfl rfl rfl (by kernel_rfl) Try.func7 (by kernel_rfl)
    (of_decide_eq_true (by kernel_rfl)) (by unfold Func.isWrapper; first | (rw [if_pos (by decide +kernel)]; kernel_rfl) | (rw [if_neg (by decide +kernel)]; exact ⟨rfl, rfl⟩))
    (fun os started H enc _ => eventsCalls_lifted os started H enc)
#print axioms eventsCalls_holds
end Go.Proofs.Ytcekjnfdgbeekaa
