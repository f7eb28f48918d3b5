/- ChannelSend of the package waypointlaw52 returns true for every line; no condition beyond the row. -/
import Derived.Test.YtgidkddkoopdfaaChV
import Derived.Test.YtgidkddkoopdfaaFrame
import Derived.Test.YtgidkddkoopdfaaRows
namespace Go.Proofs.Ytgidkddkoopdfaa
open Go.Wf Go.ChangeShapes Go.WideShapes Go.ChangeAt Go.RowKit Go.Joins
set_option linter.unusedVariables false

theorem own : ownKnob Try.prog.godebug = none := by kernel_rfl
theorem laidOut : laidOutB Try.prog = true := by kernel_rfl
theorem cells3 : Try.prog.cellsOf 3 = 1 := by kernel_rfl
theorem cells22 : Try.prog.cellsOf 22 = 1 := by kernel_rfl
theorem cells23 : Try.prog.cellsOf 23 = 1 := by kernel_rfl
theorem cells25 : Try.prog.cellsOf 25 = 5 := by kernel_rfl
theorem cells40 : Try.prog.cellsOf 40 = 2 := by kernel_rfl
theorem bytes3 : Try.prog.bytesOf 3 = 8 := by kernel_rfl
theorem bytes40 : Try.prog.bytesOf 40 = 16 := by kernel_rfl
theorem list1 {α : Type _} {l : List α} (h : l.length = 1) : ∃ a, l = [a] := by
  match l, h with
  | [a], _ => exact ⟨a, rfl⟩
theorem list2 {α : Type _} {l : List α} (h : l.length = 2) : ∃ a0 a1, l = [a0, a1] := by
  match l, h with
  | [a0, a1], _ => exact ⟨a0, a1, rfl⟩
theorem list5 {α : Type _} {l : List α} (h : l.length = 5) : ∃ a0 a1 a2 a3 a4, l = [a0, a1, a2, a3, a4] := by
  match l, h with
  | [a0, a1, a2, a3, a4], _ => exact ⟨a0, a1, a2, a3, a4, rfl⟩
theorem hLen40 {W : World} {es : List Value} (h : Tr Try.prog W 40 es) : es.length = Try.prog.cellsOf 40 := (Tr.field Try.underlying40 h).1
set_option maxHeartbeats 4000000 in
set_option maxRecDepth 100000 in
theorem channelSend_lifted (os : Os) (started : os.Started) (H : Type) (enc : TypeId × Value → H) :
    ReturnsInHanded {} Try.checked os 6 .any (Rows.channelSendSpec.pre6 enc Try.prog Try.f6 Rows.channelSendRow.domain false) (Rows.channelSendSpec.post enc Try.prog Try.f6 false true false false) := by
  refine law_lifted (C := Try.checked) started own laidOut (by kernel_rfl) Try.func6
    (ChangeSpec.witness6 (enc := enc) (C := Try.checked) false ⟨#[], #[.agg #[.int .i64 0, .int .i64 0, .int .i64 0, .slice none 0 0, .slice none 0 0]], []⟩ 8 (by kernel_rfl) (by kernel_rfl) (by kernel_rfl) (by kernel_rfl))
    (by rw [Try.params6]; intro t ht; simp only [List.mem_cons, List.not_mem_nil, or_false] at ht; rcases ht with rfl <;> exact ⟨by kernel_rfl, of_decide_eq_true (by kernel_rfl)⟩)
    rfl Try.underlying4 rfl (by rw [Try.params6]; intro ds h; match ds, h with | [_], _ => rfl) ?_
  rw [Try.params6]
  intro W args hlen hargs0
  have hargs : ∀ (j : Nat) t v, #[25].toList[j]? = some t → args[j]? = some v → Arg Try.prog W t v := hargs0
  clear hargs0
  obtain ⟨a0, rfl⟩ := list1 hlen
  obtain ⟨cs, rfl, hl, ht⟩ := Arg.agg (by rw [Try.underlying25]) (hargs 0 25 a0 rfl rfl)
  obtain ⟨c0_0, c0_1, c0_2, c0_3, c0_4, rfl⟩ := list5 (hl.trans cells25)
  have tx_0_0 : Tr Try.prog W 3 [c0_0] := by have q := Tr.fieldAt Try.underlying25 ht 0 _ rfl 1 cells3; exact q
  obtain ⟨x_0_0, e, hx_0_0⟩ := Tr.int Try.underlying3 tx_0_0
  obtain rfl : c0_0 = .int .i64 x_0_0 := by simpa using e
  have tx_0_1 : Tr Try.prog W 3 [c0_1] := by have q := Tr.fieldAt Try.underlying25 ht 1 _ rfl 1 cells3; exact q
  obtain ⟨x_0_1, e, hx_0_1⟩ := Tr.int Try.underlying3 tx_0_1
  obtain rfl : c0_1 = .int .i64 x_0_1 := by simpa using e
  have tx_0_2 : Tr Try.prog W 3 [c0_2] := by have q := Tr.fieldAt Try.underlying25 ht 2 _ rfl 1 cells3; exact q
  obtain ⟨x_0_2, e, hx_0_2⟩ := Tr.int Try.underlying3 tx_0_2
  obtain rfl : c0_2 = .int .i64 x_0_2 := by simpa using e
  have tx_0_3 : Tr Try.prog W 22 [c0_3] := by have q := Tr.fieldAt Try.underlying25 ht 3 _ rfl 1 cells22; exact q
  obtain ⟨v_0_3, l_0_3, e, hr_0_3, hq_0_3, hn_0_3⟩ := Tr.slice_of (α := Int × Int) (Q := fun a => (Lit.int .i64 a.1).wf = true ∧ (Lit.int .i64 a.2).wf = true) (f := fun a => [.int .i64 a.1, .int .i64 a.2]) Try.underlying22 (by rw [cells40]; decide) (fun es h => by
      obtain ⟨c0, c1, rfl⟩ := list2 ((hLen40 h).trans cells40)
      have ty_0 : Tr Try.prog W 3 [c0] := by have q := Tr.fieldAt Try.underlying40 h 0 _ rfl 1 cells3; exact q
      obtain ⟨y_0, e, hy_0⟩ := Tr.int Try.underlying3 ty_0
      obtain rfl : c0 = .int .i64 y_0 := by simpa using e
      have ty_1 : Tr Try.prog W 3 [c1] := by have q := Tr.fieldAt Try.underlying40 h 1 _ rfl 1 cells3; exact q
      obtain ⟨y_1, e, hy_1⟩ := Tr.int Try.underlying3 ty_1
      obtain rfl : c1 = .int .i64 y_1 := by simpa using e
      exact ⟨(y_0, y_1), rfl, hy_0, hy_1⟩) tx_0_3
  rw [cells40] at hr_0_3
  rw [bytes40] at hn_0_3
  obtain rfl : c0_3 = v_0_3 := by simpa using e
  have tx_0_4 : Tr Try.prog W 23 [c0_4] := by have q := Tr.fieldAt Try.underlying25 ht 4 _ rfl 1 cells23; exact q
  obtain ⟨v_0_4, l_0_4, e, hr_0_4, hq_0_4, hn_0_4⟩ := Tr.ints Try.underlying23 Try.underlying3 cells3 tx_0_4
  rw [bytes3] at hn_0_4
  obtain rfl : c0_4 = v_0_4 := by simpa using e
  exact law_send hr_0_3 hr_0_4

theorem channelSend_holds : Rows.ChannelSendSaid :=
  OpenClaim.holds_of_wide 6 Try.f6 rfl rfl rfl rfl rfl rfl rfl ⟨rfl, rfl, rfl, rfl, rfl⟩ rfl rfl rfl rfl rfl (by kernel_rfl) Try.func6 (by kernel_rfl)
    (of_decide_eq_true (by kernel_rfl)) (by unfold Func.isWrapper; first | (rw [if_pos (by decide +kernel)]; kernel_rfl) | (rw [if_neg (by decide +kernel)]; exact ⟨rfl, rfl⟩))
    (fun os started H enc _ => channelSend_lifted os started H enc)
#print axioms channelSend_holds
end Go.Proofs.Ytgidkddkoopdfaa
