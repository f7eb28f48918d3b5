/- IspfIdle: a greater cost, or the failure, of an arc that is on no shortest path to d changes no distance, for every topology, mask, node and arc. No conditions. -/
import Derived.Test.YthhhegmhgheeiaaIsR
import Derived.Test.YthhhegmhgheeiaaFrame
import Derived.Test.YthhhegmhgheeiaaRows
namespace Go.Proofs.Ythhhegmhgheeiaa
open Go.Wf Go.ChangeShapes Go.WideShapes Go.ChangeAt Go.RowKit Go.Joins
set_option linter.unusedVariables false

theorem own : ownKnob Try.prog.godebug = none := by kernel_rfl
theorem laidOut : laidOutB Try.prog = true := by kernel_rfl
theorem cells3 : Try.prog.cellsOf 3 = 1 := by kernel_rfl
theorem cells4 : Try.prog.cellsOf 4 = 1 := by kernel_rfl
theorem cells22 : Try.prog.cellsOf 22 = 1 := by kernel_rfl
theorem cells23 : Try.prog.cellsOf 23 = 1 := by kernel_rfl
theorem cells25 : Try.prog.cellsOf 25 = 3 := by kernel_rfl
theorem cells37 : Try.prog.cellsOf 37 = 2 := by kernel_rfl
theorem cells39 : Try.prog.cellsOf 39 = 7 := by kernel_rfl
theorem bytes4 : Try.prog.bytesOf 4 = 1 := by kernel_rfl
theorem bytes39 : Try.prog.bytesOf 39 = 56 := by kernel_rfl
theorem list3 {α : Type _} {l : List α} (h : l.length = 3) : ∃ a0 a1 a2, l = [a0, a1, a2] := by
  match l, h with
  | [a0, a1, a2], _ => exact ⟨a0, a1, a2, rfl⟩
theorem list4 {α : Type _} {l : List α} (h : l.length = 4) : ∃ a0 a1 a2 a3, l = [a0, a1, a2, a3] := by
  match l, h with
  | [a0, a1, a2, a3], _ => exact ⟨a0, a1, a2, a3, rfl⟩
theorem list7 {α : Type _} {l : List α} (h : l.length = 7) : ∃ a0 a1 a2 a3 a4 a5 a6, l = [a0, a1, a2, a3, a4, a5, a6] := by
  match l, h with
  | [a0, a1, a2, a3, a4, a5, a6], _ => exact ⟨a0, a1, a2, a3, a4, a5, a6, rfl⟩
theorem hLen39 {W : World} {es : List Value} (h : Tr Try.prog W 39 es) : es.length = Try.prog.cellsOf 39 := (Tr.field Try.underlying39 h).1
set_option maxHeartbeats 4000000 in
set_option maxRecDepth 100000 in
theorem ispfIdle_lifted (os : Os) (started : os.Started) (H : Type) (enc : TypeId × Value → H) :
    ReturnsInHanded {} Try.checked os 6 .any (Rows.ispfIdleSpec.pre6 enc Try.prog Try.f6 Rows.ispfIdleRow.domain false) (Rows.ispfIdleSpec.post enc Try.prog Try.f6 false true false false) := by
  refine law_lifted (C := Try.checked) started own laidOut (by kernel_rfl) Try.func6
    (ChangeSpec.witness6 (enc := enc) (C := Try.checked) false ⟨#[], #[.agg #[.int .i64 0, .slice none 0 0, .slice none 0 0], .slice none 0 0, .int .i64 0, .int .i64 0], []⟩ 8 (by kernel_rfl) (by kernel_rfl) (by kernel_rfl) (by kernel_rfl))
    (by rw [Try.params6]; intro t ht; simp only [List.mem_cons, List.not_mem_nil, or_false] at ht; rcases ht with rfl | rfl | rfl | rfl <;> exact ⟨by kernel_rfl, of_decide_eq_true (by kernel_rfl)⟩)
    rfl Try.underlying4 rfl (by rw [Try.params6]; intro ds h; match ds, h with | [_, _, _, _], _ => rfl) ?_
  rw [Try.params6]
  intro W args hlen hargs0
  have hargs : ∀ (j : Nat) t v, #[25, 22, 3, 3].toList[j]? = some t → args[j]? = some v → Arg Try.prog W t v := hargs0
  clear hargs0
  obtain ⟨a0, a1, a2, a3, rfl⟩ := list4 hlen
  obtain ⟨cs, rfl, hl, ht⟩ := Arg.agg (by rw [Try.underlying25]) (hargs 0 25 a0 rfl rfl)
  obtain ⟨c0_0, c0_1, c0_2, rfl⟩ := list3 (hl.trans cells25)
  have tx_0_0 : Tr Try.prog W 3 [c0_0] := by have q := Tr.fieldAt Try.underlying25 ht 0 _ rfl 1 cells3; exact q
  obtain ⟨x_0_0, e, hx_0_0⟩ := Tr.int Try.underlying3 tx_0_0
  obtain rfl : c0_0 = .int .i64 x_0_0 := by simpa using e
  have tx_0_1 : Tr Try.prog W 22 [c0_1] := by have q := Tr.fieldAt Try.underlying25 ht 1 _ rfl 1 cells22; exact q
  obtain ⟨v_0_1, l_0_1, e, hr_0_1, hn_0_1⟩ := Tr.bools Try.underlying22 Try.underlying4 cells4 tx_0_1
  rw [bytes4] at hn_0_1
  obtain rfl : c0_1 = v_0_1 := by simpa using e
  have tx_0_2 : Tr Try.prog W 23 [c0_2] := by have q := Tr.fieldAt Try.underlying25 ht 2 _ rfl 1 cells23; exact q
  obtain ⟨v_0_2, l_0_2, e, hr_0_2, hq_0_2, hn_0_2⟩ := Tr.slice_of (α := Int × Int × Int × Int × Int × Int × Int) (Q := fun a => (Lit.int .i64 a.1).wf = true ∧ (Lit.int .i64 a.2.1).wf = true ∧ (Lit.int .i64 a.2.2.1).wf = true ∧ (Lit.int .i64 a.2.2.2.1).wf = true ∧ (Lit.int .i64 a.2.2.2.2.1).wf = true ∧ (Lit.int .i64 a.2.2.2.2.2.1).wf = true ∧ (Lit.int .i64 a.2.2.2.2.2.2).wf = true) (f := fun a => [.int .i64 a.1, .int .i64 a.2.1, .int .i64 a.2.2.1, .int .i64 a.2.2.2.1, .int .i64 a.2.2.2.2.1, .int .i64 a.2.2.2.2.2.1, .int .i64 a.2.2.2.2.2.2]) Try.underlying23 (by rw [cells39]; decide) (fun es h => by
      obtain ⟨c0, c1, c2, c3, c4, c5, c6, rfl⟩ := list7 ((hLen39 h).trans cells39)
      have ty_0 : Tr Try.prog W 3 [c0] := by have q := Tr.fieldAt Try.underlying39 h 0 _ rfl 1 cells3; exact q
      obtain ⟨y_0, e, hy_0⟩ := Tr.int Try.underlying3 ty_0
      obtain rfl : c0 = .int .i64 y_0 := by simpa using e
      have ty_1 : Tr Try.prog W 3 [c1] := by have q := Tr.fieldAt Try.underlying39 h 1 _ rfl 1 cells3; exact q
      obtain ⟨y_1, e, hy_1⟩ := Tr.int Try.underlying3 ty_1
      obtain rfl : c1 = .int .i64 y_1 := by simpa using e
      have ty_2 : Tr Try.prog W 37 [c2, c3] := by have q := Tr.fieldAt Try.underlying39 h 2 _ rfl 2 cells37; exact q
      have ty_2_0 : Tr Try.prog W 3 [c2] := by have q := Tr.elemAt Try.underlying37 ty_2 0 (by omega) 1 cells3; exact q
      obtain ⟨y_2_0, e, hy_2_0⟩ := Tr.int Try.underlying3 ty_2_0
      obtain rfl : c2 = .int .i64 y_2_0 := by simpa using e
      have ty_2_1 : Tr Try.prog W 3 [c3] := by have q := Tr.elemAt Try.underlying37 ty_2 1 (by omega) 1 cells3; exact q
      obtain ⟨y_2_1, e, hy_2_1⟩ := Tr.int Try.underlying3 ty_2_1
      obtain rfl : c3 = .int .i64 y_2_1 := by simpa using e
      have ty_3 : Tr Try.prog W 3 [c4] := by have q := Tr.fieldAt Try.underlying39 h 3 _ rfl 1 cells3; exact q
      obtain ⟨y_3, e, hy_3⟩ := Tr.int Try.underlying3 ty_3
      obtain rfl : c4 = .int .i64 y_3 := by simpa using e
      have ty_4 : Tr Try.prog W 3 [c5] := by have q := Tr.fieldAt Try.underlying39 h 4 _ rfl 1 cells3; exact q
      obtain ⟨y_4, e, hy_4⟩ := Tr.int Try.underlying3 ty_4
      obtain rfl : c5 = .int .i64 y_4 := by simpa using e
      have ty_5 : Tr Try.prog W 3 [c6] := by have q := Tr.fieldAt Try.underlying39 h 5 _ rfl 1 cells3; exact q
      obtain ⟨y_5, e, hy_5⟩ := Tr.int Try.underlying3 ty_5
      obtain rfl : c6 = .int .i64 y_5 := by simpa using e
      exact ⟨(y_0, y_1, y_2_0, y_2_1, y_3, y_4, y_5), rfl, hy_0, hy_1, hy_2_0, hy_2_1, hy_3, hy_4, hy_5⟩) tx_0_2
  rw [cells39] at hr_0_2
  rw [bytes39] at hn_0_2
  obtain rfl : c0_2 = v_0_2 := by simpa using e
  have ht := Arg.slice Try.underlying22 (hargs 1 22 a1 rfl rfl)
  obtain ⟨v_1, l_1, e, hr_1, hn_1⟩ := Tr.bools Try.underlying22 Try.underlying4 cells4 ht
  rw [bytes4] at hn_1
  obtain rfl : a1 = v_1 := by simpa using e
  obtain ⟨x_2, rfl, hx_2⟩ := Arg.int Try.underlying3 (hargs 2 3 a2 rfl rfl)
  obtain ⟨x_3, rfl, hx_3⟩ := Arg.int Try.underlying3 (hargs 3 3 a3 rfl rfl)
  exact law_idle (tp := ⟨x_0_0, l_0_1, l_0_2.map toLk⟩) (dn := l_1) x_2 x_3 ⟨hr_0_1, by rw [List.map_map]; exact hr_0_2⟩ hr_1

theorem ispfIdle_k1 : Try.prog.inPlace 6 = Rows.ispfIdleRow.inPlace := by kernel_rfl
theorem ispfIdle_k2 : Try.prog.unfollowed 6 = Rows.ispfIdleRow.unfollowed := by kernel_rfl
theorem ispfIdle_k3 : Try.prog.recurses 6 = Rows.ispfIdleRow.recurses := by kernel_rfl
theorem ispfIdle_k4 : Try.prog.varsNamed 6 = Rows.ispfIdleRow.named := by kernel_rfl
theorem ispfIdle_k5 : mapsRowed Try.prog = true := by kernel_rfl
theorem ispfIdle_k6 : Try.prog.funcNamed Rows.ispfIdleRow.func = some 6 := by kernel_rfl
theorem ispfIdle_closed : joinedFacts Try.prog 6 Try.f6 Rows.ispfIdleSpec Rows.ispfIdleRow = true := by
  unfold joinedFacts
  rw [laidOut, ispfIdle_k5, ispfIdle_k1, ispfIdle_k2, ispfIdle_k3, ispfIdle_k4]
  kernel_rfl
theorem ispfIdle_holds : Rows.IspfIdleSaid :=
  OpenClaim.holds_of_wide 6 Try.f6 rfl rfl rfl rfl rfl rfl rfl ⟨rfl, rfl, rfl, rfl, rfl⟩ rfl rfl rfl rfl rfl ispfIdle_k6 Try.func6 ispfIdle_closed
    (of_decide_eq_true (by kernel_rfl)) (by unfold Func.isWrapper; first | (rw [if_pos (by decide +kernel)]; kernel_rfl) | (rw [if_neg (by decide +kernel)]; exact ⟨rfl, rfl⟩))
    (fun os started H enc _ => ispfIdle_lifted os started H enc)
#print axioms ispfIdle_holds
end Go.Proofs.Ythhhegmhgheeiaa
