/- IspfState: Topology and Down return the topology and the mask after all changes, New with them returns an equal tree, and the arguments of New are copied, for every topology, mask, node and list of changes. No conditions. -/
import Derived.Test.YthhhegmhgheeiaaIsV
import Derived.Test.YthhhegmhgheeiaaFrame
import Derived.Test.YthhhegmhgheeiaaRows
namespace Go.Proofs.Ythhhegmhgheeiaa
open Go.Wf Go.ChangeShapes Go.WideShapes Go.ChangeAt Go.RowKit Go.Joins
set_option linter.unusedVariables false

theorem own : ownKnob Try.prog.godebug = none := by kernel_rfl
theorem laidOut : laidOutB Try.prog = true := by kernel_rfl
theorem cells3 : Try.prog.cellsOf 3 = 1 := by kernel_rfl
theorem cells4 : Try.prog.cellsOf 4 = 1 := by kernel_rfl
theorem cells22 : Try.prog.cellsOf 22 = 1 := by kernel_rfl
theorem cells23 : Try.prog.cellsOf 23 = 1 := by kernel_rfl
theorem cells25 : Try.prog.cellsOf 25 = 3 := by kernel_rfl
theorem cells37 : Try.prog.cellsOf 37 = 2 := by kernel_rfl
theorem cells39 : Try.prog.cellsOf 39 = 7 := by kernel_rfl
theorem cells41 : Try.prog.cellsOf 41 = 3 := by kernel_rfl
theorem bytes4 : Try.prog.bytesOf 4 = 1 := by kernel_rfl
theorem bytes39 : Try.prog.bytesOf 39 = 56 := by kernel_rfl
theorem bytes41 : Try.prog.bytesOf 41 = 24 := by kernel_rfl
theorem list3 {α : Type _} {l : List α} (h : l.length = 3) : ∃ a0 a1 a2, l = [a0, a1, a2] := by
  match l, h with
  | [a0, a1, a2], _ => exact ⟨a0, a1, a2, rfl⟩
theorem list4 {α : Type _} {l : List α} (h : l.length = 4) : ∃ a0 a1 a2 a3, l = [a0, a1, a2, a3] := by
  match l, h with
  | [a0, a1, a2, a3], _ => exact ⟨a0, a1, a2, a3, rfl⟩
theorem list7 {α : Type _} {l : List α} (h : l.length = 7) : ∃ a0 a1 a2 a3 a4 a5 a6, l = [a0, a1, a2, a3, a4, a5, a6] := by
  match l, h with
  | [a0, a1, a2, a3, a4, a5, a6], _ => exact ⟨a0, a1, a2, a3, a4, a5, a6, rfl⟩
theorem hLen39 {W : World} {es : List Value} (h : Tr Try.prog W 39 es) : es.length = Try.prog.cellsOf 39 := (Tr.field Try.underlying39 h).1
theorem hLen41 {W : World} {es : List Value} (h : Tr Try.prog W 41 es) : es.length = Try.prog.cellsOf 41 := (Tr.field Try.underlying41 h).1
set_option maxHeartbeats 4000000 in
set_option maxRecDepth 100000 in
theorem ispfState_lifted (os : Os) (started : os.Started) (H : Type) (enc : TypeId × Value → H) :
    ReturnsInHanded {} Try.checked os 3 .any (Rows.ispfStateSpec.pre6 enc Try.prog Try.f3 Rows.ispfStateRow.domain false) (Rows.ispfStateSpec.post enc Try.prog Try.f3 false true false false) := by
  refine law_lifted (C := Try.checked) started own laidOut (by kernel_rfl) Try.func3
    (ChangeSpec.witness6 (enc := enc) (C := Try.checked) false ⟨#[], #[.agg #[.int .i64 0, .slice none 0 0, .slice none 0 0], .slice none 0 0, .int .i64 0, .slice none 0 0], []⟩ 8 (by kernel_rfl) (by kernel_rfl) (by kernel_rfl) (by kernel_rfl))
    (by rw [Try.params3]; intro t ht; simp only [List.mem_cons, List.not_mem_nil, or_false] at ht; rcases ht with rfl | rfl | rfl | rfl <;> exact ⟨by kernel_rfl, of_decide_eq_true (by kernel_rfl)⟩)
    rfl Try.underlying4 rfl (by rw [Try.params3]; intro ds h; match ds, h with | [_, _, _, _], _ => rfl) ?_
  rw [Try.params3]
  intro W args hlen hargs0
  have hargs : ∀ (j : Nat) t v, #[25, 22, 3, 26].toList[j]? = some t → args[j]? = some v → Arg Try.prog W t v := hargs0
  clear hargs0
  obtain ⟨a0, a1, a2, a3, rfl⟩ := list4 hlen
  obtain ⟨cs, rfl, hl, ht⟩ := Arg.agg (by rw [Try.underlying25]) (hargs 0 25 a0 rfl rfl)
  obtain ⟨c0_0, c0_1, c0_2, rfl⟩ := list3 (hl.trans cells25)
  have tx_0_0 : Tr Try.prog W 3 [c0_0] := by have q := Tr.fieldAt Try.underlying25 ht 0 _ rfl 1 cells3; exact q
  obtain ⟨x_0_0, e, hx_0_0⟩ := Tr.int Try.underlying3 tx_0_0
  obtain rfl : c0_0 = .int .i64 x_0_0 := by simpa using e
  have tx_0_1 : Tr Try.prog W 22 [c0_1] := by have q := Tr.fieldAt Try.underlying25 ht 1 _ rfl 1 cells22; exact q
  obtain ⟨v_0_1, l_0_1, e, hr_0_1, hn_0_1⟩ := Tr.bools Try.underlying22 Try.underlying4 cells4 tx_0_1
  rw [bytes4] at hn_0_1
  obtain rfl : c0_1 = v_0_1 := by simpa using e
  have tx_0_2 : Tr Try.prog W 23 [c0_2] := by have q := Tr.fieldAt Try.underlying25 ht 2 _ rfl 1 cells23; exact q
  obtain ⟨v_0_2, l_0_2, e, hr_0_2, hq_0_2, hn_0_2⟩ := Tr.slice_of (α := Int × Int × Int × Int × Int × Int × Int) (Q := fun a => (Lit.int .i64 a.1).wf = true ∧ (Lit.int .i64 a.2.1).wf = true ∧ (Lit.int .i64 a.2.2.1).wf = true ∧ (Lit.int .i64 a.2.2.2.1).wf = true ∧ (Lit.int .i64 a.2.2.2.2.1).wf = true ∧ (Lit.int .i64 a.2.2.2.2.2.1).wf = true ∧ (Lit.int .i64 a.2.2.2.2.2.2).wf = true) (f := fun a => [.int .i64 a.1, .int .i64 a.2.1, .int .i64 a.2.2.1, .int .i64 a.2.2.2.1, .int .i64 a.2.2.2.2.1, .int .i64 a.2.2.2.2.2.1, .int .i64 a.2.2.2.2.2.2]) Try.underlying23 (by rw [cells39]; decide) (fun es h => by
      obtain ⟨c0, c1, c2, c3, c4, c5, c6, rfl⟩ := list7 ((hLen39 h).trans cells39)
      have ty_0 : Tr Try.prog W 3 [c0] := by have q := Tr.fieldAt Try.underlying39 h 0 _ rfl 1 cells3; exact q
      obtain ⟨y_0, e, hy_0⟩ := Tr.int Try.underlying3 ty_0
      obtain rfl : c0 = .int .i64 y_0 := by simpa using e
      have ty_1 : Tr Try.prog W 3 [c1] := by have q := Tr.fieldAt Try.underlying39 h 1 _ rfl 1 cells3; exact q
      obtain ⟨y_1, e, hy_1⟩ := Tr.int Try.underlying3 ty_1
      obtain rfl : c1 = .int .i64 y_1 := by simpa using e
      have ty_2 : Tr Try.prog W 37 [c2, c3] := by have q := Tr.fieldAt Try.underlying39 h 2 _ rfl 2 cells37; exact q
      have ty_2_0 : Tr Try.prog W 3 [c2] := by have q := Tr.elemAt Try.underlying37 ty_2 0 (by omega) 1 cells3; exact q
      obtain ⟨y_2_0, e, hy_2_0⟩ := Tr.int Try.underlying3 ty_2_0
      obtain rfl : c2 = .int .i64 y_2_0 := by simpa using e
      have ty_2_1 : Tr Try.prog W 3 [c3] := by have q := Tr.elemAt Try.underlying37 ty_2 1 (by omega) 1 cells3; exact q
      obtain ⟨y_2_1, e, hy_2_1⟩ := Tr.int Try.underlying3 ty_2_1
      obtain rfl : c3 = .int .i64 y_2_1 := by simpa using e
      have ty_3 : Tr Try.prog W 3 [c4] := by have q := Tr.fieldAt Try.underlying39 h 3 _ rfl 1 cells3; exact q
      obtain ⟨y_3, e, hy_3⟩ := Tr.int Try.underlying3 ty_3
      obtain rfl : c4 = .int .i64 y_3 := by simpa using e
      have ty_4 : Tr Try.prog W 3 [c5] := by have q := Tr.fieldAt Try.underlying39 h 4 _ rfl 1 cells3; exact q
      obtain ⟨y_4, e, hy_4⟩ := Tr.int Try.underlying3 ty_4
      obtain rfl : c5 = .int .i64 y_4 := by simpa using e
      have ty_5 : Tr Try.prog W 3 [c6] := by have q := Tr.fieldAt Try.underlying39 h 5 _ rfl 1 cells3; exact q
      obtain ⟨y_5, e, hy_5⟩ := Tr.int Try.underlying3 ty_5
      obtain rfl : c6 = .int .i64 y_5 := by simpa using e
      exact ⟨(y_0, y_1, y_2_0, y_2_1, y_3, y_4, y_5), rfl, hy_0, hy_1, hy_2_0, hy_2_1, hy_3, hy_4, hy_5⟩) tx_0_2
  rw [cells39] at hr_0_2
  rw [bytes39] at hn_0_2
  obtain rfl : c0_2 = v_0_2 := by simpa using e
  have ht := Arg.slice Try.underlying22 (hargs 1 22 a1 rfl rfl)
  obtain ⟨v_1, l_1, e, hr_1, hn_1⟩ := Tr.bools Try.underlying22 Try.underlying4 cells4 ht
  rw [bytes4] at hn_1
  obtain rfl : a1 = v_1 := by simpa using e
  obtain ⟨x_2, rfl, hx_2⟩ := Arg.int Try.underlying3 (hargs 2 3 a2 rfl rfl)
  have ht := Arg.slice Try.underlying26 (hargs 3 26 a3 rfl rfl)
  obtain ⟨v_3, l_3, e, hr_3, hq_3, hn_3⟩ := Tr.slice_of (α := Int × Int × Int) (Q := fun a => (Lit.int .i64 a.1).wf = true ∧ (Lit.int .i64 a.2.1).wf = true ∧ (Lit.int .i64 a.2.2).wf = true) (f := fun a => [.int .i64 a.1, .int .i64 a.2.1, .int .i64 a.2.2]) Try.underlying26 (by rw [cells41]; decide) (fun es h => by
      obtain ⟨c0, c1, c2, rfl⟩ := list3 ((hLen41 h).trans cells41)
      have ty_0 : Tr Try.prog W 3 [c0] := by have q := Tr.fieldAt Try.underlying41 h 0 _ rfl 1 cells3; exact q
      obtain ⟨y_0, e, hy_0⟩ := Tr.int Try.underlying3 ty_0
      obtain rfl : c0 = .int .i64 y_0 := by simpa using e
      have ty_1 : Tr Try.prog W 3 [c1] := by have q := Tr.fieldAt Try.underlying41 h 1 _ rfl 1 cells3; exact q
      obtain ⟨y_1, e, hy_1⟩ := Tr.int Try.underlying3 ty_1
      obtain rfl : c1 = .int .i64 y_1 := by simpa using e
      have ty_2 : Tr Try.prog W 3 [c2] := by have q := Tr.fieldAt Try.underlying41 h 2 _ rfl 1 cells3; exact q
      obtain ⟨y_2, e, hy_2⟩ := Tr.int Try.underlying3 ty_2
      obtain rfl : c2 = .int .i64 y_2 := by simpa using e
      exact ⟨(y_0, y_1, y_2), rfl, hy_0, hy_1, hy_2⟩) ht
  rw [cells41] at hr_3
  rw [bytes41] at hn_3
  obtain rfl : a3 = v_3 := by simpa using e
  exact law_state (tp := ⟨x_0_0, l_0_1, l_0_2.map toLk⟩) (dn := l_1) (l := l_3.map (fun a : Int × Int × Int => (⟨a.1, a.2.1, a.2.2⟩ : Act3))) x_2 ⟨hr_0_1, by rw [List.map_map]; exact hr_0_2⟩ hr_1 (by rw [List.map_map]; exact hr_3) (by have h := hn_3; unfold reachBytes at h; rw [List.length_map]; omega)

theorem ispfState_k1 : Try.prog.inPlace 3 = Rows.ispfStateRow.inPlace := by kernel_rfl
theorem ispfState_k2 : Try.prog.unfollowed 3 = Rows.ispfStateRow.unfollowed := by kernel_rfl
theorem ispfState_k3 : Try.prog.recurses 3 = Rows.ispfStateRow.recurses := by kernel_rfl
theorem ispfState_k4 : Try.prog.varsNamed 3 = Rows.ispfStateRow.named := by kernel_rfl
theorem ispfState_k5 : mapsRowed Try.prog = true := by kernel_rfl
theorem ispfState_k6 : Try.prog.funcNamed Rows.ispfStateRow.func = some 3 := by kernel_rfl
theorem ispfState_closed : joinedFacts Try.prog 3 Try.f3 Rows.ispfStateSpec Rows.ispfStateRow = true := by
  unfold joinedFacts
  rw [laidOut, ispfState_k5, ispfState_k1, ispfState_k2, ispfState_k3, ispfState_k4]
  kernel_rfl
theorem ispfState_holds : Rows.IspfStateSaid :=
  OpenClaim.holds_of_wide 3 Try.f3 rfl rfl rfl rfl rfl rfl rfl ⟨rfl, rfl, rfl, rfl, rfl⟩ rfl rfl rfl rfl rfl ispfState_k6 Try.func3 ispfState_closed
    (of_decide_eq_true (by kernel_rfl)) (by unfold Func.isWrapper; first | (rw [if_pos (by decide +kernel)]; kernel_rfl) | (rw [if_neg (by decide +kernel)]; exact ⟨rfl, rfl⟩))
    (fun os started H enc _ => ispfState_lifted os started H enc)
#print axioms ispfState_holds
end Go.Proofs.Ythhhegmhgheeiaa
