/- PostconvIncremental: if the arcs go down one after the other in an incremental tree, the distances increase in the end by what Extra says, for every topology, mask and pair of nodes. No conditions. -/
import Derived.Test.YthhhegmhgheeiaaIsU
import Derived.Test.YthhhegmhgheeiaaFrame
import Derived.Test.YthhhegmhgheeiaaRows
namespace Go.Proofs.Ythhhegmhgheeiaa
open Go.Wf Go.ChangeShapes Go.WideShapes Go.ChangeAt Go.RowKit Go.Joins
set_option linter.unusedVariables false

theorem own : ownKnob Try.prog.godebug = none := by kernel_rfl
theorem laidOut : laidOutB Try.prog = true := by kernel_rfl
theorem cells3 : Try.prog.cellsOf 3 = 1 := by kernel_rfl
theorem cells4 : Try.prog.cellsOf 4 = 1 := by kernel_rfl
theorem cells22 : Try.prog.cellsOf 22 = 1 := by kernel_rfl
theorem cells23 : Try.prog.cellsOf 23 = 1 := by kernel_rfl
theorem cells25 : Try.prog.cellsOf 25 = 3 := by kernel_rfl
theorem cells37 : Try.prog.cellsOf 37 = 2 := by kernel_rfl
theorem cells39 : Try.prog.cellsOf 39 = 7 := by kernel_rfl
theorem cells67 : Try.prog.cellsOf 67 = 6 := by kernel_rfl
theorem bytes4 : Try.prog.bytesOf 4 = 1 := by kernel_rfl
theorem bytes39 : Try.prog.bytesOf 39 = 56 := by kernel_rfl
theorem list1 {α : Type _} {l : List α} (h : l.length = 1) : ∃ a, l = [a] := by
  match l, h with
  | [a], _ => exact ⟨a, rfl⟩
theorem list6 {α : Type _} {l : List α} (h : l.length = 6) : ∃ a0 a1 a2 a3 a4 a5, l = [a0, a1, a2, a3, a4, a5] := by
  match l, h with
  | [a0, a1, a2, a3, a4, a5], _ => exact ⟨a0, a1, a2, a3, a4, a5, rfl⟩
theorem list7 {α : Type _} {l : List α} (h : l.length = 7) : ∃ a0 a1 a2 a3 a4 a5 a6, l = [a0, a1, a2, a3, a4, a5, a6] := by
  match l, h with
  | [a0, a1, a2, a3, a4, a5, a6], _ => exact ⟨a0, a1, a2, a3, a4, a5, a6, rfl⟩
theorem hLen39 {W : World} {es : List Value} (h : Tr Try.prog W 39 es) : es.length = Try.prog.cellsOf 39 := (Tr.field Try.underlying39 h).1
set_option maxHeartbeats 4000000 in
set_option maxRecDepth 100000 in
theorem postconvIncremental_lifted (os : Os) (started : os.Started) (H : Type) (enc : TypeId × Value → H) :
    ReturnsInHanded {} Try.checked os 7 .any (Rows.postconvIncrementalSpec.pre6 enc Try.prog Try.f7 Rows.postconvIncrementalRow.domain false) (Rows.postconvIncrementalSpec.post enc Try.prog Try.f7 false true false false) := by
  refine law_lifted (C := Try.checked) started own laidOut (by kernel_rfl) Try.func7
    (ChangeSpec.witness6 (enc := enc) (C := Try.checked) false ⟨#[], #[.agg #[.int .i64 0, .slice none 0 0, .slice none 0 0, .slice none 0 0, .int .i64 0, .int .i64 0]], []⟩ 8 (by kernel_rfl) (by kernel_rfl) (by kernel_rfl) (by kernel_rfl))
    (by rw [Try.params7]; intro t ht; simp only [List.mem_cons, List.not_mem_nil, or_false] at ht; rcases ht with rfl <;> exact ⟨by kernel_rfl, of_decide_eq_true (by kernel_rfl)⟩)
    rfl Try.underlying4 rfl (by rw [Try.params7]; intro ds h; match ds, h with | [_], _ => rfl) ?_
  rw [Try.params7]
  intro W args hlen hargs0
  have hargs : ∀ (j : Nat) t v, #[67].toList[j]? = some t → args[j]? = some v → Arg Try.prog W t v := hargs0
  clear hargs0
  obtain ⟨a0, rfl⟩ := list1 hlen
  obtain ⟨cs, rfl, hl, ht⟩ := Arg.agg (by rw [Try.underlying67]) (hargs 0 67 a0 rfl rfl)
  obtain ⟨c0_0, c0_1, c0_2, c0_3, c0_4, c0_5, rfl⟩ := list6 (hl.trans cells67)
  have tx_0_0 : Tr Try.prog W 25 [c0_0, c0_1, c0_2] := by have q := Tr.fieldAt Try.underlying67 ht 0 _ rfl 3 cells25; exact q
  have tx_0_0_0 : Tr Try.prog W 3 [c0_0] := by have q := Tr.fieldAt Try.underlying25 tx_0_0 0 _ rfl 1 cells3; exact q
  obtain ⟨x_0_0_0, e, hx_0_0_0⟩ := Tr.int Try.underlying3 tx_0_0_0
  obtain rfl : c0_0 = .int .i64 x_0_0_0 := by simpa using e
  have tx_0_0_1 : Tr Try.prog W 22 [c0_1] := by have q := Tr.fieldAt Try.underlying25 tx_0_0 1 _ rfl 1 cells22; exact q
  obtain ⟨v_0_0_1, l_0_0_1, e, hr_0_0_1, hn_0_0_1⟩ := Tr.bools Try.underlying22 Try.underlying4 cells4 tx_0_0_1
  rw [bytes4] at hn_0_0_1
  obtain rfl : c0_1 = v_0_0_1 := by simpa using e
  have tx_0_0_2 : Tr Try.prog W 23 [c0_2] := by have q := Tr.fieldAt Try.underlying25 tx_0_0 2 _ rfl 1 cells23; exact q
  obtain ⟨v_0_0_2, l_0_0_2, e, hr_0_0_2, hq_0_0_2, hn_0_0_2⟩ := Tr.slice_of (α := Int × Int × Int × Int × Int × Int × Int) (Q := fun a => (Lit.int .i64 a.1).wf = true ∧ (Lit.int .i64 a.2.1).wf = true ∧ (Lit.int .i64 a.2.2.1).wf = true ∧ (Lit.int .i64 a.2.2.2.1).wf = true ∧ (Lit.int .i64 a.2.2.2.2.1).wf = true ∧ (Lit.int .i64 a.2.2.2.2.2.1).wf = true ∧ (Lit.int .i64 a.2.2.2.2.2.2).wf = true) (f := fun a => [.int .i64 a.1, .int .i64 a.2.1, .int .i64 a.2.2.1, .int .i64 a.2.2.2.1, .int .i64 a.2.2.2.2.1, .int .i64 a.2.2.2.2.2.1, .int .i64 a.2.2.2.2.2.2]) Try.underlying23 (by rw [cells39]; decide) (fun es h => by
      obtain ⟨c0, c1, c2, c3, c4, c5, c6, rfl⟩ := list7 ((hLen39 h).trans cells39)
      have ty_0 : Tr Try.prog W 3 [c0] := by have q := Tr.fieldAt Try.underlying39 h 0 _ rfl 1 cells3; exact q
      obtain ⟨y_0, e, hy_0⟩ := Tr.int Try.underlying3 ty_0
      obtain rfl : c0 = .int .i64 y_0 := by simpa using e
      have ty_1 : Tr Try.prog W 3 [c1] := by have q := Tr.fieldAt Try.underlying39 h 1 _ rfl 1 cells3; exact q
      obtain ⟨y_1, e, hy_1⟩ := Tr.int Try.underlying3 ty_1
      obtain rfl : c1 = .int .i64 y_1 := by simpa using e
      have ty_2 : Tr Try.prog W 37 [c2, c3] := by have q := Tr.fieldAt Try.underlying39 h 2 _ rfl 2 cells37; exact q
      have ty_2_0 : Tr Try.prog W 3 [c2] := by have q := Tr.elemAt Try.underlying37 ty_2 0 (by omega) 1 cells3; exact q
      obtain ⟨y_2_0, e, hy_2_0⟩ := Tr.int Try.underlying3 ty_2_0
      obtain rfl : c2 = .int .i64 y_2_0 := by simpa using e
      have ty_2_1 : Tr Try.prog W 3 [c3] := by have q := Tr.elemAt Try.underlying37 ty_2 1 (by omega) 1 cells3; exact q
      obtain ⟨y_2_1, e, hy_2_1⟩ := Tr.int Try.underlying3 ty_2_1
      obtain rfl : c3 = .int .i64 y_2_1 := by simpa using e
      have ty_3 : Tr Try.prog W 3 [c4] := by have q := Tr.fieldAt Try.underlying39 h 3 _ rfl 1 cells3; exact q
      obtain ⟨y_3, e, hy_3⟩ := Tr.int Try.underlying3 ty_3
      obtain rfl : c4 = .int .i64 y_3 := by simpa using e
      have ty_4 : Tr Try.prog W 3 [c5] := by have q := Tr.fieldAt Try.underlying39 h 4 _ rfl 1 cells3; exact q
      obtain ⟨y_4, e, hy_4⟩ := Tr.int Try.underlying3 ty_4
      obtain rfl : c5 = .int .i64 y_4 := by simpa using e
      have ty_5 : Tr Try.prog W 3 [c6] := by have q := Tr.fieldAt Try.underlying39 h 5 _ rfl 1 cells3; exact q
      obtain ⟨y_5, e, hy_5⟩ := Tr.int Try.underlying3 ty_5
      obtain rfl : c6 = .int .i64 y_5 := by simpa using e
      exact ⟨(y_0, y_1, y_2_0, y_2_1, y_3, y_4, y_5), rfl, hy_0, hy_1, hy_2_0, hy_2_1, hy_3, hy_4, hy_5⟩) tx_0_0_2
  rw [cells39] at hr_0_0_2
  rw [bytes39] at hn_0_0_2
  obtain rfl : c0_2 = v_0_0_2 := by simpa using e
  have tx_0_1 : Tr Try.prog W 22 [c0_3] := by have q := Tr.fieldAt Try.underlying67 ht 1 _ rfl 1 cells22; exact q
  obtain ⟨v_0_1, l_0_1, e, hr_0_1, hn_0_1⟩ := Tr.bools Try.underlying22 Try.underlying4 cells4 tx_0_1
  rw [bytes4] at hn_0_1
  obtain rfl : c0_3 = v_0_1 := by simpa using e
  have tx_0_2 : Tr Try.prog W 3 [c0_4] := by have q := Tr.fieldAt Try.underlying67 ht 2 _ rfl 1 cells3; exact q
  obtain ⟨x_0_2, e, hx_0_2⟩ := Tr.int Try.underlying3 tx_0_2
  obtain rfl : c0_4 = .int .i64 x_0_2 := by simpa using e
  have tx_0_3 : Tr Try.prog W 3 [c0_5] := by have q := Tr.fieldAt Try.underlying67 ht 3 _ rfl 1 cells3; exact q
  obtain ⟨x_0_3, e, hx_0_3⟩ := Tr.int Try.underlying3 tx_0_3
  obtain rfl : c0_5 = .int .i64 x_0_3 := by simpa using e
  exact law27_inc (tp := ⟨x_0_0_0, l_0_0_1, l_0_0_2.map toLk⟩) (dn := l_0_1) x_0_2 x_0_3 ⟨hr_0_0_1, by rw [List.map_map]; exact hr_0_0_2⟩ hr_0_1 (by have h := hn_0_0_1; unfold reachBytes at h; dsimp only; omega)

theorem postconvIncremental_k1 : Try.prog.inPlace 7 = Rows.postconvIncrementalRow.inPlace := by kernel_rfl
theorem postconvIncremental_k2 : Try.prog.unfollowed 7 = Rows.postconvIncrementalRow.unfollowed := by kernel_rfl
theorem postconvIncremental_k3 : Try.prog.recurses 7 = Rows.postconvIncrementalRow.recurses := by kernel_rfl
theorem postconvIncremental_k4 : Try.prog.varsNamed 7 = Rows.postconvIncrementalRow.named := by kernel_rfl
theorem postconvIncremental_k5 : mapsRowed Try.prog = true := by kernel_rfl
theorem postconvIncremental_k6 : Try.prog.funcNamed Rows.postconvIncrementalRow.func = some 7 := by kernel_rfl
theorem postconvIncremental_closed : joinedFacts Try.prog 7 Try.f7 Rows.postconvIncrementalSpec Rows.postconvIncrementalRow = true := by
  unfold joinedFacts
  rw [laidOut, postconvIncremental_k5, postconvIncremental_k1, postconvIncremental_k2, postconvIncremental_k3, postconvIncremental_k4]
  kernel_rfl
theorem postconvIncremental_holds : Rows.PostconvIncrementalSaid :=
  OpenClaim.holds_of_wide 7 Try.f7 rfl rfl rfl rfl rfl rfl rfl ⟨rfl, rfl, rfl, rfl, rfl⟩ rfl rfl rfl rfl rfl postconvIncremental_k6 Try.func7 postconvIncremental_closed
    (of_decide_eq_true (by kernel_rfl)) (by unfold Func.isWrapper; first | (rw [if_pos (by decide +kernel)]; kernel_rfl) | (rw [if_neg (by decide +kernel)]; exact ⟨rfl, rfl⟩))
    (fun os started H enc _ => postconvIncremental_lifted os started H enc)
#print axioms postconvIncremental_holds
end Go.Proofs.Ythhhegmhgheeiaa
