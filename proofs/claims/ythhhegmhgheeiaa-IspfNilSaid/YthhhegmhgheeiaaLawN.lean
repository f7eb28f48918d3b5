/- IspfNil: the functions of a nil tree return the specified results, for every number. No conditions. -/
import Derived.Test.YthhhegmhgheeiaaIsT
import Derived.Test.YthhhegmhgheeiaaFrame
import Derived.Test.YthhhegmhgheeiaaRows
namespace Go.Proofs.Ythhhegmhgheeiaa
open Go.Wf Go.ChangeShapes Go.WideShapes Go.ChangeAt Go.RowKit Go.Joins
set_option linter.unusedVariables false

theorem own : ownKnob Try.prog.godebug = none := by kernel_rfl
theorem laidOut : laidOutB Try.prog = true := by kernel_rfl
theorem list1 {α : Type _} {l : List α} (h : l.length = 1) : ∃ a, l = [a] := by
  match l, h with
  | [a], _ => exact ⟨a, rfl⟩
set_option maxHeartbeats 4000000 in
set_option maxRecDepth 100000 in
theorem ispfNil_lifted (os : Os) (started : os.Started) (H : Type) (enc : TypeId × Value → H) :
    ReturnsInHanded {} Try.checked os 4 .any (Rows.ispfNilSpec.pre6 enc Try.prog Try.f4 Rows.ispfNilRow.domain false) (Rows.ispfNilSpec.post enc Try.prog Try.f4 false true false false) := by
  refine law_lifted (C := Try.checked) started own laidOut (by kernel_rfl) Try.func4
    (ChangeSpec.witness6 (enc := enc) (C := Try.checked) false ⟨#[], #[.int .i64 0], []⟩ 8 (by kernel_rfl) (by kernel_rfl) (by kernel_rfl) (by kernel_rfl))
    (by rw [Try.params4]; intro t ht; simp only [List.mem_cons, List.not_mem_nil, or_false] at ht; rcases ht with rfl <;> exact ⟨by kernel_rfl, of_decide_eq_true (by kernel_rfl)⟩)
    rfl Try.underlying4 rfl (by rw [Try.params4]; intro ds h; match ds, h with | [_], _ => rfl) ?_
  rw [Try.params4]
  intro W args hlen hargs0
  have hargs : ∀ (j : Nat) t v, #[3].toList[j]? = some t → args[j]? = some v → Arg Try.prog W t v := hargs0
  clear hargs0
  obtain ⟨a0, rfl⟩ := list1 hlen
  obtain ⟨x_0, rfl, hx_0⟩ := Arg.int Try.underlying3 (hargs 0 3 a0 rfl rfl)
  exact law_nil x_0 W

theorem ispfNil_k1 : Try.prog.inPlace 4 = Rows.ispfNilRow.inPlace := by kernel_rfl
theorem ispfNil_k2 : Try.prog.unfollowed 4 = Rows.ispfNilRow.unfollowed := by kernel_rfl
theorem ispfNil_k3 : Try.prog.recurses 4 = Rows.ispfNilRow.recurses := by kernel_rfl
theorem ispfNil_k4 : Try.prog.varsNamed 4 = Rows.ispfNilRow.named := by kernel_rfl
theorem ispfNil_k5 : mapsRowed Try.prog = true := by kernel_rfl
theorem ispfNil_k6 : Try.prog.funcNamed Rows.ispfNilRow.func = some 4 := by kernel_rfl
theorem ispfNil_closed : joinedFacts Try.prog 4 Try.f4 Rows.ispfNilSpec Rows.ispfNilRow = true := by
  unfold joinedFacts
  rw [laidOut, ispfNil_k5, ispfNil_k1, ispfNil_k2, ispfNil_k3, ispfNil_k4]
  kernel_rfl
theorem ispfNil_holds : Rows.IspfNilSaid :=
  OpenClaim.holds_of_wide 4 Try.f4 rfl rfl rfl rfl rfl rfl rfl ⟨rfl, rfl, rfl, rfl, rfl⟩ rfl rfl rfl rfl rfl ispfNil_k6 Try.func4 ispfNil_closed
    (of_decide_eq_true (by kernel_rfl)) (by unfold Func.isWrapper; first | (rw [if_pos (by decide +kernel)]; kernel_rfl) | (rw [if_neg (by decide +kernel)]; exact ⟨rfl, rfl⟩))
    (fun os started H enc _ => ispfNil_lifted os started H enc)
#print axioms ispfNil_holds
end Go.Proofs.Ythhhegmhgheeiaa
