/- More rules: 's[i:]'; the first element of a slice wherever it begins. -/
import Derived.Test.YthhhegmhgheeiaaCore5
namespace Go.Wf
open Go.RowKit
set_option linter.unusedVariables false
section
variable {P : Program} {n : Nat} {w0 : World} {S : List Nat} {F : Fr} {L : List Blk} {g : Option (Nat × Bool)} {d : Option Tmp} {x y : Operand} {T ty : TypeId} {ps : String} {af : Array Edge}
/-- 's[i:]' -/
theorem Run.sliceL {e : TypeId} {sz l cp b off : Nat} {kk : IntKind} {i : Int} (hu : SliceT P T e) (he : Sz P e sz) (hx : ev F x = some (.slice (some ⟨b, off, none⟩) l cp)) (hy : ev F y = some (.int kk i)) (j : Nat) (hi : i = (j : Int)) (hj : j ≤ l) :
    Run P n w0 S F L ⟨d, .slice T x (some y) none none, ty, ps, af, g⟩ (.slice (some ⟨b, if cp = j then off else off + j * sz, none⟩) (l - j) (cp - j)) := Run.of fun ρ hρ w _ => by
  subst hi
  have h1 : sliced (some ⟨b, off, none⟩) j l cp sz = .slice (some ⟨b, if cp = j then off else off + j * sz, none⟩) (l - j) (cp - j) := by
    simp only [sliced]
    split
    · rfl
    · simp [add_mk]
  simp only [execOp, hρ _ _ hx, Option.map_some, Option.map_none, hρ _ _ hy, Sem.run_bind, run_sliceAt_slice w T _ _ _ _ hu.elem_h, run_slice_l w T _ l cp hu.elem_h kk (j : Int) (by omega) (by omega), hu.elem, run_sizeOf he, Result.andThen_ok, Int.toNat_natCast, h1, Sem.run_pure]
theorem LoadOK.sl0 {α : Type} {f : α → List Value} {m : Nat} {T : TypeId} {a : α} {r : List α} (hT : AggB P T m) {b : Nat} {st rest : List Value} {E : TypeId} (hf : ∀ a, (f a).length = m) (hL : (b, .cells (st ++ (Els f (a :: r) ++ rest)).toArray E) ∈ L) :
    LoadOK P w0 S L T ⟨b, st.length, none⟩ (.agg (f a).toArray) := by
  obtain ⟨k, hk⟩ := List.getElem?_of_mem hL
  refine LoadOK.agg hT k hk (hf _) (Cells.of_get fun j v hv => ?_)
  have hj : j < (f a).length := (List.getElem?_eq_some_iff.mp hv).1
  simp only [Els, List.flatMap_cons, List.append_assoc]
  rw [List.getElem?_append_right (by omega), Nat.add_sub_cancel_left, List.getElem?_append_left hj]
  exact hv
end
end Go.Wf
