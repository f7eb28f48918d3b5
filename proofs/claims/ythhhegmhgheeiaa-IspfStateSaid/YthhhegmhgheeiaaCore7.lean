/- More rules: a slice's elements wherever it begins, read and written; the built-in clear. -/
import Derived.Test.YthhhegmhgheeiaaCore6
namespace Go.Wf
open Go.RowKit
set_option linter.unusedVariables false
section
variable {P : Program} {n : Nat} {w0 : World} {S : List Nat} {F : Fr} {L R : List Blk} {g : Option (Nat × Bool)} {x y : Operand} {T ty : TypeId} {ps : String} {af : Array Edge} {α : Type} {Q : Exit → Act → World → Prop} {C : Act → World → Prop}
theorem LoadOK.elO [Inhabited α] {f : α → List Value} {m : Nat} {T : TypeId} (hT : AggB P T m) {b : Nat} {st : List Value} {l : List α} {rest : List Value} {E : TypeId} {i : Int} (hf : ∀ a, (f a).length = m) (hL : (b, .cells (st ++ (Els f l ++ rest)).toArray E) ∈ L) (hi : 0 ≤ i ∧ i < l.length) :
    LoadOK P w0 S L T ⟨b, st.length + i.toNat * m, none⟩ (.agg (f (Go.Wf.el l i)).toArray) := by
  obtain ⟨k, hk⟩ := List.getElem?_of_mem hL
  refine LoadOK.agg hT k hk (hf _) (Cells.of_get fun j v hv => ?_)
  have := els_cell (rest := rest) hf hi hv
  simp only [Nat.add_assoc] at this ⊢
  rw [List.getElem?_append_right (by omega), Nat.add_sub_cancel_left]
  exact this
theorem wr_elO {f : α → List Value} {m : Nat} (hf : ∀ a, (f a).length = m) {st : List Value} {l : List α} {rest : List Value} {i : Int} {x : α} (hi : 0 ≤ i ∧ i < l.length) : wr (st ++ (Els f l ++ rest)).toArray (st.length + i.toNat * m) (f x) = (st ++ (Els f (l.set i.toNat x) ++ rest)).toArray := by
  rw [Els_split f (l := l) (i := i.toNat) (by omega), Els_set (by omega)]
  have := wr_mid (a := st ++ Els f (l.take i.toNat)) (b := f (l[i.toNat]'(by omega))) (c := f x) (d := Els f (l.drop (i.toNat + 1)) ++ rest) (off := st.length + i.toNat * m) (by rw [List.length_append, Els_len hf, List.length_take, Nat.min_eq_left (by omega)]) (by rw [hf, hf])
  simp only [List.append_assoc] at this ⊢
  exact this
theorem run_clear {e : TypeId} {z : Value} {m by_ : Nat} {t1 : TypeId} (hu : SliceT P t1 e) (he : Inf P e z m by_) (h1 : z.cells.toList.all Value.oneCell' = true) (hz0 : z.cells.size = m) (h0 : 0 < m) {w : World} {b off k c : Nat} {cur : Array Value} (hb : w.heap[b]? = some (.cells cur e)) (hk : 0 < k) (hfit : off + k * m ≤ cur.size) (ty : TypeId) :
    (Builtin.clear_ #[t1] ty #[.slice (some ⟨b, off, none⟩) k c]).run P w = .ok (.tuple #[]) (w.setRow b (wr cur off (rep k z.cells.toList))) := by
  obtain ⟨i, hi, hz, hsz, hby⟩ := info3_parts he.h
  have hzc : (Builtin.zeroCells z.cells k).toList = rep k z.cells.toList := by
    have : Builtin.zeroCells z.cells k = (rep k z.cells.toList).toArray := made_rep z.cells k (by omega)
    rw [this]
  have hl : (rep k z.cells.toList).length = k * m := by simp [rep, List.length_flatten, hz0]
  have hone : ∀ u ∈ rep k z.cells.toList, u.oneCell' = true := fun u hu => by
    simp only [rep, List.mem_flatten, List.mem_replicate] at hu
    obtain ⟨l, ⟨_, rfl⟩, hu⟩ := hu
    exact List.all_eq_true.1 h1 u hu
  have hst := run_storeCells_at P b off e (rep k z.cells.toList) 0 cur w hb (by omega) hone
  simp only [Nat.add_zero] at hst
  obtain ⟨k, rfl⟩ : ∃ j, k = j + 1 := ⟨k - 1, by omega⟩
  simp only [Builtin.clear_]
  simp [run_underlying hu.h, zeroValue, typeInfo, hi, hz, hzc, hst, wr, Sem.run_bind, Sem.run_pure, run_program, Result.andThen_ok]
theorem run_clear0 {e : TypeId} {t1 : TypeId} (hu : SliceT P t1 e) {w : World} {ad : Option Addr} {c : Nat} (ty : TypeId) : (Builtin.clear_ #[t1] ty #[.slice ad 0 c]).run P w = .ok (.tuple #[]) w := by
  cases ad <;> simp [Builtin.clear_, run_underlying hu.h, go_sem]
theorem Loud.clear0 {e : TypeId} {z : Value} {m by_ : Nat} {t1 : TypeId} (hu : SliceT P t1 e) (he : Inf P e z m by_) (h1 : z.cells.toList.all Value.oneCell' = true) (hz0 : z.cells.size = m) (h0 : 0 < m) {b off k c : Nat} {cur c' : Array Value} (hx : ev F x = some (.slice (some ⟨b, off, none⟩) k c)) (hfit : off + k * m ≤ cur.size) (hc : wr cur off (rep k z.cells.toList) = c')
    (h : Goal n w0 S F ((b, .cells c' e) :: R) C) : Goal n w0 S F ((b, .cells cur e) :: R) (OW P Q ⟨none, .call { callee := .builtin .clear, args := #[x], argTypes := #[t1] }, ty, ps, af, g⟩ C) :=
  Loud.ofVal fun ρ hρ w hw => by
    by_cases hk : k = 0
    · subst hk
      have e1 : c' = cur := by
        rw [← hc]
        simp only [wr, rep, List.replicate_zero, List.flatten_nil, List.append_nil, List.length_nil, Nat.add_zero, List.take_append_drop]
      subst e1
      exact ⟨.tuple #[], _, _, by simp only [execOp, resolve, invoke, builtin, Sem.run_bind, Sem.run_pure, Result.andThen_ok, List.map_toArray, List.map_cons, List.map_nil, hρ _ _ hx, run_clear0 hu], hw, h⟩
    · subst hc
      exact ⟨.tuple #[], _, _, by simp only [execOp, resolve, invoke, builtin, Sem.run_bind, Sem.run_pure, Result.andThen_ok, List.map_toArray, List.map_cons, List.map_nil, hρ _ _ hx, run_clear hu he h1 hz0 h0 (hw.at (i := 0) rfl) (Nat.pos_of_ne_zero hk) hfit], hw.row (i := 0) rfl, h⟩
end
end Go.Wf
