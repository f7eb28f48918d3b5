/- More rules: maps from integers to integers that the program has made itself. -/
import Derived.Test.YthhhegmhgheeiaaCore3
import Derived.Maps.Keyed
namespace Go.Wf
open Go.RowKit
set_option linter.unusedVariables false
/-- What the map's block holds: key, value, birth. -/
def ment (p : Int × Int × Nat) : MapEntry := ⟨.int .i64 p.1, .int .i64 p.2.1, p.2.2⟩
def mobj (l : List (Int × Int × Nat)) (c : Nat) : Obj := .map (l.map ment).toArray c
def mfind (l : List (Int × Int × Nat)) (k : Int) : Option (Nat × Int) := match l with
  | [] => none
  | p :: r => if p.1 = k then some (0, p.2.1) else (mfind r k).map fun q => (q.1 + 1, q.2)
def mget (l : List (Int × Int × Nat)) (k : Int) : Option Int := (mfind l k).map (·.2)
/-- 'm[k] = v' -/
def mput (l : List (Int × Int × Nat)) (c : Nat) (k v : Int) : List (Int × Int × Nat) := match mfind l k with
  | some (i, _) => l.modify i fun p => (k, v, p.2.2)
  | none => l ++ [(k, v, c)]
def mclock (l : List (Int × Int × Nat)) (c : Nat) (k : Int) : Nat := match mfind l k with
  | some _ => c
  | none => c + 1
def mdel (l : List (Int × Int × Nat)) (k : Int) : List (Int × Int × Nat) := match mfind l k with
  | some (i, _) => l.eraseIdx i
  | none => l
structure MapII (P : Program) (T k e : TypeId) : Prop where
  h : P.underlying T = some (.map k e)
  hk : P.underlying k = some (.int .i64)
  hz : Inf P e (.int .i64 0) 1 8
theorem findNow_ii (k : Int) : ∀ (l : List (Int × Int × Nat)) (i : Nat), Instr.findNow (.int .i64) (.int .i64 k) (l.map ment) i = some ((mfind l k).map fun q => (i + q.1, .int .i64 q.2))
  | [], i => rfl
  | p :: r, i => by
    simp only [List.map_cons, Instr.findNow, ment, Instr.sameNow, mfind]
    by_cases e : p.1 = k
    · rw [if_pos e]
      simp [e]
    · have e2 : (k == p.1) = false := by simp; exact fun h => e h.symm
      rw [if_neg e]
      simp only [e2, if_true]
      rw [findNow_ii k r (i + 1)]
      cases mfind r k with
      | none => rfl
      | some q => simp; omega
section
variable {P : Program} {n : Nat} {w0 : World} {S : List Nat} {F : Fr} {L : List Blk} {ops : Array Oper} {Q : Exit → Act → World → Prop} {C : Act → World → Prop} {g : Option (Nat × Bool)} {d : Tmp} {x y z : Operand} {T ty k e : TypeId} {ps : String} {af : Array Edge}
theorem run_findKey_ii {w : World} (hk : P.underlying k = some (.int .i64)) (key : Int) (l : List (Int × Int × Nat)) : (Instr.findKey k (.int .i64 key) (l.map ment)).run P w = .ok ((mfind l key).map fun q => (q.1, .int .i64 q.2)) w := by
  unfold Instr.findKey
  simp only [Sem.run_bind, run_underlying hk, Result.andThen_ok, findNow_ii, Sem.run_pure]
  simp
theorem run_checkKey_ii {w : World} (b : Bool) (hk : P.underlying k = some (.int .i64)) (key : Int) : (Instr.checkKey b 10000 k (.int .i64 key)).run P w = .ok () w := by
  unfold Instr.checkKey
  simp only [Sem.run_bind, run_underlying hk, Result.andThen_ok, Sem.run_pure]
theorem run_lookup_ii {w : World} (hT : MapII P T k e) {b c : Nat} {l : List (Int × Int × Nat)} (hb : w.heap[b]? = some (mobj l c)) (key : Int) (ok : Bool) :
    (Instr.lookup T (.map (some b)) (.int .i64 key) ok).run P w = .ok (if ok then .tuple #[.int .i64 ((mget l key).getD 0), .bool (mget l key).isSome] else .int .i64 ((mget l key).getD 0)) w := by
  obtain ⟨i, hi, hz, _, _⟩ := info3_parts hT.hz.h
  have hzv : (zeroValue e).run P w = .ok (.int .i64 0) w := by simp [zeroValue, typeInfo, hi, hz, go_sem]
  unfold mobj at hb
  unfold mget
  cases hm : mfind l key with
  | none => cases ok <;> simp [Instr.lookup, run_underlying hT.h, MapKept.run_getObj_map hb, run_checkKey_ii _ hT.hk, run_findKey_ii hT.hk, hm, hzv, Result.andThen]
  | some q => cases ok <;> simp [Instr.lookup, run_underlying hT.h, MapKept.run_getObj_map hb, run_checkKey_ii _ hT.hk, run_findKey_ii hT.hk, hm, Result.andThen]
theorem mfind_lt {l : List (Int × Int × Nat)} {key : Int} {i : Nat} {v : Int} (h : mfind l key = some (i, v)) : ∃ hi : i < l.length, l[i].1 = key ∧ l[i].2.1 = v := by
  induction l generalizing i with
  | nil => simp [mfind] at h
  | cons p r ih =>
    unfold mfind at h
    split at h
    · rename_i e
      simp only [Option.some.injEq, Prod.mk.injEq] at h
      obtain ⟨rfl, rfl⟩ := h
      exact ⟨by simp, e, rfl⟩
    · cases hm : mfind r key with
      | none => rw [hm] at h; cases h
      | some q =>
        rw [hm] at h
        simp only [Option.map_some, Option.some.injEq, Prod.mk.injEq] at h
        obtain ⟨rfl, rfl⟩ := h
        obtain ⟨h1, h2, h3⟩ := ih hm
        exact ⟨by simpa using h1, by simpa using h2, by simpa using h3⟩
theorem map_mod {α β : Type} (g : α → β) (f : α → α) (f' : β → β) (h : ∀ a, g (f a) = f' (g a)) : ∀ (l : List α) (i : Nat), (l.modify i f).map g = (l.map g).modify i f'
  | [], i => by simp
  | a :: r, 0 => by simp [h]
  | a :: r, i + 1 => by simp [map_mod g f f' h r i]
theorem run_update_ii {w : World} (hT : MapII P T k e) {b c : Nat} {l : List (Int × Int × Nat)} (hb : w.heap[b]? = some (mobj l c)) (key v : Int) :
    (Instr.mapUpdate T (.map (some b)) (.int .i64 key) (.int .i64 v)).run P w = .ok () { w with heap := w.heap.setIfInBounds b (mobj (mput l c key v) (mclock l c key)) } := by
  unfold mobj at hb ⊢
  cases hm : mfind l key with
  | none =>
    have e : ((mput l c key v).map ment).toArray = (l.map ment).toArray.push ⟨.int .i64 key, .int .i64 v, c⟩ := by
      unfold mput; rw [hm]; simp [ment]
    have e2 : mclock l c key = c + 1 := by unfold mclock; rw [hm]
    rw [e, e2]
    simp [Instr.mapUpdate, run_underlying hT.h, MapKept.run_getObj_map hb, run_checkKey_ii _ hT.hk, run_findKey_ii hT.hk, hm, MapKept.run_setObj_map _ hb, Result.andThen]
  | some q =>
    obtain ⟨i, u⟩ := q
    obtain ⟨h1, h2, h3⟩ := mfind_lt hm
    have e : ((mput l c key v).map ment).toArray = (l.map ment).toArray.modify i fun x => { x with key := .int .i64 key, val := .int .i64 v } := by
      unfold mput; rw [hm]
      apply Array.ext'
      simp only [Array.toList_modify]
      exact map_mod ment _ _ (fun p => rfl) l i
    have e2 : mclock l c key = c := by unfold mclock; rw [hm]
    rw [e, e2]
    simp [Instr.mapUpdate, run_underlying hT.h, MapKept.run_getObj_map hb, run_checkKey_ii _ hT.hk, run_findKey_ii hT.hk, hm, MapKept.run_setObj_map _ hb, Result.andThen, Instr.keyThatStays, Instr.sameBits, h1, h2, ment]
theorem map_erase {α β : Type} (g : α → β) : ∀ (l : List α) (i : Nat), (l.eraseIdx i).map g = (l.map g).eraseIdx i
  | [], i => by simp
  | a :: r, 0 => by simp
  | a :: r, i + 1 => by simp [map_erase g r i]
theorem run_delete_ii {w : World} (hT : MapII P T k e) {b c : Nat} {l : List (Int × Int × Nat)} (hb : w.heap[b]? = some (mobj l c)) (key : Int) (t2 : TypeId) :
    (Builtin.delete_ #[T, t2] ty #[.map (some b), .int .i64 key]).run P w = .ok (.tuple #[]) { w with heap := w.heap.setIfInBounds b (mobj (mdel l key) c) } := by
  unfold mobj at hb ⊢
  cases hm : mfind l key with
  | none =>
    have e : mdel l key = l := by unfold mdel; rw [hm]
    rw [e]
    simp [Builtin.delete_, run_underlying hT.h, MapKept.run_getObj_map hb, run_checkKey_ii _ hT.hk, run_findKey_ii hT.hk, hm, MapKept.run_setObj_map _ hb, Result.andThen]
  | some q =>
    obtain ⟨i, u⟩ := q
    have e : ((mdel l key).map ment).toArray = (l.map ment).toArray.eraseIdxIfInBounds i := by
      unfold mdel; rw [hm]
      apply Array.ext'
      simp [map_erase]
    rw [e]
    simp [Builtin.delete_, run_underlying hT.h, MapKept.run_getObj_map hb, run_checkKey_ii _ hT.hk, run_findKey_ii hT.hk, hm, MapKept.run_setObj_map _ hb, Result.andThen]
theorem run_len_ii {w : World} (hT : MapII P T k e) {b c : Nat} {l : List (Int × Int × Nat)} (hb : w.heap[b]? = some (mobj l c)) : (Builtin.len_ #[T] ty #[.map (some b)]).run P w = .ok (.int .i64 l.length) w := by
  unfold mobj at hb
  simp [Builtin.len_, run_underlying hT.h, MapKept.run_getObj_map hb, goInt]
theorem run_len_none {w : World} (hT : MapII P T k e) : (Builtin.len_ #[T] ty #[.map none]).run P w = .ok (.int .i64 0) w := by
  simp [Builtin.len_, run_underlying hT.h, goInt]
theorem run_lookup_none {w : World} (hT : MapII P T k e) (key : Int) (ok : Bool) :
    (Instr.lookup T (.map none) (.int .i64 key) ok).run P w = .ok (if ok then .tuple #[.int .i64 0, .bool false] else .int .i64 0) w := by
  obtain ⟨i, hi, hz, _, _⟩ := info3_parts hT.hz.h
  have hzv : (zeroValue e).run P w = .ok (.int .i64 0) w := by simp [zeroValue, typeInfo, hi, hz, go_sem]
  have hf : (Instr.findKey k (.int .i64 key) []).run P w = .ok none w := run_findKey_ii hT.hk key []
  cases ok <;> simp [Instr.lookup, run_underlying hT.h, run_checkKey_ii _ hT.hk, hf, hzv, Result.andThen]
/-- The rules of the walk. -/
theorem St.mrow {w : World} {L : List Blk} (h : St w0 S w L) {i b : Nat} {o o' : Obj} (hp : L[i]? = some (b, o)) : St w0 S { w with heap := w.heap.setIfInBounds b o' } (L.set i (b, o')) := by
  have hb := h.at hp
  have hlt : b < w.heap.size := (Array.getElem?_eq_some_iff.1 hb).1
  exact h.upd hp rfl rfl rfl (by simp) (by simp [hlt]) fun k hk => by simp [Ne.symm hk]
theorem Run.lookII {T : TypeId} (i : Nat) (hT : MapII P T k e) {b c : Nat} {l : List (Int × Int × Nat)} {key : Int} (hL : L[i]? = some (b, mobj l c)) (hx : ev F x = some (.map (some b))) (hy : ev F y = some (.int .i64 key)) {d : Option Tmp} :
    Run P n w0 S F L ⟨d, .lookup T x y true, ty, ps, af, g⟩ (.tuple #[.int .i64 ((mget l key).getD 0), .bool (mget l key).isSome]) := Run.of fun ρ hρ w hw => by
  simp only [execOp, hρ _ _ hx, hρ _ _ hy, Sem.run_bind, run_lookup_ii hT (hw.at hL), Result.andThen_ok, Sem.run_pure, if_true]
theorem Run.lookI {T : TypeId} (i : Nat) (hT : MapII P T k e) {b c : Nat} {l : List (Int × Int × Nat)} {key : Int} (hL : L[i]? = some (b, mobj l c)) (hx : ev F x = some (.map (some b))) (hy : ev F y = some (.int .i64 key)) {d : Option Tmp} :
    Run P n w0 S F L ⟨d, .lookup T x y false, ty, ps, af, g⟩ (.int .i64 ((mget l key).getD 0)) := Run.of fun ρ hρ w hw => by
  simp only [execOp, hρ _ _ hx, hρ _ _ hy, Sem.run_bind, run_lookup_ii hT (hw.at hL), Result.andThen_ok, Sem.run_pure, Bool.false_eq_true, if_false]
theorem Run.lookNone {T : TypeId} (hT : MapII P T k e) {key : Int} (hx : ev F x = some (.map none)) (hy : ev F y = some (.int .i64 key)) {d : Option Tmp} :
    Run P n w0 S F L ⟨d, .lookup T x y true, ty, ps, af, g⟩ (.tuple #[.int .i64 0, .bool false]) := Run.of fun ρ hρ w hw => by
  simp only [execOp, hρ _ _ hx, hρ _ _ hy, Sem.run_bind, run_lookup_none hT, Result.andThen_ok, Sem.run_pure, if_true]
theorem Run.lenM {T : TypeId} (i : Nat) (hT : MapII P T k e) {b c : Nat} {l : List (Int × Int × Nat)} (hL : L[i]? = some (b, mobj l c)) (hx : ev F x = some (.map (some b))) {d : Option Tmp} :
    Run P n w0 S F L ⟨d, .call { callee := .builtin .len, args := #[x], argTypes := #[T] }, ty, ps, af, g⟩ (.int .i64 l.length) := Run.of fun ρ hρ w hw => by
  simp only [execOp, resolve, invoke, builtin, Sem.run_bind, Sem.run_pure, Result.andThen_ok, List.map_toArray, List.map_cons, List.map_nil, hρ _ _ hx, run_len_ii hT (hw.at hL)]
theorem Run.lenM0 {T : TypeId} (hT : MapII P T k e) (hx : ev F x = some (.map none)) {d : Option Tmp} :
    Run P n w0 S F L ⟨d, .call { callee := .builtin .len, args := #[x], argTypes := #[T] }, ty, ps, af, g⟩ (.int .i64 0) := Run.of fun ρ hρ w hw => by
  simp only [execOp, resolve, invoke, builtin, Sem.run_bind, Sem.run_pure, Result.andThen_ok, List.map_toArray, List.map_cons, List.map_nil, hρ _ _ hx, run_len_none hT]
theorem Loud.makeMap {T : TypeId} (hn : Nat.blt d n = true) (h : ∀ b, Goal n w0 S ((d, .map (some b)) :: F) ((b, mobj [] 0) :: L) C) : Goal n w0 S F L (OW P Q ⟨some d, .makeMap T none, ty, ps, af, g⟩ C) :=
  Loud.of hn fun ρ hρ w hw => ⟨.map (some w.heap.size), w.alloc (mobj [] 0), _, by simp [execOp, Instr.makeMap, newObj, mobj, Sem.run, Result.andThen], hw.alloc (mobj [] 0), h _⟩
theorem Loud.ofVal {op : Op}
    (h : ∀ (ρ : Operand → Value), (∀ x u, ev F x = some u → ρ x = u) → ∀ w, St w0 S w L → ∃ v w' L', (execOp ρ ⟨none, op, ty, ps, af, g⟩).run P w = .ok (.value v) w' ∧ St w0 S w' L' ∧ Goal n w0 S F L' C) :
    Goal n w0 S F L (OW P Q ⟨none, op, ty, ps, af, g⟩ C) := .of fun w a hw ha => by
  obtain ⟨v, w', L', hr, hw', hG⟩ := h a.eval (fun _ _ e => ha.eval e) w hw
  refine ⟨?_⟩
  simp only [Oper.wp, hr, Oper.upon_value]
  exact hG w' _ hw' ha
theorem Loud.delI {T t2 : TypeId} (i : Nat) (hT : MapII P T k e) {b c : Nat} {l : List (Int × Int × Nat)} {key : Int} (hL : L[i]? = some (b, mobj l c)) (hx : ev F x = some (.map (some b))) (hy : ev F y = some (.int .i64 key))
    (h : Goal n w0 S F (L.set i (b, mobj (mdel l key) c)) C) : Goal n w0 S F L (OW P Q ⟨none, .call { callee := .builtin .delete, args := #[x, y], argTypes := #[T, t2] }, ty, ps, af, g⟩ C) :=
  Loud.ofVal fun ρ hρ w hw => ⟨.tuple #[], _, _, by
    simp only [execOp, resolve, invoke, builtin, Sem.run_bind, Sem.run_pure, Result.andThen_ok, List.map_toArray, List.map_cons, List.map_nil, hρ _ _ hx, hρ _ _ hy, run_delete_ii hT (hw.at hL)], hw.mrow hL, h⟩
theorem Loud.putI {T : TypeId} (i : Nat) (hT : MapII P T k e) {b c : Nat} {l : List (Int × Int × Nat)} {key v : Int} (hL : L[i]? = some (b, mobj l c)) (hx : ev F x = some (.map (some b))) (hy : ev F y = some (.int .i64 key)) (hz : ev F z = some (.int .i64 v))
    (h : Goal n w0 S F (L.set i (b, mobj (mput l c key v) (mclock l c key))) C) : Goal n w0 S F L (OW P Q ⟨none, .mapUpdate T x y z, ty, ps, af, g⟩ C) :=
  Loud.ofSkip fun ρ hρ w hw => ⟨_, _, by
    simp only [execOp, hρ _ _ hx, hρ _ _ hy, hρ _ _ hz, Sem.run_bind, run_update_ii hT (hw.at hL), Result.andThen_ok, Sem.run_pure], hw.mrow hL, h⟩
end
end Go.Wf
