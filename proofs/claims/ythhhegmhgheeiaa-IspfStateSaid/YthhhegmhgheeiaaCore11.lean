/- More rules: sets of integers as maps to bool that only ever get true. -/
import Derived.Test.YthhhegmhgheeiaaCore4
namespace Go.Wf
open Go.RowKit
set_option linter.unusedVariables false
def bent (p : Int × Nat) : MapEntry := ⟨.int .i64 p.1, .bool true, p.2⟩
def bobj (l : List (Int × Nat)) (c : Nat) : Obj := .map (l.map bent).toArray c
def bfind (l : List (Int × Nat)) (k : Int) : Option Nat := match l with
  | [] => none
  | p :: r => if p.1 = k then some 0 else (bfind r k).map fun q => q + 1
def bhas (l : List (Int × Nat)) (k : Int) : Bool := (bfind l k).isSome
/-- 'm[k] = true' -/
def bput (l : List (Int × Nat)) (c : Nat) (k : Int) : List (Int × Nat) := if bhas l k = true then l else l ++ [(k, c)]
def bclock (l : List (Int × Nat)) (c : Nat) (k : Int) : Nat := if bhas l k = true then c else c + 1
structure MapIB (P : Program) (T k e : TypeId) : Prop where
  h : P.underlying T = some (.map k e)
  hk : P.underlying k = some (.int .i64)
  hz : Inf P e (.bool false) 1 1
theorem bfind_lt {l : List (Int × Nat)} {key : Int} {i : Nat} (h : bfind l key = some i) : ∃ hi : i < l.length, l[i].1 = key := by
  induction l generalizing i with
  | nil => simp [bfind] at h
  | cons p r ih =>
    unfold bfind at h
    split at h
    · rename_i e
      simp only [Option.some.injEq] at h
      subst h
      exact ⟨by simp, e⟩
    · cases hm : bfind r key with
      | none => rw [hm] at h; cases h
      | some q =>
        rw [hm] at h
        simp only [Option.map_some, Option.some.injEq] at h
        subst h
        obtain ⟨h1, h2⟩ := ih hm
        exact ⟨by simpa using h1, by simpa using h2⟩
theorem bfind_app (l : List (Int × Nat)) (p : Int × Nat) (k : Int) : (bfind (l ++ [p]) k).isSome = ((bfind l k).isSome || decide (p.1 = k)) := by
  induction l with
  | nil =>
    unfold bfind
    by_cases e : p.1 = k
    · simp [e]
    · simp [bfind, e]
  | cons q r ih =>
    simp only [List.cons_append, bfind]
    split
    · simp
    · simpa using ih
theorem bhas_nil (k : Int) : bhas [] k = false := rfl
theorem bhas_put (l : List (Int × Nat)) (c : Nat) (k j : Int) : bhas (bput l c k) j = if j = k then true else bhas l j := by
  unfold bput
  by_cases h : bhas l k = true
  · rw [if_pos h]
    by_cases e : j = k
    · rw [if_pos e, e]; exact h
    · rw [if_neg e]
  · rw [if_neg h]
    have := bfind_app l (k, c) j
    unfold bhas at h ⊢
    rw [this]
    by_cases e : j = k
    · simp [e]
    · rw [if_neg e]
      have : decide (k = j) = false := by simp; exact fun x => e x.symm
      simp [this]
theorem findNow_ib (k : Int) : ∀ (l : List (Int × Nat)) (i : Nat), Instr.findNow (.int .i64) (.int .i64 k) (l.map bent) i = some ((bfind l k).map fun q => (i + q, .bool true))
  | [], i => rfl
  | p :: r, i => by
    simp only [List.map_cons, Instr.findNow, bent, Instr.sameNow, bfind]
    by_cases e : p.1 = k
    · rw [if_pos e]
      simp [e]
    · have e2 : (k == p.1) = false := by simp; exact fun h => e h.symm
      rw [if_neg e]
      simp only [e2, if_true]
      rw [findNow_ib k r (i + 1)]
      cases bfind r k with
      | none => rfl
      | some q => simp; omega
section
variable {P : Program} {n : Nat} {w0 : World} {S : List Nat} {F : Fr} {L : List Blk} {ops : Array Oper} {Q : Exit → Act → World → Prop} {C : Act → World → Prop} {g : Option (Nat × Bool)} {d : Tmp} {x y z : Operand} {T ty k e : TypeId} {ps : String} {af : Array Edge}
theorem run_findKey_ib {w : World} (hk : P.underlying k = some (.int .i64)) (key : Int) (l : List (Int × Nat)) : (Instr.findKey k (.int .i64 key) (l.map bent)).run P w = .ok ((bfind l key).map fun q => (q, .bool true)) w := by
  unfold Instr.findKey
  simp only [Sem.run_bind, run_underlying hk, Result.andThen_ok, findNow_ib, Sem.run_pure]
  simp
theorem run_lookup_ib {w : World} (hT : MapIB P T k e) {b c : Nat} {l : List (Int × Nat)} (hb : w.heap[b]? = some (bobj l c)) (key : Int) :
    (Instr.lookup T (.map (some b)) (.int .i64 key) false).run P w = .ok (.bool (bhas l key)) w := by
  obtain ⟨i, hi, hz, _, _⟩ := info3_parts hT.hz.h
  have hzv : (zeroValue e).run P w = .ok (.bool false) w := by simp [zeroValue, typeInfo, hi, hz, go_sem]
  unfold bobj at hb
  unfold bhas
  cases hm : bfind l key with
  | none => simp [Instr.lookup, run_underlying hT.h, MapKept.run_getObj_map hb, run_checkKey_ii _ hT.hk, run_findKey_ib hT.hk, hm, hzv, Result.andThen]
  | some q => simp [Instr.lookup, run_underlying hT.h, MapKept.run_getObj_map hb, run_checkKey_ii _ hT.hk, run_findKey_ib hT.hk, hm, Result.andThen]
theorem run_lookupB_none {w : World} (hT : MapIB P T k e) (key : Int) :
    (Instr.lookup T (.map none) (.int .i64 key) false).run P w = .ok (.bool false) w := by
  obtain ⟨i, hi, hz, _, _⟩ := info3_parts hT.hz.h
  have hzv : (zeroValue e).run P w = .ok (.bool false) w := by simp [zeroValue, typeInfo, hi, hz, go_sem]
  have hf : (Instr.findKey k (.int .i64 key) []).run P w = .ok none w := run_findKey_ib hT.hk key []
  simp [Instr.lookup, run_underlying hT.h, run_checkKey_ii _ hT.hk, hf, hzv, Result.andThen]
theorem run_update_ib {w : World} (hT : MapIB P T k e) {b c : Nat} {l : List (Int × Nat)} (hb : w.heap[b]? = some (bobj l c)) (key : Int) :
    (Instr.mapUpdate T (.map (some b)) (.int .i64 key) (.bool true)).run P w = .ok () { w with heap := w.heap.setIfInBounds b (bobj (bput l c key) (bclock l c key)) } := by
  unfold bobj at hb ⊢
  cases hm : bfind l key with
  | none =>
    have hh : ¬ bhas l key = true := by unfold bhas; rw [hm]; simp
    have e : ((bput l c key).map bent).toArray = (l.map bent).toArray.push ⟨.int .i64 key, .bool true, c⟩ := by
      unfold bput; rw [if_neg hh]; simp [bent]
    have e2 : bclock l c key = c + 1 := by unfold bclock; rw [if_neg hh]
    rw [e, e2]
    simp [Instr.mapUpdate, run_underlying hT.h, MapKept.run_getObj_map hb, run_checkKey_ii _ hT.hk, run_findKey_ib hT.hk, hm, MapKept.run_setObj_map _ hb, Result.andThen]
  | some i =>
    obtain ⟨h1, h2⟩ := bfind_lt hm
    have hh : bhas l key = true := by unfold bhas; rw [hm]; rfl
    have e : ((bput l c key).map bent).toArray = (l.map bent).toArray.modify i fun x => { x with key := .int .i64 key, val := .bool true } := by
      unfold bput; rw [if_pos hh]
      apply Array.ext'
      simp only [Array.toList_modify]
      apply List.ext_getElem
      · simp
      · intro j hj1 hj2
        simp only [List.getElem_map, List.getElem_modify]
        split
        · rename_i e3
          subst e3
          simp [bent, h2]
        · rfl
    have e2 : bclock l c key = c := by unfold bclock; rw [if_pos hh]
    rw [e, e2]
    simp [Instr.mapUpdate, run_underlying hT.h, MapKept.run_getObj_map hb, run_checkKey_ii _ hT.hk, run_findKey_ib hT.hk, hm, MapKept.run_setObj_map _ hb, Result.andThen, Instr.keyThatStays, Instr.sameBits, h1, h2, bent]
theorem Run.lookB {T : TypeId} (hT : MapIB P T k e) {b c : Nat} {l : List (Int × Nat)} {key : Int} (hL : (b, bobj l c) ∈ L) (hx : ev F x = some (.map (some b))) (hy : ev F y = some (.int .i64 key)) {d : Option Tmp} :
    Run P n w0 S F L ⟨d, .lookup T x y false, ty, ps, af, g⟩ (.bool (bhas l key)) := Run.of fun ρ hρ w hw => by
  simp only [execOp, hρ _ _ hx, hρ _ _ hy, Sem.run_bind, run_lookup_ib hT (hw.get hL), Result.andThen_ok, Sem.run_pure]
theorem Run.lookB0 {T : TypeId} (hT : MapIB P T k e) {key : Int} (hx : ev F x = some (.map none)) (hy : ev F y = some (.int .i64 key)) {d : Option Tmp} :
    Run P n w0 S F L ⟨d, .lookup T x y false, ty, ps, af, g⟩ (.bool false) := Run.of fun ρ hρ w hw => by
  simp only [execOp, hρ _ _ hx, hρ _ _ hy, Sem.run_bind, run_lookupB_none hT, Result.andThen_ok, Sem.run_pure]
/-- A set that may not be there, in any world. -/
theorem Run.lookBw {T : TypeId} (hT : MapIB P T k e) {b : Nat} {l : List (Int × Nat)} {c : Nat} {key : Int} (hL : ∀ w, St w0 S w L → w.heap[b]? = some (bobj l c)) (hx : ev F x = some (.map (some b))) (hy : ev F y = some (.int .i64 key)) {d : Option Tmp} :
    Run P n w0 S F L ⟨d, .lookup T x y false, ty, ps, af, g⟩ (.bool (bhas l key)) := Run.of fun ρ hρ w hw => by
  simp only [execOp, hρ _ _ hx, hρ _ _ hy, Sem.run_bind, run_lookup_ib hT (hL w hw), Result.andThen_ok, Sem.run_pure]
theorem Loud.makeMapB {T : TypeId} (hn : Nat.blt d n = true) (h : ∀ b, Goal n w0 S ((d, .map (some b)) :: F) ((b, bobj [] 0) :: L) C) : Goal n w0 S F L (OW P Q ⟨some d, .makeMap T none, ty, ps, af, g⟩ C) := Loud.makeMap hn h
theorem Loud.putB {T : TypeId} (i : Nat) (hT : MapIB P T k e) {b c : Nat} {l : List (Int × Nat)} {key : Int} (hL : L[i]? = some (b, bobj l c)) (hx : ev F x = some (.map (some b))) (hy : ev F y = some (.int .i64 key)) (hz : ev F z = some (.bool true))
    (h : Goal n w0 S F (L.set i (b, bobj (bput l c key) (bclock l c key))) C) : Goal n w0 S F L (OW P Q ⟨none, .mapUpdate T x y z, ty, ps, af, g⟩ C) :=
  Loud.ofSkip fun ρ hρ w hw => ⟨_, _, by
    simp only [execOp, hρ _ _ hx, hρ _ _ hy, hρ _ _ hz, Sem.run_bind, run_update_ib hT (hw.at hL), Result.andThen_ok, Sem.run_pure], hw.mrow hL, h⟩
end
end Go.Wf
