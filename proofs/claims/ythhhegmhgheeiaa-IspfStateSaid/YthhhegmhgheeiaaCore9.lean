/- More rules: the built-in copy of a list of bools that is only read, as long as its target or empty. -/
import Derived.Test.YthhhegmhgheeiaaCore8
namespace Go.Wf
open Go.RowKit
set_option linter.unusedVariables false
section
variable {P : Program} {n : Nat} {w0 : World} {S : List Nat} {F : Fr} {L R : List Blk} {g : Option (Nat × Bool)} {d : Tmp} {x y : Operand} {T ty : TypeId} {ps : String} {af : Array Edge} {Q : Exit → Act → World → Prop} {C : Act → World → Prop}
theorem Goal.upU {ops : Array Oper} {m fuel : Nat} {Lk : List Blk} {listed : Array Bool} {i : Nat} {listed' : Array Bool} {d : Tmp} {op : Op} {ty : TypeId} {ps : String} {af : Array Edge} {j : Nat} {want : Bool} {t : Tmp} (ho : ops[i]? = some ⟨some d, op, ty, ps, af, some (j, want)⟩) (hl : listed.setIfInBounds i true = listed')
    (ht : (ops[j]?).bind (·.dst) = some t) (hv : look F t = some undef) (hn : Nat.blt d n = true)
    (h : Goal n w0 S ((d, undef) :: F) L (BW P ops Q m w0 S Lk fuel listed' i)) : Goal n w0 S F L (UW P ops Q m w0 S Lk fuel listed i) := .of fun w a hw hs => by
  subst hl
  refine ⟨?_⟩
  unfold wpOp
  rw [ho]
  simp only []
  rw [wanted_undef (o := ⟨some d, op, ty, ps, af, some (j, want)⟩) rfl ht (hs.slot _ _ hv)]
  simp only [Bool.false_eq_true, if_false]
  have h1 := (h w _ hw (hs.put (by simpa using hn) undef)).out
  exact ⟨fun hm _ => h1.1 hm, h1.2⟩
/-- What a call changes in memory that was made since is no change of what there was. -/
theorem St.modOf {w w'' : World} {SS : List Nat} (h : St w0 [] w L) (hm : Mod SS w w'') (hs : ∀ b ∈ SS, b ∈ keys L) : Mod [] w0 w'' := by
  refine ⟨hm.os.trans h.mod.os, hm.tape.trans h.mod.tape, hm.output.trans h.mod.output, Nat.le_trans h.mod.size hm.size, fun k hk _ => ?_⟩
  rw [hm.keep k (Nat.lt_of_lt_of_le hk h.mod.size), h.mod.keep k hk (by simp)]
  intro hk2
  rcases h.new k (hs k hk2) with h1 | h1
  · cases h1
  · omega
theorem St.modOf2 {w w'' : World} {A : List Blk} (h : St w0 S w (A ++ L)) (hm : Mod (keys A) w w'') (hs : ∀ b ∈ keys A, b ∈ S) : Mod S w0 w'' := by
  refine ⟨hm.os.trans h.mod.os, hm.tape.trans h.mod.tape, hm.output.trans h.mod.output, Nat.le_trans h.mod.size hm.size, fun k hk hkS => ?_⟩
  rw [hm.keep k (Nat.lt_of_lt_of_le hk h.mod.size) (fun hk2 => hkS (hs k hk2)), h.mod.keep k hk hkS]
theorem Goal.reL {L' : List Blk} (hL : ∀ w, St w0 S w L → St w0 S w L') (h : Goal n w0 S F L' C) : Goal n w0 S F L C := .of fun w a hw hs => h w a (hL w hw) hs
theorem LoadOK.iaM {x : Int} (hT : OneB P T) {b : Nat} {l : List Int} {E : TypeId} {i : Int} (hL : (b, .cells (ints l).toArray E) ∈ L) (hi : 0 ≤ i ∧ i < l.length) (hx : Go.Wf.ia l i = x) : LoadOK P w0 S L T ⟨b, 0 + i.toNat, none⟩ (.int .i64 x) :=
  LoadOK.iaMe (rest := []) hT (by rw [List.append_nil]; exact hL) hi hx
theorem run_size1 {e : TypeId} {m : Nat} (he : Sz P e m) (w : World) : (sizeOf e).run P w = .ok m w := by
  have hT := he.h
  cases hi : P.info? e with
  | none => simp [info3, hi] at hT
  | some q =>
    simp [info3, hi] at hT
    simp only [sizeOf, typeInfo, Sem.run_bind, run_program, hi, Sem.run_pure, Result.andThen_ok, hT]
theorem run_copy0 {e : TypeId} {m : Nat} {t1 t2 : TypeId} (hu : SliceT P t1 e) (he : Sz P e m) {w : World} {a1 a2 : Option Addr} {k c c2 : Nat} (ty : TypeId) : (Builtin.copy_ #[t1, t2] ty #[.slice a1 k c, .slice a2 0 c2]).run P w = .ok (.int .i64 0) w := by
  have hs := run_size1 he w
  cases a2 <;> cases a1 <;> simp [Builtin.copy_, run_underlying hu.h, hs, Builtin.lenOf, Builtin.firstCells, loadCells, storeCells, goInt, go_sem, Sem.run_bind, Result.andThen_ok]
theorem run_copyAll {e : TypeId} {t1 t2 : TypeId} (hu : SliceT P t1 e) (he : Sz P e 1) {w : World} {b : Nat} {a2 : Addr} {c c2 : Nat} {cur : Array Value} {E : TypeId} {news : List Value} (hb : w.heap[b]? = some (.cells cur E)) (hcl : cur.size = news.length) (hnews : ∀ j v, news[j]? = some v → w.cell? (a2.add j) = some v) (hone : ∀ v ∈ news, v.oneCell' = true) (ty : TypeId) :
    (Builtin.copy_ #[t1, t2] ty #[.slice (some ⟨b, 0, none⟩) news.length c, .slice (some a2) news.length c2]).run P w = .ok (.int .i64 news.length) (w.setRow b news.toArray) := by
  have hs := run_size1 he w
  have hf := run_firstCells_some (P := P) w 1 news.length a2 news.length c2 news (by omega) hnews
  have hst := run_storeCells_at P b 0 E news 0 cur w hb (by omega) hone
  simp only [Nat.zero_add, Nat.add_zero, List.take_zero, List.nil_append] at hst
  rw [List.drop_eq_nil_of_le (by rw [Array.length_toList]; omega), List.append_nil] at hst
  simp only [Builtin.copy_]
  simp [run_underlying hu.h, hs, Builtin.lenOf, hf, hst, goInt, Sem.run_bind, Result.andThen_ok]
/-- What a list of bools holds after the copy. -/
def cpB (l dn : List Bool) : List Bool := if dn.length = 0 then l else dn
theorem Loud.copyB {e : TypeId} {t1 t2 : TypeId} (hn : Nat.blt d n = true) (hu : SliceT P t1 e) (he : Sz P e 1) {b k c : Nat} {E : TypeId} {l dn : List Bool} {vy : Value} (hx : ev F x = some (.slice (some ⟨b, 0, none⟩) k c)) (hk : l.length = k) (hy : ev F y = some vy) (hd : ∀ w, St w0 S w ((b, .cells (bools l).toArray E) :: R) → RdV w vy (bools dn)) (hdn : dn.length = 0 ∨ dn.length = k)
    (h : ∀ m, m = cpB l dn → Goal n w0 S ((d, .int .i64 dn.length) :: F) ((b, .cells (bools m).toArray E) :: R) C) :
    Goal n w0 S F ((b, .cells (bools l).toArray E) :: R) (OW P Q ⟨some d, .call { callee := .builtin .copy, args := #[x, y], argTypes := #[t1, t2] }, ty, ps, af, g⟩ C) := by
  refine Goal.st fun w1 hw1 => ?_
  obtain ⟨ad, cap, rfl, hr1⟩ := hd w1 hw1
  rw [bools_len] at hy
  refine Loud.of hn fun ρ hρ w hw => ?_
  by_cases h0 : dn.length = 0
  · rw [h0] at hy h
    refine ⟨.int .i64 0, w, _, ?_, hw, by have := h l (by unfold cpB; rw [if_pos h0]); simpa using this⟩
    simp only [execOp, resolve, invoke, builtin, Sem.run_bind, Sem.run_pure, Result.andThen_ok, List.map_toArray, List.map_cons, List.map_nil, hρ _ _ hx, hρ _ _ hy, run_copy0 hu he]
  · have hdk : dn.length = k := hdn.resolve_left h0
    obtain ⟨b2, o2, rfl, _⟩ := hr1 0 _ (bools_at (l := dn) (j := 0) (by omega))
    obtain ⟨_, _, e1, hr⟩ := hd w hw
    injection e1 with e1 _ _
    refine ⟨.int .i64 dn.length, w.setRow b (bools dn).toArray, _, ?_, hw.row (i := 0) rfl, h dn (by unfold cpB; rw [if_neg h0])⟩
    have := run_copyAll (P := P) (t2 := t2) hu he (a2 := ⟨b2, o2, none⟩) (c := c) (c2 := cap) (news := bools dn) (hw.at (i := 0) rfl) (by rw [List.size_toArray, bools_len, bools_len]; omega) (fun j v hj => by
      obtain ⟨b', o', e2, h2⟩ := hr j v hj
      rw [← e1] at e2
      injection e2 with e2
      injection e2 with e3 e4 _
      subst e3 e4
      rw [add_mk]
      exact h2) (fun v hv => by
      simp only [bools, List.mem_map] at hv
      obtain ⟨_, _, rfl⟩ := hv
      rfl) ty
    rw [bools_len] at this
    simp only [execOp, resolve, invoke, builtin, Sem.run_bind, Sem.run_pure, Result.andThen_ok, List.map_toArray, List.map_cons, List.map_nil, hρ _ _ hx, hρ _ _ hy, ← hdk, this]
end
end Go.Wf
