/- More rules of the core: append of a slice that is known by what it reads as. No program in sight. -/
import Derived.Test.YthhhegmhgheeiaaCore
namespace Go.Wf
open Go.RowKit
set_option linter.unusedVariables false
section
variable {P : Program} {n : Nat} {w0 : World} {S : List Nat} {F : Fr} {L : List Blk} {ops : Array Oper} {Q : Exit → Act → World → Prop} {C : Act → World → Prop} {rest : List Oper} {g : Option (Nat × Bool)} {d : Tmp} {x y : Operand} {T ty : TypeId} {ps : String} {af : Array Edge}
theorem run_append_none {e : TypeId} {z : Value} {m by_ : Nat} {t1 : TypeId} (hu : SliceT P t1 e) (he : Inf P e z m by_) {v : Value} {k : Nat} {vs : List Value} {A : List Blk} (hA : Sl v e m k vs A) (ad : Option Addr) (c : Nat) (w : World) (ty : TypeId) :
    (Builtin.append_ #[t1, t1] ty #[v, .slice ad 0 c]).run P w = .ok v w := by
  obtain ⟨i, hi, hz, hsz, hby⟩ := info3_parts he.h
  rcases hA with ⟨rfl, rfl, rfl, rfl⟩ | ⟨b, rest, cap, rfl, rfl, hvs, hcap, hkc⟩
  · cases ad <;> simp [Builtin.append_, run_underlying hu.h, sizeOf, typeInfo, hi, Builtin.lenOf, go_sem, Builtin.firstCells, loadCells]
  · cases ad <;> simp [Builtin.append_, run_underlying hu.h, sizeOf, typeInfo, hi, Builtin.lenOf, go_sem, Builtin.firstCells, loadCells, hkc, storeCells]
/-- 'append(s, x...)': x is read only. -/
theorem Loud.appendRd {e : TypeId} {z : Value} {by_ : Nat} {t1 : TypeId} (hn : Nat.blt d n = true) (hu : SliceT P t1 e) (he : Inf P e z 1 by_) (hz0 : z.cells.size = 1)
    {v : Value} {k : Nat} {vs : List Value} {A R : List Blk} (hx : ev F x = some v) (hA : Sl v e 1 k vs A) {vy : Value} {news : List Value} (hy : ev F y = some vy) (h1 : news.all Value.oneCell' = true) (hb : (k + news.length) * by_ ≤ 140737488355328) (h63 : k + news.length ≤ 9223372036854775807)
    (hnews : ∀ w, St w0 S w L → RdV w vy news) (hL : ∀ w, St w0 S w L → St w0 S w (A ++ R))
    (h : ∀ v' A', Sl v' e 1 (k + news.length) (vs ++ news) A' → Goal n w0 S ((d, v') :: F) (A' ++ R) C) :
    Goal n w0 S F L (OW P Q ⟨some d, .call { callee := .builtin .append, args := #[x, y], argTypes := #[t1, t1] }, ty, ps, af, g⟩ C) := by
  refine Goal.st fun w1 hw1 => ?_
  obtain ⟨ad, cap, rfl, hr1⟩ := hnews w1 hw1
  cases news with
  | nil =>
    refine Loud.of hn fun ρ hρ w hw => ⟨v, w, A ++ R, ?_, hL w hw, h v A (by simpa using hA)⟩
    simp only [execOp, resolve, invoke, builtin, Sem.run_bind, Sem.run_pure, Result.andThen_ok, List.map_toArray, List.map_cons, List.map_nil, hρ _ _ hx, hρ _ _ hy, List.length_nil, run_append_none hu he hA]
  | cons u r =>
    obtain ⟨b, o, rfl, _⟩ := hr1 0 u rfl
    refine Loud.appendOf (ad := ⟨b, o, none⟩) (m := 1) hn hu he hz0 hx hA hy (by omega) h1 hb h63 (fun w hw j u' hj => ?_) hL h
    obtain ⟨ad', cap', e1, hr⟩ := hnews w hw
    injection e1 with e1 _ _
    obtain ⟨b', o', e2, h2⟩ := hr j u' hj
    rw [← e1] at e2
    injection e2 with e2
    injection e2 with e3 e4 _
    subst e3 e4
    rw [add_mk]
    exact h2
theorem Sl.shape {v : Value} {E sz k : Nat} {vs : List Value} {A : List Blk} (h : Sl v E sz k vs A) : ∃ ad cap, v = .slice ad k cap := by
  rcases h with ⟨rfl, rfl, _, _⟩ | ⟨b, r, cap, rfl, _⟩
  · exact ⟨none, 0, rfl⟩
  · exact ⟨_, cap, rfl⟩
end
section
variable {P : Program} {n : Nat} {w0 : World} {S : List Nat} {F : Fr} {L : List Blk} {Q : Exit → Act → World → Prop} {C : Act → World → Prop}
variable {d : Tmp} {x : Operand} {ty : TypeId} {ps : String} {af : Array Edge} {g : Option (Nat × Bool)} {as : Array Operand} {ts : Array TypeId} {f : FuncId} {vs fst : List Value} {cap : Array Value}
/-- A call that is handed the last blocks. -/
theorem Loud.callE {X : Type} {p : X → Prop} {val : X → Value} {A' : X → List Blk} (B : List Blk) {A : List Blk} {args : List Value} (hc : MCalls P f args A p val A') (hn : Nat.blt d n = true) (hx : ev F x = some (.func (.func f) fst.toArray cap)) (ha : evs F as.toList = some vs) (hargs : fst ++ vs ++ cap.toList = args) (hb : Bod P f)
    (hL : ∀ w, St w0 S w L → St w0 S w (B ++ A))
    (h : ∀ x, p x → Goal n w0 S ((d, val x) :: F) (B ++ A' x) C) : Goal n w0 S F L (OW P Q ⟨some d, .call { callee := .value x, args := as, argTypes := ts }, ty, ps, af, g⟩ C) :=
  Loud.callM B (G := []) hc hn hx ha hargs hb (fun w hw => by rw [List.append_nil]; exact hL w hw) fun x hx => by
    have := h x hx
    rwa [List.append_nil]
end
section
variable {P : Program} {n : Nat} {w0 : World} {S : List Nat} {F : Fr} {L Lk : List Blk} {Q : Exit → Act → World → Prop} {ops : Array Oper} {rest : List Oper} {m fuel : Nat} {listed : Array Bool}
theorem wanted_undef {o : Oper} {a : Act} {j : Nat} {want : Bool} {t : Tmp} (hg : o.guard = some (j, want)) (ht : (ops[j]?).bind (·.dst) = some t) (hv : a.tmps[t]? = some undef) : Region.wanted o (yielded ops a.tmps) = false := by
  simp only [Region.wanted, hg, yielded, ht, Option.bind_some, hv, undef]
  cases want <;> rfl
/-- A guard that was itself skipped. -/
theorem Goal.guardU {d : Tmp} {op : Op} {ty : TypeId} {ps : String} {af : Array Edge} {j : Nat} {want : Bool} {t : Tmp} (hn : Nat.blt d n = true) (ht : (ops[j]?).bind (·.dst) = some t) (hv : look F t = some undef)
    (h : Goal n w0 S ((d, undef) :: F) L (LW P ops Q rest)) : Goal n w0 S F L (LW P ops Q (⟨some d, op, ty, ps, af, some (j, want)⟩ :: rest)) := .of fun w a hw ha => by
  refine ⟨?_⟩
  have hwd := wanted_undef (o := ⟨some d, op, ty, ps, af, some (j, want)⟩) rfl ht (ha.slot _ _ hv)
  unfold wpList
  rw [hwd]
  simp only [Bool.false_eq_true, if_false]
  exact (h w _ hw (ha.put (by simpa using hn) undef)).out
theorem Goal.takePU {listed' : Array Bool} {d : Tmp} {op : Op} {ty : TypeId} {ps : String} {af : Array Edge} {j : Nat} {want : Bool} {t : Tmp} (i : Nat) (hc : TakeP ops listed i ⟨some d, op, ty, ps, af, some (j, want)⟩ listed') (hn : Nat.blt d n = true)
    (ht : (ops[j]?).bind (·.dst) = some t) (hv : look F t = some undef)
    (hQ : ∀ c a w u, Q (.panic c) (a.put (some d) u) w → Q (.panic c) a w)
    (h : Goal n w0 S ((d, undef) :: F) L (AW P ops Q m w0 S Lk fuel listed')) : Goal n w0 S F L (AW P ops Q m w0 S Lk (fuel + 1) listed) := .of fun w a hw hs => by
  obtain ⟨hi, hsel, hfr, hrd, rfl⟩ := hc
  refine ⟨AnyS.firstP hi (Region.noSelect_spec hsel) (fun c a w h => hQ c a w undef h) fuel listed a w (Region.free_spec hi hfr) (by simpa using hrd)
    (.inr ⟨by exact wanted_undef (o := ⟨some d, op, ty, ps, af, some (j, want)⟩) rfl ht (hs.slot _ _ hv), rfl⟩) ?_⟩
  exact (h w _ hw (hs.put (by simpa using hn) undef)).out
end
section
variable {P : Program} {w0 : World} {S : List Nat} {L : List Blk}
theorem LoadOK.baE {T : TypeId} {x : Bool} (hT : OneB P T) (k : Nat) {b : Nat} {l : List Bool} {E : TypeId} {fz : Nat × Nat} {i : Int} (hL : L[k]? = some (b, .cells (bools l).toArray E fz)) (hi : 0 ≤ i ∧ i < l.length) (hx : Go.Wf.ba l i = x) : LoadOK P w0 S L T ⟨b, 0 + i.toNat, none⟩ (.bool x) :=
  hx ▸ LoadOK.ba hT k hL hi
theorem LoadOK.iaE {T : TypeId} {x : Int} (hT : OneB P T) (k : Nat) {b : Nat} {l : List Int} {E : TypeId} {fz : Nat × Nat} {i : Int} (hL : L[k]? = some (b, .cells (ints l).toArray E fz)) (hi : 0 ≤ i ∧ i < l.length) (hx : Go.Wf.ia l i = x) : LoadOK P w0 S L T ⟨b, 0 + i.toNat, none⟩ (.int .i64 x) :=
  hx ▸ LoadOK.ia hT k hL hi
end
end Go.Wf
