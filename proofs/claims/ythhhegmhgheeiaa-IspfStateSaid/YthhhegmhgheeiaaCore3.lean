/- More rules: slices that are only read, of elements of several cells, and their append; loads from a block of the list; the built-in min and max; shifts; slices and nil. -/
import Derived.Test.YthhhegmhgheeiaaCore2
import Derived.Lib.MinMax
import Derived.Laws.Cover3
namespace Go.Wf
open Go.RowKit
set_option linter.unusedVariables false
/-- A slice that is only read, of elements of more than one cell. -/
def RdE (w : World) (v : Value) (sz : Nat) (ess : List (List Value)) : Prop := ∃ ad cap, v = .slice ad ess.length cap ∧
  ∀ i es, ess[i]? = some es → es.length = sz ∧ ∃ b o, ad = some ⟨b, o, none⟩ ∧ ∀ j u, es[j]? = some u → w.cell? ⟨b, o + i * sz + j, none⟩ = some u
theorem RdE.nil (w : World) (sz : Nat) : RdE w (.slice none 0 0) sz [] := ⟨none, 0, rfl, fun i u h => by simp at h⟩
theorem RdE.keep {w w' : World} {v : Value} {sz : Nat} {ess : List (List Value)} (h : RdE w v sz ess) (hm : Mod [] w w') : RdE w' v sz ess := by
  obtain ⟨ad, cap, rfl, h⟩ := h
  refine ⟨ad, cap, rfl, fun i es hi => ?_⟩
  obtain ⟨h0, b, o, h1, h2⟩ := h i es hi
  exact ⟨h0, b, o, h1, fun j u hj => hm.cell (h2 j u hj) (by simp)⟩
/-- A list of elements of several cells that is only read, at a place. -/
theorem rd_els {α : Type} [Inhabited α] {f : α → List Value} {w : World} {sz : Nat} {ad : Option Addr} {l : List α} {c : Nat} (h : RdE w (.slice ad l.length c) sz (l.map f)) (hp : 0 < l.length) : ∃ b o, ad = some ⟨b, o, none⟩ ∧
    ∀ i : Int, 0 ≤ i → i < l.length → ∀ j v, (f (el l i))[j]? = some v → w.cell? ⟨b, o + i.toNat * sz + j, none⟩ = some v := by
  obtain ⟨ad', cap, e, h⟩ := h
  injection e with e _ _
  subst e
  have at_ : ∀ j, ∀ hj : j < l.length, (l.map f)[j]? = some (f l[j]) := fun j hj => by simp [hj]
  obtain ⟨_, b, o, rfl, _⟩ := h 0 _ (at_ 0 hp)
  refine ⟨b, o, rfl, fun i h0 hi j v hv => ?_⟩
  obtain ⟨_, b', o', e, h2⟩ := h i.toNat _ (at_ i.toNat (by omega))
  injection e with e
  injection e with e1 e2 _
  subst e1 e2
  rw [el_get ⟨h0, hi⟩] at hv
  exact h2 j v hv
theorem RdE.rdv {w : World} {v : Value} {l : List Value} (h : RdE w v 1 (l.map fun x => [x])) : RdV w v l := by
  obtain ⟨ad, cap, rfl, h⟩ := h
  refine ⟨ad, cap, by simp, fun i u hi => ?_⟩
  obtain ⟨_, b, o, h1, h2⟩ := h i [u] (by simp [hi])
  exact ⟨b, o, h1, by simpa using h2 0 u rfl⟩
theorem RdE.of_sl {α : Type} {f : α → List Value} {w : World} {v : Value} {E m : Nat} {l : List α} {A : List Blk} (hf : ∀ a, (f a).length = m) (hA : Sl v E m l.length (Els f l) A) (ho : Own w A) : RdE w v m (l.map f) := by
  rcases hA with ⟨rfl, h0, _, _⟩ | ⟨b, rest, cap, rfl, rfl, h1, h2, h3⟩
  · have : l = [] := List.length_eq_zero_iff.1 h0
    subst this
    exact RdE.nil w m
  · refine ⟨some ⟨b, 0, none⟩, cap, by simp, fun i es hi => ?_⟩
    have hil : i < l.length := by
      rcases Nat.lt_or_ge i l.length with h | h
      · exact h
      · rw [List.getElem?_eq_none (by simpa using h)] at hi; cases hi
    have he : es = f l[i] := by
      rw [List.getElem?_map, List.getElem?_eq_getElem hil] at hi
      simpa using hi.symm
    subst he
    refine ⟨hf _, b, 0, rfl, fun j u hj => ?_⟩
    have hjm : j < m := by rw [← hf l[i]]; exact (List.getElem?_eq_some_iff.mp hj).1
    have hb : i * m + j < l.length * m := by
      have h1 : (i + 1) * m ≤ l.length * m := Nat.mul_le_mul_right m hil
      rw [Nat.add_mul] at h1
      omega
    refine cell_of_blk ho.1 ?_
    rw [Nat.zero_add]
    have : (Els f l)[i * m + j]? = some u := by rw [Els_at hf hil hjm]; exact hj
    simpa [List.getElem?_append_left (by rw [Els_len hf]; exact hb : i * m + j < (Els f l).length)] using this
section
variable {P : Program} {n : Nat} {w0 : World} {S : List Nat} {F : Fr} {L : List Blk} {ops : Array Oper} {Q : Exit → Act → World → Prop} {C : Act → World → Prop} {g : Option (Nat × Bool)} {d : Tmp} {x y : Operand} {T ty : TypeId} {ps : String} {af : Array Edge}
/-- 'append(s, x...)': x is only read, its elements have several cells. -/
theorem Loud.appendRdE {α : Type} {f : α → List Value} {l : List α} {e : TypeId} {z : Value} {m by_ : Nat} {t1 : TypeId} (hn : Nat.blt d n = true) (hu : SliceT P t1 e) (he : Inf P e z m by_) (hz0 : z.cells.size = m) (h0 : 0 < m) (hf : ∀ a, (f a).length = m) (hone : ∀ a, (f a).all Value.oneCell' = true)
    {v : Value} {k : Nat} {vs : List Value} {A R : List Blk} (hx : ev F x = some v) (hA : Sl v e m k vs A) {vy : Value} (hy : ev F y = some vy) (hb : (k + l.length) * by_ ≤ 140737488355328) (h63 : k + l.length ≤ 9223372036854775807)
    (hnews : ∀ w, St w0 S w L → RdE w vy m (l.map f)) (hL : ∀ w, St w0 S w L → St w0 S w (A ++ R))
    (h : ∀ v' A', Sl v' e m (k + l.length) (vs ++ Els f l) A' → Goal n w0 S ((d, v') :: F) (A' ++ R) C) :
    Goal n w0 S F L (OW P Q ⟨some d, .call { callee := .builtin .append, args := #[x, y], argTypes := #[t1, t1] }, ty, ps, af, g⟩ C) := by
  refine Goal.st fun w1 hw1 => ?_
  obtain ⟨ad, cap, rfl, hr1⟩ := hnews w1 hw1
  cases l with
  | nil =>
    refine Loud.of hn fun ρ hρ w hw => ⟨v, w, A ++ R, ?_, hL w hw, h v A (by simpa [Els] using hA)⟩
    simp only [execOp, resolve, invoke, builtin, Sem.run_bind, Sem.run_pure, Result.andThen_ok, List.map_toArray, List.map_cons, List.map_nil, hρ _ _ hx, hρ _ _ hy, List.length_nil, run_append_none hu he hA]
  | cons a r =>
    obtain ⟨_, b, o, rfl, _⟩ := hr1 0 (f a) rfl
    refine Loud.appendOf (ad := ⟨b, o, none⟩) (m := m) (l := (a :: r).length) (news := Els f (a :: r)) hn hu he hz0 hx hA (by simpa using hy) (Els_len hf _) ?_ hb h63 (fun w hw j u' hj => ?_) hL h
    · simp only [Els, List.all_flatMap, hone]
      simp
    · obtain ⟨ad', cap', e1, hr⟩ := hnews w hw
      injection e1 with e1 _ _
      have hjl : j < (a :: r).length * m := by rw [← Els_len hf]; exact (List.getElem?_eq_some_iff.mp hj).1
      have hq : j / m < (a :: r).length := (Nat.div_lt_iff_lt_mul h0).2 hjl
      have hj2 : j = j / m * m + j % m := by rw [Nat.mul_comm]; exact (Nat.div_add_mod j m).symm
      have hrm : j % m < m := Nat.mod_lt _ h0
      rw [hj2, Els_at hf hq hrm] at hj
      obtain ⟨_, b', o', e2, h2⟩ := hr (j / m) (f (a :: r)[j / m]) (by rw [List.getElem?_map, List.getElem?_eq_getElem hq]; rfl)
      rw [← e1] at e2
      injection e2 with e2
      injection e2 with e3 e4 _
      subst e3 e4
      rw [add_mk, hj2]
      have := h2 _ _ hj
      rwa [Nat.add_assoc] at this
end
section
variable {P : Program} {w0 : World} {S : List Nat} {L : List Blk}
theorem LoadOK.elM {α : Type} [Inhabited α] {f : α → List Value} {m : Nat} {T : TypeId} (hT : AggB P T m) {b : Nat} {l : List α} {rest : List Value} {E : TypeId} {fz : Nat × Nat} {i : Int} (hf : ∀ a, (f a).length = m) (hL : (b, .cells (Els f l ++ rest).toArray E fz) ∈ L) (hi : 0 ≤ i ∧ i < l.length) :
    LoadOK P w0 S L T ⟨b, 0 + i.toNat * m, none⟩ (.agg (f (Go.Wf.el l i)).toArray) := by
  obtain ⟨k, hk⟩ := List.getElem?_of_mem hL
  exact LoadOK.elR hT k hf hk hi
theorem LoadOK.elFM {α : Type} [Inhabited α] {f : α → List Value} {m : Nat} {T : TypeId} {v : Value} (hT : OneB P T) (j : Nat) {b : Nat} {l : List α} {rest : List Value} {E : TypeId} {fz : Nat × Nat} {i : Int} (hf : ∀ a, (f a).length = m) (hL : (b, .cells (Els f l ++ rest).toArray E fz) ∈ L) (hi : 0 ≤ i ∧ i < l.length) (hj : (f (Go.Wf.el l i))[j]? = some v) :
    LoadOK P w0 S L T ⟨b, 0 + i.toNat * m + j, none⟩ v := by
  obtain ⟨k, hk⟩ := List.getElem?_of_mem hL
  exact LoadOK.elFR hT k j hf hk hi hj
end
section
variable {P : Program} {n : Nat} {w0 : World} {S : List Nat} {F : Fr} {L : List Blk} {x y : Operand} {d : Option Tmp} {ty t1 t2 : TypeId} {ps : String} {af : Array Edge} {g : Option (Nat × Bool)} {k : IntKind} {a b : Int}
theorem Run.max2 (hx : ev F x = some (.int k a)) (hy : ev F y = some (.int k b)) :
    Run P n w0 S F L ⟨d, .call { callee := .builtin .max, args := #[x, y], argTypes := #[t1, t2] }, ty, ps, af, g⟩ (.int k (max a b)) := Run.of fun ρ hρ w _ => by
  simp [hρ _ _ hx, hρ _ _ hy, Go.Lib.run_max_ints, go_sem]
theorem Run.min2 (hx : ev F x = some (.int k a)) (hy : ev F y = some (.int k b)) :
    Run P n w0 S F L ⟨d, .call { callee := .builtin .min, args := #[x, y], argTypes := #[t1, t2] }, ty, ps, af, g⟩ (.int k (min a b)) := Run.of fun ρ hρ w _ => by
  simp [hρ _ _ hx, hρ _ _ hy, Go.Lib.run_min_ints, go_sem]
theorem Run.shr1 {T T' : TypeId} {c : Int} (hk : k.bits ≥ 1) (hx : ev F x = some (.int k a)) (hy : ev F y = some (.int .u64 1)) (hc : a / 2 = c) : Run P n w0 S F L ⟨d, .binOp .shr T x y T', ty, ps, af, g⟩ (.int k c) := Run.of fun ρ hρ w _ => by
  subst hc
  simp [execOp, hρ _ _ hx, hρ _ _ hy, shift_shr k .u64 a 1 (by decide) (by exact_mod_cast hk), go_sem]
theorem Run.eqlSN {T T' e : TypeId} {ad : Option Addr} {l c : Nat} {r : Bool} (hT : SliceT P T e) (hx : ev F x = some (.slice ad l c)) (hy : ev F y = some (.slice none 0 0)) (hr : ad.isNone = r) : Run P n w0 S F L ⟨d, .binOp .eql T x y T', ty, ps, af, g⟩ (.bool r) := Run.of fun ρ hρ w _ => by
  have hg : (eqGuard .eql T x y (.slice ad l c) (.slice none 0 0)).run P w = .ok () w := by simp [eqGuard, go_sem]
  have hb : (binOp .eql T (.slice ad l c) (.slice none 0 0)).run P w = .ok (.bool ad.isNone) w := by
    show ((do pure (.bool (← Op.equal T (.slice ad l c) (.slice none 0 0)))) : Sem Value).run P w = _
    simp only [Sem.run_bind, run_equal_slice_nil w T e ad l c hT.h, Result.andThen_ok, Sem.run_pure]
  subst hr
  simp only [execOp, hρ _ _ hx, hρ _ _ hy, Sem.run_bind, hg, Result.andThen_ok, hb, Sem.run_pure]
end
end Go.Wf
