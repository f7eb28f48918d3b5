/- The frame of a law: arguments opened by their types, and what a law's contract gives. No program in sight. -/
import Derived.Test.YthhhegmhgheeiaaCore3
import Derived.ProofKit
import Derived.OpenShut
import Derived.SizedLaws
import Derived.Lib.SmallJoins
namespace Go.Wf
open Go.ChangeShapes Go.WideShapes Go.ChangeAt Go.RowKit
set_option linter.unusedVariables false

/-- These cells read as a value of the type, and nothing in them is beyond the machine's reach. -/
def Tr (P : Program) (W : World) (t : TypeId) (cs : List Value) : Prop :=
  ∃ (H : Type) (enc : TypeId × Value → H) (fuel : Nat) (x : DataW H × List MemPlace), DataW.trod enc P W 0 (fun _ => true) true fuel t cs = some x ∧ ∀ n ∈ x.1.weights P t, n ≤ reachBytes
/-- An argument of the type. -/
structure Arg (P : Program) (W : World) (t : TypeId) (v : Value) : Prop where
  ok : ∃ b, Value.okWide P W .any b t v
  tr : Tr P W t v.cells.toList
section
variable {P : Program} {W : World} {t e : TypeId} {cs : List Value} {v : Value}
theorem Tr.int {k : IntKind} (ht : P.underlying t = some (.int k)) (h : Tr P W t cs) : ∃ n, cs = [.int k n] ∧ (Lit.int k n).wf = true := by
  obtain ⟨H, enc, fuel, x, h, _⟩ := h
  obtain ⟨n, h1, _, h2⟩ := DataW.trod_int ht h
  exact ⟨n, h1, h2⟩
theorem Tr.bool (ht : P.underlying t = some .bool) (h : Tr P W t cs) : ∃ b, cs = [.bool b] := by
  obtain ⟨H, enc, fuel, x, h, _⟩ := h
  obtain ⟨b, h1, _⟩ := DataW.trod_bool ht h
  exact ⟨b, h1⟩
theorem weights_all {H : Type} {d : DataW H} {n : Nat} : ∀ {l : List (DataW H)}, d ∈ l → n ∈ d.weights P e → n ∈ DataW.weightsAll P e l
  | a :: r, hd, hn => by
    simp only [DataW.weightsAll, List.mem_append]
    rcases List.mem_cons.1 hd with rfl | h
    · exact .inl hn
    · exact .inr (weights_all h hn)
theorem Tr.field {fs : Array Field} (ht : P.underlying t = some (.struct fs)) (h : Tr P W t cs) : cs.length = P.cellsOf t ∧ ∀ (i : Nat) (f : Field), fs[i]? = some f → Tr P W f.type ((cs.drop f.offset).take (P.cellsOf f.type)) := by
  obtain ⟨H, enc, fuel, x, h, hw⟩ := h
  obtain ⟨xs, n, _, rfl, hl, hx, hf⟩ := DataW.trod_struct ht h
  refine ⟨hl, fun i f hi => ?_⟩
  have h1 := hf i f hi
  have hlt : i < fs.size := by
    rcases Nat.lt_or_ge i fs.size with h | h
    · exact h
    · simp [Array.getElem?_eq_none h] at hi
  obtain ⟨y, hy⟩ : ∃ y, xs[i]? = some y := ⟨xs[i], by simp [hx, hlt]⟩
  refine ⟨H, enc, n, y, h1.trans hy, fun m hm => hw m ?_⟩
  simp only [DataW.weights, ht]
  exact DataW.weights_mem_each (j := i) (by simp [hi]) (by simp [hy]) m hm
theorem Tr.elem {n : Nat} (ht : P.underlying t = some (.array n e)) (h : Tr P W t cs) : cs.length = P.cellsOf t ∧ ∀ i, i < n → Tr P W e ((cs.drop (i * P.cellsOf e)).take (P.cellsOf e)) := by
  obtain ⟨H, enc, fuel, x, h, hw⟩ := h
  obtain ⟨xs, m, _, rfl, hl, hx, hf⟩ := DataW.trod_array ht h
  refine ⟨hl, fun i hi => ?_⟩
  obtain ⟨y, hy⟩ : ∃ y, xs[i]? = some y := ⟨xs[i], by simp [hx, hi]⟩
  refine ⟨H, enc, m, y, (hf i hi).trans hy, fun k hk => hw k ?_⟩
  simp only [DataW.weights, ht]
  exact weights_all (List.mem_map.2 ⟨y, List.mem_of_getElem? hy, rfl⟩) hk

theorem Tr.fieldAt {fs : Array Field} (ht : P.underlying t = some (.struct fs)) (h : Tr P W t cs) (i : Nat) (f : Field) (hi : fs[i]? = some f) (m : Nat) (hm : P.cellsOf f.type = m) : Tr P W f.type ((cs.drop f.offset).take m) :=
  hm ▸ (Tr.field ht h).2 i f hi
theorem Tr.elemAt {n : Nat} (ht : P.underlying t = some (.array n e)) (h : Tr P W t cs) (i : Nat) (hi : i < n) (m : Nat) (hm : P.cellsOf e = m) : Tr P W e ((cs.drop (i * m)).take m) :=
  hm ▸ (Tr.elem ht h).2 i hi

theorem cells_some {w : World} {a : Addr} {n : Nat} {es : List Value} (h : w.cells? 0 a n = some es) : es.length = n ∧ ∀ j u, es[j]? = some u → w.cell? (a.add j) = some u := by
  simp only [World.cells?, Nat.zero_le, if_true] at h
  refine ⟨by simpa using mapM_some_length h, fun j u hj => ?_⟩
  have hlt : j < n := by
    have := mapM_some_length h
    rcases Nat.lt_or_ge j es.length with h' | h'
    · simpa [this] using h'
    · simp [List.getElem?_eq_none h'] at hj
  exact (mapM_some_get h j j (by simp [hlt])).trans hj
theorem Tr.slice (ht : P.underlying t = some (.slice e)) (hsz : 0 < P.cellsOf e) (h : Tr P W t cs) :
    ∃ v ess, cs = [v] ∧ RdE W v (P.cellsOf e) ess ∧ (∀ es ∈ ess, Tr P W e es) ∧ ess.length * P.bytesOf e ≤ reachBytes := by
  obtain ⟨H, enc, fuel, x, h, hw⟩ := h
  rcases DataW.trod_slice ht h with ⟨rfl, rfl⟩ | ⟨a, len, cap, elems, rest, n, _, rfl, rfl, _, hlc, hcm, hel, hes, hsp, _⟩
  · exact ⟨_, [], rfl, RdE.nil W _, by simp, by simp⟩
  have hget : ∀ i, i < len → ∃ es y, elems[i]? = some y ∧ W.cells? 0 (a.add (i * P.cellsOf e)) (P.cellsOf e) = some es ∧ DataW.trod enc P W 0 (fun _ => true) true n e es = some y := by
    intro i hi
    have h1 := hes i hi
    obtain ⟨y, hy⟩ : ∃ y, elems[i]? = some y := ⟨elems[i], by simp [hel, hi]⟩
    rw [hy] at h1
    rcases hc : W.cells? 0 (a.add (i * P.cellsOf e)) (P.cellsOf e) with _ | es
    · rw [hc] at h1; cases h1
    · rw [hc] at h1; exact ⟨es, y, hy, rfl, h1⟩
  let ess := (List.range len).map fun i => ((W.cells? 0 (a.add (i * P.cellsOf e)) (P.cellsOf e)).getD [])
  have hlen : ess.length = len := by simp [ess]
  have hat : ∀ i es, ess[i]? = some es → i < len ∧ W.cells? 0 (a.add (i * P.cellsOf e)) (P.cellsOf e) = some es := by
    intro i es hi
    have hlt : i < len := by
      rcases Nat.lt_or_ge i len with h | h
      · exact h
      · rw [List.getElem?_eq_none (by omega)] at hi; cases hi
    obtain ⟨es', _, _, h2, _⟩ := hget i hlt
    simp [ess, hlt, h2] at hi
    exact ⟨hlt, hi ▸ h2⟩
  refine ⟨_, ess, rfl, ⟨some a, cap, by rw [hlen], fun i es hi => ?_⟩, ?_, ?_⟩
  · obtain ⟨hlt, hc⟩ := hat i es hi
    obtain ⟨hl, hcell⟩ := cells_some hc
    refine ⟨hl, ?_⟩
    obtain ⟨b, o, spot⟩ := a
    have hspot : spot = none := by
      obtain ⟨es0, _, _, h0, _⟩ := hget 0 (by omega)
      obtain ⟨hl0, hc0⟩ := cells_some h0
      have : es0[0]? = some es0[0] := by simp
      simpa [Addr.add] using World.cell?_spot (hc0 0 _ this)
    subst hspot
    refine ⟨b, o, rfl, fun j u hj => ?_⟩
    have := hcell j u hj
    rw [Go.WideShapes.add_plain, Go.WideShapes.add_plain] at this
    exact this
  · intro es hm
    obtain ⟨i, hi⟩ := List.getElem?_of_mem hm
    obtain ⟨hlt, hc⟩ := hat i es hi
    obtain ⟨es', y, hy, h2, h3⟩ := hget i hlt
    obtain rfl : es' = es := Option.some.inj (h2.symm.trans hc)
    refine ⟨H, enc, n, y, h3, fun m hm => hw m ?_⟩
    simp only [DataW.weights, ht, List.mem_cons, List.mem_append]
    exact .inr (.inl (weights_all (List.mem_map.2 ⟨y, List.mem_of_getElem? hy, rfl⟩) hm))
  · have h3 := hw ((elems.length + rest.length) * P.bytesOf e) (by simp [DataW.weights, ht])
    rw [hlen, ← hel]
    exact Nat.le_trans (Nat.mul_le_mul_right _ (Nat.le_add_right _ _)) h3
/-- Elements that all read as the same shape. -/
theorem all_shape {α : Type} {Q : α → Prop} {f : α → List Value} : ∀ {ess : List (List Value)}, (∀ es ∈ ess, ∃ a, es = f a ∧ Q a) → ∃ l : List α, ess = l.map f ∧ ∀ a ∈ l, Q a
  | [], _ => ⟨[], rfl, by simp⟩
  | es :: r, h => by
    obtain ⟨a, rfl, ha⟩ := h es (by simp)
    obtain ⟨l, rfl, hl⟩ := all_shape (ess := r) fun x hx => h x (by simp [hx])
    exact ⟨a :: l, rfl, by simpa using ⟨ha, hl⟩⟩
theorem Tr.slice_of {α : Type} {Q : α → Prop} {f : α → List Value} (ht : P.underlying t = some (.slice e)) (hsz : 0 < P.cellsOf e) (hE : ∀ es, Tr P W e es → ∃ a, es = f a ∧ Q a) (h : Tr P W t cs) :
    ∃ (v : Value) (l : List α), cs = [v] ∧ RdE W v (P.cellsOf e) (l.map f) ∧ (∀ a ∈ l, Q a) ∧ l.length * P.bytesOf e ≤ reachBytes := by
  obtain ⟨v, ess, rfl, h1, h2, h3⟩ := Tr.slice ht hsz h
  obtain ⟨l, rfl, hl⟩ := all_shape fun es hes => hE es (h2 es hes)
  exact ⟨v, l, rfl, h1, hl, by simpa using h3⟩
theorem Tr.ints {k : IntKind} (ht : P.underlying t = some (.slice e)) (he : P.underlying e = some (.int k)) (hsz : P.cellsOf e = 1) (h : Tr P W t cs) :
    ∃ (v : Value) (l : List Int), cs = [v] ∧ RdV W v (l.map (.int k)) ∧ (∀ n ∈ l, (Lit.int k n).wf = true) ∧ l.length * P.bytesOf e ≤ reachBytes := by
  obtain ⟨v, l, h1, h2, h3, h4⟩ := Tr.slice_of (f := fun n => [.int k n]) ht (by omega) (fun es h => Tr.int he h) h
  rw [hsz] at h2
  refine ⟨v, l, h1, RdE.rdv ?_, h3, h4⟩
  simpa [Function.comp_def] using h2
theorem Tr.bools (ht : P.underlying t = some (.slice e)) (he : P.underlying e = some .bool) (hsz : P.cellsOf e = 1) (h : Tr P W t cs) :
    ∃ (v : Value) (l : List Bool), cs = [v] ∧ RdV W v (l.map .bool) ∧ l.length * P.bytesOf e ≤ reachBytes := by
  obtain ⟨v, l, h1, h2, _, h4⟩ := Tr.slice_of (f := fun n => [.bool n]) (Q := fun _ => True) ht (by omega) (fun es h => let ⟨b, hb⟩ := Tr.bool he h; ⟨b, hb, trivial⟩) h
  rw [hsz] at h2
  refine ⟨v, l, h1, RdE.rdv ?_, h4⟩
  simpa [Function.comp_def] using h2
theorem Arg.int {k : IntKind} (ht : P.underlying t = some (.int k)) (h : Arg P W t v) : ∃ n, v = .int k n ∧ (Lit.int k n).wf = true := by
  obtain ⟨⟨b, ok⟩, tr⟩ := h
  obtain ⟨n, rfl⟩ := okWide_int ht ok
  obtain ⟨m, h1, h2⟩ := tr.int ht
  simp [Value.cells] at h1
  exact ⟨n, rfl, h1 ▸ h2⟩
theorem Arg.bool (ht : P.underlying t = some .bool) (h : Arg P W t v) : ∃ b, v = .bool b := by
  obtain ⟨⟨b, ok⟩, tr⟩ := h
  exact okWide_bool ht ok
theorem Arg.agg (hu : (match P.underlying t with | some (.struct _) => true | some (.array _ _) => true | _ => false) = true) (h : Arg P W t v) : ∃ cs : List Value, v = .agg cs.toArray ∧ cs.length = P.cellsOf t ∧ Tr P W t cs := by
  obtain ⟨⟨b, ok⟩, tr⟩ := h
  simp only [Value.okWide] at ok
  split at ok
  · obtain ⟨cs, rfl, h1, _⟩ := ok
    exact ⟨cs.toList, rfl, by simpa using h1, by simpa [Value.cells] using tr⟩
  · obtain ⟨cs, rfl, h1, _⟩ := ok
    exact ⟨cs.toList, rfl, by simpa using h1, by simpa [Value.cells] using tr⟩
  · rename_i hn1 hn2
    split at hu
    · rename_i h; exact absurd h (hn1 _)
    · rename_i h; exact absurd h (hn2 _ _)
    · cases hu
theorem Arg.slice (ht : P.underlying t = some (.slice e)) (h : Arg P W t v) : Tr P W t [v] := by
  obtain ⟨⟨b, ok⟩, tr⟩ := h
  have : v.cells.toList = [v] := by
    obtain ⟨ad, n, c, rfl⟩ : ∃ ad n c, v = .slice ad n c := by
      simp only [Value.okWide, ht, Cell.okWide] at ok
      cases v <;> simp_all [Cell.ok]
    simp [Value.cells]
  rwa [this] at tr
end

/-! ### From a law's contract to its row -/
theorem trodAll_args {H : Type} {enc : TypeId × Value → H} {P : Program} {W : World} : ∀ {ts : List TypeId} {vs : List Value} {ds : List (DataW H)} {ps : List MemPlace} (_ : DataW.TrodAll enc P W 0 (fun _ => true) true ts vs ds ps)
    (_ : ∀ n ∈ DataW.weightsEach P ts ds, n ≤ reachBytes) (_ : ∀ (j : Nat) t v, ts[j]? = some t → vs[j]? = some v → ∃ b, Value.okWide P W .any b t v),
    vs.length = ts.length ∧ ds.length = ts.length ∧ ∀ (j : Nat) t v, ts[j]? = some t → vs[j]? = some v → Arg P W t v
  | [], [], [], _, _, _, _ => ⟨rfl, rfl, fun j t v h => by simp at h⟩
  | t :: ts, v :: vs, d :: ds, ps, ⟨p, q, h, hs, _⟩, hw, hok => by
    obtain ⟨h1, h2, h3⟩ := trodAll_args hs (fun n hn => hw n (by simp [DataW.weightsEach, hn])) fun j t v ht hv => hok (j + 1) t v (by simpa using ht) (by simpa using hv)
    refine ⟨by simp [h1], by simp [h2], fun j t' v' ht hv => ?_⟩
    cases j with
    | zero =>
      simp at ht hv
      subst ht hv
      obtain ⟨fuel, hf⟩ := h
      exact ⟨hok 0 _ _ rfl rfl, H, enc, fuel, _, hf, fun n hn => hw n (by simp [DataW.weightsEach, hn])⟩
    | succ j => exact h3 j t' v' (by simpa using ht) (by simpa using hv)
theorem trodAll_keep {H : Type} {enc : TypeId × Value → H} {P : Program} (hl : laidOutB P = true) {W W' : World} (hb : Below W.heap.size W W') : ∀ {ts : List TypeId} {vs : List Value} {ds : List (DataW H)} {ps : List MemPlace} (_ : DataW.TrodAll enc P W 0 (fun _ => true) true ts vs ds ps)
    (_ : ∀ t ∈ ts, P.readableRec t = true ∧ t < P.types.size) (_ : ∀ x ∈ ps, x.block < W.heap.size), ∃ ps', DataW.TrodAll enc P W' 0 (fun b => decide (b < W.heap.size)) true ts vs ds ps'
  | [], [], [], _, h, _, _ => ⟨[], rfl⟩
  | t :: ts, v :: vs, d :: ds, ps, ⟨p, q, h, hs, e⟩, hr, hlt => by
    subst e
    obtain ⟨q', hq⟩ := trodAll_keep hl hb hs (fun t ht => hr t (by simp [ht])) fun x hx => hlt x (by simp [hx])
    exact ⟨_, trodAll_cons_mk (Below.trod hl (hr t (by simp)).1 (hr t (by simp)).2 h hb fun x hx => hlt x (by simp [hx])) hq⟩
/-- A law whose contract is 'true, and nothing old is written'. -/
theorem law_lifted {C : Checked} {os : Os} (started : os.Started) {f : FuncId} {fn : Func} {s : ChangeSpec} {H : Type} {enc : TypeId × Value → H} {tb : TypeId}
    (own : ownKnob C.prog.godebug = none) (laid : laidOutB C.prog = true) (noInit : C.prog.inits.idxOf? f = none) (hfn : C.prog.funcs[f]? = some fn)
    (witness : ∃ (w : World) (tape : Tape) (i : Input), w.os = os ∧ (w.forCall tape i).Shaped C.prog ∧ i.vars = [] ∧ Input.okWide C.prog (w.forCall tape i) .any w.heap.size f i ∧
      s.pre6 enc C.prog fn [] false (w.forCall tape i).memory i.args ∧ ({} : Assume).holds C.prog (lone (Frame.enter C.prog f i.args .normal) [] (w.forCall tape i)))
    (hread : ∀ t ∈ fn.params.toList, C.prog.readableRec t = true ∧ t < C.prog.types.size) (hres : fn.resultTypes = #[tb]) (hbool : C.prog.underlying tb = some .bool)
    (hvars : s.vars = []) (hspec : ∀ ds : List (DataW H), ds.length = fn.params.toList.length → s.fn H ds = { results := [.lit (.bool true)], args := ds })
    (contract : ∀ (W : World) (args : List Value), args.length = fn.params.toList.length → (∀ (j : Nat) t v, fn.params.toList[j]? = some t → args[j]? = some v → Arg C.prog W t v) →
      Calls C.prog f args.toArray W fun e W' => e = .returned (.bool true) ∧ Mod [] W W') :
    ReturnsInHanded {} C os f .any (s.pre6 enc C.prog fn [] false) (s.post enc C.prog fn false true false false) := by
  refine returnsInHanded_of_change_sized (C := C) own started noInit hfn witness ?_
  intro W base args ds gs before hval hW _ hsized _
  have hW' := hW
  obtain ⟨p, q, hA, hV, rfl, hfz, hnd⟩ := hW
  rw [hvars] at hV
  obtain ⟨rfl, rfl⟩ := trodVars_none hV
  have hvt : s.plain.varTypes C.prog = [] := by simp [ChangeSpec.plain, DataSpec.varTypes, hvars]
  rw [hvt] at hsized
  simp only [List.append_nil] at hsized
  obtain ⟨h1, h2, h3⟩ := trodAll_args hA (fun n hn => by simpa using List.all_eq_true.1 hsized n hn) (fun j t v ht hv => ⟨base, hval j t v (by simpa using ht) (by simpa using hv)⟩)
  refine (contract W args.toList h1 h3).mono fun e W' ⟨he, hm⟩ => ?_
  subst he
  have hb := hm.below
  obtain ⟨ps', hps⟩ := trodAll_keep laid hb hA hread fun x hx => hW'.lt x (by simpa using hx)
  have e1 := hspec ds h2
  refine ⟨_, rfl, ds, [], p ++ [], [], ps', [], hW', ?_, ?_, ?_, hb.frame _, fun h => by cases h⟩
  · rw [List.append_nil, e1, hres]
    exact trodAll_cons_mk (shut_bool hbool _) trodAll_mk0
  · rw [List.append_nil, e1]
    exact hps
  · rw [List.append_nil, e1, hvars]
    rfl
end Go.Wf
