/- The core of my walks: partial frames, a list of known blocks, and rules for each operation. No program in sight: all rules hold of any program. -/
import Derived.WalkKit
import Derived.OrdersHeld
import Derived.NoCompiler
import Derived.Laws.StructEq
namespace Go.Wf

/-! ### Frames: what is known of the slots -/
abbrev Fr := List (Nat × Value)
def look : Fr → Nat → Option Value
  | [], _ => none
  | (s, v) :: r, t => bif Nat.beq s t then some v else look r t
structure Sat (n : Nat) (F : Fr) (a : Act) : Prop where
  size : a.tmps.size = n
  defers : a.defers = []
  slot : ∀ t v, look F t = some v → a.tmps[t]? = some v
def ev (F : Fr) : Operand → Option Value
  | .tmp t => look F t
  | .const v => some v
  | .global g => some (.pointer (some ⟨g, 0, none⟩))
  | .func f => some (.func (.func f) #[] #[])
def evs (F : Fr) : List Operand → Option (List Value)
  | [] => some []
  | x :: r => match ev F x, evs F r with
    | some v, some vs => some (v :: vs)
    | _, _ => none
theorem Sat.eval {n F a} (h : Sat n F a) : ∀ {x v}, ev F x = some v → a.eval x = v
  | .tmp t, v, e => by
    have := h.slot t v e
    simp [Act.eval, Array.getD_eq_getD_getElem?, this]
  | .const v, _, e => by simpa [ev, Act.eval] using e
  | .global g, _, e => by simpa [ev, Act.eval] using e
  | .func f, _, e => by simpa [ev, Act.eval] using e
theorem Sat.evals {n F a} (h : Sat n F a) : ∀ {xs : List Operand} {vs}, evs F xs = some vs → xs.map a.eval = vs
  | [], vs, e => by simp only [evs, Option.some.injEq] at e; simp [← e]
  | x :: r, vs, e => by
    simp only [evs] at e
    split at e
    · rename_i v us hv hus
      simp only [Option.some.injEq] at e
      simp [← e, h.eval hv, h.evals hus]
    · cases e
theorem Sat.put {n F a d} (h : Sat n F a) (hd : d < n) (v : Value) : Sat n ((d, v) :: F) (a.put (some d) v) where
  size := by simp [Act.put, h.size]
  defers := by simp [Act.put, h.defers]
  slot t u e := by
    simp only [look] at e
    cases hb : Nat.beq d t with
    | true =>
      have hdt : d = t := Nat.eq_of_beq_eq_true hb
      subst hdt
      simp only [hb, cond_true, Option.some.injEq] at e
      subst e
      simp [Act.put, h.size, hd]
    | false =>
      have hdt : d ≠ t := Nat.ne_of_beq_eq_false hb
      simp only [hb, cond_false] at e
      simp only [Act.put]
      rw [Array.getElem?_setIfInBounds_ne hdt]
      exact h.slot t u e
theorem Sat.putNone {n F a} (h : Sat n F a) (v : Value) : Sat n F (a.put none v) := h
def Has (F : Fr) : Fr → Prop
  | [] => True
  | (t, v) :: r => look F t = some v ∧ Has F r
theorem Has.look {F G : Fr} {t v} (h : Has F G) (e : look G t = some v) : look F t = some v := by
  induction G with
  | nil => simp [Wf.look] at e
  | cons p r ih =>
    obtain ⟨s, u⟩ := p
    simp only [Wf.look] at e
    cases hb : Nat.beq s t with
    | true =>
      have : s = t := Nat.eq_of_beq_eq_true hb
      subst this
      simp only [hb, cond_true, Option.some.injEq] at e
      subst e; exact h.1
    | false => simp only [hb, cond_false] at e; exact ih h.2 e
theorem Sat.sub {n F G a} (h : Sat n F a) (hs : Has F G) : Sat n G a := ⟨h.size, h.defers, fun t v e => h.slot t v (hs.look e)⟩

/-! ### Memory: what is known of the blocks -/
abbrev Blk := Nat × Obj
structure Mod (S : List Nat) (w w' : World) : Prop where
  os : w'.os = w.os
  tape : w'.tape = w.tape
  output : w'.output = w.output
  size : w.heap.size ≤ w'.heap.size
  keep : ∀ k, k < w.heap.size → k ∉ S → w'.heap[k]? = w.heap[k]?
theorem Mod.refl (S : List Nat) (w : World) : Mod S w w := ⟨rfl, rfl, rfl, Nat.le_refl _, fun _ _ _ => rfl⟩
theorem Mod.trans {S a b c} (h : Mod S a b) (k : Mod S b c) : Mod S a c :=
  ⟨k.os.trans h.os, k.tape.trans h.tape, k.output.trans h.output, Nat.le_trans h.size k.size,
   fun i hi hs => (k.keep i (Nat.lt_of_lt_of_le hi h.size) hs).trans (h.keep i hi hs)⟩
theorem Mod.mono {S S' w w'} (h : Mod S w w') (hs : ∀ k, k ∈ S → k ∈ S') : Mod S' w w' :=
  ⟨h.os, h.tape, h.output, h.size, fun k hk hn => h.keep k hk fun hm => hn (hs k hm)⟩
theorem Mod.below {w w'} (h : Mod [] w w') : Go.RowKit.Below w.heap.size w w' := ⟨h.os, h.tape, h.output, h.size, fun k hk => h.keep k hk (by simp)⟩
theorem Mod.of_below {w w'} (h : Go.RowKit.Below w.heap.size w w') : Mod [] w w' := ⟨h.os, h.tape, h.output, h.size, fun k hk _ => h.block k hk⟩
theorem lt_of_some {w : World} {b : Nat} {o : Obj} (h : w.heap[b]? = some o) : b < w.heap.size := by
  rcases Nat.lt_or_ge b w.heap.size with h' | h'
  · exact h'
  · simp [Array.getElem?_eq_none h'] at h
theorem Mod.blk {S w w' b o} (h : Mod S w w') (hb : w.heap[b]? = some o) (hs : b ∉ S) : w'.heap[b]? = some o := (h.keep b (lt_of_some hb) hs).trans hb
theorem cell_blk {w : World} {b off v} (h : w.cell? ⟨b, off, none⟩ = some v) : ∃ c T fz, w.heap[b]? = some (.cells c T fz) ∧ c[off]? = some v := by
  simp only [World.cell?] at h
  split at h
  · rename_i c T fz hb; exact ⟨c, T, fz, hb, by simpa using h⟩
  · cases h
theorem cell_of_blk {w : World} {b off v c T fz} (h : w.heap[b]? = some (.cells c T fz)) (hc : c[off]? = some v) : w.cell? ⟨b, off, none⟩ = some v := by
  simp [World.cell?, h, hc]
theorem frozen_of_blk {w : World} {b off c T} (h : w.heap[b]? = some (.cells c T (0, 0))) : w.frozen? ⟨b, off, none⟩ = false := by
  simp [World.frozen?, h]
theorem Mod.cell {S w w' b off v} (h : Mod S w w') (hc : w.cell? ⟨b, off, none⟩ = some v) (hs : b ∉ S) : w'.cell? ⟨b, off, none⟩ = some v := by
  obtain ⟨c, T, fz, hb, hv⟩ := cell_blk hc
  exact cell_of_blk (h.blk hb hs) hv

def Own (w : World) : List Blk → Prop
  | [] => True
  | p :: r => w.heap[p.1]? = some p.2 ∧ Own w r
theorem Own.get {w L} (h : Own w L) {p : Blk} (hp : p ∈ L) : w.heap[p.1]? = some p.2 := by
  induction L with
  | nil => cases hp
  | cons q r ih =>
    rcases List.mem_cons.1 hp with rfl | hp
    · exact h.1
    · exact ih h.2 hp
theorem Own.mk {w : World} {L : List Blk} (h : ∀ p ∈ L, w.heap[p.1]? = some p.2) : Own w L := by
  induction L with
  | nil => trivial
  | cons q r ih => exact ⟨h q (by simp), ih fun p hp => h p (by simp [hp])⟩
theorem Own.append {w L R} : Own w (L ++ R) ↔ Own w L ∧ Own w R := by
  induction L with
  | nil => simp [Own]
  | cons q r ih => simp [Own, ih, and_assoc]
def keys (L : List Blk) : List Nat := L.map (·.1)
structure St (w0 : World) (S : List Nat) (w : World) (L : List Blk) : Prop where
  mod : Mod S w0 w
  own : Own w L
  nd : (keys L).Nodup
  new : ∀ b, b ∈ keys L → b ∈ S ∨ w0.heap.size ≤ b
theorem St.start {w : World} {S : List Nat} {L : List Blk} (ho : Own w L) (hn : (keys L).Nodup) (hs : ∀ b, b ∈ keys L → b ∈ S) : St w S w L :=
  ⟨Mod.refl _ _, ho, hn, fun b hb => .inl (hs b hb)⟩
theorem St.nil (w : World) : St w [] w [] := ⟨Mod.refl _ _, trivial, List.nodup_nil, fun _ h => by cases h⟩
theorem St.get {w0 S w L} (h : St w0 S w L) {p : Blk} (hp : p ∈ L) : w.heap[p.1]? = some p.2 := h.own.get hp
theorem mem_of_at {L : List Blk} {i : Nat} {p : Blk} (h : L[i]? = some p) : p ∈ L := List.mem_of_getElem? h
theorem St.at {w0 S w L} (h : St w0 S w L) {i : Nat} {b : Nat} {o : Obj} (hp : L[i]? = some (b, o)) : w.heap[b]? = some o := h.own.get (p := (b, o)) (mem_of_at hp)
theorem St.perm {w0 S w L L'} (h : St w0 S w L) (hp : L.Perm L') : St w0 S w L' :=
  ⟨h.mod, Own.mk fun _ hm => h.own.get (hp.mem_iff.2 hm), (hp.map _).nodup_iff.1 h.nd, fun b hb => h.new b ((hp.map (·.1)).mem_iff.2 hb)⟩
theorem St.sub {w0 S w L L'} (h : St w0 S w L) (hp : L'.Sublist L) : St w0 S w L' :=
  ⟨h.mod, Own.mk fun _ hm => h.own.get (hp.subset hm), List.Sublist.nodup (hp.map _) h.nd, fun b hb => h.new b ((hp.map (·.1)).subset hb)⟩
theorem St.drop {w0 S w L R} (h : St w0 S w (L ++ R)) : St w0 S w R := h.sub (List.sublist_append_right _ _)
theorem St.left {w0 S w L R} (h : St w0 S w (L ++ R)) : St w0 S w L := h.sub (List.sublist_append_left _ _)
theorem heap_alloc_lt (w : World) (o : Obj) {k : Nat} (h : k < w.heap.size) : (w.alloc o).heap[k]? = w.heap[k]? := Go.RowKit.Below.heap_alloc w o k h
theorem heap_alloc_at (w : World) (o : Obj) : (w.alloc o).heap[w.heap.size]? = some o := by
  show (w.heap.push o)[_]? = _
  simp
theorem size_alloc (w : World) (o : Obj) : (w.alloc o).heap.size = w.heap.size + 1 := by
  show (w.heap.push o).size = _
  simp
theorem not_new {w : World} {L : List Blk} (h : Own w L) : w.heap.size ∉ keys L := fun hm => by
  obtain ⟨p, hp, he⟩ := List.mem_map.1 hm
  have h1 := lt_of_some (h.get hp)
  have h2 : p.1 = w.heap.size := he
  omega
theorem St.alloc {w0 S w L} (h : St w0 S w L) (o : Obj) : St w0 S (w.alloc o) ((w.heap.size, o) :: L) where
  mod := h.mod.trans ⟨rfl, rfl, rfl, by rw [size_alloc]; omega, fun k hk _ => heap_alloc_lt _ _ hk⟩
  own := ⟨heap_alloc_at _ _, Own.mk fun p hp => by
    have := h.own.get hp
    rw [heap_alloc_lt _ _ (lt_of_some this)]; exact this⟩
  nd := List.nodup_cons.2 ⟨not_new h.own, h.nd⟩
  new b hb := by
    rcases List.mem_cons.1 hb with rfl | hb
    · exact .inr h.mod.size
    · exact h.new b hb
theorem heap_setCell_ne (w : World) (a : Addr) (v : Value) {k : Nat} (h : k ≠ a.block) : (w.setCell a v).heap[k]? = w.heap[k]? := Go.RowKit.Below.heap_setCell w a v k h
theorem heap_setCell_at (w : World) (b off : Nat) (v : Value) {c T fz} (h : w.heap[b]? = some (.cells c T fz)) :
    (w.setCell ⟨b, off, none⟩ v).heap[b]? = some (.cells (c.setIfInBounds off v) T fz) := by
  simp only [World.setCell, Array.getElem?_modify, if_pos, h]
  simp
theorem size_setCell (w : World) (a : Addr) (v : Value) : (w.setCell a v).heap.size = w.heap.size := by simp [World.setCell]
theorem keys_set {L : List Blk} {i b : Nat} {o o' : Obj} (hp : L[i]? = some (b, o)) : keys (L.set i (b, o')) = keys L := by
  unfold keys
  rw [List.map_set]
  apply List.ext_getElem?
  intro j
  rw [List.getElem?_set]
  by_cases hij : i = j
  · subst hij
    rw [if_pos rfl, List.getElem?_map, hp]
    have : i < L.length := by
      rcases Nat.lt_or_ge i L.length with h' | h'
      · exact h'
      · simp [List.getElem?_eq_none h'] at hp
    simp [this]
  · rw [if_neg hij]
theorem nodup_inj {α : Type} {l : List α} (hn : l.Nodup) : ∀ {i j : Nat} {x : α}, l[i]? = some x → l[j]? = some x → i = j := by
  induction l with
  | nil => intro i j x h; simp at h
  | cons y r ih =>
    intro i j x hi hj
    obtain ⟨hy, hr⟩ := List.nodup_cons.1 hn
    cases i with
    | zero =>
      cases j with
      | zero => rfl
      | succ j =>
        simp only [List.getElem?_cons_zero, Option.some.injEq] at hi
        subst hi
        exact absurd (List.mem_of_getElem? (by simpa using hj)) hy
    | succ i =>
      cases j with
      | zero =>
        simp only [List.getElem?_cons_zero, Option.some.injEq] at hj
        subst hj
        exact absurd (List.mem_of_getElem? (by simpa using hi)) hy
      | succ j => exact congrArg (· + 1) (ih hr (by simpa using hi) (by simpa using hj))
theorem mem_set {L : List Blk} {i b : Nat} {o o' : Obj} (hn : (keys L).Nodup) (hp : L[i]? = some (b, o)) {p : Blk} (hm : p ∈ L.set i (b, o')) :
    p = (b, o') ∨ (p ∈ L ∧ p.1 ≠ b) := by
  obtain ⟨j, hj⟩ := List.mem_iff_getElem?.1 hm
  rw [List.getElem?_set] at hj
  by_cases hij : i = j
  · subst hij
    rw [if_pos rfl] at hj
    split at hj
    · exact .inl (by simpa using hj.symm)
    · cases hj
  · rw [if_neg hij] at hj
    refine .inr ⟨List.mem_of_getElem? hj, fun he => hij ?_⟩
    have h1 : (keys L)[i]? = some b := by simp [keys, hp]
    have h2 : (keys L)[j]? = some b := by simp [keys, hj, he]
    exact nodup_inj hn h1 h2
/-- A known block gets another content. -/
theorem St.upd {w0 S w w' L} (h : St w0 S w L) {i b : Nat} {o o' : Obj} (hp : L[i]? = some (b, o)) (hos : w'.os = w.os) (ht : w'.tape = w.tape) (hout : w'.output = w.output)
    (hz : w'.heap.size = w.heap.size) (hb : w'.heap[b]? = some o') (hk : ∀ k, k ≠ b → w'.heap[k]? = w.heap[k]?) : St w0 S w' (L.set i (b, o')) where
  mod := ⟨hos.trans h.mod.os, ht.trans h.mod.tape, hout.trans h.mod.output, by rw [hz]; exact h.mod.size, fun k hk' hs => by
    rw [hk k, h.mod.keep k hk' hs]
    rintro rfl
    rcases h.new k (List.mem_map.2 ⟨_, mem_of_at hp, rfl⟩) with h1 | h1
    · exact hs h1
    · omega⟩
  own := Own.mk fun p hm => by
    rcases mem_set h.nd hp hm with rfl | ⟨hm', hne⟩
    · exact hb
    · rw [hk _ hne]; exact h.own.get hm'
  nd := by rw [keys_set hp]; exact h.nd
  new := by rw [keys_set hp]; exact h.new
theorem St.put {w0 S w L} (h : St w0 S w L) {i b off : Nat} {c T fz} (hp : L[i]? = some (b, .cells c T fz)) (v : Value) :
    St w0 S (w.setCell ⟨b, off, none⟩ v) (L.set i (b, .cells (c.setIfInBounds off v) T fz)) :=
  h.upd hp rfl rfl rfl (size_setCell _ _ _) (heap_setCell_at w b off v (h.at hp)) fun _ hk => heap_setCell_ne w ⟨b, off, none⟩ v hk
theorem St.drawn {w0 S w L} (h : St w0 S w L) (d : Nat) : St w0 S { w with drawn := d } L := ⟨⟨h.mod.os, h.mod.tape, h.mod.output, h.mod.size, h.mod.keep⟩, Own.mk fun _ hm => h.own.get hm, h.nd, h.new⟩
/-- A call: what it was handed is 'A', what it leaves is 'A''; all else that is known stays. -/
theorem St.call {w0 S w L A R} (h : St w0 S w L) {SS : List Nat} {w' A'} (hL : L.Perm (A ++ R)) (hSS : ∀ b ∈ SS, b ∈ keys A) (hc : St w SS w' A') : St w0 S w' (A' ++ R) := by
  have h' := h.perm hL
  have hnA : ∀ b ∈ keys A, b ∉ keys R := by
    have := h'.nd
    simp only [keys, List.map_append] at this
    intro b hb hr
    exact (List.nodup_append.1 this).2.2 b hb b hr rfl
  have hnew : ∀ b, b ∈ keys A' → b ∈ keys A ∨ w.heap.size ≤ b := fun b hb => (hc.new b hb).imp (hSS b) id
  have hlt : ∀ b ∈ keys R, b < w.heap.size := fun b hb => by
    obtain ⟨p, hp, rfl⟩ := List.mem_map.1 hb
    exact lt_of_some (h'.own.get (List.mem_append_right _ hp))
  refine ⟨⟨hc.mod.os.trans h.mod.os, hc.mod.tape.trans h.mod.tape, hc.mod.output.trans h.mod.output, Nat.le_trans h.mod.size hc.mod.size, fun k hk hs => ?_⟩, ?_, ?_, ?_⟩
  · rw [hc.mod.keep k (Nat.lt_of_lt_of_le hk h.mod.size), h.mod.keep k hk hs]
    intro hm
    rcases h'.new k (by simp only [keys, List.map_append]; exact List.mem_append_left _ (hSS k hm)) with h1 | h1
    · exact hs h1
    · omega
  · refine Own.append.2 ⟨hc.own, Own.mk fun p hp => ?_⟩
    have h1 := h'.own.get (List.mem_append_right A hp)
    have hpk : p.1 ∈ keys R := List.mem_map.2 ⟨p, hp, rfl⟩
    exact hc.mod.blk h1 fun hm => hnA _ (hSS _ hm) hpk
  · simp only [keys, List.map_append]
    refine List.nodup_append.2 ⟨hc.nd, (List.nodup_append.1 (by simpa [keys] using h'.nd)).2.1, fun a ha b hb hab => ?_⟩
    subst hab
    rcases hnew a ha with h1 | h1
    · exact hnA a h1 hb
    · have := hlt a hb; omega
  · intro b hb
    simp only [keys, List.map_append, List.mem_append] at hb
    rcases hb with hb | hb
    · rcases hnew b hb with h1 | h1
      · exact h'.new b (by simp only [keys, List.map_append]; exact List.mem_append_left _ h1)
      · exact .inr (Nat.le_trans h.mod.size h1)
    · exact h'.new b (by simp only [keys, List.map_append]; exact List.mem_append_right _ hb)

/-! ### Goals: 'in every world and frame of which F and L are known' -/
structure Goal (n : Nat) (w0 : World) (S : List Nat) (F : Fr) (L : List Blk) (C : Act → World → Prop) : Prop where
  of ::
  run : ∀ w a, St w0 S w L → Sat n F a → C a w
instance {n : Nat} {w0 : World} {S : List Nat} {F : Fr} {L : List Blk} {C : Act → World → Prop} : CoeFun (Goal n w0 S F L C) (fun _ => ∀ w a, St w0 S w L → Sat n F a → C a w) := ⟨Goal.run⟩
section
variable {P : Program} {n : Nat} {w0 : World} {S : List Nat} {F : Fr} {L : List Blk} {Q : Exit → Act → World → Prop} {C : Act → World → Prop}

theorem Goal.mono {C' : Act → World → Prop} (h : Goal n w0 S F L C') (hc : ∀ a w, C' a w → C a w) : Goal n w0 S F L C := .of fun w a hw ha => hc a w (h w a hw ha)
theorem Goal.st (h : ∀ w, St w0 S w L → Goal n w0 S F L C) : Goal n w0 S F L C := .of fun w a hw ha => h w hw w a hw ha
theorem Goal.subF {F' : Fr} (hf : Has F F') (h : Goal n w0 S F' L C) : Goal n w0 S F L C := .of fun w a hw ha => h w a hw (ha.sub hf)
theorem Goal.subL {L' : List Blk} (hl : ∀ w, St w0 S w L → St w0 S w L') (h : Goal n w0 S F L' C) : Goal n w0 S F L C := .of fun w a hw ha => h w a (hl w hw) ha
theorem Goal.recast {v v' : Value} (t : Nat) (ht : look F t = some v) (e : v = v') (h : Goal n w0 S ((t, v') :: F) L C) : Goal n w0 S F L C := .of fun w a hw ha =>
  h w a hw ⟨ha.size, ha.defers, fun s u hs => by
    simp only [look] at hs
    cases hb : Nat.beq t s with
    | true =>
      have : t = s := Nat.eq_of_beq_eq_true hb
      subst this
      simp only [hb, cond_true, Option.some.injEq] at hs
      subst hs; subst e; exact ha.slot t _ ht
    | false => simp only [hb, cond_false] at hs; exact ha.slot s u hs⟩
theorem Goal.bcase {b : Bool} (t : Nat) (ht : look F t = some (.bool b)) (h1 : b = true → Goal n w0 S ((t, .bool true) :: F) L C) (h0 : b = false → Goal n w0 S ((t, .bool false) :: F) L C) : Goal n w0 S F L C := by
  cases hb : b with
  | true => exact Goal.recast t ht (by rw [hb]) (h1 hb)
  | false => exact Goal.recast t ht (by rw [hb]) (h0 hb)
theorem Goal.bdec {p : Prop} [Decidable p] (t : Nat) (ht : look F t = some (.bool (decide p))) (h1 : p → Goal n w0 S ((t, .bool true) :: F) L C) (h0 : ¬ p → Goal n w0 S ((t, .bool false) :: F) L C) : Goal n w0 S F L C :=
  Goal.bcase t ht (fun h => h1 (of_decide_eq_true h)) (fun h => h0 (of_decide_eq_false h))

/-! #### Code. (The wrappers are structures, so that a rule that does not fit fails at once.) -/
structure CW (P : Program) (Q : Exit → Act → World → Prop) (c : Code) (a : Act) (w : World) : Prop where
  out : c.wp P Q a w
structure LW (P : Program) (ops : Array Oper) (Q : Exit → Act → World → Prop) (l : List Oper) (a : Act) (w : World) : Prop where
  out : wpList P ops Q l a w
structure OW (P : Program) (Q : Exit → Act → World → Prop) (o : Oper) (C : Act → World → Prop) (a : Act) (w : World) : Prop where
  out : o.wp P a w C Q
structure XW (Q : Exit → Act → World → Prop) (e : Exit) (a : Act) (w : World) : Prop where
  out : Q e a w
theorem Goal.seq {x y : Code} (h : ∀ K : Act → World → Prop, (∀ (F' : Fr) (L' : List Blk), Goal n w0 S F' L' (CW P Q y) → Goal n w0 S F' L' K) → Goal n w0 S F L (CW P (Exit.then K Q) x)) :
    Goal n w0 S F L (CW P Q (Code.seq x y)) := .of fun w a hw ha => ⟨wp_seq (h _ (fun _ _ g => .of fun w a hw ha => (g w a hw ha).out) w a hw ha).out⟩
theorem Goal.next {K K' : Act → World → Prop} (hk : ∀ (F' : Fr) (L' : List Blk), Goal n w0 S F' L' K' → Goal n w0 S F' L' K) (h : Goal n w0 S F L K') :
    Goal n w0 S F L (XW (Exit.then K Q) .normal) := .of fun w a hw ha => ⟨hk F L h w a hw ha⟩
/-- A cut: what is known where x has ended. -/
theorem Goal.cut {x y : Code} {X : Type} (F' : X → Fr) (L' : X → List Blk) (p : X → Prop)
    (h : ∀ K : Act → World → Prop, (∀ z, p z → Goal n w0 S (F' z) (L' z) K) → Goal n w0 S F L (CW P (Exit.then K Q) x)) (hy : ∀ z, p z → Goal n w0 S (F' z) (L' z) (CW P Q y)) :
    Goal n w0 S F L (CW P Q (Code.seq x y)) := .of fun w a hw ha => ⟨wp_seq (h (y.wp P Q) (fun z hz => .of fun w a hw ha => (hy z hz w a hw ha).out) w a hw ha).out⟩
theorem Goal.meet {K : Act → World → Prop} {X : Type} {F' : X → Fr} {L' : X → List Blk} {p : X → Prop} (hk : ∀ z, p z → Goal n w0 S (F' z) (L' z) K) (z : X) (hp : p z) (hF : Has F (F' z)) (hL : ∀ w, St w0 S w L → St w0 S w (L' z)) :
    Goal n w0 S F L (XW (Exit.then K Q) .normal) := .of fun w a hw ha => ⟨hk z hp w a (hL w hw) (ha.sub hF)⟩
theorem Goal.then_exit {K : Act → World → Prop} {i : Nat} (h : Goal n w0 S F L (XW Q (.exit i))) : Goal n w0 S F L (XW (Exit.then K Q) (.exit i)) := .of fun w a hw ha => ⟨(h w a hw ha).out⟩
theorem Goal.then_ret {K : Act → World → Prop} (h : Goal n w0 S F L (XW Q .ret)) : Goal n w0 S F L (XW (Exit.then K Q) .ret) := .of fun w a hw ha => ⟨(h w a hw ha).out⟩
theorem Goal.inBlock_normal {i : Nat} (h : Goal n w0 S F L (XW Q .normal)) : Goal n w0 S F L (XW (Exit.inBlock i Q) .normal) := .of fun w a hw ha => ⟨(h w a hw ha).out⟩
theorem Goal.inBlock_exit {i : Nat} (h : Goal n w0 S F L (XW Q .normal)) : Goal n w0 S F L (XW (Exit.inBlock i Q) (.exit i)) := .of fun w a hw ha => ⟨by
  simp only [Exit.inBlock, if_true]; exact (h w a hw ha).out⟩
theorem Goal.inBlock_other {i j : Nat} (hij : Nat.beq j i = false) (h : Goal n w0 S F L (XW Q (.exit j))) : Goal n w0 S F L (XW (Exit.inBlock i Q) (.exit j)) := .of fun w a hw ha => ⟨by
  have : ¬ j = i := Nat.ne_of_beq_eq_false hij
  simp only [Exit.inBlock, if_neg this]; exact (h w a hw ha).out⟩
theorem Goal.inBlock_ret {i : Nat} (h : Goal n w0 S F L (XW Q .ret)) : Goal n w0 S F L (XW (Exit.inBlock i Q) .ret) := .of fun w a hw ha => ⟨(h w a hw ha).out⟩
theorem Goal.block {i : Nat} {c : Code} (h : Goal n w0 S F L (CW P (Exit.inBlock i Q) c)) : Goal n w0 S F L (CW P Q (Code.block i c)) := .of fun w a hw ha => ⟨wp_block (h w a hw ha).out⟩
theorem Goal.skip (h : Goal n w0 S F L (XW Q .normal)) : Goal n w0 S F L (CW P Q Code.skip) := .of fun w a hw ha => ⟨wp_skip (h w a hw ha).out⟩
theorem Goal.exit {i : Nat} (h : Goal n w0 S F L (XW Q (.exit i))) : Goal n w0 S F L (CW P Q (Code.exit i)) := .of fun w a hw ha => ⟨wp_exit (h w a hw ha).out⟩
theorem Goal.ret (h : Goal n w0 S F L (XW Q .ret)) : Goal n w0 S F L (CW P Q Code.ret) := .of fun w a hw ha => ⟨wp_ret (h w a hw ha).out⟩
theorem Goal.condT {c : Operand} {x y : Code} (hc : ev F c = some (.bool true)) (h : Goal n w0 S F L (CW P Q x)) : Goal n w0 S F L (CW P Q (Code.cond c x y)) := .of fun w a hw ha => ⟨wp_cond_true (ha.eval hc) (h w a hw ha).out⟩
theorem Goal.condF {c : Operand} {x y : Code} (hc : ev F c = some (.bool false)) (h : Goal n w0 S F L (CW P Q y)) : Goal n w0 S F L (CW P Q (Code.cond c x y)) := .of fun w a hw ha => ⟨wp_cond_false (ha.eval hc) (h w a hw ha).out⟩
theorem Goal.condB {c : Operand} {x y : Code} {b : Bool} (hc : ev F c = some (.bool b)) (h1 : b = true → Goal n w0 S F L (CW P Q x)) (h0 : b = false → Goal n w0 S F L (CW P Q y)) :
    Goal n w0 S F L (CW P Q (Code.cond c x y)) := .of fun w a hw ha => ⟨wp_cond_split (ha.eval hc) (fun h => (h1 h w a hw ha).out) (fun h => (h0 h w a hw ha).out)⟩
theorem Goal.condD {c : Operand} {x y : Code} {p : Prop} [Decidable p] (hc : ev F c = some (.bool (decide p))) (h1 : p → Goal n w0 S F L (CW P Q x)) (h0 : ¬ p → Goal n w0 S F L (CW P Q y)) :
    Goal n w0 S F L (CW P Q (Code.cond c x y)) := Goal.condB hc (fun h => h1 (of_decide_eq_true h)) (fun h => h0 (of_decide_eq_false h))
theorem Goal.region {id : Nat} {l : List Oper} (h : Goal n w0 S F L (LW P l.toArray Q l)) : Goal n w0 S F L (CW P Q (Code.region id l.toArray false)) := .of fun w a hw ha => ⟨wp_region_lit (h w a hw ha).out⟩
theorem Goal.lnil {ops : Array Oper} (h : Goal n w0 S F L (XW Q .normal)) : Goal n w0 S F L (LW P ops Q []) := .of fun w a hw ha => ⟨wpList_nil (h w a hw ha).out⟩
/-- The head of a loop that comes round again. -/
structure Again (n : Nat) (w0 : World) (S : List Nat) {X : Type} (F' : X → Fr) (L' : X → List Blk) (p : X → World → Prop) (μ : X → Nat) (x : X) (a : Act) (w : World) : Prop where
  out : ∃ y, p y w ∧ μ y < μ x ∧ St w0 S w (L' y) ∧ Sat n (F' y) a
/-- A loop: at each head, for some x with p x, the slots are F' x and the blocks L' x. -/
theorem Goal.loop {c : Code} {X : Type} (F' : X → Fr) (L' : X → List Blk) (p : X → World → Prop) (μ : X → Nat) (x0 : X)
    (hF : Has F (F' x0)) (hL : ∀ w, St w0 S w L → St w0 S w (L' x0)) (hp : ∀ w, St w0 S w L → p x0 w)
    (round : ∀ x w1, p x w1 → Goal n w0 S (F' x) (L' x) (fun a w => w = w1 → CW P (Exit.then (Again n w0 S F' L' p μ x) Q) c a w)) :
    Goal n w0 S F L (CW P Q (Code.loop c)) := .of fun w a hw ha => by
  refine ⟨fun b k cs => ?_⟩
  have key : ∀ N x a w, μ x = N → p x w → St w0 S w (L' x) → Sat n (F' x) a →
      ∃ e a' w', Q e a' w' ∧ Arrives P (lone (b.at a (.code c :: .inLoop c :: k)) cs w) b k cs e a' w' := by
    intro N
    induction N using Nat.strongRecOn with
    | _ N ih =>
      intro x a w hN hpx hSt hSat
      obtain ⟨e, a₁, w₁, hq, harr⟩ := (round x w hpx w a hSt hSat rfl).out b (.inLoop c :: k) cs
      cases e with
      | normal =>
        obtain ⟨y, hy1, hy2, hy3, hy4⟩ := Again.out hq
        obtain ⟨e₂, a₂, w₂, hq₂, harr₂⟩ := ih (μ y) (hN ▸ hy2) y a₁ w₁ rfl hy1 hy3 hy4
        exact ⟨e₂, a₂, w₂, hq₂, .of_steps (Steps.trans harr (.one step_inLoop)) harr₂⟩
      | exit id => exact ⟨_, a₁, w₁, hq, .pass (x := .inLoop c) rfl (fun _ _ => .inl (by simp)) harr⟩
      | goto l => exact ⟨_, a₁, w₁, hq, .pass (x := .inLoop c) rfl (fun _ _ => .inl (by simp)) harr⟩
      | ret => exact ⟨_, a₁, w₁, hq, .pass (x := .inLoop c) rfl (fun _ _ => .inl (by simp)) harr⟩
      | panic ch => exact ⟨_, a₁, w₁, hq, .pass (x := .inLoop c) rfl (fun _ _ => .inl (by simp)) harr⟩
      | outgrown => exact ⟨_, a₁, w₁, hq, .pass (x := .inLoop c) rfl (fun _ _ => .inl (by simp)) harr⟩
  obtain ⟨e, a', w', hq, harr⟩ := key _ x0 a w rfl (hp w hw) (hL w hw) (ha.sub hF)
  exact ⟨e, a', w', hq, .of_steps (.one step_loop) harr⟩
/-- The plainer form: what is known of x does not speak of the world. -/
theorem Goal.loopP {c : Code} {X : Type} (F' : X → Fr) (L' : X → List Blk) (p : X → Prop) (μ : X → Nat) (x0 : X)
    (hF : Has F (F' x0)) (hL : ∀ w, St w0 S w L → St w0 S w (L' x0)) (hp : p x0)
    (round : ∀ x, p x → Goal n w0 S (F' x) (L' x) (CW P (Exit.then (Again n w0 S F' L' (fun x _ => p x) μ x) Q) c)) :
    Goal n w0 S F L (CW P Q (Code.loop c)) :=
  Goal.loop F' L' (fun x _ => p x) μ x0 hF hL (fun _ _ => hp) fun x _ hx => .of fun w a hw ha _ => (round x hx) w a hw ha
theorem Goal.again {X : Type} {F' : X → Fr} {L' : X → List Blk} {p : X → Prop} {μ : X → Nat} {x : X} (y : X) (hp : p y) (hμ : μ y < μ x) (hF : Has F (F' y)) (hL : ∀ w, St w0 S w L → St w0 S w (L' y)) :
    Goal n w0 S F L (XW (Exit.then (Again n w0 S F' L' (fun x _ => p x) μ x) Q) .normal) := .of fun w _ hw ha => ⟨⟨y, hp, hμ, hL w hw, ha.sub hF⟩⟩
end

/-! ### Operations that only yield a value -/
structure Run (P : Program) (n : Nat) (w0 : World) (S : List Nat) (F : Fr) (L : List Blk) (o : Oper) (v : Value) : Prop where
  run : ∀ w a, St w0 S w L → Sat n F a → (execOp a.eval o).run P w = .ok (.value v) w
instance {P : Program} {n : Nat} {w0 : World} {S : List Nat} {F : Fr} {L : List Blk} {o : Oper} {v : Value} : CoeFun (Run P n w0 S F L o v) (fun _ => ∀ w a, St w0 S w L → Sat n F a → (execOp a.eval o).run P w = .ok (.value v) w) := ⟨Run.run⟩
def oneB (P : Program) (T : TypeId) : Bool := match P.underlying T with
  | some (.struct _) | some (.array ..) | none => false
  | _ => true
def aggB (P : Program) (T : TypeId) (m : Nat) : Bool := (match P.underlying T with
  | some (.struct _) | some (.array ..) => true
  | _ => false) && (match P.info? T with | some i => i.size == m | none => false)
def fieldB (P : Program) (T : TypeId) (i off : Nat) : Bool := match P.underlying T with
  | some (.struct fs) => (match fs[i]? with
    | some f => f.offset == off && (match P.info? f.type with | some i => i.size != 0 | none => false)
    | none => false)
  | _ => false
/-! The facts on types, wrapped: so that a fact on another type fails at once. -/
structure OneB (P : Program) (T : TypeId) : Prop where
  h : oneB P T = true
structure AggB (P : Program) (T : TypeId) (m : Nat) : Prop where
  h : aggB P T m = true
structure FieldB (P : Program) (T : TypeId) (i off : Nat) : Prop where
  h : fieldB P T i off = true
structure SliceT (P : Program) (T e : TypeId) : Prop where
  h : P.underlying T = some (.slice e)
structure ArrT (P : Program) (T : TypeId) (l : Nat) (e : TypeId) : Prop where
  h : P.underlying T = some (.array l e)
structure IntT (P : Program) (T : TypeId) (k : IntKind) : Prop where
  h : P.underlying T = some (.int k)
/-- A type's row: its zero value, its number of cells, its bytes. -/
def info3 (P : Program) (T : TypeId) : Option (Option Value × Nat × Nat) := (P.info? T).map fun i => (i.zero, i.size, i.bytes)
theorem Run.of {P : Program} {n : Nat} {w0 : World} {S : List Nat} {F : Fr} {L : List Blk} {o : Oper} {v : Value}
    (h : ∀ (ρ : Operand → Value), (∀ x u, ev F x = some u → ρ x = u) → ∀ w, St w0 S w L → (execOp ρ o).run P w = .ok (.value v) w) : Run P n w0 S F L o v :=
  ⟨fun w a hw ha => h a.eval (fun _ _ e => ha.eval e) w hw⟩
theorem evs_map {F : Fr} {ρ : Operand → Value} (hρ : ∀ x u, ev F x = some u → ρ x = u) : ∀ {xs : List Operand} {vs}, evs F xs = some vs → xs.map ρ = vs
  | [], vs, e => by simp only [evs, Option.some.injEq] at e; simp [← e]
  | x :: r, vs, e => by
    simp only [evs] at e
    split at e
    · rename_i v us hv hus
      simp only [Option.some.injEq] at e
      simp [← e, hρ _ _ hv, evs_map hρ hus]
    · cases e
structure Inf (P : Program) (T : TypeId) (z : Value) (size bytes : Nat) : Prop where
  h : info3 P T = some (some z, size, bytes)
structure Sz (P : Program) (T : TypeId) (m : Nat) : Prop where
  h : (info3 P T).map (·.2.1) = some m
theorem info3_parts {P : Program} {T : TypeId} {z : Value} {size bytes : Nat} (h : info3 P T = some (some z, size, bytes)) : ∃ i, P.info? T = some i ∧ i.zero = some z ∧ i.size = size ∧ i.bytes = bytes := by
  unfold info3 at h
  cases hi : P.info? T with
  | none => simp [hi] at h
  | some i => exact ⟨i, rfl, by simpa [hi] using h⟩
theorem oneB_isAgg {P : Program} {T : TypeId} (h : oneB P T = true) (w : World) : (isAgg T).run P w = .ok false w := by
  unfold oneB at h
  unfold isAgg
  cases hu : P.underlying T with
  | none => simp [hu] at h
  | some d => cases d <;> simp [hu, run_underlying hu, go_sem] at h ⊢
theorem aggB_isAgg {P : Program} {T : TypeId} {m : Nat} (h : aggB P T m = true) (w : World) : (isAgg T).run P w = .ok true w := by
  unfold aggB at h
  unfold isAgg
  cases hu : P.underlying T with
  | none => simp [hu] at h
  | some d => cases d <;> simp [hu, run_underlying hu, go_sem] at h ⊢
theorem aggB_size {P : Program} {T : TypeId} {m : Nat} (h : aggB P T m = true) (w : World) : (sizeOf T).run P w = .ok m w := by
  unfold aggB at h
  simp only [Bool.and_eq_true] at h
  obtain ⟨_, h⟩ := h
  cases hi : P.info? T with
  | none => simp [hi] at h
  | some i => simp [hi] at h; simp [sizeOf, typeInfo, hi, h, go_sem]
theorem add_mk (b off k : Nat) : (⟨b, off, none⟩ : Addr).add k = ⟨b, off + k, none⟩ := by
  unfold Addr.add; split <;> simp_all
structure LoadOK (P : Program) (w0 : World) (S : List Nat) (L : List Blk) (T : TypeId) (p : Addr) (v : Value) : Prop where
  of ::
  run : ∀ w, St w0 S w L → (loadVar T p).run P w = .ok v w
instance {P : Program} {w0 : World} {S : List Nat} {L : List Blk} {T : TypeId} {p : Addr} {v : Value} : CoeFun (LoadOK P w0 S L T p v) (fun _ => ∀ w, St w0 S w L → (loadVar T p).run P w = .ok v w) := ⟨LoadOK.run⟩
section
variable {P : Program} {n : Nat} {w0 : World} {S : List Nat} {F : Fr} {L : List Blk}
theorem load_one {T : TypeId} (hT : OneB P T) {w : World} {p : Addr} {v : Value} (hc : w.cell? p = some v) : (loadVar T p).run P w = .ok v w := by
  simp [loadVar, oneB_isAgg hT.h, hc, go_sem]
theorem LoadOK.one {T : TypeId} (hT : OneB P T) (i : Nat) {b off : Nat} {c : Array Value} {E : TypeId} {fz : Nat × Nat} {v : Value}
    (hL : L[i]? = some (b, .cells c E fz)) (hc : c.toList[off]? = some v) : LoadOK P w0 S L T ⟨b, off, none⟩ v := .of fun _ hw =>
  load_one hT (cell_of_blk (hw.at hL) (by simpa using hc))
/-- A cell that was there at the start, in a block that nobody writes. -/
theorem LoadOK.old {T : TypeId} (hT : OneB P T) {b off : Nat} {v : Value} (hc : w0.cell? ⟨b, off, none⟩ = some v) (hs : b ∉ S) : LoadOK P w0 S L T ⟨b, off, none⟩ v := .of fun _ hw =>
  load_one hT (hw.mod.cell hc hs)
def Cells (c : Array Value) (off : Nat) : List Value → Prop
  | [] => True
  | v :: r => c.toList[off]? = some v ∧ Cells c (off + 1) r
theorem Cells.get {c : Array Value} {off : Nat} {vs : List Value} (h : Cells c off vs) : ∀ {j : Nat} {v : Value}, vs[j]? = some v → c[off + j]? = some v := by
  induction vs generalizing off with
  | nil => intro j v e; simp at e
  | cons u r ih =>
    intro j v e
    cases j with
    | zero => simp only [List.getElem?_cons_zero, Option.some.injEq] at e; subst e; simpa using h.1
    | succ j =>
      have := ih h.2 (j := j) (by simpa using e)
      rwa [show off + 1 + j = off + (j + 1) by omega] at this
theorem load_agg {T : TypeId} {m : Nat} (hT : AggB P T m) {w : World} {p : Addr} {vs : List Value} (hm : vs.length = m) (hc : ∀ j v, vs[j]? = some v → w.cell? (p.add j) = some v) :
    (loadVar T p).run P w = .ok (.agg vs.toArray) w := by
  subst hm
  simp only [loadVar, Sem.run_bind, aggB_isAgg hT.h, Result.andThen_ok, if_true, aggB_size hT.h, run_loadCells_list w p vs hc, Sem.run_pure]
theorem LoadOK.agg {T : TypeId} {m : Nat} (hT : AggB P T m) (i : Nat) {b off : Nat} {c : Array Value} {E : TypeId} {fz : Nat × Nat} {vs : List Value}
    (hL : L[i]? = some (b, .cells c E fz)) (hm : vs.length = m) (hc : Cells c off vs) : LoadOK P w0 S L T ⟨b, off, none⟩ (.agg vs.toArray) := .of fun _ hw =>
  load_agg hT hm fun j v hv => by rw [add_mk]; exact cell_of_blk (hw.at hL) (hc.get hv)
theorem LoadOK.oldAgg {T : TypeId} {m : Nat} (hT : AggB P T m) {b off : Nat} {vs : List Value} (hm : vs.length = m)
    (hc : ∀ j v, vs[j]? = some v → w0.cell? ⟨b, off + j, none⟩ = some v) (hs : b ∉ S) : LoadOK P w0 S L T ⟨b, off, none⟩ (.agg vs.toArray) := .of fun _ hw =>
  load_agg hT hm fun j v hv => by rw [add_mk]; exact hw.mod.cell (hc j v hv) hs

theorem Run.move {d : Option Tmp} {x : Operand} {ty : TypeId} {ps : String} {af : Array Edge} {g : Option (Nat × Bool)} {v : Value} (h : ev F x = some v) : Run P n w0 S F L ⟨d, .move x, ty, ps, af, g⟩ v := Run.of fun ρ hρ w _ => by
  simp [execOp, hρ _ _ h, go_sem]
theorem Run.assign {d : Option Tmp} {x : Operand} {ty : TypeId} {ps : String} {af : Array Edge} {g : Option (Nat × Bool)} {v : Value} (h : ev F x = some v) : Run P n w0 S F L ⟨d, .assign x, ty, ps, af, g⟩ v := Run.of fun ρ hρ w _ => by
  simp [execOp, hρ _ _ h, go_sem]
theorem Run.pickT {d : Option Tmp} {c x y : Operand} {ty : TypeId} {ps : String} {af : Array Edge} {g : Option (Nat × Bool)} {v : Value} (hc : ev F c = some (.bool true)) (h : ev F x = some v) : Run P n w0 S F L ⟨d, .pick c x y, ty, ps, af, g⟩ v := Run.of fun ρ hρ w _ => by
  simp [execOp, hρ _ _ h, hρ _ _ hc, asBool, go_sem]
theorem Run.pickF {d : Option Tmp} {c x y : Operand} {ty : TypeId} {ps : String} {af : Array Edge} {g : Option (Nat × Bool)} {v : Value} (hc : ev F c = some (.bool false)) (h : ev F y = some v) : Run P n w0 S F L ⟨d, .pick c x y, ty, ps, af, g⟩ v := Run.of fun ρ hρ w _ => by
  simp [execOp, hρ _ _ h, hρ _ _ hc, asBool, go_sem]
theorem Run.load {d : Option Tmp} {x : Operand} {T ty : TypeId} {ps : String} {af : Array Edge} {g : Option (Nat × Bool)} {v : Value} {p : Addr} (hx : ev F x = some (.pointer (some p))) (h : LoadOK P w0 S L T p v) :
    Run P n w0 S F L ⟨d, .load T x, ty, ps, af, g⟩ v := Run.of fun ρ hρ w hw => by
  simp only [execOp, hρ _ _ hx, Instr.loadAt, Instr.sureAddr, Sem.run_bind, Sem.run_pure, Result.andThen_ok, h w hw]
theorem Run.fieldAddr {d : Option Tmp} {x : Operand} {T ty : TypeId} {ps : String} {af : Array Edge} {g : Option (Nat × Bool)} {i off b o : Nat} (hT : FieldB P T i off) (hx : ev F x = some (.pointer (some ⟨b, o, none⟩))) :
    Run P n w0 S F L ⟨d, .fieldAddr T x i, ty, ps, af, g⟩ (.pointer (some ⟨b, o + off, none⟩)) := Run.of fun ρ hρ w _ => by
  replace hT := hT.h
  unfold fieldB at hT
  split at hT
  · rename_i fs hu
    split at hT
    · rename_i f hf
      simp only [Bool.and_eq_true, beq_iff_eq] at hT
      obtain ⟨rfl, hT⟩ := hT
      split at hT
      · rename_i i hi
        have h0 : i.size ≠ 0 := by simpa using hT
        simp [execOp, hρ _ _ hx, Instr.fieldAt, Instr.sureAddr, run_underlying hu, hf, fieldPlace, sizeOf, typeInfo, hi, h0, add_mk, go_sem]
      · cases hT
    · cases hT
  · cases hT
theorem eqGuard_int (op : BinOp) (t : TypeId) (x y : Operand) (k k' : IntKind) (a b : Int) (w : World) : (eqGuard op t x y (.int k a) (.int k' b)).run P w = .ok () w := by
  unfold eqGuard
  split <;> simp [go_sem]
section
variable {d : Option Tmp} {x y : Operand} {T T' ty : TypeId} {ps : String} {af : Array Edge} {g : Option (Nat × Bool)} {k : IntKind} {a b c : Int}
theorem Run.int2 {op : BinOp} {v : Value} (hx : ev F x = some (.int k a)) (hy : ev F y = some (.int k b)) (h : ∀ w, (binOp op T (.int k a) (.int k b)).run P w = .ok v w) : Run P n w0 S F L ⟨d, .binOp op T x y T', ty, ps, af, g⟩ v := Run.of fun ρ hρ w _ => by
  simp [execOp, hρ _ _ hx, hρ _ _ hy, h w, go_sem]
theorem Run.lss (hx : ev F x = some (.int k a)) (hy : ev F y = some (.int k b)) : Run P n w0 S F L ⟨d, .binOp .lss T x y T', ty, ps, af, g⟩ (.bool (decide (a < b))) := Run.int2 hx hy fun w => by simp [binOp, Op.intCmp, go_sem]
theorem Run.leq (hx : ev F x = some (.int k a)) (hy : ev F y = some (.int k b)) : Run P n w0 S F L ⟨d, .binOp .leq T x y T', ty, ps, af, g⟩ (.bool (decide (a ≤ b))) := Run.int2 hx hy fun w => by simp [binOp, Op.intCmp, go_sem]
theorem Run.gtr (hx : ev F x = some (.int k a)) (hy : ev F y = some (.int k b)) : Run P n w0 S F L ⟨d, .binOp .gtr T x y T', ty, ps, af, g⟩ (.bool (decide (b < a))) := Run.int2 hx hy fun w => by simp [binOp, Op.intCmp, go_sem]
theorem Run.geq (hx : ev F x = some (.int k a)) (hy : ev F y = some (.int k b)) : Run P n w0 S F L ⟨d, .binOp .geq T x y T', ty, ps, af, g⟩ (.bool (decide (b ≤ a))) := Run.int2 hx hy fun w => by simp [binOp, Op.intCmp, go_sem]
theorem Run.eql (hx : ev F x = some (.int k a)) (hy : ev F y = some (.int k b)) : Run P n w0 S F L ⟨d, .binOp .eql T x y T', ty, ps, af, g⟩ (.bool (decide (a = b))) := Run.int2 hx hy fun w => by
  simp only [binOp, Op.intCmp, go_sem, reduceIte, ne_eq, not_true_eq_false]; rfl
theorem Run.neq (hx : ev F x = some (.int k a)) (hy : ev F y = some (.int k b)) : Run P n w0 S F L ⟨d, .binOp .neq T x y T', ty, ps, af, g⟩ (.bool (decide (a ≠ b))) := Run.int2 hx hy fun w => by
  have e : (a != b) = decide (a ≠ b) := by rw [Bool.eq_iff_iff]; simp
  simp [binOp, Op.intCmp, go_sem, e]
theorem Run.add (hx : ev F x = some (.int k a)) (hy : ev F y = some (.int k b)) (hw : k.wrap (a + b) = c) : Run P n w0 S F L ⟨d, .binOp .add T x y T', ty, ps, af, g⟩ (.int k c) := Run.int2 hx hy fun w => by simp [binOp, Op.intArith, go_sem, hw]
theorem Run.sub (hx : ev F x = some (.int k a)) (hy : ev F y = some (.int k b)) (hw : k.wrap (a - b) = c) : Run P n w0 S F L ⟨d, .binOp .sub T x y T', ty, ps, af, g⟩ (.int k c) := Run.int2 hx hy fun w => by simp [binOp, Op.intArith, go_sem, hw]
theorem Run.mul (hx : ev F x = some (.int k a)) (hy : ev F y = some (.int k b)) (hw : k.wrap (a * b) = c) : Run P n w0 S F L ⟨d, .binOp .mul T x y T', ty, ps, af, g⟩ (.int k c) := Run.int2 hx hy fun w => by simp [binOp, Op.intArith, go_sem, hw]
theorem Run.quo (hx : ev F x = some (.int k a)) (hy : ev F y = some (.int k b)) (h0 : b ≠ 0) (hw : k.wrap (a.tdiv b) = c) : Run P n w0 S F L ⟨d, .binOp .quo T x y T', ty, ps, af, g⟩ (.int k c) := Run.int2 hx hy fun w => by simp [binOp, Op.intDiv, go_sem, hw, h0]
theorem Run.rem (hx : ev F x = some (.int k a)) (hy : ev F y = some (.int k b)) (h0 : b ≠ 0) (hw : a.tmod b = c) : Run P n w0 S F L ⟨d, .binOp .rem T x y T', ty, ps, af, g⟩ (.int k c) := Run.int2 hx hy fun w => by simp [binOp, Op.intDiv, go_sem, hw, h0]
theorem Run.conv {k' : IntKind} (hT : IntT P T' k') (hs : IntT P T k) (hx : ev F x = some (.int k a)) (hw : k'.wrap a = c) : Run P n w0 S F L ⟨d, .convert T T' x, ty, ps, af, g⟩ (.int k' c) := Run.of fun ρ hρ w _ => by
  simp [execOp, hρ _ _ hx, convert, run_underlying hT.h, run_underlying hs.h, Conv.intToInt, hw, go_sem]
theorem Run.notT (hx : ev F x = some (.bool true)) : Run P n w0 S F L ⟨d, .unOp .not T x, ty, ps, af, g⟩ (.bool false) := Run.of fun ρ hρ w _ => by
  simp [execOp, hρ _ _ hx, Op.unary, go_sem]
theorem Run.notF (hx : ev F x = some (.bool false)) : Run P n w0 S F L ⟨d, .unOp .not T x, ty, ps, af, g⟩ (.bool true) := Run.of fun ρ hρ w _ => by
  simp [execOp, hρ _ _ hx, Op.unary, go_sem]
theorem Run.notD {p : Prop} [Decidable p] (hx : ev F x = some (.bool (decide p))) : Run P n w0 S F L ⟨d, .unOp .not T x, ty, ps, af, g⟩ (.bool (decide (¬ p))) := Run.of fun ρ hρ w _ => by
  simp [execOp, hρ _ _ hx, Op.unary, go_sem]
theorem Run.notB {v : Bool} (hx : ev F x = some (.bool v)) : Run P n w0 S F L ⟨d, .unOp .not T x, ty, ps, af, g⟩ (.bool (!v)) := Run.of fun ρ hρ w _ => by
  simp [execOp, hρ _ _ hx, Op.unary, go_sem]
theorem Run.makeFunc {fn : Fn} {fs cs : Array Operand} {vs us : List Value} (hf : evs F fs.toList = some vs) (hc : evs F cs.toList = some us) :
    Run P n w0 S F L ⟨d, .makeFunc fn fs cs, ty, ps, af, g⟩ (.func fn vs.toArray us.toArray) := Run.of fun ρ hρ w _ => by
  have h1 : fs.map ρ = vs.toArray := by apply Array.ext'; simp [← evs_map hρ hf]
  have h2 : cs.map ρ = us.toArray := by apply Array.ext'; simp [← evs_map hρ hc]
  simp [execOp, Instr.makeFunc, h1, h2, go_sem]
theorem Run.extract {i : Nat} {vs : Array Value} {v : Value} (hx : ev F x = some (.tuple vs)) (hv : vs.toList[i]? = some v) : Run P n w0 S F L ⟨d, .extract x i, ty, ps, af, g⟩ v := Run.of fun ρ hρ w _ => by
  have hv' : vs[i]? = some v := by simpa using hv
  simp [execOp, hρ _ _ hx, Instr.extract, hv', go_sem]
theorem Run.nilCheckP {p : Addr} (hx : ev F x = some (.pointer (some p))) : Run P n w0 S F L ⟨d, .nilCheck x, ty, ps, af, g⟩ (.pointer (some p)) := Run.of fun ρ hρ w _ => by
  simp [execOp, hρ _ _ hx, go_sem]
theorem Run.len {s : Option Addr} {l cp : Nat} {e : TypeId} {t : TypeId} (hu : SliceT P t e) (hx : ev F x = some (.slice s l cp)) :
    Run P n w0 S F L ⟨d, .call { callee := .builtin .len, args := #[x], argTypes := #[t] }, ty, ps, af, g⟩ (.int .i64 l) := Run.of fun ρ hρ w _ => by
  simp [Builtin.len_, hρ _ _ hx, run_underlying hu.h, goInt, go_sem]
theorem Run.indexAddr {e : TypeId} {sz : Nat} {b off l cp j : Nat} {kk : IntKind} {i : Int} (hu : SliceT P T e) (he : Sz P e sz)
    (hx : ev F x = some (.slice (some ⟨b, off, none⟩) l cp)) (hy : ev F y = some (.int kk i)) (hi : i = (j : Int)) (hj : j < l) :
    Run P n w0 S F L ⟨d, .indexAddr T x y, ty, ps, af, g⟩ (.pointer (some ⟨b, off + j * sz, none⟩)) := Run.of fun ρ hρ w _ => by
  subst hi
  have he := he.h
  cases hi : P.info? e with
  | none => simp [info3, hi] at he
  | some q =>
    simp [info3, hi] at he
    simp [execOp, hρ _ _ hx, hρ _ _ hy, Instr.indexAt, asIntOf, run_underlying hu.h, hj, sizeOf, typeInfo, hi, he, add_mk, go_sem]
theorem Run.indexAddr1 {e : TypeId} {b off l cp j : Nat} {kk : IntKind} {i : Int} (hu : SliceT P T e) (he : Sz P e 1)
    (hx : ev F x = some (.slice (some ⟨b, off, none⟩) l cp)) (hy : ev F y = some (.int kk i)) (hi : i = (j : Int)) (hj : j < l) :
    Run P n w0 S F L ⟨d, .indexAddr T x y, ty, ps, af, g⟩ (.pointer (some ⟨b, off + j, none⟩)) := by
  have := Run.indexAddr (P := P) (n := n) (w0 := w0) (S := S) (L := L) (d := d) (ty := ty) (ps := ps) (af := af) (g := g) hu he hx hy hi hj
  rwa [Nat.mul_one] at this
theorem Run.indexAddrA {e : TypeId} {sz : Nat} {b off l j : Nat} {kk : IntKind} {i : Int} (hu : ArrT P T l e) (he : Sz P e sz)
    (hx : ev F x = some (.pointer (some ⟨b, off, none⟩))) (hy : ev F y = some (.int kk i)) (hi : i = (j : Int)) (hj : j < l) :
    Run P n w0 S F L ⟨d, .indexAddr T x y, ty, ps, af, g⟩ (.pointer (some ⟨b, off + j * sz, none⟩)) := Run.of fun ρ hρ w _ => by
  subst hi
  have he := he.h
  cases hi : P.info? e with
  | none => simp [info3, hi] at he
  | some q =>
    simp [info3, hi] at he
    simp [execOp, hρ _ _ hx, hρ _ _ hy, Instr.indexAt, Instr.sureAddr, asIntOf, run_underlying hu.h, hj, sizeOf, typeInfo, hi, he, add_mk, go_sem]
end
end

/-! ### Lists of operations -/
section
variable {P : Program} {n : Nat} {w0 : World} {S : List Nat} {F : Fr} {L : List Blk} {Q : Exit → Act → World → Prop} {C : Act → World → Prop} {ops : Array Oper} {rest : List Oper}
theorem Goal.quiet {d : Tmp} {op : Op} {ty : TypeId} {ps : String} {af : Array Edge} {v : Value} (hn : Nat.blt d n = true) (hr : Run P n w0 S F L ⟨some d, op, ty, ps, af, none⟩ v)
    (h : Goal n w0 S ((d, v) :: F) L (LW P ops Q rest)) : Goal n w0 S F L (LW P ops Q (⟨some d, op, ty, ps, af, none⟩ :: rest)) := .of fun w a hw ha => by
  refine ⟨wpList_plain rfl (fun K hK => ?_)⟩
  simp only [Oper.wp, hr w a hw ha, Oper.upon_value]
  exact hK _ _ (h w _ hw (ha.put (by simpa using hn) v)).out
theorem wanted_of {o : Oper} {a : Act} {j : Nat} {want b : Bool} {t : Tmp} (hg : o.guard = some (j, want)) (ht : (ops[j]?).bind (·.dst) = some t) (hv : a.tmps[t]? = some (.bool b)) :
    Region.wanted o (yielded ops a.tmps) = (b == want) := by
  simp only [Region.wanted, hg, yielded, ht, Option.bind_some, hv]
  cases b <;> cases want <;> rfl
theorem Goal.guardT {d : Option Tmp} {op : Op} {ty : TypeId} {ps : String} {af : Array Edge} {j : Nat} {want : Bool} {t : Tmp} (ht : (ops[j]?).bind (·.dst) = some t) (hv : look F t = some (.bool want))
    (h : Goal n w0 S F L (LW P ops Q (⟨d, op, ty, ps, af, none⟩ :: rest))) : Goal n w0 S F L (LW P ops Q (⟨d, op, ty, ps, af, some (j, want)⟩ :: rest)) := .of fun w a hw ha => by
  refine ⟨?_⟩
  have h1 := (h w a hw ha).out
  have hwd := wanted_of (o := ⟨d, op, ty, ps, af, some (j, want)⟩) rfl ht (ha.slot _ _ hv)
  unfold wpList at h1 ⊢
  rw [hwd]
  simpa [Region.wanted, Oper.wp, Oper.upon, Oper.asks, execOp] using h1
theorem Goal.guardF {d : Tmp} {op : Op} {ty : TypeId} {ps : String} {af : Array Edge} {j : Nat} {want b : Bool} {t : Tmp} (hn : Nat.blt d n = true) (ht : (ops[j]?).bind (·.dst) = some t) (hv : look F t = some (.bool b)) (hb : (b == want) = false)
    (h : Goal n w0 S ((d, undef) :: F) L (LW P ops Q rest)) : Goal n w0 S F L (LW P ops Q (⟨some d, op, ty, ps, af, some (j, want)⟩ :: rest)) := .of fun w a hw ha => by
  refine ⟨?_⟩
  have hwd := wanted_of (o := ⟨some d, op, ty, ps, af, some (j, want)⟩) rfl ht (ha.slot _ _ hv)
  unfold wpList
  rw [hwd, hb]
  simp only [Bool.false_eq_true, if_false]
  exact (h w _ hw (ha.put (by simpa using hn) undef)).out
/-- A guard that is not in sight yet as true or false. -/
theorem Goal.guardD {d : Option Tmp} {op : Op} {ty : TypeId} {ps : String} {af : Array Edge} {j : Nat} {want : Bool} {t : Tmp} {p : Prop} [Decidable p] (ht : (ops[j]?).bind (·.dst) = some t) (hv : look F t = some (.bool (decide p)))
    (h1 : p → Goal n w0 S ((t, .bool true) :: F) L (LW P ops Q (⟨d, op, ty, ps, af, some (j, want)⟩ :: rest)))
    (h0 : ¬ p → Goal n w0 S ((t, .bool false) :: F) L (LW P ops Q (⟨d, op, ty, ps, af, some (j, want)⟩ :: rest))) : Goal n w0 S F L (LW P ops Q (⟨d, op, ty, ps, af, some (j, want)⟩ :: rest)) := by
  have _ := ht
  exact Goal.bdec t hv h1 h0
theorem Goal.guardB {d : Option Tmp} {op : Op} {ty : TypeId} {ps : String} {af : Array Edge} {j : Nat} {want b : Bool} {t : Tmp} (ht : (ops[j]?).bind (·.dst) = some t) (hv : look F t = some (.bool b))
    (h1 : b = true → Goal n w0 S ((t, .bool true) :: F) L (LW P ops Q (⟨d, op, ty, ps, af, some (j, want)⟩ :: rest)))
    (h0 : b = false → Goal n w0 S ((t, .bool false) :: F) L (LW P ops Q (⟨d, op, ty, ps, af, some (j, want)⟩ :: rest))) : Goal n w0 S F L (LW P ops Q (⟨d, op, ty, ps, af, some (j, want)⟩ :: rest)) := by
  have _ := ht
  exact Goal.bcase t hv h1 h0
/-- An operation that changes the memory, or a call. -/
theorem Goal.loud {o : Oper} (hg : o.guard = none) (h : Goal n w0 S F L (OW P Q o (LW P ops Q rest))) : Goal n w0 S F L (LW P ops Q (o :: rest)) := .of fun w a hw ha => by
  refine ⟨?_⟩
  unfold wpList
  rw [if_pos (by simp [Region.wanted, hg])]
  exact .inl (Oper.wp_mono (fun _ _ h => h.out) (h w a hw ha).out)

/-! ### Operations that change the memory -/
theorem Loud.of {d : Tmp} {op : Op} {ty : TypeId} {ps : String} {af : Array Edge} {g : Option (Nat × Bool)} (hn : Nat.blt d n = true)
    (h : ∀ (ρ : Operand → Value), (∀ x u, ev F x = some u → ρ x = u) → ∀ w, St w0 S w L → ∃ v w' L', (execOp ρ ⟨some d, op, ty, ps, af, g⟩).run P w = .ok (.value v) w' ∧ St w0 S w' L' ∧ Goal n w0 S ((d, v) :: F) L' C) :
    Goal n w0 S F L (OW P Q ⟨some d, op, ty, ps, af, g⟩ C) := .of fun w a hw ha => by
  obtain ⟨v, w', L', hr, hw', hG⟩ := h a.eval (fun _ _ e => ha.eval e) w hw
  refine ⟨?_⟩
  simp only [Oper.wp, hr, Oper.upon_value]
  exact hG w' _ hw' (ha.put (by simpa using hn) v)
theorem Loud.ofSkip {op : Op} {ty : TypeId} {ps : String} {af : Array Edge} {g : Option (Nat × Bool)}
    (h : ∀ (ρ : Operand → Value), (∀ x u, ev F x = some u → ρ x = u) → ∀ w, St w0 S w L → ∃ w' L', (execOp ρ ⟨none, op, ty, ps, af, g⟩).run P w = .ok .skip w' ∧ St w0 S w' L' ∧ Goal n w0 S F L' C) :
    Goal n w0 S F L (OW P Q ⟨none, op, ty, ps, af, g⟩ C) := .of fun w a hw ha => by
  obtain ⟨w', L', hr, hw', hG⟩ := h a.eval (fun _ _ e => ha.eval e) w hw
  refine ⟨?_⟩
  simp only [Oper.wp, hr, Oper.upon_skip]
  exact hG w' _ hw' ha
section
variable {d : Tmp} {x y : Operand} {T ty : TypeId} {ps : String} {af : Array Edge} {g : Option (Nat × Bool)}
theorem Loud.box {v : Value} {cs : Array Value} (hn : Nat.blt d n = true) (hx : ev F x = some v) (hv : v.cells = cs)
    (h : ∀ b, Goal n w0 S ((d, .pointer (some ⟨b, 0, none⟩)) :: F) ((b, .cells cs T) :: L) C) : Goal n w0 S F L (OW P Q ⟨some d, .box T x, ty, ps, af, g⟩ C) :=
  Loud.of hn fun ρ hρ w hw => ⟨.pointer (some ⟨w.heap.size, 0, none⟩), w.alloc (.cells cs T), _, by subst hv; simp [execOp, hρ _ _ hx, Instr.box, newVar, newRow, go_sem], hw.alloc (.cells cs T), h _⟩
theorem Loud.boxA {cs : Array Value} (hn : Nat.blt d n = true) (hx : ev F x = some (.agg cs))
    (h : ∀ b, Goal n w0 S ((d, .pointer (some ⟨b, 0, none⟩)) :: F) ((b, .cells cs T) :: L) C) : Goal n w0 S F L (OW P Q ⟨some d, .box T x, ty, ps, af, g⟩ C) := Loud.box hn hx rfl h
theorem Loud.box1 {v : Value} (hn : Nat.blt d n = true) (hx : ev F x = some v) (hv : v.cells = #[v])
    (h : ∀ b, Goal n w0 S ((d, .pointer (some ⟨b, 0, none⟩)) :: F) ((b, .cells #[v] T) :: L) C) : Goal n w0 S F L (OW P Q ⟨some d, .box T x, ty, ps, af, g⟩ C) := Loud.box hn hx hv h
theorem Loud.allocA {cs : Array Value} {m by_ : Nat} (hn : Nat.blt d n = true) (hT : Inf P T (.agg cs) m by_)
    (h : ∀ b, Goal n w0 S ((d, .pointer (some ⟨b, 0, none⟩)) :: F) ((b, .cells cs T) :: L) C) : Goal n w0 S F L (OW P Q ⟨some d, .alloc T, ty, ps, af, g⟩ C) :=
  Loud.of hn fun ρ hρ w hw => ⟨.pointer (some ⟨w.heap.size, 0, none⟩), w.alloc (.cells cs T), _, by
    obtain ⟨i, hi, hz, _, _⟩ := info3_parts hT.h
    simp [execOp, Instr.alloc, zeroValue, typeInfo, hi, hz, newVar, newRow, go_sem], hw.alloc (.cells cs T), h _⟩
theorem Loud.alloc {z : Value} {cs : Array Value} {m by_ : Nat} (hn : Nat.blt d n = true) (hT : Inf P T z m by_) (hv : z.cells = cs)
    (h : ∀ b, Goal n w0 S ((d, .pointer (some ⟨b, 0, none⟩)) :: F) ((b, .cells cs T) :: L) C) : Goal n w0 S F L (OW P Q ⟨some d, .alloc T, ty, ps, af, g⟩ C) :=
  Loud.of hn fun ρ hρ w hw => ⟨.pointer (some ⟨w.heap.size, 0, none⟩), w.alloc (.cells cs T), _, by
    obtain ⟨i, hi, hz, _, _⟩ := info3_parts hT.h
    subst hv; simp [execOp, Instr.alloc, zeroValue, typeInfo, hi, hz, newVar, newRow, go_sem], hw.alloc (.cells cs T), h _⟩
/-- The content behind a store of several cells. -/
def wr (c : Array Value) (off : Nat) (vs : List Value) : Array Value := (c.toList.take off ++ vs ++ c.toList.drop (off + vs.length)).toArray
theorem wr_one {c : Array Value} {off : Nat} {v : Value} (h : off < c.size) : wr c off [v] = c.setIfInBounds off v := by
  apply Array.ext'
  simp only [wr, List.length_singleton, Array.toList_setIfInBounds]
  rw [List.set_eq_take_append_cons_drop, if_pos (by simpa using h)]
  simp
theorem St.row {w L} (h : St w0 S w L) {i b : Nat} {c c' : Array Value} {E : TypeId} (hp : L[i]? = some (b, .cells c E)) : St w0 S (w.setRow b c') (L.set i (b, .cells c' E)) :=
  h.upd hp rfl rfl rfl (size_setRow _ _ _) (setRow_heap w b c c' E _ (h.at hp)) fun k hk => setRow_other w b k c' hk
theorem run_storeVar {w : World} {b off m : Nat} {c : Array Value} {E : TypeId} {v : Value} {vs : List Value} (hb : w.heap[b]? = some (.cells c E)) (hT : Sz P T m) (hv : v.cells.toList = vs) (hm : vs.length = m)
    (h1 : vs.all Value.oneCell' = true) (hoff : off + m ≤ c.size) : (storeVar T ⟨b, off, none⟩ v).run P w = .ok () (w.setRow b (wr c off vs)) := by
  have hs := run_storeCells_at P b off E vs 0 c w hb (by omega) (by simpa using h1)
  have hT := hT.h
  cases hi : P.info? T with
  | none => simp [info3, hi] at hT
  | some q =>
    simp [info3, hi] at hT
    have hsz : v.cells.size = m := by rw [← Array.length_toList, hv, hm]
    simp only [storeVar, Sem.run_bind, sizeOf, typeInfo, run_program, hi, Sem.run_pure, Result.andThen_ok, hT, hsz, ne_eq, not_true_eq_false, if_false, hv, hs]
    simp [wr]
theorem Loud.store0 {R : List Blk}{b off m : Nat} {c c' : Array Value} {E : TypeId} {v : Value} {vs : List Value} (hx : ev F x = some (.pointer (some ⟨b, off, none⟩))) (hy : ev F y = some v)
    (hT : Sz P T m) (hv : v.cells.toList = vs) (hm : vs.length = m) (h1 : vs.all Value.oneCell' = true) (hoff : off + m ≤ c.size) (hc : wr c off vs = c')
    (h : Goal n w0 S F ((b, .cells c' E) :: R) C) : Goal n w0 S F ((b, .cells c E) :: R) (OW P Q ⟨none, .store T x y, ty, ps, af, g⟩ C) :=
  Loud.ofSkip fun ρ hρ w hw => ⟨w.setRow b c', _, by
    have := run_storeVar (P := P) (T := T) (hw.at (i := 0) rfl) hT hv hm h1 hoff
    simp only [execOp, hρ _ _ hx, hρ _ _ hy, Instr.storeAt, Instr.sureAddr, Sem.run_bind, Sem.run_pure, Result.andThen_ok, this, hc], hw.row (i := 0) rfl, h⟩
theorem Loud.store1 {p0 : Blk} {R : List Blk}{b off m : Nat} {c c' : Array Value} {E : TypeId} {v : Value} {vs : List Value} (hx : ev F x = some (.pointer (some ⟨b, off, none⟩))) (hy : ev F y = some v)
    (hT : Sz P T m) (hv : v.cells.toList = vs) (hm : vs.length = m) (h1 : vs.all Value.oneCell' = true) (hoff : off + m ≤ c.size) (hc : wr c off vs = c')
    (h : Goal n w0 S F (p0 :: (b, .cells c' E) :: R) C) : Goal n w0 S F (p0 :: (b, .cells c E) :: R) (OW P Q ⟨none, .store T x y, ty, ps, af, g⟩ C) :=
  Loud.ofSkip fun ρ hρ w hw => ⟨w.setRow b c', _, by
    have := run_storeVar (P := P) (T := T) (hw.at (i := 1) rfl) hT hv hm h1 hoff
    simp only [execOp, hρ _ _ hx, hρ _ _ hy, Instr.storeAt, Instr.sureAddr, Sem.run_bind, Sem.run_pure, Result.andThen_ok, this, hc], hw.row (i := 1) rfl, h⟩
theorem Loud.store2 {p0 p1 : Blk} {R : List Blk}{b off m : Nat} {c c' : Array Value} {E : TypeId} {v : Value} {vs : List Value} (hx : ev F x = some (.pointer (some ⟨b, off, none⟩))) (hy : ev F y = some v)
    (hT : Sz P T m) (hv : v.cells.toList = vs) (hm : vs.length = m) (h1 : vs.all Value.oneCell' = true) (hoff : off + m ≤ c.size) (hc : wr c off vs = c')
    (h : Goal n w0 S F (p0 :: p1 :: (b, .cells c' E) :: R) C) : Goal n w0 S F (p0 :: p1 :: (b, .cells c E) :: R) (OW P Q ⟨none, .store T x y, ty, ps, af, g⟩ C) :=
  Loud.ofSkip fun ρ hρ w hw => ⟨w.setRow b c', _, by
    have := run_storeVar (P := P) (T := T) (hw.at (i := 2) rfl) hT hv hm h1 hoff
    simp only [execOp, hρ _ _ hx, hρ _ _ hy, Instr.storeAt, Instr.sureAddr, Sem.run_bind, Sem.run_pure, Result.andThen_ok, this, hc], hw.row (i := 2) rfl, h⟩
theorem Loud.store3 {p0 p1 p2 : Blk} {R : List Blk}{b off m : Nat} {c c' : Array Value} {E : TypeId} {v : Value} {vs : List Value} (hx : ev F x = some (.pointer (some ⟨b, off, none⟩))) (hy : ev F y = some v)
    (hT : Sz P T m) (hv : v.cells.toList = vs) (hm : vs.length = m) (h1 : vs.all Value.oneCell' = true) (hoff : off + m ≤ c.size) (hc : wr c off vs = c')
    (h : Goal n w0 S F (p0 :: p1 :: p2 :: (b, .cells c' E) :: R) C) : Goal n w0 S F (p0 :: p1 :: p2 :: (b, .cells c E) :: R) (OW P Q ⟨none, .store T x y, ty, ps, af, g⟩ C) :=
  Loud.ofSkip fun ρ hρ w hw => ⟨w.setRow b c', _, by
    have := run_storeVar (P := P) (T := T) (hw.at (i := 3) rfl) hT hv hm h1 hoff
    simp only [execOp, hρ _ _ hx, hρ _ _ hy, Instr.storeAt, Instr.sureAddr, Sem.run_bind, Sem.run_pure, Result.andThen_ok, this, hc], hw.row (i := 3) rfl, h⟩
theorem Loud.store4 {p0 p1 p2 p3 : Blk} {R : List Blk}{b off m : Nat} {c c' : Array Value} {E : TypeId} {v : Value} {vs : List Value} (hx : ev F x = some (.pointer (some ⟨b, off, none⟩))) (hy : ev F y = some v)
    (hT : Sz P T m) (hv : v.cells.toList = vs) (hm : vs.length = m) (h1 : vs.all Value.oneCell' = true) (hoff : off + m ≤ c.size) (hc : wr c off vs = c')
    (h : Goal n w0 S F (p0 :: p1 :: p2 :: p3 :: (b, .cells c' E) :: R) C) : Goal n w0 S F (p0 :: p1 :: p2 :: p3 :: (b, .cells c E) :: R) (OW P Q ⟨none, .store T x y, ty, ps, af, g⟩ C) :=
  Loud.ofSkip fun ρ hρ w hw => ⟨w.setRow b c', _, by
    have := run_storeVar (P := P) (T := T) (hw.at (i := 4) rfl) hT hv hm h1 hoff
    simp only [execOp, hρ _ _ hx, hρ _ _ hy, Instr.storeAt, Instr.sureAddr, Sem.run_bind, Sem.run_pure, Result.andThen_ok, this, hc], hw.row (i := 4) rfl, h⟩
theorem Loud.store5 {p0 p1 p2 p3 p4 : Blk} {R : List Blk}{b off m : Nat} {c c' : Array Value} {E : TypeId} {v : Value} {vs : List Value} (hx : ev F x = some (.pointer (some ⟨b, off, none⟩))) (hy : ev F y = some v)
    (hT : Sz P T m) (hv : v.cells.toList = vs) (hm : vs.length = m) (h1 : vs.all Value.oneCell' = true) (hoff : off + m ≤ c.size) (hc : wr c off vs = c')
    (h : Goal n w0 S F (p0 :: p1 :: p2 :: p3 :: p4 :: (b, .cells c' E) :: R) C) : Goal n w0 S F (p0 :: p1 :: p2 :: p3 :: p4 :: (b, .cells c E) :: R) (OW P Q ⟨none, .store T x y, ty, ps, af, g⟩ C) :=
  Loud.ofSkip fun ρ hρ w hw => ⟨w.setRow b c', _, by
    have := run_storeVar (P := P) (T := T) (hw.at (i := 5) rfl) hT hv hm h1 hoff
    simp only [execOp, hρ _ _ hx, hρ _ _ hy, Instr.storeAt, Instr.sureAddr, Sem.run_bind, Sem.run_pure, Result.andThen_ok, this, hc], hw.row (i := 5) rfl, h⟩
theorem Loud.store6 {p0 p1 p2 p3 p4 p5 : Blk} {R : List Blk}{b off m : Nat} {c c' : Array Value} {E : TypeId} {v : Value} {vs : List Value} (hx : ev F x = some (.pointer (some ⟨b, off, none⟩))) (hy : ev F y = some v)
    (hT : Sz P T m) (hv : v.cells.toList = vs) (hm : vs.length = m) (h1 : vs.all Value.oneCell' = true) (hoff : off + m ≤ c.size) (hc : wr c off vs = c')
    (h : Goal n w0 S F (p0 :: p1 :: p2 :: p3 :: p4 :: p5 :: (b, .cells c' E) :: R) C) : Goal n w0 S F (p0 :: p1 :: p2 :: p3 :: p4 :: p5 :: (b, .cells c E) :: R) (OW P Q ⟨none, .store T x y, ty, ps, af, g⟩ C) :=
  Loud.ofSkip fun ρ hρ w hw => ⟨w.setRow b c', _, by
    have := run_storeVar (P := P) (T := T) (hw.at (i := 6) rfl) hT hv hm h1 hoff
    simp only [execOp, hρ _ _ hx, hρ _ _ hy, Instr.storeAt, Instr.sureAddr, Sem.run_bind, Sem.run_pure, Result.andThen_ok, this, hc], hw.row (i := 6) rfl, h⟩
theorem Loud.store7 {p0 p1 p2 p3 p4 p5 p6 : Blk} {R : List Blk}{b off m : Nat} {c c' : Array Value} {E : TypeId} {v : Value} {vs : List Value} (hx : ev F x = some (.pointer (some ⟨b, off, none⟩))) (hy : ev F y = some v)
    (hT : Sz P T m) (hv : v.cells.toList = vs) (hm : vs.length = m) (h1 : vs.all Value.oneCell' = true) (hoff : off + m ≤ c.size) (hc : wr c off vs = c')
    (h : Goal n w0 S F (p0 :: p1 :: p2 :: p3 :: p4 :: p5 :: p6 :: (b, .cells c' E) :: R) C) : Goal n w0 S F (p0 :: p1 :: p2 :: p3 :: p4 :: p5 :: p6 :: (b, .cells c E) :: R) (OW P Q ⟨none, .store T x y, ty, ps, af, g⟩ C) :=
  Loud.ofSkip fun ρ hρ w hw => ⟨w.setRow b c', _, by
    have := run_storeVar (P := P) (T := T) (hw.at (i := 7) rfl) hT hv hm h1 hoff
    simp only [execOp, hρ _ _ hx, hρ _ _ hy, Instr.storeAt, Instr.sureAddr, Sem.run_bind, Sem.run_pure, Result.andThen_ok, this, hc], hw.row (i := 7) rfl, h⟩
theorem Loud.store8 {p0 p1 p2 p3 p4 p5 p6 p7 : Blk} {R : List Blk}{b off m : Nat} {c c' : Array Value} {E : TypeId} {v : Value} {vs : List Value} (hx : ev F x = some (.pointer (some ⟨b, off, none⟩))) (hy : ev F y = some v)
    (hT : Sz P T m) (hv : v.cells.toList = vs) (hm : vs.length = m) (h1 : vs.all Value.oneCell' = true) (hoff : off + m ≤ c.size) (hc : wr c off vs = c')
    (h : Goal n w0 S F (p0 :: p1 :: p2 :: p3 :: p4 :: p5 :: p6 :: p7 :: (b, .cells c' E) :: R) C) : Goal n w0 S F (p0 :: p1 :: p2 :: p3 :: p4 :: p5 :: p6 :: p7 :: (b, .cells c E) :: R) (OW P Q ⟨none, .store T x y, ty, ps, af, g⟩ C) :=
  Loud.ofSkip fun ρ hρ w hw => ⟨w.setRow b c', _, by
    have := run_storeVar (P := P) (T := T) (hw.at (i := 8) rfl) hT hv hm h1 hoff
    simp only [execOp, hρ _ _ hx, hρ _ _ hy, Instr.storeAt, Instr.sureAddr, Sem.run_bind, Sem.run_pure, Result.andThen_ok, this, hc], hw.row (i := 8) rfl, h⟩
theorem Loud.store9 {p0 p1 p2 p3 p4 p5 p6 p7 p8 : Blk} {R : List Blk}{b off m : Nat} {c c' : Array Value} {E : TypeId} {v : Value} {vs : List Value} (hx : ev F x = some (.pointer (some ⟨b, off, none⟩))) (hy : ev F y = some v)
    (hT : Sz P T m) (hv : v.cells.toList = vs) (hm : vs.length = m) (h1 : vs.all Value.oneCell' = true) (hoff : off + m ≤ c.size) (hc : wr c off vs = c')
    (h : Goal n w0 S F (p0 :: p1 :: p2 :: p3 :: p4 :: p5 :: p6 :: p7 :: p8 :: (b, .cells c' E) :: R) C) : Goal n w0 S F (p0 :: p1 :: p2 :: p3 :: p4 :: p5 :: p6 :: p7 :: p8 :: (b, .cells c E) :: R) (OW P Q ⟨none, .store T x y, ty, ps, af, g⟩ C) :=
  Loud.ofSkip fun ρ hρ w hw => ⟨w.setRow b c', _, by
    have := run_storeVar (P := P) (T := T) (hw.at (i := 9) rfl) hT hv hm h1 hoff
    simp only [execOp, hρ _ _ hx, hρ _ _ hy, Instr.storeAt, Instr.sureAddr, Sem.run_bind, Sem.run_pure, Result.andThen_ok, this, hc], hw.row (i := 9) rfl, h⟩
end
end

/-! ### Structs and arrays put together from parts -/
def partsV (F : Fr) : List (Nat × Operand) → Option (List (Nat × Value))
  | [] => some []
  | (i, x) :: r => match ev F x, partsV F r with
    | some v, some vs => some ((i, v) :: vs)
    | _, _ => none
theorem partsV_map {F : Fr} {ρ : Operand → Value} (hρ : ∀ x u, ev F x = some u → ρ x = u) : ∀ {ps : List (Nat × Operand)} {vs}, partsV F ps = some vs → ps.map (fun p => (p.1, ρ p.2)) = vs
  | [], vs, e => by simp only [partsV, Option.some.injEq] at e; simp [← e]
  | (i, x) :: r, vs, e => by
    simp only [partsV] at e
    split at e
    · rename_i v us hv hus
      simp only [Option.some.injEq] at e
      simp [← e, hρ _ _ hv, partsV_map hρ hus]
    · cases e
/-- Where the parts of a struct or an array lie, and its zero cells. -/
def placesOf (P : Program) : List Field → Option (List (Nat × Nat))
  | [] => some []
  | f :: r => match P.info? f.type, placesOf P r with
    | some i, some l => some ((f.offset, i.size) :: l)
    | _, _ => none
def layOf (P : Program) (T : TypeId) : Option (List (Nat × Nat) × List Value) :=
  match P.underlying T, P.info? T with
  | some (.struct fs), some i => match i.zero, placesOf P fs.toList with
    | some z, some pl => some (pl, z.cells.toList)
    | _, _ => none
  | some (.array k e), some i => match i.zero, P.info? e with
    | some z, some q => some ((List.range k).map fun j => (j * q.size, q.size), z.cells.toList)
    | _, _ => none
  | _, _ => none
def putAt (z : List Value) (off : Nat) : List Value → List Value
  | [] => z
  | v :: r => putAt (z.set off v) (off + 1) r
def buildL (pl : List (Nat × Nat)) : List Value → List (Nat × Value) → Option (List Value)
  | z, [] => some z
  | z, (i, v) :: r => match pl[i]? with
    | none => none
    | some (off, size) => if v.cells.toList.length = size ∧ off + v.cells.toList.length ≤ z.length then buildL pl (putAt z off v.cells.toList) r else none
theorem foldl_putAt : ∀ (vs : List Value) (z : Array Value) (off k : Nat), (vs.zipIdx k).foldl (fun cs (c, j) => cs.setIfInBounds (off + j) c) z = (putAt z.toList (off + k) vs).toArray
  | [], z, off, k => by simp [putAt]
  | v :: r, z, off, k => by
    simp only [List.zipIdx_cons, List.foldl_cons, putAt]
    rw [foldl_putAt r (z.setIfInBounds (off + k) v) off (k + 1)]
    simp [Nat.add_assoc]
theorem fill_of_buildL {pl : List (Nat × Nat)} {place : Nat → Option (Nat × Nat)} (hpl : ∀ i q, pl[i]? = some q → place i = some q) : ∀ {parts : List (Nat × Value)} {z cs : List Value}, buildL pl z parts = some cs → Instr.fill place z.toArray parts = some cs.toArray
  | [], z, cs, h => by simp only [buildL, Option.some.injEq] at h; simp [Instr.fill, h]
  | (i, v) :: r, z, cs, h => by
    simp only [buildL] at h
    simp only [Instr.fill]
    split at h
    · cases h
    · rename_i off size hp
      split at h
      · rename_i hc
        rw [hpl _ _ hp]
        have h1 : ¬ (v.cells.size ≠ size ∨ off + v.cells.size > z.toArray.size) := by
          simp only [Array.length_toList] at hc
          simp only [List.size_toArray]
          omega
        simp only [Bool.or_eq_true, decide_eq_true_eq, h1, if_false]
        rw [← Array.foldl_toList]
        have := foldl_putAt v.cells.toList z.toArray off 0
        simp only [Nat.add_zero] at this
        rw [show v.cells.zipIdx.toList = v.cells.toList.zipIdx 0 by simp, this]
        exact fill_of_buildL hpl h
      · cases h

theorem run_places {P : Program} {g : Field → Sem (Nat × Nat)} (hg : ∀ f i w, P.info? f.type = some i → (g f).run P w = .ok (f.offset, i.size) w) (w : World) : ∀ (fs : List Field) (pl : List (Nat × Nat)), placesOf P fs = some pl →
    (fs.mapM g).run P w = .ok pl w
  | [], pl, h => by simp only [placesOf, Option.some.injEq] at h; simp [← h, go_sem]
  | f :: r, pl, h => by
    simp only [placesOf] at h
    split at h
    · rename_i i l hi hl
      simp only [Option.some.injEq] at h
      simp only [List.mapM_cons, Sem.run_bind, hg f i w hi, Sem.run_pure, Result.andThen_ok, ← h, run_places hg w r l hl]
    · cases h
structure Lay (P : Program) (T : TypeId) (pl : List (Nat × Nat)) (z : List Value) : Prop where
  h : layOf P T = some (pl, z)
section
variable {P : Program} {n : Nat} {w0 : World} {S : List Nat} {F : Fr} {L : List Blk}
theorem Run.build {d : Option Tmp} {T ty : TypeId} {ps : String} {af : Array Edge} {g : Option (Nat × Bool)} {parts : Array (Nat × Operand)} {pl : List (Nat × Nat)} {z : List Value} {vals : List (Nat × Value)} {cs : List Value}
    (hT : Lay P T pl z) (hp : partsV F parts.toList = some vals) (hb : buildL pl z vals = some cs) : Run P n w0 S F L ⟨d, .build T parts, ty, ps, af, g⟩ (.agg cs.toArray) := Run.of fun ρ hρ w _ => by
  have hv : (parts.map fun (i, x) => (i, ρ x)).toList = vals := by simpa using partsV_map hρ hp
  have hT := hT.h
  unfold layOf at hT
  split at hT
  · rename_i fs i hu hi
    split at hT
    · rename_i z' pl' hz hpl
      simp only [Option.some.injEq, Prod.mk.injEq] at hT
      obtain ⟨rfl, rfl⟩ := hT
      have hf := fill_of_buildL (place := fun i => pl'[i]?) (fun _ _ h => h) hb
      simp only [Array.toArray_toList] at hf
      have hpp : (fs.mapM fun f => (do pure (f.offset, ← sizeOf f.type) : Sem (Nat × Nat))).run P w = .ok pl'.toArray w := by
        rw [Array.mapM_eq_mapM_toList]
        have hg : ∀ (f : Field) (i : TypeInfo) (w : World), P.info? f.type = some i → (do pure (f.offset, ← sizeOf f.type) : Sem (Nat × Nat)).run P w = .ok (f.offset, i.size) w := fun f i w hi => by
          simp only [Sem.run_bind, sizeOf, typeInfo, run_program, hi, Sem.run_pure, Result.andThen_ok]
        rw [map_eq_pure_bind]
        simp only [Sem.run_bind, run_places hg w fs.toList pl' hpl, Result.andThen_ok, Sem.run_pure]
      simp only [execOp, Instr.build, zeroValue, typeInfo, Sem.run_bind, run_program, hi, Sem.run_pure, Result.andThen_ok, hz, run_underlying hu, hpp, hv]
      simp only [List.getElem?_toArray, hf, Sem.run_pure, Result.andThen_ok]
    · cases hT
  · rename_i k e i hu hi
    split at hT
    · rename_i z' q hz hq
      simp only [Option.some.injEq, Prod.mk.injEq] at hT
      obtain ⟨rfl, rfl⟩ := hT
      have hf := fill_of_buildL (place := fun i => some (i * q.size, q.size)) (by
        intro i p hi
        simp only [List.getElem?_map, Option.map_eq_some_iff] at hi
        obtain ⟨j, hj, rfl⟩ := hi
        rw [List.getElem?_range] at hj
        · simp only [Option.some.injEq] at hj; subst hj; rfl
        · rcases Nat.lt_or_ge i k with h | h
          · exact h
          · simp [List.getElem?_eq_none (show (List.range k).length ≤ i by simpa using h)] at hj) hb
      simp only [Array.toArray_toList] at hf
      simp only [execOp, Instr.build, zeroValue, sizeOf, typeInfo, Sem.run_bind, run_program, hi, Sem.run_pure, Result.andThen_ok, hz, run_underlying hu, hq, hv, hf]
    · cases hT
  · cases hT
end

/-! ### Slices: made, and appended to -/
section
variable {P : Program} {n : Nat} {w0 : World} {S : List Nat} {F : Fr} {L : List Blk} {Q : Exit → Act → World → Prop} {C : Act → World → Prop}
section
variable {d : Tmp} {x y : Operand} {T ty : TypeId} {ps : String} {af : Array Edge} {g : Option (Nat × Bool)}
def rep (k : Nat) (z : List Value) : List Value := (List.replicate k z).flatten
theorem made_rep (z : Array Value) (k : Nat) (hz : 0 < z.size) : madeCells z (k * z.size) = (rep k z.toList).toArray := by
  apply Array.ext'
  apply List.ext_getElem?
  intro i
  have hl : (rep k z.toList).length = k * z.size := by simp [rep, List.length_flatten]
  rcases Nat.lt_or_ge i (k * z.size) with hi | hi
  · have hm : i % z.size < z.size := Nat.mod_lt _ hz
    have h1 : (madeCells z (k * z.size)).toList[i]? = z[i % z.size]? := by
      simp [madeCells, hi, hm]
    rw [h1]
    have key : ∀ (k i : Nat), i < k * z.size → (rep k z.toList)[i]? = z[i % z.size]? := by
      intro k
      induction k with
      | zero => intro i hi; simp at hi
      | succ k ih =>
        intro i hi
        have e : rep (k + 1) z.toList = z.toList ++ rep k z.toList := by simp [rep, List.replicate_succ]
        rw [e]
        rcases Nat.lt_or_ge i z.size with h | h
        · rw [List.getElem?_append_left (by simpa using h)]
          simp [Nat.mod_eq_of_lt h]
        · rw [List.getElem?_append_right (by simpa using h)]
          have h2 : i - z.size < k * z.size := by rw [Nat.succ_mul] at hi; omega
          have := ih (i - z.size) h2
          rw [Array.length_toList, this, ← Nat.mod_eq_sub_mod h]
    exact (key k i hi).symm
  · rw [List.getElem?_eq_none (by simp [madeCells]; exact hi), List.getElem?_eq_none (by simpa using hl ▸ hi)]
theorem Loud.makeSlice {e : TypeId} {z : Value} {zs : List Value} {m by_ : Nat} {k1 k2 : IntKind} {lI cI : Int} {l c : Nat} (hn : Nat.blt d n = true) (hu : SliceT P T e) (he : Inf P e z m by_) (hzs : z.cells.toList = zs) (hm : zs.length = m) (h0 : 0 < m)
    (hx : ev F x = some (.int k1 lI)) (hy : ev F y = some (.int k2 cI)) (hl : lI = (l : Int)) (hc : cI = (c : Int)) (hlc : l ≤ c) (hb : by_ * c ≤ 281474976710656) (h63 : c ≤ 9223372036854775807)
    (h : ∀ b, Goal n w0 S ((d, .slice (some ⟨b, 0, none⟩) l c) :: F) ((b, .cells (rep c zs).toArray e) :: L) C) : Goal n w0 S F L (OW P Q ⟨some d, .makeSlice T x y, ty, ps, af, g⟩ C) :=
  Loud.of hn fun ρ hρ w hw => by
    subst hl hc
    obtain ⟨i, hi, hz, hsz, hby⟩ := info3_parts he.h
    have hzz : z.cells.size = m := by rw [← Array.length_toList, hzs, hm]
    have hb' : (i.bytes : Int) * (c : Int) ≤ 281474976710656 := by rw [hby]; have := Int.ofNat_le.2 hb; rwa [Int.natCast_mul] at this
    have hr := run_make (P := P) w T e i z hu.h hi hz k1 k2 l c (by omega) (by omega) hb' (by omega)
    rw [hsz, ← hzz, Int.toNat_natCast, Int.toNat_natCast, made_rep _ _ (by omega), hzs] at hr
    refine ⟨_, _, _, ?_, hw.alloc (.cells (rep c zs).toArray e), h _⟩
    simp only [execOp, hρ _ _ hx, hρ _ _ hy, Sem.run_bind, hr, Result.andThen_ok, Sem.run_pure]
theorem Loud.buildSlice {e : TypeId} {z : Value} {m by_ len : Nat} {parts : Array (Nat × Operand)} {vals : List (Nat × Value)} {zs cs : List Value} (hn : Nat.blt d n = true) (hu : SliceT P T e) (he : Inf P e z m by_) (hzs : z.cells.toList = zs) (hm : zs.length = m) (h0 : 0 < m)
    (hlen : Nat.ble (len * m) 16777216 = true) (hp : partsV F parts.toList = some vals) (hb : buildL ((List.range len).map fun j => (j * m, m)) (rep len zs) vals = some cs)
    (h : ∀ b, Goal n w0 S ((d, .slice (some ⟨b, 0, none⟩) len len) :: F) ((b, .cells cs.toArray e) :: L) C) : Goal n w0 S F L (OW P Q ⟨some d, .buildSlice T len parts, ty, ps, af, g⟩ C) :=
  Loud.of hn fun ρ hρ w hw => by
    obtain ⟨i, hi, hz, hsz, hby⟩ := info3_parts he.h
    have hv : (parts.map fun (i, x) => (i, ρ x)).toList = vals := by simpa using partsV_map hρ hp
    have hzz : z.cells.size = m := by rw [← Array.length_toList, hzs, hm]
    have hf := fill_of_buildL (place := fun i => some (i * m, m)) (by
      intro i p hi
      simp only [List.getElem?_map, Option.map_eq_some_iff] at hi
      obtain ⟨j, hj, rfl⟩ := hi
      rcases Nat.lt_or_ge i len with h | h
      · rw [List.getElem?_range h] at hj
        simp only [Option.some.injEq] at hj; subst hj; rfl
      · simp [List.getElem?_eq_none (show (List.range len).length ≤ i by simpa using h)] at hj) hb
    have hlen' : ¬ len * m > 16777216 := by simpa using hlen
    refine ⟨.slice (some ⟨w.heap.size, 0, none⟩) len len, w.alloc (.cells cs.toArray e), _, ?_, hw.alloc _, h _⟩
    simp only [execOp, Instr.buildSlice, Sem.run_bind, run_underlying hu.h, Result.andThen_ok, sizeOf, typeInfo, run_program, hi, Sem.run_pure, hsz, Nat.reducePow, hlen', if_false]
    have hv2 : (parts.map fun x => (x.1, ρ x.2)).toList = vals := by simpa using partsV_map hρ hp
    by_cases hlm : len * m = 0
    · have hl0 : len = 0 := by
        rcases Nat.mul_eq_zero.1 hlm with h | h
        · exact h
        · omega
      subst hl0
      simp only [rep, List.replicate_zero, List.flatten_nil] at hf
      simp only [Nat.zero_mul, if_true, Sem.run_bind, Sem.run_pure, Result.andThen_ok, Array.range_zero', Array.map_empty, hv2, hf]
      simp [newRow, go_sem]
    · have hm2 : (Array.range (len * m)).map (fun x => z.cells[x % z.cells.size]!) = (rep len zs).toArray := by
        have := made_rep z.cells len (by omega)
        rw [hzz, hzs] at this
        exact this
      simp only [hlm, if_false, Sem.run_bind, zeroValue, typeInfo, run_program, hi, Sem.run_pure, Result.andThen_ok, hz, hm2, hv2, hf]
      simp [newRow, go_sem]

/-- A slice of the function's own: nil, or the first n elements (of sz cells each, 'vs' in all) of a block that nobody else knows. -/
def Sl (v : Value) (E sz n : Nat) (vs : List Value) (A : List Blk) : Prop :=
  (v = .slice none 0 0 ∧ n = 0 ∧ vs = [] ∧ A = []) ∨
  ∃ b rest cap, v = .slice (some ⟨b, 0, none⟩) n cap ∧ A = [(b, .cells (vs ++ rest).toArray E)] ∧ vs.length = n * sz ∧ vs.length + rest.length = cap * sz ∧ n ≤ cap
theorem Sl.nil (E sz : Nat) : Sl (.slice none 0 0) E sz 0 [] [] := .inl ⟨rfl, rfl, rfl, rfl⟩
theorem Sl.mk {E sz n cap b : Nat} {vs rest : List Value} (h1 : vs.length = n * sz) (h2 : vs.length + rest.length = cap * sz) (h3 : n ≤ cap) : Sl (.slice (some ⟨b, 0, none⟩) n cap) E sz n vs [(b, .cells (vs ++ rest).toArray E)] :=
  .inr ⟨b, rest, cap, rfl, rfl, h1, h2, h3⟩
theorem Sl.full {E sz n b : Nat} {vs : List Value} (h1 : vs.length = n * sz) : Sl (.slice (some ⟨b, 0, none⟩) n n) E sz n vs [(b, .cells vs.toArray E)] := by
  have := Sl.mk (E := E) (b := b) (rest := []) h1 (by simpa using h1) (Nat.le_refl n)
  simpa using this
theorem Sl.pos {v : Value} {E sz n : Nat} {vs : List Value} {A : List Blk} (h : Sl v E sz n vs A) (hn : 0 < n) :
    ∃ b rest cap, v = .slice (some ⟨b, 0, none⟩) n cap ∧ A = [(b, .cells (vs ++ rest).toArray E)] ∧ vs.length = n * sz ∧ vs.length + rest.length = cap * sz ∧ n ≤ cap := by
  rcases h with ⟨_, h, _⟩ | h
  · omega
  · exact h
theorem Sl.len {v : Value} {E sz n : Nat} {vs : List Value} {A : List Blk} (h : Sl v E sz n vs A) : vs.length = n * sz := by
  rcases h with ⟨_, h1, h2, _⟩ | ⟨_, _, _, _, _, h, _⟩
  · subst h1 h2; simp
  · exact h
theorem nextcap_room {need old bytes : Nat} (h : old < need) (hb : need * bytes ≤ 140737488355328) : Builtin.nextslicecap need old * bytes ≤ 281474976710656 := growslice_fits h hb
theorem cap_ge (w : World) (need old : Nat) (e : TypeId) : need ≤ grownCap w need old e := by simp only [grownCap, Question.cut]; omega
theorem St.dropAt1 {w L p q} (h : St w0 S w (p :: q :: L)) : St w0 S w (p :: L) := h.sub (List.Sublist.cons_cons p (List.Sublist.cons q (List.Sublist.refl L)))
/-- 'append(s, x...)': what is appended is at hand in every world that has L. -/
theorem run_appendSl {e : TypeId} {z : Value} {m by_ : Nat} {t1 : TypeId} (hu : SliceT P t1 e) (he : Inf P e z m by_) (hz0 : z.cells.size = m)
    {v : Value} {k : Nat} {vs : List Value} {A R : List Blk} (hA : Sl v e m k vs A) {ad : Addr} {l c : Nat} {news : List Value} (hl : news.length = l * m) (h1 : news.all Value.oneCell' = true) (hb : (k + l) * by_ ≤ 140737488355328) (h63 : k + l ≤ 9223372036854775807)
    {w : World} (hw : St w0 S w (A ++ R)) (hnews : ∀ j u, news[j]? = some u → w.cell? (ad.add j) = some u) (ty : TypeId) :
    ∃ v' w' A', (Builtin.append_ #[t1, t1] ty #[v, .slice (some ad) l c]).run P w = .ok v' w' ∧ St w0 S w' (A' ++ R) ∧ Sl v' e m (k + l) (vs ++ news) A' := by
  obtain ⟨i, hi, hz, hsz, hby⟩ := info3_parts he.h
  have hone : ∀ u ∈ news, u.oneCell' = true := by simpa using h1
  rcases hA with ⟨rfl, rfl, rfl, rfl⟩ | ⟨b, rest, cap, rfl, rfl, hvs, hcap, hkc⟩
  · by_cases hl0 : l = 0
    · subst hl0
      have hn0 : news = [] := List.length_eq_zero_iff.1 (by omega)
      subst hn0
      refine ⟨.slice none 0 0, w, [], ?_, hw, Sl.nil _ _⟩
      simp [Builtin.append_, run_underlying hu.h, sizeOf, typeInfo, hi, Builtin.lenOf, go_sem]
    · have hr := run_append_nil (P := P) w t1 ty e i z hu.h hi hz ad l c news (by rw [hsz]; exact hl) hnews (by omega) (by omega) (by rw [hby]; simp at hb; omega)
      refine ⟨_, _, [(w.heap.size, _)], hr, (hw.drawn (w.drawn + 1)).alloc _, ?_⟩
      have hge := cap_ge w l 0 e
      have hzl : (Builtin.zeroCells z.cells (grownCap w l 0 e - l)).toList.length = (grownCap w l 0 e - l) * m := by rw [Array.length_toList, size_zeroCells, hz0]
      have e1 : news.toArray ++ Builtin.zeroCells z.cells (grownCap w l 0 e - l) = (news ++ (Builtin.zeroCells z.cells (grownCap w l 0 e - l)).toList).toArray := by apply Array.ext'; simp
      rw [e1]
      simp only [Nat.zero_add, List.nil_append]
      refine Sl.mk hl ?_ hge
      rw [hzl, hl, ← Nat.add_mul]
      congr 1; omega
  · have hbk := hw.own.1
    by_cases hroom : k + l ≤ cap
    · have hsize : (vs ++ rest).toArray.size = cap * m := by simp [hcap]
      have hle : (k + l) * m ≤ cap * m := Nat.mul_le_mul_right _ hroom
      have hfit : k * i.size + news.length ≤ (vs ++ rest).toArray.size := by rw [hsize, hsz, hl, ← Nat.add_mul]; exact hle
      have hr := run_append_room (P := P) w t1 ty e i hu.h hi b k cap _ hbk ad l c news (by rw [hsz]; exact hl) hnews hone hroom hfit
      refine ⟨_, _, [(b, _)], hr, hw.row (i := 0) rfl, ?_⟩
      have e1 : ((vs ++ rest).toArray.toList.take (k * i.size) ++ news ++ (vs ++ rest).toArray.toList.drop (k * i.size + news.length)) = (vs ++ news) ++ rest.drop (l * m) := by
        rw [hsz, hl, ← hvs]
        simp only [List.take_left', List.drop_append, List.append_assoc]
        simp
      rw [e1]
      refine Sl.mk (by rw [List.length_append, hvs, hl, ← Nat.add_mul]) ?_ hroom
      rw [List.length_append, List.length_drop]
      rw [Nat.add_mul] at hle
      omega
    · have hg : cap < k + l := by omega
      have hold : ∀ j u, vs[j]? = some u → w.cell? ((⟨b, 0, none⟩ : Addr).add j) = some u := fun j u hu => by
        rw [add_mk]
        refine cell_of_blk hbk ?_
        have hj : j < vs.length := by
          rcases Nat.lt_or_ge j vs.length with h | h
          · exact h
          · simp [List.getElem?_eq_none h] at hu
        simp [List.getElem?_append_left hj, hu]
      have hr := run_append_grow (P := P) w t1 ty e i z hu.h hi hz ⟨b, 0, none⟩ k cap vs (by rw [hsz]; exact hvs) hold ad l c news (by rw [hsz]; exact hl) hnews hg (by omega) (by rw [hby]; exact nextcap_room hg hb)
      refine ⟨_, _, [(w.heap.size, _)], hr, ((hw.drawn (w.drawn + 1)).alloc _).dropAt1, ?_⟩
      have hge := cap_ge w (k + l) cap e
      have hzl : (Builtin.zeroCells z.cells (grownCap w (k + l) cap e - (k + l))).toList.length = (grownCap w (k + l) cap e - (k + l)) * m := by rw [Array.length_toList, size_zeroCells, hz0]
      have e1 : vs.toArray ++ news.toArray ++ Builtin.zeroCells z.cells (grownCap w (k + l) cap e - (k + l)) = ((vs ++ news) ++ (Builtin.zeroCells z.cells (grownCap w (k + l) cap e - (k + l))).toList).toArray := by apply Array.ext'; simp
      rw [e1]
      refine Sl.mk (by rw [List.length_append, hvs, hl, ← Nat.add_mul]) ?_ hge
      rw [hzl, List.length_append, hvs, hl, ← Nat.add_mul, ← Nat.add_mul]
      congr 1; omega
theorem Loud.appendOf {e : TypeId} {z : Value} {m by_ : Nat} {t1 : TypeId} (hn : Nat.blt d n = true) (hu : SliceT P t1 e) (he : Inf P e z m by_) (hz0 : z.cells.size = m)
    {v : Value} {k : Nat} {vs : List Value} {A R : List Blk} (hx : ev F x = some v) (hA : Sl v e m k vs A) {ad : Addr} {l c : Nat} {news : List Value} (hy : ev F y = some (.slice (some ad) l c)) (hl : news.length = l * m) (h1 : news.all Value.oneCell' = true) (hb : (k + l) * by_ ≤ 140737488355328) (h63 : k + l ≤ 9223372036854775807)
    (hnews : ∀ w, St w0 S w L → ∀ j u, news[j]? = some u → w.cell? (ad.add j) = some u) (hL : ∀ w, St w0 S w L → St w0 S w (A ++ R))
    (h : ∀ v' A', Sl v' e m (k + l) (vs ++ news) A' → Goal n w0 S ((d, v') :: F) (A' ++ R) C) :
    Goal n w0 S F L (OW P Q ⟨some d, .call { callee := .builtin .append, args := #[x, y], argTypes := #[t1, t1] }, ty, ps, af, g⟩ C) :=
  Loud.of hn fun ρ hρ w hw => by
    obtain ⟨v', w', A', hr, hw', hA'⟩ := run_appendSl (c := c) hu he hz0 hA hl h1 hb h63 (hL w hw) (hnews w hw) ty
    refine ⟨v', w', _, ?_, hw', h v' A' hA'⟩
    simp only [execOp, resolve, invoke, builtin, Sem.run_bind, Sem.run_pure, Result.andThen_ok, List.map_toArray, List.map_cons, List.map_nil, hρ _ _ hx, hρ _ _ hy, hr]
theorem St.swapR {w L R} (h : St w0 S w (L ++ R)) : St w0 S w (R ++ L) := h.perm List.perm_append_comm
/-- 'append(s, e1, ..)': the elements lie in a new block at the list's head, s at its end. -/
theorem Loud.appendT {e e1 : TypeId} {z : Value} {m by_ : Nat} {t1 : TypeId} (hn : Nat.blt d n = true) (hu : SliceT P t1 e) (he : Inf P e z m by_) (hz0 : z.cells.size = m)
    {v : Value} {k : Nat} {vs : List Value} (R : List Blk) {A : List Blk} (hx : ev F x = some v) (hA : Sl v e m k vs A) {bx l c : Nat} {cx : Array Value} {news : List Value} (hy : ev F y = some (.slice (some ⟨bx, 0, none⟩) l c)) (hcx : cx.toList = news) (hl : news.length = l * m) (h1 : news.all Value.oneCell' = true) (hb : (k + l) * by_ ≤ 140737488355328)
    (h63 : k + l ≤ 9223372036854775807) (h : ∀ v' A', Sl v' e m (k + l) (vs ++ news) A' → Goal n w0 S ((d, v') :: F) (R ++ A') C) :
    Goal n w0 S F ((bx, .cells cx e1) :: (R ++ A)) (OW P Q ⟨some d, .call { callee := .builtin .append, args := #[x, y], argTypes := #[t1, t1] }, ty, ps, af, g⟩ C) :=
  Loud.appendOf (R := R) hn hu he hz0 hx hA hy hl h1 hb h63 (fun w hw j u hj => by
    subst hcx
    rw [add_mk]
    exact cell_of_blk hw.own.1 (by simpa using hj)) (fun _ hw => (hw.sub (List.sublist_cons_self _ _)).swapR) fun v' A' hs => (h v' A' hs).subL fun _ hw => hw.swapR
end
end

/-! ### Calls -/
section
variable {P : Program} {n : Nat} {w0 : World} {S : List Nat} {F : Fr} {L : List Blk} {Q : Exit → Act → World → Prop} {C : Act → World → Prop}
def bodied (P : Program) (f : FuncId) : Bool := match P.funcs[f]? with
  | some fn => fn.body.isSome && fn.name != "runtime.NumGoroutine"
  | none => false
structure Bod (P : Program) (f : FuncId) : Prop where
  h : bodied P f = true
theorem run_callFunc {f : FuncId} (h : bodied P f = true) (args : Array Value) (w : World) : (callFunc f args).run P w = .ok (.enter f args) w := by
  unfold bodied at h
  split at h
  · rename_i fn hf
    simp only [Bool.and_eq_true, bne_iff_ne, ne_eq] at h
    have hb : fn.body.isNone = false := by
      cases hb : fn.body with
      | none => simp [hb] at h
      | some c => rfl
    simp only [callFunc, Sem.run_bind, run_program, Result.andThen_ok, hf]
    have hnm : (fn.name == "runtime.NumGoroutine") = false := by simpa using h.2
    simp [hnm, hb, go_sem]
  · cases h
section
variable {d : Tmp} {x : Operand} {ty : TypeId} {ps : String} {af : Array Edge} {g : Option (Nat × Bool)} {as : Array Operand} {ts : Array TypeId} {f : FuncId} {vs fst : List Value} {cap : Array Value}
theorem run_callOp {ρ : Operand → Value} {args : List Value} (hb : Bod P f) (hx : ρ x = .func (.func f) fst.toArray cap) (ha : as.toList.map ρ = vs) (hargs : fst ++ vs ++ cap.toList = args) (w : World) (dst : Option Tmp) :
    (execOp ρ ⟨dst, .call { callee := .value x, args := as, argTypes := ts }, ty, ps, af, g⟩).run P w = .ok (.enter f args.toArray) w := by
  have h1 : as.map ρ = vs.toArray := by apply Array.ext'; simpa using ha
  simp only [execOp, resolve, Sem.run_bind, hx, Deferred.ofValue, Sem.run_pure, Result.andThen_ok, invoke, h1, run_callFunc hb.h]
  congr 2
  apply Array.ext'
  simp [← hargs]
/-- A call, by the callee's contract: X are the ways in which it may return. -/
theorem Loud.call {X : Type} {p : X → Prop} {val : X → Value} {SS : List Nat} {A' : X → List Blk} {A R : List Blk} {args : List Value} (hn : Nat.blt d n = true) (hx : ev F x = some (.func (.func f) fst.toArray cap)) (ha : evs F as.toList = some vs) (hargs : fst ++ vs ++ cap.toList = args) (hb : Bod P f)
    (hL : ∀ w, St w0 S w L → St w0 S w (A ++ R)) (hSS : ∀ b ∈ SS, b ∈ keys A)
    (hc : ∀ w, St w0 S w (A ++ R) → Calls P f args.toArray w fun e w' => ∃ x, p x ∧ e = .returned (val x) ∧ St w SS w' (A' x))
    (h : ∀ x, p x → Goal n w0 S ((d, val x) :: F) (A' x ++ R) C) : Goal n w0 S F L (OW P Q ⟨some d, .call { callee := .value x, args := as, argTypes := ts }, ty, ps, af, g⟩ C) := .of fun w a hw hs => by
  have hev : as.toList.map a.eval = vs := hs.evals ha
  have hr := run_callOp (P := P) (ts := ts) (ty := ty) (ps := ps) (af := af) (g := g) hb (hs.eval hx) hev hargs w (some d)
  refine ⟨?_⟩
  simp only [Oper.wp, hr, Oper.upon_enter]
  refine (hc w (hL w hw)).mono ?_
  rintro e w' ⟨x, hp, rfl, hst⟩
  exact h x hp w' _ ((hL w hw).call (List.Perm.refl _) hSS hst) (hs.put (by simpa using hn) _)
/-- The callee makes memory at most, and nobody is told of it. -/
theorem Loud.call0 {v : Value} {args : List Value} (hn : Nat.blt d n = true) (hx : ev F x = some (.func (.func f) fst.toArray cap)) (ha : evs F as.toList = some vs) (hargs : fst ++ vs ++ cap.toList = args) (hb : Bod P f)
    (hc : ∀ w, St w0 S w L → Calls P f args.toArray w fun e w' => e = .returned v ∧ Mod [] w w')
    (h : Goal n w0 S ((d, v) :: F) L C) : Goal n w0 S F L (OW P Q ⟨some d, .call { callee := .value x, args := as, argTypes := ts }, ty, ps, af, g⟩ C) :=
  Loud.call (X := Unit) (p := fun _ => True) (val := fun _ => v) (SS := []) (A := []) (A' := fun _ => []) (R := L) hn hx ha hargs hb (fun _ hw => hw) (fun _ h => by cases h)
    (fun w hw => (hc w hw).mono fun e w' ⟨he, hm⟩ => ⟨(), trivial, he, ⟨hm, trivial, List.nodup_nil, fun _ h => by cases h⟩⟩) fun _ _ => h
/-- The callee makes new memory, and returns some of it. -/
theorem Loud.callN {X : Type} {p : X → Prop} {val : X → Value} {A' : X → List Blk} {args : List Value} (hn : Nat.blt d n = true) (hx : ev F x = some (.func (.func f) fst.toArray cap)) (ha : evs F as.toList = some vs) (hargs : fst ++ vs ++ cap.toList = args) (hb : Bod P f)
    (hc : ∀ w, St w0 S w L → Calls P f args.toArray w fun e w' => ∃ x, p x ∧ e = .returned (val x) ∧ St w [] w' (A' x))
    (h : ∀ x, p x → Goal n w0 S ((d, val x) :: F) (L ++ A' x) C) : Goal n w0 S F L (OW P Q ⟨some d, .call { callee := .value x, args := as, argTypes := ts }, ty, ps, af, g⟩ C) :=
  Loud.call (SS := []) (A := []) (R := L) hn hx ha hargs hb (fun _ hw => hw) (fun _ h => by cases h) hc fun x hx => (h x hx).subL fun _ hw => hw.swapR
end
/-! #### Results, and the way in -/
def RV (P : Program) (w0 : World) (S : List Nat) (F : Fr) (L : List Blk) (r : ResultVar) (v : Value) : Prop :=
  match r with
  | .tmp t => look F t = some v
  | .cell t T => ∃ p, look F t = some (.pointer (some p)) ∧ LoadOK P w0 S L T p v
def RVs (P : Program) (w0 : World) (S : List Nat) (F : Fr) (L : List Blk) : List ResultVar → List Value → Prop
  | [], [] => True
  | r :: rs, v :: vs => RV P w0 S F L r v ∧ RVs P w0 S F L rs vs
  | _, _ => False
def rvSem (a : Act) : ResultVar → Sem Value
  | .tmp t => pure (a.tmps.getD t undef)
  | .cell c t => do loadVar t (← asAddr (a.tmps.getD c undef))
theorem run_RVs {a : Act} {w : World} (hw : St w0 S w L) (hs : Sat n F a) : ∀ (rs : List ResultVar) (vs : List Value), RVs P w0 S F L rs vs → (rs.mapM (rvSem a)).run P w = .ok vs w
  | [], [], _ => by simp [go_sem]
  | [], _ :: _, h => h.elim
  | _ :: _, [], h => h.elim
  | r :: rs, v :: vs, h => by
    have ih := run_RVs hw hs rs vs h.2
    have hr : (rvSem a r).run P w = .ok v w := by
      have h1 := h.1
      cases r with
      | tmp t => have := hs.eval (x := .tmp t) h1; simp only [Act.eval] at this; simp only [rvSem, Sem.run_pure, this]
      | cell c t =>
        obtain ⟨p, hp, hl⟩ := h1
        have := hs.eval (x := .tmp c) hp
        simp only [Act.eval] at this
        simp only [rvSem, Sem.run_bind, this, asAddr, Sem.run_pure, Result.andThen_ok, hl w hw]
    simp only [List.mapM_cons, Sem.run_bind, hr, Result.andThen_ok, ih, Sem.run_pure]
theorem run_results {fn : Func} {rs : List ResultVar} {vs : List Value} (hf : fn.results = rs.toArray) {a : Act} {w : World} (hw : St w0 S w L) (hs : Sat n F a) (h : RVs P w0 S F L rs vs) :
    (results fn a.tmps).run P w = .ok (match vs with | [v] => v | _ => .tuple vs.toArray) w := by
  have h1 := run_RVs (P := P) hw hs rs vs h
  have he : results fn a.tmps = (do
    let vs ← fn.results.mapM (rvSem a)
    pure (if h : vs.size = 1 then vs[0] else .tuple vs)) := by
    unfold results
    congr 2
  rw [he, Array.mapM_eq_mapM_toList, hf, map_eq_pure_bind]
  simp only [Sem.run_bind, h1, Result.andThen_ok, Sem.run_pure]
  congr 1
  match vs with
  | [] => simp
  | [v] => simp
  | _ :: _ :: _ => simp
theorem Goal.done {fn : Func} {R : Ending → World → Prop} {rs : List ResultVar} {vs : List Value} {v : Value} {e : Exit} (he : e = .ret ∨ e = .normal) (hf : fn.results = rs.toArray) (h : RVs P w0 S F L rs vs) (hv : (match vs with | [v] => v | _ => .tuple vs.toArray) = v)
    (hR : ∀ w, St w0 S w L → R (.returned v) w) : Goal n w0 S F L (XW (bodyPost P fn R) e) := .of fun w a hw hs => by
  have hr := run_results (P := P) hf hw hs h
  rw [hv] at hr
  rcases he with rfl | rfl
  · exact ⟨⟨hs.defers, v, hr, hR w hw⟩⟩
  · exact ⟨⟨hs.defers, v, hr, hR w hw⟩⟩
def frOf : Nat → List Value → Fr
  | _, [] => []
  | i, v :: r => (i, v) :: frOf (i + 1) r
theorem look_frOf : ∀ {vs : List Value} {i t : Nat} {v : Value}, look (frOf i vs) t = some v → i ≤ t ∧ vs[t - i]? = some v
  | [], i, t, v, h => by simp [frOf, look] at h
  | u :: r, i, t, v, h => by
    simp only [frOf, look] at h
    cases hb : Nat.beq i t with
    | true =>
      have : i = t := Nat.eq_of_beq_eq_true hb
      subst this
      simp only [hb, cond_true, Option.some.injEq] at h
      simp [h]
    | false =>
      have hne : i ≠ t := Nat.ne_of_beq_eq_false hb
      simp only [hb, cond_false] at h
      obtain ⟨h1, h2⟩ := look_frOf h
      refine ⟨by omega, ?_⟩
      rw [show t - i = (t - (i + 1)) + 1 by omega, List.getElem?_cons_succ]; exact h2
/-- The way into a function. -/
theorem Goal.enter {f : FuncId} {fn : Func} {c : Code} {args : List Value} {R : Ending → World → Prop} (hf : P.funcs[f]? = some fn) (hb : fn.body = some c) (hn : fn.ntmps = n) (hargs : Nat.ble args.length n = true) (hw : St w0 S w0 L)
    (h : Goal n w0 S (frOf 0 args) L (CW P (bodyPost P fn R) c)) : Calls P f args.toArray w0 R := by
  have hle : args.length ≤ n := by simpa using hargs
  refine calls_of_wp hf hb (h w0 _ hw ⟨?_, rfl, fun t v ht => ?_⟩).out
  · simp [hn]; omega
  · obtain ⟨_, h2⟩ := look_frOf ht
    simp only [Nat.sub_zero] at h2
    have : t < args.length := by
      rcases Nat.lt_or_ge t args.length with h' | h'
      · exact h'
      · simp [List.getElem?_eq_none h'] at h2
    rw [Array.getElem?_append_left (by simpa using this)]
    simpa using h2
end

/-! ### Regions that draw their order -/
section
variable {P : Program} {ops : Array Oper} {Q : Exit → Act → World → Prop} {m : Nat} {T : World → Prop}
/-- Whatever order is picked from here on; behind each of the first m operations that is carried out T holds. -/
def AnyS (P : Program) (ops : Array Oper) (Q : Exit → Act → World → Prop) (m : Nat) (T : World → Prop) : Nat → Array Bool → Act → World → Prop
  | 0, listed, a, w => Region.ready .any ops listed = [] ∧ Q .normal a w
  | fuel + 1, listed, a, w =>
    (Region.ready .any ops listed = [] → Q .normal a w) ∧
    ∀ i ∈ Region.ready .any ops listed, wpOp P ops Q i (fun a' w' => (i < m → T w → T w') ∧ AnyS P ops Q m T fuel (listed.setIfInBounds i true) a' w') a w
theorem AnyS.any : ∀ (fuel : Nat) (listed : Array Bool) (a : Act) (w : World), AnyS P ops Q m T fuel listed a w → wpAny P .any ops Q fuel listed a w
  | 0, _, _, _, h => h
  | fuel + 1, _, _, _, h => ⟨h.1, fun i hi => wpOp_mono (fun a' w' h' => AnyS.any fuel _ a' w' h'.2) (h.2 i hi)⟩
/-- An operation that may come up now, and yields the same value in every world with T, may be taken first. -/
theorem AnyS.first {i : Nat} {oi : Oper} {v : Value} (hi : ops[i]? = some oi) (hsel : ∀ (j : Nat) (o : Oper) cs b, ops[j]? = some o → o.op ≠ .select cs b)
    (hQ : ∀ c a w, Q (.panic c) (a.put oi.dst v) w → Q (.panic c) a w) (htail : ∀ j oj, ops[j]? = some oj → m ≤ j → ∃ e ∈ oj.after, Region.binds .any e = true ∧ e.on = i) :
    ∀ (fuel : Nat) (listed : Array Bool) (a : Act) (w : World),
      (∀ j oj, ops[j]? = some oj → j ≠ i → listed.getD j true = false → (∀ e ∈ oj.after, Region.binds .any e = true → e.on ≠ i) → oi.apart ops oj = true) →
      i ∈ Region.ready .any ops listed → YieldsIf P ops T oi v a → T w →
      AnyS P ops Q m T fuel (listed.setIfInBounds i true) (a.put oi.dst v) w → AnyS P ops Q m T (fuel + 1) listed a w := by
  intro fuel
  induction fuel with
  | zero =>
    intro listed a w _ hr hy hT H
    refine ⟨fun h => (by rw [h] at hr; cases hr), fun j hj => ?_⟩
    by_cases hji : j = i
    · subst hji; exact hy.wpOp hi hT ⟨fun _ h => h, H⟩
    · have := ready_mono hj hji
      rw [H.1] at this
      cases this
  | succ fuel ih =>
    intro listed a w hfree hr hy hT H
    refine ⟨fun h => (by rw [h] at hr; cases hr), fun j hj => ?_⟩
    by_cases hji : j = i
    · subst hji; exact hy.wpOp hi hT ⟨fun _ h => h, H⟩
    · have h1 := H.2 j (ready_mono hj hji)
      obtain ⟨hjun, oj, hoj, hall⟩ := mem_ready.1 hj
      have hnot : ∀ e ∈ oj.after, Region.binds .any e = true → e.on ≠ i := fun e he hb heq => by
        have h1 := hall e he hb
        have h0 := (mem_ready.1 hr).1
        rw [heq] at h1
        rcases Nat.lt_or_ge i listed.size with h' | h'
        · simp [h'] at h0 h1; rw [h0] at h1; cases h1
        · simp [Array.getElem?_eq_none h'] at h1
      have hjm : j < m := by
        rcases Nat.lt_or_ge j m with h | h
        · exact h
        · obtain ⟨e, he, hb, heq⟩ := htail j oj hoj h
          exact absurd heq (hnot e he hb)
      have h2 := wpOp_putIf hoj (hfree j oj hoj hji hjun hnot) (fun cs b => hsel i oi cs b hi) (fun cs b => hsel j oj cs b hoj) hQ hy h1
      have hfree' : ∀ k ok, ops[k]? = some ok → k ≠ i → (listed.setIfInBounds j true).getD k true = false →
          (∀ e ∈ ok.after, Region.binds .any e = true → e.on ≠ i) → oi.apart ops ok = true := fun k ok hk hki hun hno => by
        refine hfree k ok hk hki ?_ hno
        by_cases hjk : j = k
        · subst hjk; exact hjun
        · rw [getD_set_ne true hjk] at hun; exact hun
      refine wpOp_mono (fun a' w' h3 => ⟨h3.2.1, ih (listed.setIfInBounds j true) a' w' hfree' (ready_mono hr (Ne.symm hji)) h3.1 (h3.2.1 hjm hT) ?_⟩) h2
      rw [Array.setIfInBounds_comm _ _ hji]
      exact h3.2.2
/-- An operation that may come up now, and yields the same value in every world, may be taken first, whoever waits for it. -/
theorem AnyS.firstP {i : Nat} {oi : Oper} {v : Value} (hi : ops[i]? = some oi) (hsel : ∀ (j : Nat) (o : Oper) cs b, ops[j]? = some o → o.op ≠ .select cs b)
    (hQ : ∀ c a w, Q (.panic c) (a.put oi.dst v) w → Q (.panic c) a w) :
    ∀ (fuel : Nat) (listed : Array Bool) (a : Act) (w : World),
      (∀ j oj, ops[j]? = some oj → j ≠ i → listed.getD j true = false → (∀ e ∈ oj.after, Region.binds .any e = true → e.on ≠ i) → oi.apart ops oj = true) →
      i ∈ Region.ready .any ops listed → YieldsIf P ops (fun _ => True) oi v a →
      AnyS P ops Q m T fuel (listed.setIfInBounds i true) (a.put oi.dst v) w → AnyS P ops Q m T (fuel + 1) listed a w := by
  intro fuel
  induction fuel with
  | zero =>
    intro listed a w _ hr hy H
    refine ⟨fun h => (by rw [h] at hr; cases hr), fun j hj => ?_⟩
    by_cases hji : j = i
    · subst hji; exact hy.wpOp hi trivial ⟨fun _ h => h, H⟩
    · have := ready_mono hj hji
      rw [H.1] at this
      cases this
  | succ fuel ih =>
    intro listed a w hfree hr hy H
    refine ⟨fun h => (by rw [h] at hr; cases hr), fun j hj => ?_⟩
    by_cases hji : j = i
    · subst hji; exact hy.wpOp hi trivial ⟨fun _ h => h, H⟩
    · have h1 := H.2 j (ready_mono hj hji)
      obtain ⟨hjun, oj, hoj, hall⟩ := mem_ready.1 hj
      have hnot : ∀ e ∈ oj.after, Region.binds .any e = true → e.on ≠ i := fun e he hb heq => by
        have h1 := hall e he hb
        have h0 := (mem_ready.1 hr).1
        rw [heq] at h1
        rcases Nat.lt_or_ge i listed.size with h' | h'
        · simp [h'] at h0 h1; rw [h0] at h1; cases h1
        · simp [Array.getElem?_eq_none h'] at h1
      have h2 := wpOp_putIf hoj (hfree j oj hoj hji hjun hnot) (fun cs b => hsel i oi cs b hi) (fun cs b => hsel j oj cs b hoj) hQ hy h1
      have hfree' : ∀ k ok, ops[k]? = some ok → k ≠ i → (listed.setIfInBounds j true).getD k true = false →
          (∀ e ∈ ok.after, Region.binds .any e = true → e.on ≠ i) → oi.apart ops ok = true := fun k ok hk hki hun hno => by
        refine hfree k ok hk hki ?_ hno
        by_cases hjk : j = k
        · subst hjk; exact hjun
        · rw [getD_set_ne true hjk] at hun; exact hun
      refine wpOp_mono (fun a' w' h3 => ⟨h3.2.1, ih (listed.setIfInBounds j true) a' w' hfree' (ready_mono hr (Ne.symm hji)) h3.1 ?_⟩) h2
      rw [Array.setIfInBounds_comm _ _ hji]
      exact h3.2.2
def tailB (ops : Array Oper) (m i : Nat) : Bool := (List.range ops.size).all fun j => Nat.blt j m || match ops[j]? with
  | some o => o.after.any fun e => Region.binds .any e && e.on == i
  | none => true
theorem tailB_spec {i : Nat} (h : tailB ops m i = true) : ∀ j oj, ops[j]? = some oj → m ≤ j → ∃ e ∈ oj.after, Region.binds .any e = true ∧ e.on = i := fun j oj hj hm => by
  have hlt : j < ops.size := (Array.getElem?_eq_some_iff.1 hj).1
  simp only [tailB, List.all_eq_true, List.mem_range] at h
  have h1 := h j hlt
  have hb : Nat.blt j m = false := by
    cases hb : Nat.blt j m with
    | false => rfl
    | true => have : j < m := by simpa using hb
              omega
  simp only [hb, Bool.false_or, hj] at h1
  obtain ⟨e, he, h2⟩ := Array.any_eq_true'.1 h1
  simp only [Bool.and_eq_true, beq_iff_eq] at h2
  exact ⟨e, he, h2.1, h2.2⟩
end
structure AW (P : Program) (ops : Array Oper) (Q : Exit → Act → World → Prop) (m : Nat) (w0 : World) (S : List Nat) (Lk : List Blk) (fuel : Nat) (listed : Array Bool) (a : Act) (w : World) : Prop where
  out : AnyS P ops Q m (fun w => St w0 S w Lk) fuel listed a w
/-- Number i comes up now. -/
structure UW (P : Program) (ops : Array Oper) (Q : Exit → Act → World → Prop) (m : Nat) (w0 : World) (S : List Nat) (Lk : List Blk) (fuel : Nat) (listed : Array Bool) (i : Nat) (a : Act) (w : World) : Prop where
  out : wpOp P ops Q i (fun a' w' => (i < m → St w0 S w Lk → St w0 S w' Lk) ∧ AnyS P ops Q m (fun w => St w0 S w Lk) fuel (listed.setIfInBounds i true) a' w') a w
/-- Behind number i. -/
structure BW (P : Program) (ops : Array Oper) (Q : Exit → Act → World → Prop) (m : Nat) (w0 : World) (S : List Nat) (Lk : List Blk) (fuel : Nat) (listed : Array Bool) (i : Nat) (a : Act) (w : World) : Prop where
  out : (i < m → St w0 S w Lk) ∧ AnyS P ops Q m (fun w => St w0 S w Lk) fuel listed a w
section
variable {P : Program} {n : Nat} {w0 : World} {S : List Nat} {F : Fr} {L Lk : List Blk} {Q : Exit → Act → World → Prop} {ops : Array Oper} {m fuel : Nat} {listed : Array Bool}
/-- A region that draws its order: m operations come ahead of the last ones, which wait for all of those; Lk is what nobody of those m writes. -/
theorem Goal.draw {id : Nat} (m : Nat) (Lk : List Blk) (hm : P.follows .mixedOrders = true) (h : Goal n w0 S F L (AW P ops Q m w0 S Lk ops.size (Array.replicate ops.size false))) : Goal n w0 S F L (CW P Q (Code.region id ops true)) := .of fun w a hw hs =>
  ⟨wp_region_any hm (AnyS.any _ _ _ _ (h { w with drawn := w.drawn + 1 } a (hw.drawn _) hs).out)⟩
theorem Goal.drawAll {id : Nat} (m : Nat) (hm : P.follows .mixedOrders = true) (h : Goal n w0 S F L (AW P ops Q m w0 S L ops.size (Array.replicate ops.size false))) : Goal n w0 S F L (CW P Q (Code.region id ops true)) := Goal.draw m L hm h
/-- The checks of one step, by the kernel: number i may come up and nobody who may come up before it touches what it touches. -/
structure TakeB (ops : Array Oper) (m : Nat) (listed : Array Bool) (i : Nat) (o : Oper) (listed' : Array Bool) : Prop where
  ho : ops[i]? = some o
  hsel : Region.noSelect ops = true
  hfr : Region.free .any ops listed i = true
  hrd : (Region.ready .any ops listed).contains i = true
  htl : tailB ops m i = true
  hl : listed.setIfInBounds i true = listed'
theorem Goal.take {listed' : Array Bool} {d : Tmp} {op : Op} {ty : TypeId} {ps : String} {af : Array Edge} {v : Value} (i : Nat) (hc : TakeB ops m listed i ⟨some d, op, ty, ps, af, none⟩ listed') (hn : Nat.blt d n = true)
    (hL : ∀ w, St w0 S w L → St w0 S w Lk) (hQ : ∀ c a w u, Q (.panic c) (a.put (some d) u) w → Q (.panic c) a w) (hr : Run P n w0 S F Lk ⟨some d, op, ty, ps, af, none⟩ v)
    (h : Goal n w0 S ((d, v) :: F) L (AW P ops Q m w0 S Lk fuel listed')) : Goal n w0 S F L (AW P ops Q m w0 S Lk (fuel + 1) listed) := .of fun w a hw hs => by
  obtain ⟨hi, hsel, hfr, hrd, htl, rfl⟩ := hc
  refine ⟨AnyS.first hi (Region.noSelect_spec hsel) (fun c a w h => hQ c a w v h) (tailB_spec htl) fuel listed a w (Region.free_spec hi hfr) (by simpa using hrd) (.inl ⟨by simp [Region.wanted], fun w' hw' => hr w' a hw' hs⟩) (hL w hw) ?_⟩
  exact (h w _ hw (hs.put (by simpa using hn) v)).out
theorem Goal.takeT {listed' : Array Bool} {d : Tmp} {op : Op} {ty : TypeId} {ps : String} {af : Array Edge} {j : Nat} {want : Bool} {t : Tmp} {v : Value} (i : Nat) (hc : TakeB ops m listed i ⟨some d, op, ty, ps, af, some (j, want)⟩ listed') (hn : Nat.blt d n = true)
    (ht : (ops[j]?).bind (·.dst) = some t) (hv : look F t = some (.bool want))
    (hL : ∀ w, St w0 S w L → St w0 S w Lk) (hQ : ∀ c a w u, Q (.panic c) (a.put (some d) u) w → Q (.panic c) a w) (hr : Run P n w0 S F Lk ⟨some d, op, ty, ps, af, none⟩ v)
    (h : Goal n w0 S ((d, v) :: F) L (AW P ops Q m w0 S Lk fuel listed')) : Goal n w0 S F L (AW P ops Q m w0 S Lk (fuel + 1) listed) := .of fun w a hw hs => by
  obtain ⟨hi, hsel, hfr, hrd, htl, rfl⟩ := hc
  refine ⟨AnyS.first hi (Region.noSelect_spec hsel) (fun c a w h => hQ c a w v h) (tailB_spec htl) fuel listed a w (Region.free_spec hi hfr) (by simpa using hrd)
    (.inl ⟨by rw [wanted_of (o := ⟨some d, op, ty, ps, af, some (j, want)⟩) rfl ht (hs.slot _ _ hv)]; simp, fun w' hw' => hr w' a hw' hs⟩) (hL w hw) ?_⟩
  exact (h w _ hw (hs.put (by simpa using hn) v)).out
theorem Goal.takeF {listed' : Array Bool} {d : Tmp} {op : Op} {ty : TypeId} {ps : String} {af : Array Edge} {j : Nat} {want b : Bool} {t : Tmp} (i : Nat) (hc : TakeB ops m listed i ⟨some d, op, ty, ps, af, some (j, want)⟩ listed') (hn : Nat.blt d n = true)
    (ht : (ops[j]?).bind (·.dst) = some t) (hv : look F t = some (.bool b)) (hb : (b == want) = false)
    (hL : ∀ w, St w0 S w L → St w0 S w Lk) (hQ : ∀ c a w u, Q (.panic c) (a.put (some d) u) w → Q (.panic c) a w)
    (h : Goal n w0 S ((d, undef) :: F) L (AW P ops Q m w0 S Lk fuel listed')) : Goal n w0 S F L (AW P ops Q m w0 S Lk (fuel + 1) listed) := .of fun w a hw hs => by
  obtain ⟨hi, hsel, hfr, hrd, htl, rfl⟩ := hc
  refine ⟨AnyS.first hi (Region.noSelect_spec hsel) (fun c a w h => hQ c a w undef h) (tailB_spec htl) fuel listed a w (Region.free_spec hi hfr) (by simpa using hrd)
    (.inr ⟨by rw [wanted_of (o := ⟨some d, op, ty, ps, af, some (j, want)⟩) rfl ht (hs.slot _ _ hv)]; exact hb, rfl⟩) (hL w hw) ?_⟩
  exact (h w _ hw (hs.put (by simpa using hn) undef)).out
/-- The checks of one step of an operation that reads no memory. -/
structure TakeP (ops : Array Oper) (listed : Array Bool) (i : Nat) (o : Oper) (listed' : Array Bool) : Prop where
  ho : ops[i]? = some o
  hsel : Region.noSelect ops = true
  hfr : Region.free .any ops listed i = true
  hrd : (Region.ready .any ops listed).contains i = true
  hl : listed.setIfInBounds i true = listed'
theorem Goal.takeP {listed' : Array Bool} {d : Tmp} {op : Op} {ty : TypeId} {ps : String} {af : Array Edge} {v : Value} (i : Nat) (hc : TakeP ops listed i ⟨some d, op, ty, ps, af, none⟩ listed') (hn : Nat.blt d n = true)
    (hQ : ∀ c a w u, Q (.panic c) (a.put (some d) u) w → Q (.panic c) a w) (hr : ∀ w, Run P n w [] F [] ⟨some d, op, ty, ps, af, none⟩ v)
    (h : Goal n w0 S ((d, v) :: F) L (AW P ops Q m w0 S Lk fuel listed')) : Goal n w0 S F L (AW P ops Q m w0 S Lk (fuel + 1) listed) := .of fun w a hw hs => by
  obtain ⟨hi, hsel, hfr, hrd, rfl⟩ := hc
  refine ⟨AnyS.firstP hi (Region.noSelect_spec hsel) (fun c a w h => hQ c a w v h) fuel listed a w (Region.free_spec hi hfr) (by simpa using hrd) (.inl ⟨by simp [Region.wanted], fun w' _ => hr w' w' a (St.nil w') hs⟩) ?_⟩
  exact (h w _ hw (hs.put (by simpa using hn) v)).out
theorem Goal.takePT {listed' : Array Bool} {d : Tmp} {op : Op} {ty : TypeId} {ps : String} {af : Array Edge} {j : Nat} {want : Bool} {t : Tmp} {v : Value} (i : Nat) (hc : TakeP ops listed i ⟨some d, op, ty, ps, af, some (j, want)⟩ listed') (hn : Nat.blt d n = true)
    (ht : (ops[j]?).bind (·.dst) = some t) (hv : look F t = some (.bool want))
    (hQ : ∀ c a w u, Q (.panic c) (a.put (some d) u) w → Q (.panic c) a w) (hr : ∀ w, Run P n w [] F [] ⟨some d, op, ty, ps, af, none⟩ v)
    (h : Goal n w0 S ((d, v) :: F) L (AW P ops Q m w0 S Lk fuel listed')) : Goal n w0 S F L (AW P ops Q m w0 S Lk (fuel + 1) listed) := .of fun w a hw hs => by
  obtain ⟨hi, hsel, hfr, hrd, rfl⟩ := hc
  refine ⟨AnyS.firstP hi (Region.noSelect_spec hsel) (fun c a w h => hQ c a w v h) fuel listed a w (Region.free_spec hi hfr) (by simpa using hrd)
    (.inl ⟨by rw [wanted_of (o := ⟨some d, op, ty, ps, af, some (j, want)⟩) rfl ht (hs.slot _ _ hv)]; simp, fun w' _ => hr w' w' a (St.nil w') hs⟩) ?_⟩
  exact (h w _ hw (hs.put (by simpa using hn) v)).out
theorem Goal.takePF {listed' : Array Bool} {d : Tmp} {op : Op} {ty : TypeId} {ps : String} {af : Array Edge} {j : Nat} {want b : Bool} {t : Tmp} (i : Nat) (hc : TakeP ops listed i ⟨some d, op, ty, ps, af, some (j, want)⟩ listed') (hn : Nat.blt d n = true)
    (ht : (ops[j]?).bind (·.dst) = some t) (hv : look F t = some (.bool b)) (hb : (b == want) = false)
    (hQ : ∀ c a w u, Q (.panic c) (a.put (some d) u) w → Q (.panic c) a w)
    (h : Goal n w0 S ((d, undef) :: F) L (AW P ops Q m w0 S Lk fuel listed')) : Goal n w0 S F L (AW P ops Q m w0 S Lk (fuel + 1) listed) := .of fun w a hw hs => by
  obtain ⟨hi, hsel, hfr, hrd, rfl⟩ := hc
  refine ⟨AnyS.firstP hi (Region.noSelect_spec hsel) (fun c a w h => hQ c a w undef h) fuel listed a w (Region.free_spec hi hfr) (by simpa using hrd)
    (.inr ⟨by rw [wanted_of (o := ⟨some d, op, ty, ps, af, some (j, want)⟩) rfl ht (hs.slot _ _ hv)]; exact hb, rfl⟩) ?_⟩
  exact (h w _ hw (hs.put (by simpa using hn) undef)).out
theorem Goal.allUp (hr : Region.ready .any ops listed = []) (h : Goal n w0 S F L (XW Q .normal)) : Goal n w0 S F L (AW P ops Q m w0 S Lk fuel listed) := .of fun w a hw hs => by
  cases fuel with
  | zero => exact ⟨⟨hr, (h w a hw hs).out⟩⟩
  | succ k => exact ⟨⟨fun _ => (h w a hw hs).out, by rw [hr]; simp⟩⟩
/-- Those that may come up now. -/
theorem Goal.ready {rs : List Nat} (hr : Region.ready .any ops listed = rs) (hne : rs.isEmpty = false)
    (h : ∀ i ∈ rs, Goal n w0 S F L (UW P ops Q m w0 S Lk fuel listed i)) :
    Goal n w0 S F L (AW P ops Q m w0 S Lk (fuel + 1) listed) := .of fun w a hw hs => by
  refine ⟨?_⟩
  refine ⟨fun h0 => ?_, fun i hi => (h i (hr ▸ hi) w a hw hs).out⟩
  rw [h0] at hr; subst hr; simp at hne
theorem Goal.ready1 {i : Nat} (hr : Region.ready .any ops listed = [i])
    (h : Goal n w0 S F L (UW P ops Q m w0 S Lk fuel listed i)) :
    Goal n w0 S F L (AW P ops Q m w0 S Lk (fuel + 1) listed) := Goal.ready hr rfl fun j hj => by
  have : j = i := by simpa using hj
  subst this; exact h
theorem Goal.ready2 {i j : Nat} (hr : Region.ready .any ops listed = [i, j])
    (hi : Goal n w0 S F L (UW P ops Q m w0 S Lk fuel listed i))
    (hj : Goal n w0 S F L (UW P ops Q m w0 S Lk fuel listed j)) :
    Goal n w0 S F L (AW P ops Q m w0 S Lk (fuel + 1) listed) := Goal.ready hr rfl fun k hk => by
  have : k = i ∨ k = j := by simpa using hk
  rcases this with rfl | rfl
  · exact hi
  · exact hj
theorem Goal.ready3 {i j k : Nat} (hr : Region.ready .any ops listed = [i, j, k]) (hi : Goal n w0 S F L (UW P ops Q m w0 S Lk fuel listed i)) (hj : Goal n w0 S F L (UW P ops Q m w0 S Lk fuel listed j)) (hk : Goal n w0 S F L (UW P ops Q m w0 S Lk fuel listed k)) :
    Goal n w0 S F L (AW P ops Q m w0 S Lk (fuel + 1) listed) := Goal.ready hr rfl fun l hl => by
  have : l = i ∨ l = j ∨ l = k := by simpa using hl
  rcases this with rfl | rfl | rfl
  · exact hi
  · exact hj
  · exact hk
theorem Goal.up {i : Nat} {listed' : Array Bool} {d : Option Tmp} {op : Op} {ty : TypeId} {ps : String} {af : Array Edge} (ho : ops[i]? = some ⟨d, op, ty, ps, af, none⟩) (hl : listed.setIfInBounds i true = listed')
    (h : Goal n w0 S F L (OW P Q ⟨d, op, ty, ps, af, none⟩ (BW P ops Q m w0 S Lk fuel listed' i))) :
    Goal n w0 S F L (UW P ops Q m w0 S Lk fuel listed i) := .of fun w a hw hs => by
  subst hl
  refine ⟨?_⟩
  unfold wpOp
  rw [ho]
  simp only [Region.wanted, if_true]
  exact .inl (Oper.wp_mono (fun _ _ h => ⟨fun hm _ => h.out.1 hm, h.out.2⟩) (h w a hw hs).out)
theorem Goal.upT {i : Nat} {listed' : Array Bool} {d : Option Tmp} {op : Op} {ty : TypeId} {ps : String} {af : Array Edge} {j : Nat} {want : Bool} {t : Tmp} (ho : ops[i]? = some ⟨d, op, ty, ps, af, some (j, want)⟩) (hl : listed.setIfInBounds i true = listed')
    (ht : (ops[j]?).bind (·.dst) = some t) (hv : look F t = some (.bool want))
    (h : Goal n w0 S F L (OW P Q ⟨d, op, ty, ps, af, none⟩ (BW P ops Q m w0 S Lk fuel listed' i))) :
    Goal n w0 S F L (UW P ops Q m w0 S Lk fuel listed i) := .of fun w a hw hs => by
  subst hl
  refine ⟨?_⟩
  unfold wpOp
  rw [ho]
  simp only []
  rw [wanted_of (o := ⟨d, op, ty, ps, af, some (j, want)⟩) rfl ht (hs.slot _ _ hv)]
  simp only [beq_self_eq_true, if_true]
  exact .inl (Oper.wp_mono (fun _ _ h => ⟨fun hm _ => h.out.1 hm, h.out.2⟩) (h w a hw hs).out)
theorem Goal.upF {i : Nat} {listed' : Array Bool} {d : Tmp} {op : Op} {ty : TypeId} {ps : String} {af : Array Edge} {j : Nat} {want b : Bool} {t : Tmp} (ho : ops[i]? = some ⟨some d, op, ty, ps, af, some (j, want)⟩) (hl : listed.setIfInBounds i true = listed')
    (ht : (ops[j]?).bind (·.dst) = some t) (hv : look F t = some (.bool b)) (hb : (b == want) = false) (hn : Nat.blt d n = true)
    (h : Goal n w0 S ((d, undef) :: F) L (BW P ops Q m w0 S Lk fuel listed' i)) : Goal n w0 S F L (UW P ops Q m w0 S Lk fuel listed i) := .of fun w a hw hs => by
  subst hl
  refine ⟨?_⟩
  unfold wpOp
  rw [ho]
  simp only []
  rw [wanted_of (o := ⟨some d, op, ty, ps, af, some (j, want)⟩) rfl ht (hs.slot _ _ hv), hb]
  simp only [Bool.false_eq_true, if_false]
  have h1 := (h w _ hw (hs.put (by simpa using hn) undef)).out
  exact ⟨fun hm _ => h1.1 hm, h1.2⟩
theorem Loud.quiet {C : Act → World → Prop} {d : Tmp} {op : Op} {ty : TypeId} {ps : String} {af : Array Edge} {v : Value} (hn : Nat.blt d n = true) (hr : Run P n w0 S F L ⟨some d, op, ty, ps, af, none⟩ v)
    (h : Goal n w0 S ((d, v) :: F) L C) : Goal n w0 S F L (OW P Q ⟨some d, op, ty, ps, af, none⟩ C) := .of fun w a hw hs => ⟨by
  simp only [Oper.wp, hr w a hw hs, Oper.upon_value]
  exact h w _ hw (hs.put (by simpa using hn) v)⟩
/-- Behind one of the first m: what nobody writes is as it was. -/
theorem Goal.kept {i : Nat} (hL : ∀ w, St w0 S w L → St w0 S w Lk) (h : Goal n w0 S F L (AW P ops Q m w0 S Lk fuel listed)) : Goal n w0 S F L (BW P ops Q m w0 S Lk fuel listed i) := .of fun w a hw hs => ⟨fun _ => hL w hw, (h w a hw hs).out⟩
/-- Behind one of the last ones. -/
theorem Goal.tail {i : Nat} (hi : Nat.ble m i = true) (h : Goal n w0 S F L (AW P ops Q m w0 S Lk fuel listed)) : Goal n w0 S F L (BW P ops Q m w0 S Lk fuel listed i) := .of fun w a hw hs => ⟨fun h => by
  have : m ≤ i := by simpa using hi
  omega, (h w a hw hs).out⟩
end

/-! ### A slice that is only read -/
def RdV (w : World) (v : Value) (vs : List Value) : Prop := ∃ ad cap, v = .slice ad vs.length cap ∧ ∀ i u, vs[i]? = some u → ∃ b o, ad = some ⟨b, o, none⟩ ∧ w.cell? ⟨b, o + i, none⟩ = some u
theorem RdV.nil (w : World) : RdV w (.slice none 0 0) [] := ⟨none, 0, rfl, fun i u h => by simp at h⟩
theorem RdV.of_sl {w : World} {v : Value} {E n : Nat} {vs : List Value} {A : List Blk} (h : Sl v E 1 n vs A) (ho : Own w A) : RdV w v vs := by
  rcases h with ⟨rfl, rfl, rfl, rfl⟩ | ⟨b, rest, cap, rfl, rfl, hvs, hcap, hn⟩
  · exact RdV.nil w
  · have hvs' : vs.length = n := by omega
    subst hvs'
    refine ⟨some ⟨b, 0, none⟩, cap, rfl, fun i u hi => ⟨b, 0, rfl, cell_of_blk ho.1 ?_⟩⟩
    have hlt : i < vs.length := by
      rcases Nat.lt_or_ge i vs.length with h | h
      · exact h
      · simp [List.getElem?_eq_none h] at hi
    simp [List.getElem?_append_left hlt, hi]
theorem RdV.of_lit {w : World} {b E : Nat} {vs : List Value} (ho : w.heap[b]? = some (.cells vs.toArray E)) : RdV w (.slice (some ⟨b, 0, none⟩) vs.length vs.length) vs :=
  ⟨some ⟨b, 0, none⟩, vs.length, rfl, fun i u hi => ⟨b, 0, rfl, cell_of_blk ho (by simpa using hi)⟩⟩
theorem RdV.keep {w w' : World} {v : Value} {vs : List Value} (h : RdV w v vs) (hm : Mod [] w w') : RdV w' v vs := by
  obtain ⟨ad, cap, rfl, h⟩ := h
  exact ⟨ad, cap, rfl, fun i u hi => let ⟨b, o, h1, h2⟩ := h i u hi; ⟨b, o, h1, hm.cell h2 (by simp)⟩⟩
theorem Own.of_mem {w : World} {L A : List Blk} (h : Own w L) (hs : ∀ p ∈ A, p ∈ L) : Own w A := Own.mk fun p hp => h.get (hs p hp)
def ints (l : List Int) : List Value := l.map (.int .i64)
theorem ints_len (l : List Int) : (ints l).length = l.length := by simp [ints]
theorem ints_get {l : List Int} {i : Nat} (h : i < l.length) : (ints l)[i]? = some (.int .i64 l[i]) := by simp [ints, h]
theorem ret_bool {b c : Bool} (h : b = c) : Ending.returned (.bool b) = .returned (.bool c) := by rw [h]
theorem ret_int {k : IntKind} {b c : Int} (h : b = c) : Ending.returned (.int k b) = .returned (.int k c) := by rw [h]

/-! ### Structs of two ints, compared -/
def i2B (P : Program) (T : TypeId) : Bool := (match P.underlying T with
  | some (.struct fs) => fs.size == 2 && (match fs[0]?, fs[1]? with
    | some f, some g => f.offset == 0 && g.offset == 1 && f.name != "_" && g.name != "_" && (match P.underlying f.type, P.underlying g.type with
      | some (.int _), some (.int _) => true
      | _, _ => false)
    | _, _ => false)
  | _ => false) && !P.stoodInHeld T && !P.eqGuardType P.depth T
structure I2 (P : Program) (T : TypeId) : Prop where
  h : i2B P T = true
section
variable {P : Program}
theorem run_part_int {t : TypeId} {k : IntKind} (h : P.underlying t = some (.int k)) (cs : Array Value) (off : Nat) {v : Value} (hv : cs[off]? = some v) (w : World) : (part t cs off).run P w = .ok v w := by
  simp [part, isAgg, run_underlying h, hv, go_sem]
theorem run_eqI2 {T : TypeId} (hT : I2 P T) (a b c e : Int) (w : World) : (Op.equalIn 10000 T (.agg #[.int .i64 a, .int .i64 b]) (.agg #[.int .i64 c, .int .i64 e])).run P w = .ok (decide (a = c ∧ b = e)) w := by
  replace hT := hT.h
  simp only [i2B, Bool.and_eq_true, Bool.not_eq_true'] at hT
  obtain ⟨⟨h1, h2⟩, _⟩ := hT
  split at h1
  · rename_i fs hu
    simp only [Bool.and_eq_true, beq_iff_eq] at h1
    obtain ⟨hsz, h1⟩ := h1
    split at h1
    · rename_i f g hf hg
      simp only [Bool.and_eq_true, beq_iff_eq, bne_iff_ne, ne_eq] at h1
      obtain ⟨⟨⟨⟨hf0, hg1⟩, hfn⟩, hgn⟩, h1⟩ := h1
      split at h1
      · rename_i k1 k2 hk1 hk2
        have hfs : P.fieldsOf T = fs := by simp [Program.fieldsOf, hu]
        have hl : fs.toList = [f, g] := by
          apply List.ext_getElem?
          intro i
          match i with
          | 0 => simpa using hf
          | 1 => simpa using hg
          | i + 2 => simp [hsz]
        rw [run_equalIn_struct w 9999 T _ _ (by rw [hfs]; exact hu) h2, hfs, hl]
        have p1 := run_part_int (P := P) hk1 #[.int .i64 a, .int .i64 b] f.offset (v := .int .i64 a) (by rw [hf0]; rfl)
        have p2 := run_part_int (P := P) hk1 #[.int .i64 c, .int .i64 e] f.offset (v := .int .i64 c) (by rw [hf0]; rfl)
        have p3 := run_part_int (P := P) hk2 #[.int .i64 a, .int .i64 b] g.offset (v := .int .i64 b) (by rw [hg1]; rfl)
        have p4 := run_part_int (P := P) hk2 #[.int .i64 c, .int .i64 e] g.offset (v := .int .i64 e) (by rw [hg1]; rfl)
        have q1 := run_equalIn_int (P := P) w 9998 f.type .i64 k1 a c hk1
        have q2 := run_equalIn_int (P := P) w 9998 g.type .i64 k2 b e hk2
        simp only [Op.eqFields, hfn, hgn, ne_eq, not_false_eq_true, if_true, Sem.run_bind, p1, p2, p3, p4, q1, q2, Result.andThen_ok, Sem.run_ite, Sem.run_pure]
        by_cases h : a = c
        · by_cases h' : b = e
          · simp [h, h']
          · have : (b == e) = false := by simpa using h'
            simp [h, this, h']
        · have : (a == c) = false := by simpa using h
          simp [this, h]
      · cases h1
    · cases h1
  · cases h1
variable {n : Nat} {w0 : World} {S : List Nat} {F : Fr} {L : List Blk} {d : Option Tmp} {x y : Operand} {T T' ty : TypeId} {ps : String} {af : Array Edge} {g : Option (Nat × Bool)} {a b c e : Int}
theorem I2.guard (hT : I2 P T) : P.eqGuardType P.depth T = false := by
  have := hT.h
  simp only [i2B, Bool.and_eq_true, Bool.not_eq_true'] at this
  exact this.2
theorem Run.eqlI2 (hT : I2 P T) (hx : ev F x = some (.agg #[.int .i64 a, .int .i64 b])) (hy : ev F y = some (.agg #[.int .i64 c, .int .i64 e])) : Run P n w0 S F L ⟨d, .binOp .eql T x y T', ty, ps, af, g⟩ (.bool (decide (a = c ∧ b = e))) := Run.of fun ρ hρ w _ => by
  simp only [execOp, hρ _ _ hx, hρ _ _ hy, Sem.run_bind, run_eqGuard_agg w .eql T x y _ _ hT.guard, Result.andThen_ok, run_eql_struct, run_eqI2 hT, Sem.run_pure]
theorem Run.neqI2 (hT : I2 P T) (hx : ev F x = some (.agg #[.int .i64 a, .int .i64 b])) (hy : ev F y = some (.agg #[.int .i64 c, .int .i64 e])) : Run P n w0 S F L ⟨d, .binOp .neq T x y T', ty, ps, af, g⟩ (.bool (decide (¬ (a = c ∧ b = e)))) := Run.of fun ρ hρ w _ => by
  simp only [execOp, hρ _ _ hx, hρ _ _ hy, Sem.run_bind, run_eqGuard_agg w .neq T x y _ _ hT.guard, Result.andThen_ok, run_neq_struct, run_eqI2 hT, Sem.run_pure]
  simp
theorem run_equalIn_b {t : TypeId} (h : P.underlying t = some .bool) (a b : Bool) (w : World) : (Op.equal t (.bool a) (.bool b)).run P w = .ok (a == b) w := by
  simp only [Op.equal, Op.maxDepth]
  exact run_equalIn_bool' w 9999 t a b h
structure BoolT (P : Program) (T : TypeId) : Prop where
  h : P.underlying T = some .bool
theorem Run.eqlB {a b : Bool} (hT : BoolT P T) (hx : ev F x = some (.bool a)) (hy : ev F y = some (.bool b)) : Run P n w0 S F L ⟨d, .binOp .eql T x y T', ty, ps, af, g⟩ (.bool (decide (a = b))) := Run.of fun ρ hρ w _ => by
  have hg : (eqGuard .eql T x y (.bool a) (.bool b)).run P w = .ok () w := by simp [eqGuard, go_sem]
  simp only [execOp, hρ _ _ hx, hρ _ _ hy, Sem.run_bind, hg, Result.andThen_ok, binOp, run_equalIn_b hT.h, Sem.run_pure]
  rfl
theorem Run.neqB {a b : Bool} (hT : BoolT P T) (hx : ev F x = some (.bool a)) (hy : ev F y = some (.bool b)) : Run P n w0 S F L ⟨d, .binOp .neq T x y T', ty, ps, af, g⟩ (.bool (decide (a ≠ b))) := Run.of fun ρ hρ w _ => by
  have hg : (eqGuard .neq T x y (.bool a) (.bool b)).run P w = .ok () w := by simp [eqGuard, go_sem]
  simp only [execOp, hρ _ _ hx, hρ _ _ hy, Sem.run_bind, hg, Result.andThen_ok, binOp, run_equalIn_b hT.h, Sem.run_pure]
  cases a <;> cases b <;> rfl
end

/-! ### One step, by the operation's kind -/
section
variable {P : Program} {n : Nat} {w0 : World} {S : List Nat} {F : Fr} {L : List Blk} {Q : Exit → Act → World → Prop} {ops : Array Oper} {rest : List Oper}
variable {d : Tmp} {x y z : Operand} {T T' ty : TypeId} {ps : String} {af : Array Edge}
theorem G.move {v : Value} (hn : Nat.blt d n = true) (hx : ev F x = some v) (h : Goal n w0 S ((d, v) :: F) L (LW P ops Q rest)) : Goal n w0 S F L (LW P ops Q (⟨some d, .move x, ty, ps, af, none⟩ :: rest)) := Goal.quiet hn (Run.move hx) h
theorem G.assign {v : Value} (hn : Nat.blt d n = true) (hx : ev F x = some v) (h : Goal n w0 S ((d, v) :: F) L (LW P ops Q rest)) : Goal n w0 S F L (LW P ops Q (⟨some d, .assign x, ty, ps, af, none⟩ :: rest)) := Goal.quiet hn (Run.assign hx) h
theorem G.pickT {v : Value} (hn : Nat.blt d n = true) (hc : ev F x = some (.bool true)) (hx : ev F y = some v) (h : Goal n w0 S ((d, v) :: F) L (LW P ops Q rest)) : Goal n w0 S F L (LW P ops Q (⟨some d, .pick x y z, ty, ps, af, none⟩ :: rest)) := Goal.quiet hn (Run.pickT hc hx) h
theorem G.pickF {v : Value} (hn : Nat.blt d n = true) (hc : ev F x = some (.bool false)) (hx : ev F z = some v) (h : Goal n w0 S ((d, v) :: F) L (LW P ops Q rest)) : Goal n w0 S F L (LW P ops Q (⟨some d, .pick x y z, ty, ps, af, none⟩ :: rest)) := Goal.quiet hn (Run.pickF hc hx) h
theorem G.load {v : Value} {p : Addr} (hn : Nat.blt d n = true) (hx : ev F x = some (.pointer (some p))) (hl : LoadOK P w0 S L T p v) (h : Goal n w0 S ((d, v) :: F) L (LW P ops Q rest)) : Goal n w0 S F L (LW P ops Q (⟨some d, .load T x, ty, ps, af, none⟩ :: rest)) := Goal.quiet hn (Run.load hx hl) h
theorem G.fieldAddr {i off b o : Nat} (hn : Nat.blt d n = true) (hx : ev F x = some (.pointer (some ⟨b, o, none⟩))) (hT : FieldB P T i off) (h : Goal n w0 S ((d, .pointer (some ⟨b, o + off, none⟩)) :: F) L (LW P ops Q rest)) : Goal n w0 S F L (LW P ops Q (⟨some d, .fieldAddr T x i, ty, ps, af, none⟩ :: rest)) := Goal.quiet hn (Run.fieldAddr hT hx) h
theorem G.lss {k : IntKind} {a b : Int} (hn : Nat.blt d n = true) (hx : ev F x = some (.int k a)) (hy : ev F y = some (.int k b)) (h : Goal n w0 S ((d, .bool (decide (a < b))) :: F) L (LW P ops Q rest)) : Goal n w0 S F L (LW P ops Q (⟨some d, .binOp .lss T x y T', ty, ps, af, none⟩ :: rest)) := Goal.quiet hn (Run.lss hx hy) h
theorem G.leq {k : IntKind} {a b : Int} (hn : Nat.blt d n = true) (hx : ev F x = some (.int k a)) (hy : ev F y = some (.int k b)) (h : Goal n w0 S ((d, .bool (decide (a ≤ b))) :: F) L (LW P ops Q rest)) : Goal n w0 S F L (LW P ops Q (⟨some d, .binOp .leq T x y T', ty, ps, af, none⟩ :: rest)) := Goal.quiet hn (Run.leq hx hy) h
theorem G.gtr {k : IntKind} {a b : Int} (hn : Nat.blt d n = true) (hx : ev F x = some (.int k a)) (hy : ev F y = some (.int k b)) (h : Goal n w0 S ((d, .bool (decide (b < a))) :: F) L (LW P ops Q rest)) : Goal n w0 S F L (LW P ops Q (⟨some d, .binOp .gtr T x y T', ty, ps, af, none⟩ :: rest)) := Goal.quiet hn (Run.gtr hx hy) h
theorem G.geq {k : IntKind} {a b : Int} (hn : Nat.blt d n = true) (hx : ev F x = some (.int k a)) (hy : ev F y = some (.int k b)) (h : Goal n w0 S ((d, .bool (decide (b ≤ a))) :: F) L (LW P ops Q rest)) : Goal n w0 S F L (LW P ops Q (⟨some d, .binOp .geq T x y T', ty, ps, af, none⟩ :: rest)) := Goal.quiet hn (Run.geq hx hy) h
theorem G.eql {k : IntKind} {a b : Int} (hn : Nat.blt d n = true) (hx : ev F x = some (.int k a)) (hy : ev F y = some (.int k b)) (h : Goal n w0 S ((d, .bool (decide (a = b))) :: F) L (LW P ops Q rest)) : Goal n w0 S F L (LW P ops Q (⟨some d, .binOp .eql T x y T', ty, ps, af, none⟩ :: rest)) := Goal.quiet hn (Run.eql hx hy) h
theorem G.neq {k : IntKind} {a b : Int} (hn : Nat.blt d n = true) (hx : ev F x = some (.int k a)) (hy : ev F y = some (.int k b)) (h : Goal n w0 S ((d, .bool (decide (a ≠ b))) :: F) L (LW P ops Q rest)) : Goal n w0 S F L (LW P ops Q (⟨some d, .binOp .neq T x y T', ty, ps, af, none⟩ :: rest)) := Goal.quiet hn (Run.neq hx hy) h
theorem G.add {k : IntKind} {a b : Int} {c : Int} (hn : Nat.blt d n = true) (hx : ev F x = some (.int k a)) (hy : ev F y = some (.int k b)) (hw : k.wrap (a + b) = c) (h : Goal n w0 S ((d, .int k c) :: F) L (LW P ops Q rest)) : Goal n w0 S F L (LW P ops Q (⟨some d, .binOp .add T x y T', ty, ps, af, none⟩ :: rest)) := Goal.quiet hn (Run.add hx hy hw) h
theorem G.sub {k : IntKind} {a b : Int} {c : Int} (hn : Nat.blt d n = true) (hx : ev F x = some (.int k a)) (hy : ev F y = some (.int k b)) (hw : k.wrap (a - b) = c) (h : Goal n w0 S ((d, .int k c) :: F) L (LW P ops Q rest)) : Goal n w0 S F L (LW P ops Q (⟨some d, .binOp .sub T x y T', ty, ps, af, none⟩ :: rest)) := Goal.quiet hn (Run.sub hx hy hw) h
theorem G.mul {k : IntKind} {a b : Int} {c : Int} (hn : Nat.blt d n = true) (hx : ev F x = some (.int k a)) (hy : ev F y = some (.int k b)) (hw : k.wrap (a * b) = c) (h : Goal n w0 S ((d, .int k c) :: F) L (LW P ops Q rest)) : Goal n w0 S F L (LW P ops Q (⟨some d, .binOp .mul T x y T', ty, ps, af, none⟩ :: rest)) := Goal.quiet hn (Run.mul hx hy hw) h
theorem G.eqlI2 {a b c e : Int} (hn : Nat.blt d n = true) (hT : I2 P T) (hx : ev F x = some (.agg #[.int .i64 a, .int .i64 b])) (hy : ev F y = some (.agg #[.int .i64 c, .int .i64 e])) (h : Goal n w0 S ((d, .bool (decide (a = c ∧ b = e))) :: F) L (LW P ops Q rest)) : Goal n w0 S F L (LW P ops Q (⟨some d, .binOp .eql T x y T', ty, ps, af, none⟩ :: rest)) := Goal.quiet hn (Run.eqlI2 hT hx hy) h
theorem G.neqI2 {a b c e : Int} (hn : Nat.blt d n = true) (hT : I2 P T) (hx : ev F x = some (.agg #[.int .i64 a, .int .i64 b])) (hy : ev F y = some (.agg #[.int .i64 c, .int .i64 e])) (h : Goal n w0 S ((d, .bool (decide (¬ (a = c ∧ b = e)))) :: F) L (LW P ops Q rest)) : Goal n w0 S F L (LW P ops Q (⟨some d, .binOp .neq T x y T', ty, ps, af, none⟩ :: rest)) := Goal.quiet hn (Run.neqI2 hT hx hy) h
theorem G.eqlB {a b : Bool} (hn : Nat.blt d n = true) (hT : BoolT P T) (hx : ev F x = some (.bool a)) (hy : ev F y = some (.bool b)) (h : Goal n w0 S ((d, .bool (decide (a = b))) :: F) L (LW P ops Q rest)) : Goal n w0 S F L (LW P ops Q (⟨some d, .binOp .eql T x y T', ty, ps, af, none⟩ :: rest)) := Goal.quiet hn (Run.eqlB hT hx hy) h
theorem G.neqB {a b : Bool} (hn : Nat.blt d n = true) (hT : BoolT P T) (hx : ev F x = some (.bool a)) (hy : ev F y = some (.bool b)) (h : Goal n w0 S ((d, .bool (decide (a ≠ b))) :: F) L (LW P ops Q rest)) : Goal n w0 S F L (LW P ops Q (⟨some d, .binOp .neq T x y T', ty, ps, af, none⟩ :: rest)) := Goal.quiet hn (Run.neqB hT hx hy) h
theorem G.quo {k : IntKind} {a b : Int} {c : Int} (hn : Nat.blt d n = true) (hx : ev F x = some (.int k a)) (hy : ev F y = some (.int k b)) (h0 : b ≠ 0) (hw : k.wrap (a.tdiv b) = c) (h : Goal n w0 S ((d, .int k c) :: F) L (LW P ops Q rest)) : Goal n w0 S F L (LW P ops Q (⟨some d, .binOp .quo T x y T', ty, ps, af, none⟩ :: rest)) := Goal.quiet hn (Run.quo hx hy h0 hw) h
theorem G.rem {k : IntKind} {a b : Int} {c : Int} (hn : Nat.blt d n = true) (hx : ev F x = some (.int k a)) (hy : ev F y = some (.int k b)) (h0 : b ≠ 0) (hw : a.tmod b = c) (h : Goal n w0 S ((d, .int k c) :: F) L (LW P ops Q rest)) : Goal n w0 S F L (LW P ops Q (⟨some d, .binOp .rem T x y T', ty, ps, af, none⟩ :: rest)) := Goal.quiet hn (Run.rem hx hy h0 hw) h
theorem G.conv {k k' : IntKind} {a c : Int} (hn : Nat.blt d n = true) (hx : ev F x = some (.int k a)) (hs : IntT P T k) (hT : IntT P T' k') (hw : k'.wrap a = c) (h : Goal n w0 S ((d, .int k' c) :: F) L (LW P ops Q rest)) : Goal n w0 S F L (LW P ops Q (⟨some d, .convert T T' x, ty, ps, af, none⟩ :: rest)) := Goal.quiet hn (Run.conv hT hs hx hw) h
theorem G.notT  (hn : Nat.blt d n = true) (hx : ev F x = some (.bool true)) (h : Goal n w0 S ((d, .bool false) :: F) L (LW P ops Q rest)) : Goal n w0 S F L (LW P ops Q (⟨some d, .unOp .not T x, ty, ps, af, none⟩ :: rest)) := Goal.quiet hn (Run.notT hx) h
theorem G.notF  (hn : Nat.blt d n = true) (hx : ev F x = some (.bool false)) (h : Goal n w0 S ((d, .bool true) :: F) L (LW P ops Q rest)) : Goal n w0 S F L (LW P ops Q (⟨some d, .unOp .not T x, ty, ps, af, none⟩ :: rest)) := Goal.quiet hn (Run.notF hx) h
theorem G.notD {p : Prop} [Decidable p] (hn : Nat.blt d n = true) (hx : ev F x = some (.bool (decide p))) (h : Goal n w0 S ((d, .bool (decide (¬ p))) :: F) L (LW P ops Q rest)) : Goal n w0 S F L (LW P ops Q (⟨some d, .unOp .not T x, ty, ps, af, none⟩ :: rest)) := Goal.quiet hn (Run.notD hx) h
theorem G.notB {v : Bool} (hn : Nat.blt d n = true) (hx : ev F x = some (.bool v)) (h : Goal n w0 S ((d, .bool (!v)) :: F) L (LW P ops Q rest)) : Goal n w0 S F L (LW P ops Q (⟨some d, .unOp .not T x, ty, ps, af, none⟩ :: rest)) := Goal.quiet hn (Run.notB hx) h
theorem G.makeFunc {fn : Fn} {fs cs : Array Operand} {vs us : List Value} (hn : Nat.blt d n = true) (hf : evs F fs.toList = some vs) (hc : evs F cs.toList = some us) (h : Goal n w0 S ((d, .func fn vs.toArray us.toArray) :: F) L (LW P ops Q rest)) : Goal n w0 S F L (LW P ops Q (⟨some d, .makeFunc fn fs cs, ty, ps, af, none⟩ :: rest)) := Goal.quiet hn (Run.makeFunc hf hc) h
theorem G.extract {i : Nat} {vs : Array Value} {v : Value} (hn : Nat.blt d n = true) (hx : ev F x = some (.tuple vs)) (hv : vs.toList[i]? = some v) (h : Goal n w0 S ((d, v) :: F) L (LW P ops Q rest)) : Goal n w0 S F L (LW P ops Q (⟨some d, .extract x i, ty, ps, af, none⟩ :: rest)) := Goal.quiet hn (Run.extract hx hv) h
theorem G.nilCheckP {p : Addr} (hn : Nat.blt d n = true) (hx : ev F x = some (.pointer (some p))) (h : Goal n w0 S ((d, .pointer (some p)) :: F) L (LW P ops Q rest)) : Goal n w0 S F L (LW P ops Q (⟨some d, .nilCheck x, ty, ps, af, none⟩ :: rest)) := Goal.quiet hn (Run.nilCheckP hx) h
theorem G.len {s : Option Addr} {l cp : Nat} {e t : TypeId} (hn : Nat.blt d n = true) (hx : ev F x = some (.slice s l cp)) (hu : SliceT P t e) (h : Goal n w0 S ((d, .int .i64 l) :: F) L (LW P ops Q rest)) : Goal n w0 S F L (LW P ops Q (⟨some d, .call { callee := .builtin .len, args := #[x], argTypes := #[t] }, ty, ps, af, none⟩ :: rest)) := Goal.quiet hn (Run.len hu hx) h
theorem G.indexAddr1 {e : TypeId} {b off l cp : Nat} {kk : IntKind} {i : Int} (hn : Nat.blt d n = true) (hu : SliceT P T e) (he : Sz P e 1) (hx : ev F x = some (.slice (some ⟨b, off, none⟩) l cp)) (hy : ev F y = some (.int kk i)) (j : Nat) (hi : i = (j : Int)) (hj : j < l) (h : Goal n w0 S ((d, .pointer (some ⟨b, off + j, none⟩)) :: F) L (LW P ops Q rest)) : Goal n w0 S F L (LW P ops Q (⟨some d, .indexAddr T x y, ty, ps, af, none⟩ :: rest)) := Goal.quiet hn (Run.indexAddr1 hu he hx hy hi hj) h
theorem G.indexAddr {e : TypeId} {sz b off l cp : Nat} {kk : IntKind} {i : Int} (hn : Nat.blt d n = true) (hu : SliceT P T e) (he : Sz P e sz) (hx : ev F x = some (.slice (some ⟨b, off, none⟩) l cp)) (hy : ev F y = some (.int kk i)) (j : Nat) (hi : i = (j : Int)) (hj : j < l) (h : Goal n w0 S ((d, .pointer (some ⟨b, off + j * sz, none⟩)) :: F) L (LW P ops Q rest)) : Goal n w0 S F L (LW P ops Q (⟨some d, .indexAddr T x y, ty, ps, af, none⟩ :: rest)) := Goal.quiet hn (Run.indexAddr hu he hx hy hi hj) h
theorem G.indexAddrA {e : TypeId} {sz b off l : Nat} {kk : IntKind} {i : Int} (hn : Nat.blt d n = true) (hu : ArrT P T l e) (he : Sz P e sz) (hx : ev F x = some (.pointer (some ⟨b, off, none⟩))) (hy : ev F y = some (.int kk i)) (j : Nat) (hi : i = (j : Int)) (hj : j < l) (h : Goal n w0 S ((d, .pointer (some ⟨b, off + j * sz, none⟩)) :: F) L (LW P ops Q rest)) : Goal n w0 S F L (LW P ops Q (⟨some d, .indexAddr T x y, ty, ps, af, none⟩ :: rest)) := Goal.quiet hn (Run.indexAddrA hu he hx hy hi hj) h
theorem G.build {parts : Array (Nat × Operand)} {pl : List (Nat × Nat)} {zs : List Value} {vals : List (Nat × Value)} {cs : List Value} (hn : Nat.blt d n = true) (hT : Lay P T pl zs) (hp : partsV F parts.toList = some vals) (hb : buildL pl zs vals = some cs) (h : Goal n w0 S ((d, .agg cs.toArray) :: F) L (LW P ops Q rest)) : Goal n w0 S F L (LW P ops Q (⟨some d, .build T parts, ty, ps, af, none⟩ :: rest)) := Goal.quiet hn (Run.build hT hp hb) h
end

/-! ### Pointers and nil, slices of slices, lists in blocks -/
structure PtrT (P : Program) (T : TypeId) : Prop where
  h : P.underlying T = some (.pointer (P.pointee T))
section
variable {P : Program} {n : Nat} {w0 : World} {S : List Nat} {F : Fr} {L : List Blk} {d : Option Tmp} {x y : Operand} {T T' ty : TypeId} {ps : String} {af : Array Edge} {g : Option (Nat × Bool)}
theorem Run.eqlP {p : Option Addr} {b : Bool} (hT : PtrT P T) (hx : ev F x = some (.pointer p)) (hy : ev F y = some (.pointer none)) (hb : p.isNone = b) : Run P n w0 S F L ⟨d, .binOp .eql T x y T', ty, ps, af, g⟩ (.bool b) := Run.of fun ρ hρ w _ => by
  have hg : (eqGuard .eql T x y (.pointer p) (.pointer none)).run P w = .ok () w := by simp [eqGuard, go_sem]
  subst hb
  simp only [execOp, hρ _ _ hx, hρ _ _ hy, Sem.run_bind, hg, Result.andThen_ok, run_eql_pointer_nil w T p hT.h, Sem.run_pure]
theorem Run.neqP {p : Option Addr} {b : Bool} (hT : PtrT P T) (hx : ev F x = some (.pointer p)) (hy : ev F y = some (.pointer none)) (hb : (!p.isNone) = b) : Run P n w0 S F L ⟨d, .binOp .neq T x y T', ty, ps, af, g⟩ (.bool b) := Run.of fun ρ hρ w _ => by
  have hg : (eqGuard .neq T x y (.pointer p) (.pointer none)).run P w = .ok () w := by simp [eqGuard, go_sem]
  subst hb
  simp only [execOp, hρ _ _ hx, hρ _ _ hy, Sem.run_bind, hg, Result.andThen_ok, run_neq_pointer_nil w T p hT.h, Sem.run_pure]
theorem run_sizeOf {e : TypeId} {sz : Nat} (he : Sz P e sz) (w : World) : (sizeOf e).run P w = .ok sz w := by
  have he := he.h
  cases hi : P.info? e with
  | none => simp [info3, hi] at he
  | some q =>
    simp [info3, hi] at he
    simp [sizeOf, typeInfo, hi, he, go_sem]
theorem SliceT.elem {e : TypeId} (hu : SliceT P T e) : P.elem T = e := by simp [Program.elem, hu.h]
theorem SliceT.elem_h {e : TypeId} (hu : SliceT P T e) : P.underlying T = some (.slice (P.elem T)) := by rw [hu.elem, hu.h]
/-- 's[:i]' -/
theorem Run.sliceH {e : TypeId} {sz l cp : Nat} {ad : Option Addr} {kk : IntKind} {i : Int} (hu : SliceT P T e) (he : Sz P e sz) (hx : ev F x = some (.slice ad l cp)) (hy : ev F y = some (.int kk i)) (j : Nat) (hi : i = (j : Int)) (hj : j ≤ cp) :
    Run P n w0 S F L ⟨d, .slice T x none (some y) none, ty, ps, af, g⟩ (.slice ad j cp) := Run.of fun ρ hρ w _ => by
  subst hi
  have h1 : sliced ad 0 j cp sz = .slice ad j cp := by
    simp only [sliced, Nat.zero_mul, Nat.sub_zero]
    split
    · rfl
    · cases ad <;> simp [Addr.add]
  simp only [execOp, hρ _ _ hx, Option.map_some, Option.map_none, hρ _ _ hy, Sem.run_bind, run_sliceAt_slice w T _ _ _ _ hu.elem_h, run_slice_h w T ad l cp hu.elem_h kk (j : Int) (by omega) (by omega), hu.elem, run_sizeOf he, Result.andThen_ok, Int.toNat_natCast, h1, Sem.run_pure]
end
/-- The element at a place that is an int. -/
def ia (l : List Int) (i : Int) : Int := l.getD i.toNat 0
def ba (l : List Bool) (i : Int) : Bool := l.getD i.toNat false
def bools (l : List Bool) : List Value := l.map .bool
theorem bools_len (l : List Bool) : (bools l).length = l.length := by simp [bools]
theorem ia_nat (l : List Int) (j : Nat) : ia l (j : Int) = l.getD j 0 := by simp [ia]
theorem ints_at {l : List Int} {j : Nat} (h : j < l.length) : (ints l)[j]? = some (.int .i64 (l.getD j 0)) := by simp [ints, h]
theorem bools_at {l : List Bool} {j : Nat} (h : j < l.length) : (bools l)[j]? = some (.bool (l.getD j false)) := by simp [bools, h]
section
variable {P : Program} {n : Nat} {w0 : World} {S : List Nat} {L : List Blk}
theorem LoadOK.ia {T : TypeId} (hT : OneB P T) (k : Nat) {b : Nat} {l : List Int} {E : TypeId} {fz : Nat × Nat} {i : Int} (hL : L[k]? = some (b, .cells (ints l).toArray E fz)) (hi : 0 ≤ i ∧ i < l.length) : LoadOK P w0 S L T ⟨b, 0 + i.toNat, none⟩ (.int .i64 (ia l i)) :=
  LoadOK.one hT k hL (by rw [Nat.zero_add]; exact ints_at (by omega))
theorem LoadOK.iaR {T : TypeId} (hT : OneB P T) (k : Nat) {b : Nat} {l : List Int} {rest : List Value} {E : TypeId} {fz : Nat × Nat} {i : Int} (hL : L[k]? = some (b, .cells (ints l ++ rest).toArray E fz)) (hi : 0 ≤ i ∧ i < l.length) : LoadOK P w0 S L T ⟨b, 0 + i.toNat, none⟩ (.int .i64 (Go.Wf.ia l i)) :=
  LoadOK.one hT k hL (by rw [Nat.zero_add, List.getElem?_append_left (by rw [ints_len]; omega)]; exact ints_at (by omega))
theorem LoadOK.i0R {T : TypeId} (hT : OneB P T) (k : Nat) {b : Nat} {l : List Int} {rest : List Value} {E : TypeId} {fz : Nat × Nat} (hL : L[k]? = some (b, .cells (ints l ++ rest).toArray E fz)) (hi : 0 < l.length) : LoadOK P w0 S L T ⟨b, 0, none⟩ (.int .i64 (Go.Wf.ia l 0)) :=
  LoadOK.iaR (i := 0) hT k hL (by omega)
theorem LoadOK.ba {T : TypeId} (hT : OneB P T) (k : Nat) {b : Nat} {l : List Bool} {E : TypeId} {fz : Nat × Nat} {i : Int} (hL : L[k]? = some (b, .cells (bools l).toArray E fz)) (hi : 0 ≤ i ∧ i < l.length) : LoadOK P w0 S L T ⟨b, 0 + i.toNat, none⟩ (.bool (ba l i)) :=
  LoadOK.one hT k hL (by rw [Nat.zero_add]; exact bools_at (by omega))
theorem wr_list {vs : List Value} {j : Nat} {v : Value} (h : j < vs.length) : wr vs.toArray (0 + j) [v] = (vs.set j v).toArray := by
  rw [Nat.zero_add, wr_one (by simpa using h)]
  simp
theorem wr_ints {l : List Int} {i x : Int} (h : 0 ≤ i ∧ i < l.length) : wr (ints l).toArray (0 + i.toNat) [.int .i64 x] = (ints (l.set i.toNat x)).toArray := by
  rw [wr_list (by rw [ints_len]; omega)]; simp [ints, List.map_set]
theorem wr_intsR {l : List Int} {rest : List Value} {i x : Int} (h : 0 ≤ i ∧ i < l.length) : wr (ints l ++ rest).toArray (0 + i.toNat) [.int .i64 x] = (ints (l.set i.toNat x) ++ rest).toArray := by
  rw [wr_list (by rw [List.length_append, ints_len]; omega), List.set_append_left _ _ (by rw [ints_len]; omega)]; simp [ints, List.map_set]
theorem wr_bools {l : List Bool} {i : Int} {x : Bool} (h : 0 ≤ i ∧ i < l.length) : wr (bools l).toArray (0 + i.toNat) [.bool x] = (bools (l.set i.toNat x)).toArray := by
  rw [wr_list (by rw [bools_len]; omega)]; simp [bools, List.map_set]
theorem rep_ints (k : Nat) : rep k [.int .i64 0] = ints (List.replicate k 0) := by
  induction k with
  | zero => rfl
  | succ k ih => simp only [rep, List.replicate_succ, List.flatten_cons, ints, List.map_cons] at ih ⊢; rw [ih]; rfl
theorem rep_bools (k : Nat) : rep k [.bool false] = bools (List.replicate k false) := by
  induction k with
  | zero => rfl
  | succ k ih => simp only [rep, List.replicate_succ, List.flatten_cons, bools, List.map_cons] at ih ⊢; rw [ih]; rfl
end
/-- What a function does that is handed these blocks. -/
def MCalls (P : Program) (f : FuncId) (args : List Value) (A : List Blk) {X : Type} (p : X → Prop) (val : X → Value) (A' : X → List Blk) : Prop :=
  ∀ w, Own w A → (keys A).Nodup → Calls P f args.toArray w fun e w' => ∃ x, p x ∧ e = .returned (val x) ∧ St w (keys A) w' (A' x)
theorem MCalls.mk {P : Program} {f : FuncId} {args : List Value} {A : List Blk} {X : Type} {p : X → Prop} {val : X → Value} {A' : X → List Blk}
    (h : ∀ w, St w (keys A) w A → Calls P f args.toArray w fun e w' => ∃ x, p x ∧ e = .returned (val x) ∧ St w (keys A) w' (A' x)) : MCalls P f args A p val A' := fun w ho hn => h w (St.start ho hn fun _ h => h)
section
variable {P : Program} {n : Nat} {w0 : World} {S : List Nat} {F : Fr} {L : List Blk} {Q : Exit → Act → World → Prop} {C : Act → World → Prop}
variable {d : Tmp} {x : Operand} {ty : TypeId} {ps : String} {af : Array Edge} {g : Option (Nat × Bool)} {as : Array Operand} {ts : Array TypeId} {f : FuncId} {vs fst : List Value} {cap : Array Value}
theorem perm_mid {B A G : List Blk} : (B ++ (A ++ G)).Perm (A ++ (B ++ G)) := by
  rw [← List.append_assoc, ← List.append_assoc]
  exact List.perm_append_comm.append_right G
/-- A call that is handed the blocks A, which lie behind B. -/
theorem Loud.callM {X : Type} {p : X → Prop} {val : X → Value} {A' : X → List Blk} (B : List Blk) {A G : List Blk} {args : List Value} (hc : MCalls P f args A p val A') (hn : Nat.blt d n = true) (hx : ev F x = some (.func (.func f) fst.toArray cap)) (ha : evs F as.toList = some vs) (hargs : fst ++ vs ++ cap.toList = args) (hb : Bod P f)
    (hL : ∀ w, St w0 S w L → St w0 S w (B ++ (A ++ G)))
    (h : ∀ x, p x → Goal n w0 S ((d, val x) :: F) (B ++ (A' x ++ G)) C) : Goal n w0 S F L (OW P Q ⟨some d, .call { callee := .value x, args := as, argTypes := ts }, ty, ps, af, g⟩ C) :=
  Loud.call (SS := keys A) (A := A) (R := B ++ G) hn hx ha hargs hb (fun w hw => (hL w hw).perm perm_mid) (fun _ h => h)
    (fun w hw => hc w hw.left.own hw.left.nd) fun x hx => (h x hx).subL fun _ hw => hw.perm perm_mid.symm
end

/-! ### Lists of elements of several cells -/
section
variable {P : Program} {Q : Exit → Act → World → Prop} {n : Nat} {w0 : World} {S : List Nat} {F : Fr} {L : List Blk} {C : Act → World → Prop} {α : Type}
def Els (f : α → List Value) (l : List α) : List Value := l.flatMap f
def el [Inhabited α] (l : List α) (i : Int) : α := l.getD i.toNat default
theorem Els_nil (f : α → List Value) : Els f [] = [] := rfl
theorem Els_app (f : α → List Value) (l m : List α) : Els f (l ++ m) = Els f l ++ Els f m := List.flatMap_append
theorem Els_one (f : α → List Value) (l : List α) (a : α) : Els f (l ++ [a]) = Els f l ++ f a := by rw [Els_app]; simp [Els]
theorem Els_len {f : α → List Value} {m : Nat} (hf : ∀ a, (f a).length = m) (l : List α) : (Els f l).length = l.length * m := by
  induction l with
  | nil => simp [Els]
  | cons a r ih => simp only [Els, List.flatMap_cons, List.length_append, hf, List.length_cons] at ih ⊢; rw [ih, Nat.add_mul]; omega
theorem Els_split (f : α → List Value) {l : List α} {i : Nat} (h : i < l.length) : Els f l = Els f (l.take i) ++ (f l[i] ++ Els f (l.drop (i + 1))) := by
  have : l = l.take i ++ ([l[i]] ++ l.drop (i + 1)) := by rw [List.singleton_append, List.getElem_cons_drop, List.take_append_drop]
  conv => lhs; rw [this]
  rw [Els_app, Els_app]
  simp only [Els, List.flatMap_cons, List.flatMap_nil, List.append_nil]
theorem Els_at {f : α → List Value} {m : Nat} (hf : ∀ a, (f a).length = m) {l : List α} {i j : Nat} (h : i < l.length) (hj : j < m) : (Els f l)[i * m + j]? = (f l[i])[j]? := by
  rw [Els_split f h, List.getElem?_append_right (by rw [Els_len hf, List.length_take, Nat.min_eq_left (by omega)]; omega), Els_len hf, List.length_take, Nat.min_eq_left (by omega), Nat.add_sub_cancel_left,
    List.getElem?_append_left (by rw [hf]; exact hj)]
theorem el_get [Inhabited α] {l : List α} {i : Int} (h : 0 ≤ i ∧ i < l.length) : el l i = l[i.toNat]'(by omega) := by
  unfold el
  rw [List.getD_eq_getElem?_getD, List.getElem?_eq_getElem (by omega)]
  rfl
theorem el_mem [Inhabited α] {l : List α} {i : Int} (h : 0 ≤ i ∧ i < l.length) : el l i ∈ l := by rw [el_get h]; exact List.getElem_mem _
theorem el_set [Inhabited α] {l : List α} {i j : Int} {x : α} (hi : 0 ≤ i ∧ i < l.length) (hj : 0 ≤ j ∧ j < l.length) : el (l.set i.toNat x) j = if i = j then x else el l j := by
  rw [el_get (by simpa using hj), el_get hj, List.getElem_set]
  by_cases e : i = j
  · rw [if_pos (by omega), if_pos e]
  · rw [if_neg (by omega), if_neg e]
theorem el_app [Inhabited α] {l m : List α} {j : Int} (hj : 0 ≤ j ∧ j < l.length) : el (l ++ m) j = el l j := by
  rw [el_get (by simp; omega), el_get hj, List.getElem_append_left]
theorem el_last [Inhabited α] {l : List α} {a : α} : el (l ++ [a]) l.length = a := by
  rw [el_get (by simp; omega)]; simp
theorem els_cell {f : α → List Value} {m : Nat} [Inhabited α] (hf : ∀ a, (f a).length = m) {l : List α} {rest : List Value} {i : Int} {j : Nat} {v : Value} (hi : 0 ≤ i ∧ i < l.length) (hj : (f (el l i))[j]? = some v) : (Els f l ++ rest)[i.toNat * m + j]? = some v := by
  have hjm : j < m := by rw [← hf (el l i)]; exact (List.getElem?_eq_some_iff.mp hj).1
  have hb : i.toNat * m + j < l.length * m := by
    have h1 : (i.toNat + 1) * m ≤ l.length * m := Nat.mul_le_mul_right m (by omega)
    rw [Nat.add_mul] at h1
    omega
  rw [List.getElem?_append_left (by rw [Els_len hf]; exact hb), Els_at hf (by omega) hjm, ← hj, el_get hi]
theorem Cells.of_get {c : Array Value} {off : Nat} {vs : List Value} (h : ∀ j v, vs[j]? = some v → c.toList[off + j]? = some v) : Cells c off vs := by
  induction vs generalizing off with
  | nil => trivial
  | cons u r ih =>
    refine ⟨by have := h 0 u rfl; simpa using this, ih fun j v hv => ?_⟩
    have := h (j + 1) v (by simpa using hv)
    rwa [show off + 1 + j = off + (j + 1) by omega]
theorem LoadOK.elR {f : α → List Value} {m : Nat} [Inhabited α] {T : TypeId} (hT : AggB P T m) (k : Nat) {b : Nat} {l : List α} {rest : List Value} {E : TypeId} {fz : Nat × Nat} {i : Int} (hf : ∀ a, (f a).length = m) (hL : L[k]? = some (b, .cells (Els f l ++ rest).toArray E fz)) (hi : 0 ≤ i ∧ i < l.length) :
    LoadOK P w0 S L T ⟨b, 0 + i.toNat * m, none⟩ (.agg (f (el l i)).toArray) :=
  LoadOK.agg hT k hL (hf _) (Cells.of_get fun j v hv => by rw [Nat.zero_add]; exact els_cell hf hi hv)
theorem LoadOK.el {f : α → List Value} {m : Nat} [Inhabited α] {T : TypeId} (hT : AggB P T m) (k : Nat) {b : Nat} {l : List α} {E : TypeId} {fz : Nat × Nat} {i : Int} (hf : ∀ a, (f a).length = m) (hL : L[k]? = some (b, .cells (Els f l).toArray E fz)) (hi : 0 ≤ i ∧ i < l.length) :
    LoadOK P w0 S L T ⟨b, 0 + i.toNat * m, none⟩ (.agg (f (Go.Wf.el l i)).toArray) :=
  LoadOK.elR (rest := []) hT k hf (by rw [List.append_nil]; exact hL) hi
theorem LoadOK.elFR {f : α → List Value} {m : Nat} [Inhabited α] {T : TypeId} {v : Value} (hT : OneB P T) (k j : Nat) {b : Nat} {l : List α} {rest : List Value} {E : TypeId} {fz : Nat × Nat} {i : Int} (hf : ∀ a, (f a).length = m) (hL : L[k]? = some (b, .cells (Els f l ++ rest).toArray E fz)) (hi : 0 ≤ i ∧ i < l.length) (hj : (f (Go.Wf.el l i))[j]? = some v) :
    LoadOK P w0 S L T ⟨b, 0 + i.toNat * m + j, none⟩ v :=
  LoadOK.one hT k hL (by have := els_cell (rest := rest) hf hi hj; simpa using this)
theorem LoadOK.elF {f : α → List Value} {m : Nat} [Inhabited α] {T : TypeId} {v : Value} (hT : OneB P T) (k j : Nat) {b : Nat} {l : List α} {E : TypeId} {fz : Nat × Nat} {i : Int} (hf : ∀ a, (f a).length = m) (hL : L[k]? = some (b, .cells (Els f l).toArray E fz)) (hi : 0 ≤ i ∧ i < l.length) (hj : (f (Go.Wf.el l i))[j]? = some v) :
    LoadOK P w0 S L T ⟨b, 0 + i.toNat * m + j, none⟩ v :=
  LoadOK.elFR (rest := []) hT k j hf (by rw [List.append_nil]; exact hL) hi hj
theorem Els_set {f : α → List Value} {l : List α} {i : Nat} (h : i < l.length) (x : α) : Els f (l.set i x) = Els f (l.take i) ++ (f x ++ Els f (l.drop (i + 1))) := by
  rw [Els_split f (l := l.set i x) (i := i) (by simpa using h)]
  simp [List.take_set_of_le, List.drop_set_of_lt]
theorem wr_mid {a b c d : List Value} {off : Nat} (ha : a.length = off) (hb : b.length = c.length) : wr (a ++ (b ++ d)).toArray off c = (a ++ (c ++ d)).toArray := by
  subst ha
  unfold wr
  congr 1
  simp only [List.take_left, List.append_assoc, List.append_cancel_left_eq]
  rw [← hb, List.drop_append, List.drop_eq_nil_of_le (by omega)]
  simp
theorem wr_elR {f : α → List Value} {m : Nat} (hf : ∀ a, (f a).length = m) {l : List α} {rest : List Value} {i : Int} {x : α} (hi : 0 ≤ i ∧ i < l.length) : wr (Els f l ++ rest).toArray (0 + i.toNat * m) (f x) = (Els f (l.set i.toNat x) ++ rest).toArray := by
  rw [Els_split f (l := l) (i := i.toNat) (by omega), Els_set (by omega), List.append_assoc, List.append_assoc, List.append_assoc, List.append_assoc]
  exact wr_mid (by rw [Els_len hf, List.length_take, Nat.min_eq_left (by omega), Nat.zero_add]) (by rw [hf, hf])
theorem wr_el {f : α → List Value} {m : Nat} (hf : ∀ a, (f a).length = m) {l : List α} {i : Int} {x : α} (hi : 0 ≤ i ∧ i < l.length) : wr (Els f l).toArray (0 + i.toNat * m) (f x) = (Els f (l.set i.toNat x)).toArray := by
  have := wr_elR (rest := []) (x := x) hf hi
  rwa [List.append_nil, List.append_nil] at this
theorem wr_elFR {f : α → List Value} {m : Nat} [Inhabited α] (hf : ∀ a, (f a).length = m) {l : List α} {rest : List Value} {i : Int} {j : Nat} {x : α} {v : Value} (hi : 0 ≤ i ∧ i < l.length) (hj : j < m) (hx : f x = (f (el l i)).set j v) : wr (Els f l ++ rest).toArray (0 + i.toNat * m + j) [v] = (Els f (l.set i.toNat x) ++ rest).toArray := by
  rw [el_get hi] at hx
  rw [Els_split f (l := l) (i := i.toNat) (by omega), Els_set (by omega), hx, List.set_eq_take_append_cons_drop, if_pos (by rw [hf]; exact hj)]
  have e : f l[i.toNat] = (f l[i.toNat]).take j ++ ([(f l[i.toNat])[j]'(by rw [hf]; exact hj)] ++ (f l[i.toNat]).drop (j + 1)) := by
    rw [List.singleton_append, List.getElem_cons_drop, List.take_append_drop]
  conv => lhs; rw [e]
  simp only [List.append_assoc]
  have := wr_mid (a := Els f (l.take i.toNat) ++ (f l[i.toNat]).take j) (b := [(f l[i.toNat])[j]'(by rw [hf]; exact hj)]) (c := [v]) (d := (f l[i.toNat]).drop (j + 1) ++ (Els f (l.drop (i.toNat + 1)) ++ rest)) (off := 0 + i.toNat * m + j)
    (by rw [List.length_append, Els_len hf, List.length_take, Nat.min_eq_left (by omega), List.length_take, hf, Nat.min_eq_left (by omega)]; omega) rfl
  simp only [List.append_assoc] at this
  exact this
theorem wr_elF {f : α → List Value} {m : Nat} [Inhabited α] (hf : ∀ a, (f a).length = m) {l : List α} {i : Int} {j : Nat} {x : α} {v : Value} (hi : 0 ≤ i ∧ i < l.length) (hj : j < m) (hx : f x = (f (el l i)).set j v) : wr (Els f l).toArray (0 + i.toNat * m + j) [v] = (Els f (l.set i.toNat x)).toArray := by
  have := wr_elFR (rest := []) hf hi hj hx
  rwa [List.append_nil, List.append_nil] at this
theorem rep_els (f : α → List Value) (k : Nat) (a : α) : rep k (f a) = Els f (List.replicate k a) := by
  induction k with
  | zero => rfl
  | succ k ih =>
    simp only [rep, Els, List.replicate_succ, List.flatten_cons, List.flatMap_cons] at ih ⊢
    rw [ih]
/-- A region of which the first block alone is looked at while others change. -/
theorem Goal.drawHd {ops : Array Oper} {p : Blk} {id : Nat} (m : Nat) (hm : P.follows .mixedOrders = true) (h : Goal n w0 S F (p :: L) (AW P ops Q m w0 S [p] ops.size (Array.replicate ops.size false))) : Goal n w0 S F (p :: L) (CW P Q (Code.region id ops true)) := Goal.draw m [p] hm h
theorem mem_ia {l : List Int} {i : Int} (h : 0 ≤ i ∧ i < l.length) : ia l i ∈ l := by
  unfold ia
  rw [List.getD_eq_getElem?_getD, List.getElem?_eq_getElem (by omega)]
  exact List.getElem_mem _
theorem ia_upd {l : List Int} {i j x : Int} (hi : 0 ≤ i ∧ i < l.length) (hj : 0 ≤ j ∧ j < l.length) : ia (l.set i.toNat x) j = if i = j then x else ia l j := by
  unfold ia
  rw [List.getD_eq_getElem?_getD, List.getD_eq_getElem?_getD, List.getElem?_set]
  by_cases e : i = j
  · rw [if_pos (by omega), if_pos e, if_pos (by omega)]; rfl
  · rw [if_neg (by omega), if_neg e]
/-- A list of numbers that is only read, at a place. -/
theorem rd_nums {w : World} {k : IntKind} {ad : Option Addr} {l : List Int} {c : Nat} (h : RdV w (.slice ad l.length c) (l.map (.int k))) (hp : 0 < l.length) : ∃ b o, ad = some ⟨b, o, none⟩ ∧ ∀ i : Int, 0 ≤ i → i < l.length → w.cell? ⟨b, o + i.toNat, none⟩ = some (.int k (ia l i)) := by
  obtain ⟨ad', cap, e, h⟩ := h
  injection e with e _ _
  subst e
  have at_ : ∀ j, j < l.length → (l.map (Value.int k))[j]? = some (.int k (l.getD j 0)) := fun j hj => by simp [hj]
  obtain ⟨b, o, rfl, _⟩ := h 0 _ (at_ 0 hp)
  refine ⟨b, o, rfl, fun i i0 i1 => ?_⟩
  obtain ⟨b', o', e, h2⟩ := h i.toNat _ (at_ _ (by omega))
  injection e with e
  injection e with e1 e2 _
  subst e1 e2
  exact h2
end
/-! ### Short names for what the printed scripts say often -/
abbrev Ya : Bool := true
abbrev No : Bool := false
section
variable {P : Program} {w0 : World} {S : List Nat} {L L' R : List Blk} {p q r t : Blk}
theorem s0 : ∀ w, St w0 S w L → St w0 S w L := fun _ h => h
theorem s1 : ∀ w, St w0 S w (p :: L) → St w0 S w L := fun _ h => h.sub (.cons _ (.refl _))
theorem s2 : ∀ w, St w0 S w (p :: q :: L) → St w0 S w L := fun _ h => h.sub (.cons _ (.cons _ (.refl _)))
theorem s3 : ∀ w, St w0 S w (p :: q :: r :: L) → St w0 S w L := fun _ h => h.sub (.cons _ (.cons _ (.cons _ (.refl _))))
theorem sd : ∀ w, St w0 S w (L ++ R) → St w0 S w R := fun _ h => h.drop
theorem sa : ∀ w, St w0 S w (L ++ R) → St w0 S w L := fun _ h => h.sub (List.sublist_append_left _ _)
theorem sn (e : L = L') : ∀ w, St w0 S w L → St w0 S w L' := fun _ h => e ▸ h
theorem sh1 : ∀ w, St w0 S w (p :: L) → St w0 S w [p] := fun _ h => h.sub (List.Sublist.cons_cons _ (List.nil_sublist _))
theorem sh2 : ∀ w, St w0 S w (q :: p :: L) → St w0 S w [p] := fun _ h => h.sub (.cons _ (List.Sublist.cons_cons _ (List.nil_sublist _)))
theorem ag2 {T : TypeId} (hT : AggB P T 2) (i : Nat) {b off : Nat} {c : Array Value} {E : TypeId} {fz : Nat × Nat} {v0 v1 : Value} (hL : L[i]? = some (b, .cells c E fz)) (h0 : c.toList[off]? = some v0) (h1 : c.toList[off + 1]? = some v1) : LoadOK P w0 S L T ⟨b, off, none⟩ (.agg #[v0, v1]) :=
  LoadOK.agg (vs := [v0, v1]) hT i hL rfl ⟨h0, h1, trivial⟩
theorem ag3 {T : TypeId} (hT : AggB P T 3) (i : Nat) {b off : Nat} {c : Array Value} {E : TypeId} {fz : Nat × Nat} {v0 v1 v2 : Value} (hL : L[i]? = some (b, .cells c E fz)) (h0 : c.toList[off]? = some v0) (h1 : c.toList[off + 1]? = some v1) (h2 : c.toList[off + 1 + 1]? = some v2) : LoadOK P w0 S L T ⟨b, off, none⟩ (.agg #[v0, v1, v2]) :=
  LoadOK.agg (vs := [v0, v1, v2]) hT i hL rfl ⟨h0, h1, h2, trivial⟩
end
end Go.Wf
