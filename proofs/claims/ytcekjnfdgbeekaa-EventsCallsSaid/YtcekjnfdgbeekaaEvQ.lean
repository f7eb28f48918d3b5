/- The queue of events: the plain law of what it holds. -/
import Derived.Test.YtcekjnfdgbeekaaEvE
namespace Go.Proofs.Ytcekjnfdgbeekaa
open Go.Wf
set_option linter.unusedVariables false
structure Evt where
  (id time data : Int)
/-- The events of one time. -/
def slotOf (E : List Evt) (t : Int) : List (Int × Int) := (E.filter fun e => decide (e.time = t)).map fun e => (e.id, e.data)
theorem slotOf_app (E F : List Evt) (t : Int) : slotOf (E ++ F) t = slotOf E t ++ slotOf F t := by simp [slotOf]
theorem slotOf_cons (e : Evt) (E : List Evt) (t : Int) : slotOf (e :: E) t = (if e.time = t then [(e.id, e.data)] else []) ++ slotOf E t := by
  unfold slotOf
  by_cases h : e.time = t <;> simp [h]
theorem slotOf_one (e : Evt) (t : Int) : slotOf [e] t = if e.time = t then [(e.id, e.data)] else [] := by
  rw [slotOf_cons]; simp [slotOf]
theorem slotOf_none {E : List Evt} {t : Int} : slotOf E t = [] ↔ ∀ e ∈ E, e.time ≠ t := by simp [slotOf]
theorem slotOf_len (E : List Evt) (t : Int) : (slotOf E t).length ≤ E.length := by
  unfold slotOf
  rw [List.length_map]
  exact List.length_filter_le _ _
structure QInv (E : List Evt) (p : Option Int) (q : Rep) : Prop where
  sorted : E.Pairwise fun a b => a.id < b.id
  ids : ∀ e ∈ E, 1 ≤ e.id ∧ e.id ≤ q.last
  last : 0 ≤ q.last
  slot : ∀ t s, q.ft t = some s → 0 ≤ s ∧ s < q.ls.length ∧ q.ls.getD s.toNat [] = slotOf E t ∧ (slotOf E t = [] → p = some t) ∧ q.m s = some t
  back : ∀ s t, q.m s = some t → q.ft t = some s
  free : ∀ t, q.ft t = none → slotOf E t = []
  fi : ∀ j, q.fi j = (E.find? fun e => decide (e.id = j)).map (·.time)
  ni : q.ni = E.length
  und : q.un.Nodup
  un : ∀ s ∈ q.un, 0 ≤ s ∧ s < q.ls.length ∧ q.m s = none
  all : ∀ s : Int, 0 ≤ s → s < q.ls.length → q.m s = none → s ∈ q.un
  void : ∀ s : Int, 0 ≤ s → s < q.ls.length → q.m s = none → q.ls.getD s.toNat [] = []
  sum : (q.ls.map List.length).sum = E.length
  len : q.ls.length ≤ 65536
theorem sum_ge {α : Type} : ∀ {ls : List (List α)}, (∀ l ∈ ls, l ≠ []) → ls.length ≤ (ls.map List.length).sum
  | [], _ => by simp
  | l :: r, h => by
    have h1 := sum_ge (ls := r) fun x hx => h x (by simp [hx])
    have h2 : 0 < l.length := List.length_pos_iff.2 (h l (by simp))
    simp only [List.length_cons, List.map_cons, List.sum_cons]
    omega
theorem sum_set {α : Type} (x : List α) : ∀ {ls : List (List α)} {i : Nat}, i < ls.length → ((ls.set i x).map List.length).sum + (ls.getD i []).length = (ls.map List.length).sum + x.length
  | [], i, h => by simp at h
  | l :: r, 0, h => by simp; omega
  | l :: r, i + 1, h => by
    have := sum_set x (ls := r) (i := i) (by simpa using h)
    simp only [List.set_cons_succ, List.map_cons, List.sum_cons, List.getD_cons_succ]
    omega
theorem getD_set {α : Type} {ls : List (List α)} {i j : Nat} {x : List α} (hi : i < ls.length) : (ls.set i x).getD j [] = if i = j then x else ls.getD j [] := by
  rw [List.getD_eq_getElem?_getD, List.getD_eq_getElem?_getD, List.getElem?_set]
  by_cases e : i = j
  · rw [if_pos e, if_pos e, if_pos hi]; rfl
  · rw [if_neg e, if_neg e]
theorem getD_snoc {α : Type} {ls : List (List α)} {j : Nat} (hj : j < ls.length) : (ls ++ [[]]).getD j [] = ls.getD j [] := by
  rw [List.getD_eq_getElem?_getD, List.getD_eq_getElem?_getD, List.getElem?_append_left hj]
theorem getD_snoc_last {α : Type} {ls : List (List α)} : (ls ++ [[]]).getD ls.length [] = ([] : List α) := by
  rw [List.getD_eq_getElem?_getD, List.getElem?_append_right (Nat.le_refl _)]
  simp
section
variable {E : List Evt} {p : Option Int} {q : Rep}
theorem QInv.nonempty (h : QInv E none q) {s t : Int} (hs : q.m s = some t) : 0 ≤ s ∧ s < q.ls.length ∧ q.ls.getD s.toNat [] = slotOf E t ∧ slotOf E t ≠ [] := by
  obtain ⟨a, b, c, d, _⟩ := h.slot t s (h.back s t hs)
  exact ⟨a, b, c, fun e => by cases d e⟩
theorem QInv.few_slots (h : QInv E none q) (hu : q.un = []) : q.ls.length ≤ E.length := by
  rw [← h.sum]
  refine sum_ge fun l hl he => ?_
  obtain ⟨i, hi, rfl⟩ := List.getElem_of_mem hl
  cases hm : q.m (i : Int) with
  | none =>
    have := h.all i (by omega) (by omega) hm
    rw [hu] at this
    cases this
  | some t =>
    obtain ⟨_, _, c, d⟩ := h.nonempty hm
    rw [Int.toNat_natCast, List.getD_eq_getElem?_getD, List.getElem?_eq_getElem hi] at c
    exact d (c.symm.trans he)
theorem QInv.un_len (h : QInv E p q) : q.un.length ≤ q.ls.length := by
  have h1 : (q.un.map Int.toNat).Nodup := by
    rw [List.Nodup, List.pairwise_map]
    refine List.Pairwise.imp_of_mem ?_ h.und
    intro a b ha hb hab e
    have := h.un a ha
    have := h.un b hb
    omega
  have h2 : q.un.map Int.toNat ⊆ List.range q.ls.length := fun x hx => by
    obtain ⟨s, hs, rfl⟩ := List.mem_map.1 hx
    have := h.un s hs
    rw [List.mem_range]
    omega
  simpa using h1.length_le_of_subset h2
theorem QInv.list_len (h : QInv E p q) : ∀ l ∈ q.ls, List.length l ≤ E.length := fun l hl => by
  obtain ⟨i, hi, rfl⟩ := List.getElem_of_mem hl
  have e : q.ls[i] = q.ls.getD (i : Int).toNat [] := by rw [Int.toNat_natCast, List.getD_eq_getElem?_getD, List.getElem?_eq_getElem hi]; rfl
  cases hm : q.m (i : Int) with
  | none => rw [e, h.void i (by omega) (by omega) hm]; simp
  | some t =>
    obtain ⟨_, _, c, _⟩ := h.slot t i (h.back _ _ hm)
    rw [e, c]
    exact slotOf_len E t
theorem QInv.weak (h : QInv E none q) (p : Option Int) : QInv E p q := by
  refine { h with slot := fun t s hs => ?_ }
  obtain ⟨a, b, c, d, e⟩ := h.slot t s hs
  exact ⟨a, b, c, fun x => (by cases d x), e⟩
theorem last_split {un : List Int} (h : 0 < un.length) : un.take (un.length - 1) ++ [ia un ((un.length : Int) - 1)] = un := by
  unfold ia
  rw [List.getD_eq_getElem?_getD, show ((un.length : Int) - 1).toNat = un.length - 1 by omega, List.getElem?_eq_getElem (by omega)]
  have := List.take_succ_eq_append_getElem (l := un) (i := un.length - 1) (by omega)
  rw [show un.length - 1 + 1 = un.length by omega, List.take_length] at this
  exact this.symm
theorem upd_at (m : Int → Option Int) (i : Int) (o : Option Int) : upd m i o i = o := if_pos rfl
theorem upd_ne {m : Int → Option Int} {i j : Int} (o : Option Int) (h : j ≠ i) : upd m i o j = m j := if_neg h
theorem opened_inv (h : QInv E none q) (hE : E.length < 65536) (t : Int) : QInv E (some t) (opened q t).1 ∧ (opened q t).1.ft t = some (opened q t).2 ∧ (opened q t).1.last = q.last ∧ (opened q t).1.now = q.now ∧ (q.ft t = none → q.un.length = 0 → q.ls.length < 65536) := by
  unfold opened
  cases hft : q.ft t with
  | some s => exact ⟨h.weak _, hft, rfl, rfl, fun x => by cases x⟩
  | none =>
    dsimp only
    by_cases h0 : q.un.length = 0
    · have hu : q.un = [] := List.length_eq_zero_iff.1 h0
      have hfew := h.few_slots hu
      have hm : ∀ s : Int, (q.ls.length : Int) ≤ s → q.m s = none := fun s hs => by
        cases hm : q.m s with
        | none => rfl
        | some t' => have := h.slot _ _ (h.back _ _ hm); omega
      rw [if_pos h0]
      refine ⟨⟨h.sorted, h.ids, h.last, ?_, ?_, ?_, h.fi, h.ni, h.und, ?_, ?_, ?_, ?_, ?_⟩, if_pos rfl, rfl, rfl, fun _ _ => by omega⟩
      · intro t' s hs
        dsimp only at hs ⊢
        split at hs
        · rename_i e
          subst e
          injection hs with hs
          subst hs
          refine ⟨by omega, by rw [List.length_append]; simp; omega, ?_, fun _ => rfl, upd_at _ _ _⟩
          rw [Int.toNat_natCast, getD_snoc_last, h.free _ hft]
        · rename_i e
          obtain ⟨a, b, c, d, f⟩ := h.slot t' s hs
          refine ⟨a, by simp; omega, ?_, (fun x => by cases d x), ?_⟩
          · rw [getD_snoc (by omega)]; exact c
          · rw [upd_ne _ (by omega)]; exact f
      · intro s t' hs
        dsimp only at hs ⊢
        by_cases e : s = q.ls.length
        · subst e
          rw [upd_at] at hs
          injection hs with hs
          rw [if_pos hs.symm]
        · rw [upd_ne _ e] at hs
          have hb := h.back s t' hs
          rw [if_neg (fun x => by rw [x, hft] at hb; cases hb)]
          exact hb
      · intro t' ht
        dsimp only at ht
        split at ht
        · cases ht
        · exact h.free t' ht
      · intro s hs
        dsimp only at hs
        rw [hu] at hs
        cases hs
      · intro s s0 s1 hs
        dsimp only at s1 hs ⊢
        by_cases e : s = q.ls.length
        · subst e; rw [upd_at] at hs; cases hs
        · rw [upd_ne _ e] at hs
          simp at s1
          exact h.all s s0 (by omega) hs
      · intro s s0 s1 hs
        dsimp only at s1 hs ⊢
        by_cases e : s = q.ls.length
        · subst e; rw [upd_at] at hs; cases hs
        · rw [upd_ne _ e] at hs
          simp at s1
          rw [getD_snoc (by omega)]
          exact h.void s s0 (by omega) hs
      · have := h.sum
        simp [this]
      · simp; omega
    · rw [if_neg h0]
      have hsp := last_split (un := q.un) (by omega)
      generalize ia q.un ((q.un.length : Int) - 1) = s0 at hsp ⊢
      generalize q.un.take (q.un.length - 1) = un' at hsp ⊢
      have hnd := h.und
      rw [← hsp] at hnd
      have hnd2 := List.nodup_append.1 hnd
      obtain ⟨u0, u1, u2⟩ := h.un s0 (by rw [← hsp]; simp)
      have hne : s0 ∉ un' := fun hm => hnd2.2.2 s0 hm s0 (by simp) rfl
      refine ⟨⟨h.sorted, h.ids, h.last, ?_, ?_, ?_, h.fi, h.ni, hnd2.1, ?_, ?_, ?_, h.sum, h.len⟩, if_pos rfl, rfl, rfl, fun _ x => by omega⟩
      · intro t' s hs
        dsimp only at hs ⊢
        split at hs
        · rename_i e
          subst e
          injection hs with hs
          subst hs
          exact ⟨u0, u1, by rw [h.void _ u0 u1 u2, h.free _ hft], fun _ => rfl, upd_at _ _ _⟩
        · rename_i e
          obtain ⟨a, b, c, d, f⟩ := h.slot t' s hs
          exact ⟨a, b, c, (fun x => by cases d x), by rw [upd_ne _ (fun x => by rw [x, u2] at f; cases f)]; exact f⟩
      · intro s t' hs
        dsimp only at hs ⊢
        by_cases e : s = s0
        · subst e
          rw [upd_at] at hs
          injection hs with hs
          rw [if_pos hs.symm]
        · rw [upd_ne _ e] at hs
          have hb := h.back s t' hs
          rw [if_neg (fun x => by rw [x, hft] at hb; cases hb)]
          exact hb
      · intro t' ht
        dsimp only at ht
        split at ht
        · cases ht
        · exact h.free t' ht
      · intro s hs
        dsimp only at hs ⊢
        obtain ⟨a, b, c⟩ := h.un s (by rw [← hsp]; simp [hs])
        exact ⟨a, b, by rw [upd_ne _ (show s ≠ s0 from fun x => hne (x ▸ hs))]; exact c⟩
      · intro s a b hs
        dsimp only at b hs ⊢
        by_cases e : s = s0
        · subst e; rw [upd_at] at hs; cases hs
        · rw [upd_ne _ e] at hs
          have := h.all s a b hs
          rw [← hsp] at this
          simpa [e] using this
      · intro s a b hs
        dsimp only at b hs ⊢
        by_cases e : s = s0
        · subst e; rw [upd_at] at hs; cases hs
        · rw [upd_ne _ e] at hs
          exact h.void s a b hs
theorem find_none {E : List Evt} {j : Int} (h : ∀ e ∈ E, e.id ≠ j) : (E.find? fun e => decide (e.id = j)) = none := by
  rw [List.find?_eq_none]
  intro e he
  simpa using h e he
theorem added_inv {t s : Int} (h : QInv E (some t) q) (hs : q.ft t = some s) (d : Int) : QInv (E ++ [⟨q.last + 1, t, d⟩]) none (added q s t d) := by
  obtain ⟨a, b, c, _, f⟩ := h.slot t s hs
  unfold added
  refine ⟨?_, ?_, ?_, ?_, h.back, ?_, ?_, ?_, h.und, ?_, ?_, ?_, ?_, ?_⟩
  · refine List.pairwise_append.2 ⟨h.sorted, by simp, fun x hx y hy => ?_⟩
    simp at hy
    subst hy
    have := h.ids x hx
    dsimp only
    omega
  · intro e he
    dsimp only
    rcases List.mem_append.1 he with he | he
    · have := h.ids e he; omega
    · simp at he
      subst he
      have := h.last
      dsimp only
      omega
  · have := h.last; dsimp only; omega
  · intro t' s' hs'
    dsimp only at hs' ⊢
    obtain ⟨a', b', c', d', f'⟩ := h.slot t' s' hs'
    rw [slotOf_app, slotOf_one, getD_set (by omega), List.length_set]
    by_cases e : t = t'
    · subst e
      obtain rfl : s = s' := Option.some.inj (hs.symm.trans hs')
      refine ⟨a, b, ?_, fun x => ?_, f⟩
      · rw [if_pos rfl, if_pos rfl, c]
      · simp at x
    · have hne : s ≠ s' := fun x => e (by rw [x, f'] at f; injection f with f; exact f.symm)
      refine ⟨a', b', ?_, fun x => ?_, f'⟩
      · rw [if_neg (by omega), if_neg e, List.append_nil, c']
      · rw [if_neg e, List.append_nil] at x
        have := d' x
        injection this with this
        exact absurd this e
  · intro t' ht
    dsimp only at ht
    have e : t ≠ t' := fun x => by rw [← x, hs] at ht; cases ht
    rw [slotOf_app, slotOf_one, if_neg e, h.free t' ht]
    rfl
  · intro j
    dsimp only
    rw [List.find?_append]
    by_cases e : j = q.last + 1
    · rw [if_pos e, find_none (fun x hx => by have := h.ids x hx; omega)]
      simp [e]
    · rw [if_neg e, h.fi j]
      have : ([(⟨q.last + 1, t, d⟩ : Evt)].find? fun e => decide (e.id = j)) = none := find_none (fun x hx => by simp at hx; subst hx; dsimp only; omega)
      rw [this, Option.or_none]
  · simp [h.ni]
  · intro s' hs'
    dsimp only
    rw [List.length_set]
    exact h.un s' hs'
  · intro s' a' b' hs'
    dsimp only at b' hs' ⊢
    rw [List.length_set] at b'
    exact h.all s' a' b' hs'
  · intro s' a' b' hs'
    dsimp only at b' hs' ⊢
    rw [List.length_set] at b'
    have hne : s ≠ s' := fun x => by rw [← x, f] at hs'; cases hs'
    rw [getD_set (by omega), if_neg (by omega)]
    exact h.void s' a' b' hs'
  · dsimp only
    have := sum_set (q.ls.getD s.toNat [] ++ [(q.last + 1, d)]) (ls := q.ls) (i := s.toNat) (by omega)
    have h2 := h.sum
    simp only [List.length_append, List.length_cons, List.length_nil] at this ⊢
    omega
  · dsimp only
    rw [List.length_set]
    exact h.len
/-- An event is taken out of its slot's list. -/
def gone (q : Rep) (s id now : Int) (tl : List (Int × Int)) : Rep := { q with now := now, ls := q.ls.set s.toNat tl, fi := fun j => if j = id then none else q.fi j, ni := q.ni - 1 }
theorem removed_inv {E1 E2 : List Evt} {e : Evt} {s : Int} (h : QInv (E1 ++ e :: E2) none q) (hs : q.ft e.time = some s) (now : Int) : QInv (E1 ++ E2) (some e.time) (gone q s e.id now (slotOf (E1 ++ E2) e.time)) := by
  obtain ⟨a, b, c, _, f⟩ := h.slot _ s hs
  have hsub : (E1 ++ E2).Sublist (E1 ++ e :: E2) := List.Sublist.append_left (List.sublist_cons_self _ _) _
  have hso := List.pairwise_append.1 h.sorted
  have hso2 := List.pairwise_cons.1 hso.2.1
  have hid : ∀ x ∈ E1 ++ E2, x.id ≠ e.id := fun x hx => by
    rcases List.mem_append.1 hx with hx | hx
    · have := hso.2.2 x hx e (by simp); omega
    · have := hso2.1 x hx; omega
  have hsl : ∀ t, slotOf (E1 ++ e :: E2) t = slotOf E1 t ++ ((if e.time = t then [(e.id, e.data)] else []) ++ slotOf E2 t) := fun t => by rw [slotOf_app, slotOf_cons]
  unfold gone
  refine ⟨h.sorted.sublist hsub, fun x hx => h.ids x (hsub.subset hx), h.last, ?_, h.back, ?_, ?_, ?_, h.und, ?_, ?_, ?_, ?_, ?_⟩
  · intro t' s' hs'
    dsimp only at hs' ⊢
    obtain ⟨a', b', c', d', f'⟩ := h.slot t' s' hs'
    rw [getD_set (by omega), List.length_set]
    by_cases g : e.time = t'
    · subst g
      obtain rfl : s = s' := Option.some.inj (hs.symm.trans hs')
      exact ⟨a, b, by rw [if_pos rfl], fun _ => rfl, f⟩
    · have hne : s ≠ s' := fun x => g (by rw [x, f'] at f; injection f with f; exact f.symm)
      rw [hsl, if_neg g, List.nil_append, ← slotOf_app] at c' d'
      exact ⟨a', b', by rw [if_neg (by omega), c'], (fun x => by cases d' x), f'⟩
  · intro t' ht
    have := h.free t' ht
    rw [slotOf_none] at this ⊢
    exact fun x hx => this x (hsub.subset hx)
  · intro j
    dsimp only
    rw [h.fi j]
    by_cases g : j = e.id
    · rw [if_pos g, find_none (fun x hx => g ▸ hid x hx)]; rfl
    · rw [if_neg g, List.find?_append, List.find?_append, List.find?_cons]
      have : decide (e.id = j) = false := by simpa using fun x : e.id = j => g x.symm
      rw [this]
  · have := h.ni
    simp only [List.length_append, List.length_cons] at this ⊢
    omega
  · intro s' hs'
    dsimp only
    rw [List.length_set]
    exact h.un s' hs'
  · intro s' a' b' hs'
    dsimp only at b' hs' ⊢
    rw [List.length_set] at b'
    exact h.all s' a' b' hs'
  · intro s' a' b' hs'
    dsimp only at b' hs' ⊢
    rw [List.length_set] at b'
    have hne : s ≠ s' := fun x => by rw [← x, f] at hs'; cases hs'
    rw [getD_set (by omega), if_neg (by omega)]
    exact h.void s' a' b' hs'
  · dsimp only
    have h1 := sum_set (slotOf (E1 ++ E2) e.time) (ls := q.ls) (i := s.toNat) (by omega)
    have h2 := h.sum
    rw [c, hsl, if_pos rfl, slotOf_app] at h1
    rw [slotOf_app]
    simp only [List.length_append, List.length_cons, List.length_nil] at h1 h2 ⊢
    omega
  · dsimp only
    rw [List.length_set]
    exact h.len
theorem kept_inv {t : Int} (h : QInv E (some t) q) (hne : slotOf E t ≠ []) : QInv E none q := by
  refine { h with slot := fun t' s hs => ?_ }
  obtain ⟨a, b, c, d, f⟩ := h.slot t' s hs
  exact ⟨a, b, c, (fun x => by have := d x; injection this with this; subst this; exact absurd x hne), f⟩
theorem closed_inv {t s : Int} (h : QInv E (some t) q) (hs : q.ft t = some s) (he : slotOf E t = []) : QInv E none (closed q s t) := by
  obtain ⟨a, b, c, _, f⟩ := h.slot t s hs
  have hsu : s ∉ q.un := fun hm => by have := (h.un s hm).2.2; rw [f] at this; cases this
  unfold closed
  refine ⟨h.sorted, h.ids, h.last, ?_, ?_, ?_, h.fi, h.ni, ?_, ?_, ?_, ?_, ?_, ?_⟩
  · intro t' s' hs'
    dsimp only at hs' ⊢
    split at hs'
    · cases hs'
    · rename_i g
      obtain ⟨a', b', c', d', f'⟩ := h.slot t' s' hs'
      have hne : s' ≠ s := fun x => g (by rw [x, f] at f'; injection f' with f'; exact f'.symm)
      rw [getD_set (by omega), List.length_set, if_neg (by omega), upd_ne _ hne]
      exact ⟨a', b', c', (fun x => by have := d' x; injection this with this; exact absurd this.symm g), f'⟩
  · intro s' t' hs'
    dsimp only at hs' ⊢
    by_cases g : s' = s
    · subst g; rw [upd_at] at hs'; cases hs'
    · rw [upd_ne _ g] at hs'
      have hb := h.back s' t' hs'
      rw [if_neg (fun x => g (by rw [x, hs] at hb; injection hb with hb; exact hb.symm))]
      exact hb
  · intro t' ht
    dsimp only at ht
    split at ht
    · rename_i g; rw [g]; exact he
    · exact h.free t' ht
  · exact List.nodup_append.2 ⟨h.und, by simp, fun x hx y hy => by simp at hy; subst hy; exact fun g => hsu (g ▸ hx)⟩
  · intro s' hs'
    dsimp only at hs' ⊢
    rw [List.length_set]
    rcases List.mem_append.1 hs' with hm | hm
    · obtain ⟨x, y, z⟩ := h.un s' hm
      exact ⟨x, y, by rw [upd_ne _ (show s' ≠ s from fun g => hsu (g ▸ hm))]; exact z⟩
    · simp at hm
      subst hm
      exact ⟨a, b, upd_at _ _ _⟩
  · intro s' a' b' hs'
    dsimp only at b' hs' ⊢
    rw [List.length_set] at b'
    by_cases g : s' = s
    · simp [g]
    · rw [upd_ne _ g] at hs'
      exact List.mem_append_left _ (h.all s' a' b' hs')
  · intro s' a' b' hs'
    dsimp only at b' hs' ⊢
    rw [List.length_set] at b'
    rw [getD_set (by omega)]
    by_cases g : s' = s
    · rw [if_pos (by omega)]
    · rw [upd_ne _ g] at hs'
      rw [if_neg (by omega)]
      exact h.void s' a' b' hs'
  · dsimp only
    have h1 := sum_set ([] : List (Int × Int)) (ls := q.ls) (i := s.toNat) (by omega)
    have h2 := h.sum
    rw [c, he] at h1
    simp only [List.length_nil] at h1
    omega
  · dsimp only
    rw [List.length_set]
    exact h.len
/-- e is the first of the least time. -/
structure IsFirst (E E1 : List Evt) (e : Evt) (E2 : List Evt) : Prop where
  eq : E = E1 ++ e :: E2
  lt : ∀ a ∈ E1, e.time < a.time
  le : ∀ a ∈ E2, e.time ≤ a.time
theorem at_first {t : Int} : ∀ {E : List Evt}, slotOf E t ≠ [] → ∃ E1 e E2, E = E1 ++ e :: E2 ∧ e.time = t ∧ ∀ a ∈ E1, a.time ≠ t
  | [], h => absurd rfl h
  | x :: r, h => by
    by_cases g : x.time = t
    · exact ⟨[], x, r, rfl, g, by simp⟩
    · rw [slotOf_cons, if_neg g, List.nil_append] at h
      obtain ⟨E1, e, E2, h1, h2, h3⟩ := at_first h
      exact ⟨x :: E1, e, E2, by rw [h1]; rfl, h2, by simpa using ⟨g, h3⟩⟩
theorem QInv.first (h : QInv E none q) {i k : Int} (hp : popS 65536 q.m i k true) : ∃ E1 e E2, IsFirst E E1 e E2 ∧ e.time = k ∧ q.ft k = some i ∧ slotOf E k = (e.id, e.data) :: slotOf (E1 ++ E2) k := by
  rcases hp with ⟨x, _⟩ | ⟨_, i0, i1, hm, hmin⟩
  · cases x
  · obtain ⟨_, _, c, d⟩ := h.nonempty hm
    obtain ⟨E1, e, E2, rfl, ht, hE1⟩ := at_first d
    have hmn : ∀ a ∈ E1 ++ e :: E2, k ≤ a.time := fun a ha => by
      cases hf : q.ft a.time with
      | none => exact absurd rfl (slotOf_none.1 (h.free _ hf) a ha)
      | some s =>
        obtain ⟨s0, s1, _, _, hs⟩ := h.slot _ s hf
        have := h.len
        have := hmin s a.time s0 (by omega) hs
        omega
    refine ⟨E1, e, E2, ⟨rfl, fun a ha => ?_, fun a ha => ?_⟩, ht, h.back _ _ hm, ?_⟩
    · have := hmn a (by simp [ha]); have := hE1 a ha; omega
    · have := hmn a (by simp [ha]); omega
    · rw [slotOf_app, slotOf_cons, slotOf_app, if_pos ht, slotOf_none.2 hE1]
      rfl
theorem QInv.empty (h : QInv E p q) (hp : ∀ j : Int, 0 ≤ j → j < 65536 → q.m j = none) : E = [] := by
  cases E with
  | nil => rfl
  | cons e r =>
    exfalso
    cases hf : q.ft e.time with
    | none => exact absurd rfl (slotOf_none.1 (h.free _ hf) e (by simp))
    | some s =>
      obtain ⟨s0, s1, _, _, hs⟩ := h.slot _ s hf
      have := h.len
      rw [hp s s0 (by omega)] at hs
      cases hs
end
end Go.Proofs.Ytcekjnfdgbeekaa
