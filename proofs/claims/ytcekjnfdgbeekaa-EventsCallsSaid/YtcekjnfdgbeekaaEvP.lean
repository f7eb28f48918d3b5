/- Maps of integers, by what they hold. -/
import Derived.Test.YtcekjnfdgbeekaaCore5
namespace Go.Proofs.Ytcekjnfdgbeekaa
open Go.Wf
set_option linter.unusedVariables false
def mkeys (l : List (Int × Int × Nat)) : List Int := l.map (·.1)
theorem mfind_none {l : List (Int × Int × Nat)} {k : Int} : mfind l k = none ↔ k ∉ mkeys l := by
  induction l with
  | nil => simp [mfind, mkeys]
  | cons p r ih =>
    unfold mfind
    by_cases e : p.1 = k
    · rw [if_pos e]
      simp [mkeys, e]
    · rw [if_neg e]
      simp only [mkeys, List.map_cons, List.mem_cons, not_or] at ih ⊢
      cases hm : mfind r k with
      | none => simp [ih.1 hm]; exact fun h => e h.symm
      | some q =>
        have : ¬ k ∉ List.map (fun x => x.1) r := fun h => by rw [ih.2 h] at hm; cases hm
        exact ⟨fun h => by simp at h, fun h => absurd h.2 this⟩
theorem mget_cons (p : Int × Int × Nat) (r : List (Int × Int × Nat)) (j : Int) : mget (p :: r) j = if p.1 = j then some p.2.1 else mget r j := by
  unfold mget
  rw [mfind]
  by_cases e : p.1 = j
  · rw [if_pos e, if_pos e]; rfl
  · rw [if_neg e, if_neg e]
    cases mfind r j <;> rfl
theorem mget_none {l : List (Int × Int × Nat)} {k : Int} : mget l k = none ↔ k ∉ mkeys l := by
  rw [← mfind_none]
  unfold mget
  cases mfind l k <;> simp
theorem mget_app (l : List (Int × Int × Nat)) (p : Int × Int × Nat) (j : Int) (h : p.1 ∉ mkeys l) : mget (l ++ [p]) j = if p.1 = j then some p.2.1 else mget l j := by
  induction l with
  | nil => rw [List.nil_append, mget_cons]
  | cons q r ih =>
    simp only [mkeys, List.map_cons, List.mem_cons, not_or] at h
    rw [List.cons_append, mget_cons, mget_cons, ih h.2]
    by_cases e : q.1 = j
    · rw [if_pos e, if_pos e, if_neg (by intro e2; exact h.1 (e2.trans e.symm))]
    · rw [if_neg e, if_neg e]
theorem mput_none {l : List (Int × Int × Nat)} {c : Nat} {k v : Int} (h : k ∉ mkeys l) : mput l c k v = l ++ [(k, v, c)] := by
  unfold mput
  rw [mfind_none.2 h]
theorem mdel_cons (p : Int × Int × Nat) (r : List (Int × Int × Nat)) (k : Int) : mdel (p :: r) k = if p.1 = k then r else p :: mdel r k := by
  unfold mdel
  rw [mfind]
  by_cases e : p.1 = k
  · rw [if_pos e, if_pos e]; rfl
  · rw [if_neg e, if_neg e]
    cases mfind r k with
    | none => rfl
    | some q => rfl
theorem mget_del {l : List (Int × Int × Nat)} {k : Int} (hd : (mkeys l).Nodup) (j : Int) : mget (mdel l k) j = if j = k then none else mget l j := by
  induction l with
  | nil =>
    have : mdel ([] : List (Int × Int × Nat)) k = [] := rfl
    rw [this]
    split <;> rfl
  | cons p r ih =>
    simp only [mkeys, List.map_cons, List.nodup_cons] at hd
    rw [mdel_cons]
    by_cases e : p.1 = k
    · rw [if_pos e, mget_cons]
      by_cases e2 : j = k
      · rw [if_pos e2, mget_none.2 (by rw [e2, ← e]; exact hd.1)]
      · rw [if_neg e2, if_neg (by omega)]
    · rw [if_neg e, mget_cons, mget_cons, ih hd.2]
      by_cases e2 : p.1 = j
      · rw [if_pos e2, if_pos e2, if_neg (by omega)]
      · rw [if_neg e2, if_neg e2]
theorem mkeys_del {l : List (Int × Int × Nat)} {k : Int} : (mkeys (mdel l k)).Sublist (mkeys l) := by
  induction l with
  | nil => exact List.Sublist.refl _
  | cons p r ih =>
    rw [mdel_cons]
    split
    · exact List.sublist_cons_self _ _
    · exact List.Sublist.cons_cons _ ih
theorem mdel_len {l : List (Int × Int × Nat)} {k : Int} (h : k ∈ mkeys l) : (mdel l k).length + 1 = l.length := by
  induction l with
  | nil => simp [mkeys] at h
  | cons p r ih =>
    rw [mdel_cons]
    by_cases e : p.1 = k
    · rw [if_pos e]; rfl
    · rw [if_neg e]
      simp only [mkeys, List.map_cons, List.mem_cons] at h
      simp only [List.length_cons]
      rw [ih (h.resolve_left fun h => e h.symm)]
/-- A map by what it holds: f says the values, n how many. -/
structure MapA (l : List (Int × Int × Nat)) (f : Int → Option Int) (n : Nat) : Prop where
  nd : (mkeys l).Nodup
  get : ∀ k, mget l k = f k
  len : l.length = n
theorem MapA.zero : MapA [] (fun _ => none) 0 := ⟨List.nodup_nil, fun _ => rfl, rfl⟩
theorem MapA.put {l f n} (h : MapA l f n) {k v : Int} (c : Nat) (hk : f k = none) : MapA (mput l c k v) (fun j => if j = k then some v else f j) (n + 1) := by
  have hn := mget_none.1 ((h.get k).trans hk)
  rw [mput_none hn]
  refine ⟨?_, fun j => ?_, by simp [h.len]⟩
  · simp only [mkeys, List.map_append, List.map_cons, List.map_nil]
    exact List.nodup_append.2 ⟨h.nd, by simp, fun a ha b hb => by simp at hb; rintro rfl; rw [hb] at ha; exact hn ha⟩
  · rw [mget_app _ _ _ hn, h.get]
    by_cases e : k = j
    · rw [if_pos e, if_pos e.symm]
    · rw [if_neg e, if_neg (fun h => e h.symm)]
theorem MapA.del {l f n} (h : MapA l f (n + 1)) {k : Int} (hk : (f k).isSome = true) : MapA (mdel l k) (fun j => if j = k then none else f j) n := by
  have hm : k ∈ mkeys l := by
    refine Decidable.byContradiction fun hn => ?_
    rw [← h.get, mget_none.2 hn] at hk
    cases hk
  refine ⟨h.nd.sublist mkeys_del, fun j => ?_, by have := mdel_len hm; have := h.len; omega⟩
  rw [mget_del h.nd, h.get]
end Go.Proofs.Ytcekjnfdgbeekaa
