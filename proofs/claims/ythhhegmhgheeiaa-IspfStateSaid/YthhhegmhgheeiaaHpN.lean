/- The law of a binary heap, with no program in sight: an item is taken out, an item is put in, a key is changed. -/
import Derived.Test.YthhhegmhgheeiaaHpB
namespace Go.Proofs.Ythhhegmhgheeiaa
open Go.Wf
set_option linter.unusedVariables false
theorem ia_take {l : List Int} {k : Nat} {x : Int} (h0 : 0 ≤ x) (hx : x < k) : ia (l.take k) x = ia l x := by
  unfold ia
  have : x.toNat < k := by omega
  simp [List.getD_eq_getElem?_getD, this]
theorem ia_app {l r : List Int} {x : Int} (h0 : 0 ≤ x) (hx : x < l.length) : ia (l ++ r) x = ia l x := by
  unfold ia
  have : x.toNat < l.length := by omega
  simp [List.getD_eq_getElem?_getD, List.getElem?_append_left this]
theorem ia_last {l : List Int} {y : Int} : ia (l ++ [y]) l.length = y := by
  simp [ia]
section
variable {n : Nat} {K Pl O : List Int} {p : Int}
theorem less_set {i x a b : Int} (hi : 0 ≤ i ∧ i < K.length) (ha : 0 ≤ a ∧ a < K.length) (hb : 0 ≤ b ∧ b < K.length) (h1 : a ≠ i) (h2 : b ≠ i) : less (K.set i.toNat x) a b ↔ less K a b := by
  unfold less
  rw [ia_set hi ha, ia_set hi hb, if_neg (fun e => h1 e.symm), if_neg (fun e => h2 e.symm)]
theorem Inv.len_le (h : Inv n K Pl O) : O.length ≤ n := by
  have h1 : ((List.range O.length).map fun q : Nat => (ia O (q : Int)).toNat).Nodup := by
    rw [List.Nodup, List.pairwise_map]
    refine List.Pairwise.imp_of_mem ?_ List.nodup_range
    intro a b ha hb hab e
    have a1 : a < O.length := by simpa using ha
    have b1 : b < O.length := by simpa using hb
    have e1 := h.el a (by omega) (by omega)
    have e2 := h.el b (by omega) (by omega)
    have := h.inj (a := a) (b := b) (by omega) (by omega) (by omega)
    omega
  have h2 : ((List.range O.length).map fun q : Nat => (ia O (q : Int)).toNat) ⊆ List.range n := by
    intro x hx
    obtain ⟨q, hq, rfl⟩ := List.mem_map.1 hx
    have q1 : q < O.length := by simpa using hq
    have := h.el q (by omega) (by omega)
    simp; omega
  simpa using h1.length_le_of_subset h2
abbrev tkO (O : List Int) (p : Int) : List Int := (swO O p ((O.length : Int) - 1)).take (O.length - 1)
abbrev tkP (Pl O : List Int) (p : Int) : List Int := (swP Pl O p ((O.length : Int) - 1)).set (ia O p).toNat 0
abbrev tkK (K O : List Int) (p : Int) : List Int := K.set (ia O p).toNat 0
theorem tkO_len : (tkO O p).length = O.length - 1 := by simp [tkO, swO]
theorem tkO_at (hp : 0 ≤ p ∧ p < O.length) (x : Int) (h0 : 0 ≤ x) (hx : x < (O.length : Int) - 1) : ia (tkO O p) x = if x = p then ia O ((O.length : Int) - 1) else ia O x := by
  unfold tkO
  rw [ia_take h0 (by omega), swO_at hp (by omega) x h0 (by omega), if_neg (by omega)]
theorem Inv.take (h : Inv n K Pl O) (hp : 0 ≤ p ∧ p < O.length) : Inv n (tkK K O p) (tkP Pl O p) (tkO O p) ∧ ∀ i : Int, 0 ≤ i → i < n → (ia (tkP Pl O p) i = 0 ↔ (ia Pl i = 0 ∨ i = ia O p)) := by
  have b := h.el p hp.1 hp.2
  have hK := h.hK
  have hP := h.hP
  have hl : (0 : Int) ≤ (O.length : Int) - 1 ∧ (O.length : Int) - 1 < O.length := by omega
  obtain ⟨s, sz⟩ := h.swap hp hl
  have pat : ∀ i : Int, 0 ≤ i → i < n → ia (tkP Pl O p) i = if ia O p = i then 0 else ia (swP Pl O p ((O.length : Int) - 1)) i := fun i h0 hi => by
    unfold tkP
    rw [ia_set (by rw [swP_len]; omega) (by rw [swP_len]; omega)]
  have oat : ∀ x : Int, 0 ≤ x → x < (O.length : Int) - 1 → ia (tkO O p) x = ia (swO O p ((O.length : Int) - 1)) x := fun x h0 hx => ia_take h0 (by omega)
  have slast : ia (swO O p ((O.length : Int) - 1)) ((O.length : Int) - 1) = ia O p := by rw [swO_at hp hl _ hl.1 hl.2, if_pos rfl]
  have hz : ∀ i : Int, 0 ≤ i → i < n → (ia (tkP Pl O p) i = 0 ↔ (ia Pl i = 0 ∨ i = ia O p)) := fun i h0 hi => by
    rw [pat i h0 hi]
    split
    · rename_i e; simp [e]
    · rename_i e
      rw [sz i h0 hi]
      exact ⟨.inl, fun h => h.resolve_right fun e' => e e'.symm⟩
  refine ⟨⟨by simp [tkK, hK], by simp [tkP, swP, hP], fun x h0 hx => ?_, fun x h0 hx => ?_, fun i h0 hi hne => ?_, fun i h0 hi he => ?_⟩, hz⟩
  · rw [tkO_len] at hx
    rw [oat x h0 (by omega)]
    exact s.el x h0 (by rw [swO_len]; omega)
  · rw [tkO_len] at hx
    have e1 := s.el x h0 (by rw [swO_len]; omega)
    rw [oat x h0 (by omega), pat _ e1.1 e1.2, if_neg]
    · exact s.pl x h0 (by rw [swO_len]; omega)
    · intro e
      rw [← slast] at e
      have := s.inj (a := (O.length : Int) - 1) (b := x) (by rw [swO_len]; omega) (by rw [swO_len]; omega) e
      omega
  · have ne : ia O p ≠ i := fun e => by rw [pat i h0 hi, if_pos e] at hne; exact hne rfl
    rw [pat i h0 hi, if_neg ne] at hne ⊢
    obtain ⟨u1, u2, u3⟩ := s.un i h0 hi hne
    rw [swO_len] at u2
    have : ia (swP Pl O p ((O.length : Int) - 1)) i ≠ O.length := fun e => by
      rw [e, slast] at u3
      exact ne u3
    rw [tkO_len]
    refine ⟨u1, by omega, ?_⟩
    rw [oat _ (by omega) (by omega)]
    exact u3
  · unfold tkK
    rw [ia_set (by omega) (by omega)]
    split
    · rfl
    · rename_i e
      exact h.zr i h0 hi (((hz i h0 hi).1 he).resolve_right fun e' => e e'.symm)
theorem Inv.take_up (h : Inv n K Pl O) (hH : Hord K O.length (ia O)) (hp : 0 ≤ p ∧ p < O.length) : Up (tkK K O p) ((O.length : Int) - 1) (ia (tkO O p)) p := by
  have b := h.el p hp.1 hp.2
  have hK := h.hK
  have key : ∀ a b : Int, 0 ≤ a ∧ a < O.length → 0 ≤ b ∧ b < O.length → a ≠ p → b ≠ p → (less (tkK K O p) (ia O a) (ia O b) ↔ less K (ia O a) (ia O b)) := fun a c ha hc h1 h2 => by
    have e1 := h.el a ha.1 ha.2
    have e2 := h.el c hc.1 hc.2
    exact less_set (by omega) (by omega) (by omega) (fun e => h1 (h.inj ha hp e)) (fun e => h2 (h.inj hc hp e))
  refine ⟨fun q q0 ql h1 h2 => ?_, fun p0 q q0 ql hq => ?_⟩
  · have a1 : 0 ≤ par q ∧ par q < q := by unfold par; omega
    rw [tkO_at hp q (by omega) ql, if_neg h1, tkO_at hp (par q) a1.1 (by omega), if_neg h2, key q (par q) (by omega) (by omega) h1 h2]
    exact hH q q0 (by omega)
  · have a1 : 0 ≤ par p ∧ par p < p := by unfold par; omega
    have a2 : p < q := by subst hq; unfold par; omega
    rw [tkO_at hp q (by omega) ql, if_neg (by omega), tkO_at hp (par p) a1.1 (by omega), if_neg (by omega), key q (par p) (by omega) (by omega) (by omega) (by omega)]
    have e1 := hH q q0 (by omega)
    rw [hq] at e1
    exact less_trans e1 (hH p p0 hp.2)
theorem Inv.take_hord (h : Inv n K Pl O) (hH : Hord K O.length (ia O)) (hp : 0 ≤ p ∧ p < O.length) (hlast : p = (O.length : Int) - 1) : Hord (tkK K O p) ((O.length : Int) - 1) (ia (tkO O p)) := by
  have h1 := (h.take_up hH hp).1
  intro q q0 ql
  have a1 : 0 ≤ par q ∧ par q < q := by unfold par; omega
  exact h1 q q0 ql (by omega) (by omega)
/-- A new item. -/
theorem Inv.push (h : Inv n K Pl O) {i k : Int} (hi : 0 ≤ i ∧ i < n) (hz : ia Pl i = 0) : Inv n (K.set i.toNat k) (Pl.set i.toNat (O.length + 1)) (O ++ [i]) := by
  have hK := h.hK
  have hP := h.hP
  have nin : ∀ x : Int, 0 ≤ x → x < O.length → ia O x ≠ i := fun x h0 hx e => by
    have := h.pl x h0 hx
    rw [e] at this; omega
  have lastx : ia (O ++ [i]) O.length = i := ia_last
  refine ⟨by simp [hK], by simp [hP], fun x h0 hx => ?_, fun x h0 hx => ?_, fun j h0 hj hne => ?_, fun j h0 hj he => ?_⟩
  · simp at hx
    by_cases e : x = O.length
    · rw [e, lastx]; exact hi
    · rw [ia_app h0 (by omega)]; exact h.el x h0 (by omega)
  · simp at hx
    by_cases e : x = O.length
    · rw [e, lastx, ia_set (by omega) (by omega), if_pos rfl]
    · rw [ia_app h0 (by omega)]
      have e1 := h.el x h0 (by omega)
      rw [ia_set (by omega) (by omega), if_neg (fun e => nin x h0 (by omega) e.symm)]
      exact h.pl x h0 (by omega)
  · rw [ia_set (by omega) (by omega)] at hne ⊢
    split
    · rename_i e
      refine ⟨by omega, by simp, ?_⟩
      rw [show (O.length : Int) + 1 - 1 = O.length by omega, lastx, e]
    · rename_i e
      rw [if_neg e] at hne
      obtain ⟨u1, u2, u3⟩ := h.un j h0 hj hne
      refine ⟨u1, by simp; omega, ?_⟩
      rw [ia_app (by omega) (by omega)]
      exact u3
  · rw [ia_set (by omega) (by omega)] at he ⊢
    split
    · rename_i e; rw [if_pos e] at he; omega
    · rename_i e; rw [if_neg e] at he; exact h.zr j h0 hj he
theorem Inv.push_up (h : Inv n K Pl O) (hH : Hord K O.length (ia O)) {i k : Int} (hi : 0 ≤ i ∧ i < n) (hz : ia Pl i = 0) : Up (K.set i.toNat k) ((O.length : Int) + 1) (ia (O ++ [i])) O.length := by
  have hK := h.hK
  have nin : ∀ x : Int, 0 ≤ x → x < O.length → ia O x ≠ i := fun x h0 hx e => by
    have := h.pl x h0 hx
    rw [e] at this; omega
  refine ⟨fun q q0 ql h1 h2 => ?_, fun p0 q q0 ql hq => ?_⟩
  · have a1 : 0 ≤ par q ∧ par q < q := by unfold par; omega
    have e1 := h.el q (by omega) (by omega)
    have e2 := h.el (par q) (by omega) (by omega)
    rw [ia_app (by omega) (by omega), ia_app (by omega) (by omega), less_set (by omega) (by omega) (by omega) (nin q (by omega) (by omega)) (nin _ (by omega) (by omega))]
    exact hH q q0 (by omega)
  · exfalso; unfold par at hq; omega
/-- Another key of an item that is held. -/
theorem Inv.rekey (h : Inv n K Pl O) {i k : Int} (hi : 0 ≤ i ∧ i < n) (hz : ia Pl i ≠ 0) : Inv n (K.set i.toNat k) Pl O := by
  have hK := h.hK
  refine ⟨by simp [hK], h.hP, h.el, h.pl, h.un, fun j h0 hj he => ?_⟩
  rw [ia_set (by omega) (by omega), if_neg (fun e => hz (by rw [e]; exact he))]
  exact h.zr j h0 hj he
theorem Inv.rekey_up (h : Inv n K Pl O) (hH : Hord K O.length (ia O)) {i k : Int} (hi : 0 ≤ i ∧ i < n) (hz : ia Pl i ≠ 0) : Up (K.set i.toNat k) O.length (ia O) (ia Pl i - 1) := by
  have hK := h.hK
  obtain ⟨u1, u2, u3⟩ := h.un i hi.1 hi.2 hz
  have nin : ∀ x : Int, 0 ≤ x → x < O.length → x ≠ ia Pl i - 1 → ia O x ≠ i := fun x h0 hx hne e => by
    have := h.pl x h0 hx
    rw [e] at this; omega
  refine ⟨fun q q0 ql h1 h2 => ?_, fun p0 q q0 ql hq => ?_⟩
  · have a1 : 0 ≤ par q ∧ par q < q := by unfold par; omega
    have e1 := h.el q (by omega) (by omega)
    have e2 := h.el (par q) (by omega) (by omega)
    rw [less_set (by omega) (by omega) (by omega) (nin q (by omega) (by omega) h1) (nin _ (by omega) (by omega) h2)]
    exact hH q q0 (by omega)
  · have a1 : 0 ≤ par (ia Pl i - 1) ∧ par (ia Pl i - 1) < ia Pl i - 1 := by unfold par; omega
    have a2 : ia Pl i - 1 < q := by rw [← hq]; unfold par; omega
    have e1 := h.el q (by omega) (by omega)
    have e2 := h.el (par (ia Pl i - 1)) (by omega) (by omega)
    rw [less_set (by omega) (by omega) (by omega) (nin q (by omega) (by omega) (by omega)) (nin _ (by omega) (by omega) (by omega))]
    have e3 := hH q q0 (by omega)
    rw [hq] at e3
    exact less_trans e3 (hH _ p0 (by omega))
end
end Go.Proofs.Ythhhegmhgheeiaa
