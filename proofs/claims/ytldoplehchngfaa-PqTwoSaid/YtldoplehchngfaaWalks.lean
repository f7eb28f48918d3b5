/- Paths as lists of arcs: one more arc, the same path has one end and one cost. No program in sight. -/
import Derived.Test.YtldoplehchngfaaTopo
namespace Go.Proofs.Ytldoplehchngfaa
open Go.Wf
set_option linter.unusedVariables false
section
variable {T : Top} {dn : List Bool}
theorem ba_nil (a : Int) : ba [] a = false := by simp [ba]
theorem Walk.snoc {a : Int} (ha : 0 ≤ a ∧ a < T.arcs) : ∀ {p : List Int} {s x c : Int}, Walk T [] s p x c → T.tl a = x → (p ≠ [] → T.over x = false) → Walk T [] s (p ++ [a]) (T.hd a) (c + T.co a)
  | [], s, x, c, h, ht, ho => by
    obtain ⟨rfl, rfl⟩ := h
    exact ⟨ha, ba_nil a, ht, fun h => absurd rfl h, 0, by omega, rfl, rfl⟩
  | b :: r, s, x, c, ⟨h1, h2, h3, h4, c', h5, h6⟩, ht, ho => by
    refine ⟨h1, h2, h3, fun _ => ?_, c' + T.co a, by omega, Walk.snoc ha h6 ht (fun _ => ho (by simp))⟩
    cases r with
    | nil =>
      obtain ⟨e, _⟩ := h6
      rw [e]
      exact ho (by simp)
    | cons d r => exact h4 (by simp)
theorem Walk.at : ∀ {p : List Int} {s y c : Int} {i : Nat} {a : Int}, Walk T dn s p y c → p[i]? = some a → ∀ {x c' : Int}, Walk T dn s (p.take i) x c' → (0 ≤ a ∧ a < T.arcs) ∧ T.tl a = x ∧ (0 < i → T.over x = false)
  | [], s, y, c, i, a, h, hi, x, c', hx => by simp at hi
  | b :: r, s, y, c, 0, a, ⟨h1, h2, h3, h4, _⟩, hi, x, c', hx => by
    obtain rfl : b = a := by simpa using hi
    obtain ⟨e, _⟩ := hx
    exact ⟨h1, h3.trans e, fun h => absurd h (by decide)⟩
  | b :: r, s, y, c, i + 1, a, ⟨h1, h2, h3, h4, c1, _, h6⟩, hi, x, c', hx => by
    obtain ⟨_, _, _, _, c2, _, hx6⟩ := hx
    have hi' : r[i]? = some a := by simpa using hi
    obtain ⟨g1, g2, g3⟩ := Walk.at h6 hi' hx6
    refine ⟨g1, g2, fun _ => ?_⟩
    cases i with
    | zero =>
      obtain ⟨e, _⟩ := hx6
      rw [← e]
      exact h4 (by rintro rfl; simp at hi')
    | succ i => exact g3 (by omega)
theorem Walk.det : ∀ {p : List Int} {s y c y' c' : Int}, Walk T dn s p y c → Walk T dn s p y' c' → y = y' ∧ c = c'
  | [], s, y, c, y', c', h, h' => ⟨h.1.symm.trans h'.1, h.2.trans h'.2.symm⟩
  | b :: r, s, y, c, y', c', ⟨_, _, _, _, c1, e1, h⟩, ⟨_, _, _, _, c2, e2, h'⟩ => by
    obtain ⟨p, q⟩ := Walk.det h h'
    exact ⟨p, by omega⟩
theorem Walk.up : ∀ {p : List Int} {s y c : Int}, Walk T dn s p y c → Walk T [] s p y c
  | [], s, y, c, h => h
  | b :: r, s, y, c, ⟨h1, h2, h3, h4, c1, e1, h⟩ => ⟨h1, ba_nil b, h3, h4, c1, e1, Walk.up h⟩
theorem Walk.mask : ∀ {p : List Int} {s y c : Int}, Walk T [] s p y c → (∀ a ∈ p, ba dn a = false) → Walk T dn s p y c
  | [], s, y, c, h, _ => h
  | b :: r, s, y, c, ⟨h1, h2, h3, h4, c1, e1, h⟩, hu => ⟨h1, hu b (by simp), h3, h4, c1, e1, Walk.mask h (fun a ha => hu a (by simp [ha]))⟩
theorem Walk.arc : ∀ {p : List Int} {s y c : Int}, Walk T dn s p y c → ∀ a ∈ p, 0 ≤ a ∧ a < T.arcs
  | [], s, y, c, h, a, ha => by simp at ha
  | b :: r, s, y, c, ⟨h1, h2, h3, h4, c1, e1, h⟩, a, ha => by
    rcases List.mem_cons.1 ha with rfl | ha
    · exact h1
    · exact Walk.arc h a ha
end
theorem take_next {l : List Int} {i : Int} (h0 : 0 ≤ i) (h1 : i < l.length) : l.take (i + 1).toNat = l.take i.toNat ++ [ia l i] := by
  rw [show (i + 1).toNat = i.toNat + 1 by omega, List.take_add_one, List.getElem?_eq_getElem (by omega)]
  unfold ia
  rw [List.getD_eq_getElem?_getD, List.getElem?_eq_getElem (by omega)]
  rfl
theorem ia_some {l : List Int} {i : Int} (h0 : 0 ≤ i) (h1 : i < l.length) : l[i.toNat]? = some (ia l i) := by
  unfold ia
  rw [List.getD_eq_getElem?_getD, List.getElem?_eq_getElem (by omega)]
  rfl
end Go.Proofs.Ytldoplehchngfaa
