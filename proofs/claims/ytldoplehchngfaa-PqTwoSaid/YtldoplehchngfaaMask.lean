/- Masks: one more arc goes down; masks that the program made. -/
import Derived.Test.YtldoplehchngfaaSpT
import Derived.Test.YtldoplehchngfaaCore9
namespace Go.Proofs.Ytldoplehchngfaa
open Go.Wf
set_option linter.unusedVariables false
/-- Where no arc of a shortest path goes down, the distances stay. -/
theorem Bell.less {T : Top} {dn dn2 : List Bool} {d : Int} {D : Int → Int} (hb : Bell T.n d (GD T dn d) D) (hm : ∀ b, 0 ≤ b → b < T.arcs → ba dn2 b = false → ba dn b = false) (hno : ∀ b, 0 ≤ b → b < T.arcs → OnA T dn d D b → ba dn2 b = false) : Bell T.n d (GD T dn2 d) D := by
  refine ⟨hb.root, hb.neg, fun x y c ⟨a, ha, h1, h⟩ => hb.le x y c ⟨a, ha, hm a ha.1 ha.2 h1, h⟩, fun x x0 x1 hx hx0 => ?_⟩
  obtain ⟨y, c, ⟨a, ha, h1, h2, h3, h4, h5⟩, hy, he⟩ := hb.ex x x0 x1 hx hx0
  refine ⟨y, c, ⟨a, ha, hno a ha.1 ha.2 ⟨h1, ?_, ?_, ?_, ?_⟩, h2, h3, h4, h5⟩, hy, he⟩
  · rw [← h3]; exact hx
  · rw [← h4]; exact hy
  · rw [← h4]; exact h2
  · rw [← h3, ← h4, ← h5]; exact he
theorem ba_set {l : List Bool} {a b : Int} {v : Bool} (ha : 0 ≤ a ∧ a < l.length) (hb : 0 ≤ b) : ba (l.set a.toNat v) b = if b = a then v else ba l b := by
  unfold ba
  rw [List.getD_eq_getElem?_getD, List.getD_eq_getElem?_getD, List.getElem?_set]
  by_cases e : b = a
  · subst e
    rw [if_pos rfl, if_pos rfl, if_pos (by omega)]
    rfl
  · rw [if_neg (by omega), if_neg e]
theorem ba_rep (k : Nat) (b : Int) : ba (List.replicate k false) b = false := by
  unfold ba
  rw [List.getD_eq_getElem?_getD, List.getElem?_replicate]
  split <;> rfl
theorem ba_cpB {k : Nat} {dn : List Bool} (b : Int) : ba (cpB (List.replicate k false) dn) b = ba dn b := by
  unfold cpB
  by_cases h : dn.length = 0
  · rw [if_pos h, ba_rep, List.length_eq_zero_iff.1 h]
    simp [ba]
  · rw [if_neg h]
theorem cpB_len {k : Nat} {dn : List Bool} (h : dn.length = 0 ∨ dn.length = k) : (cpB (List.replicate k false) dn).length = k := by
  unfold cpB
  split
  · simp
  · rename_i h0; exact h.resolve_left h0
theorem rdb {w0 w : World} {S : List Nat} {L : List Blk} (H : St w0 S w L) {b E k : Nat} {l : List Bool} (hb : (b, Obj.cells (bools l).toArray E) ∈ L) (hk : l.length = k) : RdV w (.slice (some ⟨b, 0, none⟩) k k) (bools l) := by
  have := RdV.of_lit (vs := bools l) (H.get hb)
  rwa [bools_len, hk] at this
end Go.Proofs.Ytldoplehchngfaa
