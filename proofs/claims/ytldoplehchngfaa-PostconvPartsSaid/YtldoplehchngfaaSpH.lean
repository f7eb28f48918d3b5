/- First shortest paths: what Path returns, read from memory. -/
import Derived.Test.YtldoplehchngfaaSpP
import Derived.Test.YtldoplehchngfaaCore6
namespace Go.Proofs.Ytldoplehchngfaa
open Go.Wf
set_option linter.unusedVariables false
section
variable {tp : Top} {dn : List Bool} {s d : Int} {l p q : List Int} {v v' : Value} {er er' : Int} {A A' : List Blk}
theorem FP.len (ht : tp.Ok) {D : Int → Int} : ∀ {p : List Int} {x : Int}, FP tp dn d D x p → 0 ≤ D x → (p.length : Int) ≤ D x
  | [], x, h, h0 => h0
  | a :: r, x, ⟨h1, h2, ⟨h3, h4⟩, h5, h6⟩, h0 => by
    have hl := OnA.less ht h2 h4
    have := FP.len ht h6 hl.1
    rw [h3] at hl
    rw [List.length_cons]
    omega
theorem PathS.len (ht : tp.Ok) (hl : DL tp.n d (GD tp dn d) l) (hs : 0 ≤ s ∧ s < tp.n) (h : PathS tp dn s d l p v er A) : p.length ≤ 4194240 := by
  rcases h with ⟨_, rfl, _⟩ | ⟨h0, _, hf, _⟩
  · decide
  · have := FP.len ht hf h0
    have := Bell.bound (GD.ok ht) (GD.cap ht) (by decide) hl.bell s hs.1 hs.2
    have := ht.n
    omega
theorem PathS.read {w0 w : World} {S : List Nat} {L : List Blk} (h : PathS tp dn s d l p v er A) (H : St w0 S w L) (hm : ∀ x ∈ A, x ∈ L) : RdV w v (ints p) := by
  rcases h with ⟨_, rfl, rfl, _⟩ | ⟨_, _, _, hS⟩
  · exact RdV.nil w
  · exact rds H hS hm
theorem PathS.one (h : PathS tp dn s d l p v er A) (h' : PathS tp dn s d l q v' er' A') : p = q ∧ er = er' := by
  rcases h with ⟨h0, rfl, _, rfl, _⟩ | ⟨h0, rfl, hf, _⟩
  · rcases h' with ⟨_, rfl, _, rfl, _⟩ | ⟨h1, _⟩
    · exact ⟨rfl, rfl⟩
    · omega
  · rcases h' with ⟨h1, _⟩ | ⟨_, rfl, hf', _⟩
    · omega
    · exact ⟨FP.one hf hf', rfl⟩
end
theorem chk_all {tp : Top} {dn : List Bool} {s d : Int} (h : chk tp dn [s, d] = 0) : tp.Ok ∧ Fit tp dn ∧ (0 ≤ s ∧ s < tp.n) ∧ (0 ≤ d ∧ d < tp.n) := by
  obtain ⟨ht, hf, hr⟩ := chk_zero h
  exact ⟨ht, hf, hr s (by simp), hr d (by simp)⟩
/-- The end of a list of numbers that is only read. -/
theorem rd_drop {w : World} {b cap : Nat} {l : List Int} (h : RdV w (.slice (some ⟨b, 0, none⟩) l.length cap) (ints l)) (j : Nat) (hj : j ≤ l.length) (hc : l.length ≤ cap) : RdV w (.slice (some ⟨b, if cap = j then 0 else 0 + j * 1, none⟩) (l.length - j) (cap - j)) (ints (l.drop j)) := by
  obtain ⟨ad, c, e, hr⟩ := h
  injection e with e _ _
  subst e
  refine ⟨_, _, by rw [ints_len, List.length_drop], fun i u hi => ⟨b, _, rfl, ?_⟩⟩
  have hi' : (ints l)[j + i]? = some u := by
    have : ints (l.drop j) = (ints l).drop j := by simp [ints, List.map_drop]
    rw [this, List.getElem?_drop] at hi
    exact hi
  have hlt : j + i < l.length := by
    have := (List.getElem?_eq_some_iff.mp hi').1
    rwa [ints_len] at this
  rw [if_neg (by omega)]
  obtain ⟨b', o', e, h2⟩ := hr _ _ hi'
  injection e with e
  injection e with e1 e2 _
  subst e1 e2
  simpa using h2
theorem PathS.shape {tp : Top} {dn : List Bool} {s d : Int} {l p : List Int} {v : Value} {er : Int} {A : List Blk} (h : PathS tp dn s d l p v er A) : ∃ ad cp, v = .slice ad p.length cp := by
  rcases h with ⟨_, rfl, rfl, _⟩ | ⟨_, _, _, hS⟩
  · exact ⟨none, 0, rfl⟩
  · exact hS.shape
theorem PathS.same {tp : Top} {dn : List Bool} {s d : Int} {l p q : List Int} {v : Value} {er : Int} {A : List Blk} {c : Int} (h : PathS tp dn s d l p v er A) (hf : FP tp dn d (ia l) s q) (h0 : 0 ≤ c ∧ c < ia l s) : q = p ∧ 0 = er := by
  rcases h with ⟨h1, _⟩ | ⟨_, he, hf', _⟩
  · omega
  · exact ⟨FP.one hf hf', he.symm⟩
theorem FP.on {tp : Top} {dn : List Bool} {d : Int} {D : Int → Int} {x a : Int} {r : List Int} (h : FP tp dn d D x (a :: r)) : OnA tp dn d D a := h.2.2.1.2
end Go.Proofs.Ytldoplehchngfaa
