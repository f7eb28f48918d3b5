/- Shortest paths: what distances are (each node's distance is the least over its arcs), that there is one answer, and the search by a heap. No program in sight. -/
import Derived.Test.YthhhegmhgheeiaaHpD
namespace Go.Proofs.Ythhhegmhgheeiaa
open Go.Wf
set_option linter.unusedVariables false
/-- 'G x y c': x reaches y over an arc at the cost c. -/
abbrev Gr := Int → Int → Int → Prop
structure GOK (n : Int) (G : Gr) : Prop where
  ok : ∀ x y c, G x y c → (0 ≤ x ∧ x < n) ∧ (0 ≤ y ∧ y < n) ∧ 1 ≤ c
structure Bell (n d : Int) (G : Gr) (D : Int → Int) : Prop where
  root : D d = 0
  neg : ∀ x, 0 ≤ x → x < n → -1 ≤ D x
  le : ∀ x y c, G x y c → 0 ≤ D y → 0 ≤ D x ∧ D x ≤ D y + c
  ex : ∀ x, 0 ≤ x → x < n → x ≠ d → 0 ≤ D x → ∃ y c, G x y c ∧ 0 ≤ D y ∧ D x = D y + c
section
variable {n d : Int} {G G' : Gr} {D D' : Int → Int}
/-- Fewer arcs make no distance shorter. -/
theorem Bell.mono (hk : GOK n G') (hs : ∀ x y c, G' x y c → G x y c) (h : Bell n d G D) (h' : Bell n d G' D') : ∀ x, 0 ≤ x → x < n → 0 ≤ D' x → 0 ≤ D x ∧ D x ≤ D' x := by
  have key : ∀ N : Nat, ∀ x, 0 ≤ x → x < n → 0 ≤ D' x → (D' x).toNat = N → 0 ≤ D x ∧ D x ≤ D' x := by
    intro N
    induction N using Nat.strongRecOn with
    | _ N ih =>
      intro x x0 x1 hx hN
      by_cases hd : x = d
      · subst hd; rw [h.root, h'.root]; omega
      · obtain ⟨y, c, hg, hy, he⟩ := h'.ex x x0 x1 hd hx
        obtain ⟨_, hyn, hc⟩ := hk.ok x y c hg
        obtain ⟨a, b⟩ := ih (D' y).toNat (by omega) y hyn.1 hyn.2 hy rfl
        have := h.le x y c (hs x y c hg) a
        omega
  exact fun x x0 x1 hx => key _ x x0 x1 hx rfl
/-- There is one answer. -/
theorem Bell.one (hk : GOK n G) (h : Bell n d G D) (h' : Bell n d G D') : ∀ x, 0 ≤ x → x < n → D x = D' x := fun x x0 x1 => by
  have a := h.neg x x0 x1
  have b := h'.neg x x0 x1
  have p := Bell.mono hk (fun _ _ _ h => h) h h' x x0 x1
  have q := Bell.mono hk (fun _ _ _ h => h) h' h x x0 x1
  by_cases h1 : 0 ≤ D x
  · have := q h1; have := p (by omega); omega
  · by_cases h2 : 0 ≤ D' x
    · have := p h2; omega
    · omega
theorem Bell.congr {G2 : Gr} {D2 : Int → Int} (h : Bell n d G D) (hk : GOK n G) (hd : 0 ≤ d ∧ d < n) (hG : ∀ x y c, G2 x y c ↔ G x y c) (hD : ∀ x, 0 ≤ x → x < n → D2 x = D x) : Bell n d G2 D2 := by
  refine ⟨by rw [hD d hd.1 hd.2]; exact h.root, fun x x0 x1 => by rw [hD x x0 x1]; exact h.neg x x0 x1, fun x y c hg hy => ?_, fun x x0 x1 hx hx2 => ?_⟩
  · have hg' := (hG x y c).1 hg
    obtain ⟨a, b, _⟩ := hk.ok x y c hg'
    rw [hD y b.1 b.2] at hy ⊢
    rw [hD x a.1 a.2]
    exact h.le x y c hg' hy
  · rw [hD x x0 x1] at hx2 ⊢
    obtain ⟨y, c, hg, hy, he⟩ := h.ex x x0 x1 hx hx2
    obtain ⟨_, b, _⟩ := hk.ok x y c hg
    exact ⟨y, c, (hG x y c).2 hg, by rw [hD y b.1 b.2]; exact hy, by rw [hD y b.1 b.2]; exact he⟩
end
/-! ### The search: D has the distances that are known for good, m the offers, P are the arcs that were looked at, top the last distance. -/
structure Dij (n d : Int) (G : Gr) (P : Gr) (top : Int) (D : Int → Int) (m : Int → Option Int) : Prop where
  neg : ∀ x, 0 ≤ x → x < n → -1 ≤ D x
  top0 : 0 ≤ top
  dom : ∀ x k, 0 ≤ x → x < n → m x = some k → D x = -1 ∧ top ≤ k
  low : ∀ x, 0 ≤ x → x < n → D x ≤ top
  rel : ∀ x y c, G x y c → P x y c → (0 ≤ D x ∧ D x ≤ D y + c) ∨ ∃ k, m x = some k ∧ k ≤ D y + c
  src : ∀ x k, 0 ≤ x → x < n → m x = some k → (x = d ∧ k = 0) ∨ ∃ y c, G x y c ∧ 0 ≤ D y ∧ k = D y + c
  ex : ∀ x, 0 ≤ x → x < n → x ≠ d → 0 ≤ D x → ∃ y c, G x y c ∧ 0 ≤ D y ∧ D x = D y + c
  root : D d = 0 ∨ (m d = some 0 ∧ ∀ x, 0 ≤ x → x < n → D x = -1 ∧ (x ≠ d → m x = none))
section
variable {n d top : Int} {G P : Gr} {D : Int → Int} {m : Int → Option Int}
/-- The arcs whose ends are known. -/
def Known (D : Int → Int) : Gr := fun _ y _ => 0 ≤ D y
theorem Dij.start (hk : GOK n G) (hd : 0 ≤ d ∧ d < n) (hD : ∀ x, 0 ≤ x → x < n → D x = -1) : Dij n d G (Known D) 0 D (upd (fun _ => none) d (some 0)) := by
  refine ⟨fun x a b => by rw [hD x a b]; omega, by omega, fun x k a b h => ?_, fun x a b => by rw [hD x a b]; omega, fun x y c hg h => ?_, fun x k _ _ h => ?_, fun x a b _ h => by rw [hD x a b] at h; omega, .inr ⟨if_pos rfl, fun x a b => ⟨hD x a b, fun h => if_neg h⟩⟩⟩
  · rw [hD x a b]
    unfold upd at h
    split at h
    · injection h with h; omega
    · cases h
  · obtain ⟨_, b, _⟩ := hk.ok x y c hg
    unfold Known at h
    rw [hD y b.1 b.2] at h
    omega
  · unfold upd at h
    split at h
    · rename_i e
      injection h with h
      exact .inl ⟨e, h.symm⟩
    · cases h
theorem Dij.congr {D2 : Int → Int} (hk : GOK n G) (hd : 0 ≤ d ∧ d < n) (h : Dij n d G P top D m) (hD : ∀ x, 0 ≤ x → x < n → D2 x = D x) : Dij n d G P top D2 m := by
  refine ⟨fun x a b => by rw [hD x a b]; exact h.neg x a b, h.top0, fun x k a b hm => by rw [hD x a b]; exact h.dom x k a b hm, fun x a b => by rw [hD x a b]; exact h.low x a b, fun x y c hg hp => ?_, fun x k a b hm => ?_, fun x a b hx hx0 => ?_, ?_⟩
  · obtain ⟨p, q, _⟩ := hk.ok x y c hg
    rw [hD x p.1 p.2, hD y q.1 q.2]
    exact h.rel x y c hg hp
  · rcases h.src x k a b hm with e | ⟨y, c, hg, e1, e2⟩
    · exact .inl e
    · obtain ⟨_, q, _⟩ := hk.ok x y c hg
      exact .inr ⟨y, c, hg, by rw [hD y q.1 q.2]; exact e1, by rw [hD y q.1 q.2]; exact e2⟩
  · rw [hD x a b] at hx0 ⊢
    obtain ⟨y, c, hg, e1, e2⟩ := h.ex x a b hx hx0
    obtain ⟨_, q, _⟩ := hk.ok x y c hg
    exact ⟨y, c, hg, by rw [hD y q.1 q.2]; exact e1, by rw [hD y q.1 q.2]; exact e2⟩
  · rw [hD d hd.1 hd.2]
    rcases h.root with e | ⟨e, f⟩
    · exact .inl e
    · exact .inr ⟨e, fun x a b => by rw [hD x a b]; exact f x a b⟩
/-- An offer is one arc's cost above what is known. -/
theorem Dij.key_le {C : Int} (hC : ∀ x y c, G x y c → c ≤ C) (hC0 : 0 ≤ C) (hk : GOK n G) (h : Dij n d G P top D m) {x k : Int} (hx : 0 ≤ x ∧ x < n) (hm : m x = some k) : k ≤ top + C := by
  have := h.top0
  rcases h.src x k hx.1 hx.2 hm with ⟨_, e⟩ | ⟨y, c, hg, e1, e2⟩
  · omega
  · obtain ⟨_, q, _⟩ := hk.ok x y c hg
    have := h.low y q.1 q.2
    have := hC x y c hg
    omega
/-- At the end. -/
theorem Dij.done (hk : GOK n G) (hd : 0 ≤ d ∧ d < n) (h : Dij n d G (Known D) top D m) (he : ∀ x, 0 ≤ x → x < n → m x = none) : Bell n d G D := by
  refine ⟨?_, h.neg, fun x y c hg hy => ?_, h.ex⟩
  · rcases h.root with h | ⟨h, _⟩
    · exact h
    · rw [he d hd.1 hd.2] at h; cases h
  · obtain ⟨a, _, _⟩ := hk.ok x y c hg
    rcases h.rel x y c hg hy with h | ⟨k, h, _⟩
    · exact h
    · rw [he x a.1 a.2] at h; cases h
/-- The least offer is taken. -/
theorem Dij.pop (hk : GOK n G) (h : Dij n d G (Known D) top D m) {y k : Int} (hy : 0 ≤ y ∧ y < n) (hm : m y = some k) (hmin : ∀ x k', 0 ≤ x → x < n → m x = some k' → k ≤ k') :
    Dij n d G (fun x z c => 0 ≤ D z) k (fun x => if x = y then k else D x) (upd m y none) := by
  obtain ⟨hDy, htk⟩ := h.dom y k hy.1 hy.2 hm
  have h0 := h.top0
  refine ⟨fun x x0 x1 => ?_, by omega, fun x k' x0 x1 hx => ?_, fun x x0 x1 => ?_, fun x z c hg hz => ?_, fun x k' x0 x1 hx => ?_, fun x x0 x1 hxd hx => ?_, ?_⟩
  · (try dsimp only); split
    · omega
    · exact h.neg x x0 x1
  · unfold upd at hx
    split at hx
    · cases hx
    · rename_i e
      (try dsimp only)
      rw [if_neg e]
      exact ⟨(h.dom x k' x0 x1 hx).1, hmin x k' x0 x1 hx⟩
  · (try dsimp only); split
    · omega
    · have := h.low x x0 x1; omega
  · have hzy : z ≠ y := fun e => by rw [e, hDy] at hz; omega
    (try dsimp only)
    rw [if_neg hzy]
    rcases h.rel x z c hg hz with ⟨a, b⟩ | ⟨k', a, b⟩
    · by_cases e : x = y
      · rw [e, hDy] at a; omega
      · rw [if_neg e]; exact .inl ⟨a, b⟩
    · by_cases e : x = y
      · rw [e, hm] at a
        injection a with a
        rw [if_pos e]; left; omega
      · right
        exact ⟨k', by unfold upd; rw [if_neg e]; exact a, b⟩
  · unfold upd at hx
    split at hx
    · cases hx
    · rcases h.src x k' x0 x1 hx with a | ⟨z, c, hg, hz, hk'⟩
      · exact .inl a
      · have hzy : z ≠ y := fun e => by rw [e, hDy] at hz; omega
        exact .inr ⟨z, c, hg, by (try dsimp only); rw [if_neg hzy]; exact hz, by (try dsimp only); rw [if_neg hzy]; exact hk'⟩
  · (try dsimp only at hx ⊢)
    by_cases e : x = y
    · subst e
      rw [if_pos rfl]
      rcases h.src x k x0 x1 hm with ⟨a, _⟩ | ⟨z, c, hg, hz, hk'⟩
      · exact absurd a hxd
      · have hzy : z ≠ x := fun e => by rw [e, hDy] at hz; omega
        exact ⟨z, c, hg, by rw [if_neg hzy]; exact hz, by rw [if_neg hzy]; exact hk'⟩
    · rw [if_neg e] at hx ⊢
      obtain ⟨z, c, hg, hz, hk'⟩ := h.ex x x0 x1 hxd hx
      have hzy : z ≠ y := fun e => by rw [e, hDy] at hz; omega
      exact ⟨z, c, hg, by rw [if_neg hzy]; exact hz, by rw [if_neg hzy]; exact hk'⟩
  · left
    (try dsimp only)
    rcases h.root with a | ⟨a, b⟩
    · have : d ≠ y := fun e => by rw [e, hDy] at a; omega
      rw [if_neg this]; exact a
    · have : y = d := Decidable.byContradiction fun e => by rw [(b y hy.1 hy.2).2 e] at hm; cases hm
      rw [if_pos this.symm]
      rw [this, a] at hm
      injection hm with hm
      exact hm.symm
/-- An arc to a node that is known for good. -/
theorem Dij.skip {x0 y0 c0 : Int} (hk : GOK n G) (h : Dij n d G P top D m) (hg : G x0 y0 c0) (hy : D y0 = top) (hx : 0 ≤ D x0) : Dij n d G (fun x y c => P x y c ∨ (x = x0 ∧ y = y0 ∧ c = c0)) top D m := by
  refine ⟨h.neg, h.top0, h.dom, h.low, fun x y c hg' hp => ?_, h.src, h.ex, h.root⟩
  rcases hp with hp | ⟨rfl, rfl, rfl⟩
  · exact h.rel x y c hg' hp
  · obtain ⟨a, b, e⟩ := hk.ok _ _ _ hg'
    have := h.low x a.1 a.2
    exact .inl ⟨hx, by omega⟩
/-- An arc that offers no less. -/
theorem Dij.worse {x0 y0 c0 k : Int} (hk : GOK n G) (h : Dij n d G P top D m) (hg : G x0 y0 c0) (hy : D y0 = top) (hm : m x0 = some k) (hle : k ≤ top + c0) : Dij n d G (fun x y c => P x y c ∨ (x = x0 ∧ y = y0 ∧ c = c0)) top D m := by
  refine ⟨h.neg, h.top0, h.dom, h.low, fun x y c hg' hp => ?_, h.src, h.ex, h.root⟩
  rcases hp with hp | ⟨rfl, rfl, rfl⟩
  · exact h.rel x y c hg' hp
  · exact .inr ⟨k, hm, by omega⟩
/-- An arc that offers less, or the first offer. -/
theorem Dij.offer {x0 y0 c0 : Int} (hk : GOK n G) (h : Dij n d G P top D m) (hroot : D d = 0) (hg : G x0 y0 c0) (hy : D y0 = top) (hx : D x0 = -1) (hm : ∀ k, m x0 = some k → top + c0 ≤ k) : Dij n d G (fun x y c => P x y c ∨ (x = x0 ∧ y = y0 ∧ c = c0)) top D (upd m x0 (some (top + c0))) := by
  obtain ⟨a, b, e⟩ := hk.ok _ _ _ hg
  have h0 := h.top0
  refine ⟨h.neg, h.top0, fun x k x0' x1 hx' => ?_, h.low, fun x y c hg' hp => ?_, fun x k x0' x1 hx' => ?_, h.ex, .inl hroot⟩
  · unfold upd at hx'
    split at hx'
    · rename_i e'
      injection hx' with hx'
      rw [e']
      exact ⟨hx, by omega⟩
    · exact h.dom x k x0' x1 hx'
  · rcases hp with hp | ⟨rfl, rfl, rfl⟩
    · rcases h.rel x y c hg' hp with u | ⟨k, u, v⟩
      · exact .inl u
      · right
        by_cases e' : x = x0
        · refine ⟨top + c0, by unfold upd; rw [if_pos e'], ?_⟩
          rw [e'] at u
          have := hm k u
          omega
        · exact ⟨k, by unfold upd; rw [if_neg e']; exact u, v⟩
    · exact .inr ⟨top + c, by unfold upd; rw [if_pos rfl], by omega⟩
  · unfold upd at hx'
    split at hx'
    · rename_i e'
      injection hx' with hx'
      rw [e']
      exact .inr ⟨y0, c0, hg, by omega, by omega⟩
    · exact h.src x k x0' x1 hx'
theorem Dij.sub {P' : Gr} (h : Dij n d G P top D m) (hs : ∀ x y c, G x y c → P' x y c → P x y c) : Dij n d G P' top D m := { h with rel := fun x y c hg hp => h.rel x y c hg (hs x y c hg hp) }
end
end Go.Proofs.Ythhhegmhgheeiaa
