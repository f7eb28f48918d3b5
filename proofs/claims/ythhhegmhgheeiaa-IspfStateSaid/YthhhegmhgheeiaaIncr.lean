/- Distances after a change of some arcs: the plain law of the two phases. No program in sight. -/
import Derived.Test.YthhhegmhgheeiaaRelax
namespace Go.Proofs.Ythhhegmhgheeiaa
open Go.Wf
set_option linter.unusedVariables false
/-- Distances are bounded by the number of those that are less. -/
def lessN (n : Nat) (D : Int → Int) (v : Int) : Nat := ((List.range n).filter fun i : Nat => decide (0 ≤ D (i : Int) ∧ D (i : Int) < v)).length
theorem lessN_le (n : Nat) (D : Int → Int) (v : Int) : lessN n D v ≤ n := by
  unfold lessN
  refine Nat.le_trans (List.length_filter_le _ _) ?_
  simp
theorem lessN_lt {n : Nat} {D : Int → Int} {y : Int} {v : Int} (hy : 0 ≤ y ∧ y < n) (h0 : 0 ≤ D y) (h : D y < v) : lessN n D (D y) < lessN n D v := by
  unfold lessN
  have hs : (List.range n).filter (fun i : Nat => decide (0 ≤ D (i : Int) ∧ D (i : Int) < D y)) = ((List.range n).filter fun i : Nat => decide (0 ≤ D (i : Int) ∧ D (i : Int) < v)).filter fun i : Nat => decide (D (i : Int) < D y) := by
    rw [List.filter_filter]
    refine List.filter_congr fun i _ => ?_
    rw [Bool.eq_iff_iff]
    simp
    omega
  rw [hs, List.length_filter_lt_length_iff_exists]
  refine ⟨y.toNat, List.mem_filter.2 ⟨by rw [List.mem_range]; omega, ?_⟩, ?_⟩
  · rw [Int.toNat_of_nonneg hy.1]; simp; omega
  · rw [Int.toNat_of_nonneg hy.1]; simp
theorem Bell.bound {n d C : Int} {G : Gr} {D : Int → Int} (hk : GOK n G) (hC : ∀ x y c, G x y c → c ≤ C) (hC0 : 0 ≤ C) (h : Bell n d G D) : ∀ x, 0 ≤ x → x < n → D x ≤ C * n := by
  have key : ∀ N : Nat, ∀ x, 0 ≤ x → x < n → 0 ≤ D x → (D x).toNat = N → D x ≤ C * (lessN n.toNat D (D x) : Int) := by
    intro N
    induction N using Nat.strongRecOn with
    | _ N ih =>
      intro x x0 x1 hx hN
      by_cases hd : x = d
      · subst hd; rw [h.root]; exact Int.mul_nonneg hC0 (by omega)
      · obtain ⟨y, c, hg, hy, he⟩ := h.ex x x0 x1 hd hx
        obtain ⟨_, hyn, hc⟩ := hk.ok x y c hg
        have hcC := hC x y c hg
        have h1 := ih (D y).toNat (by omega) y hyn.1 hyn.2 hy rfl
        have h2 : lessN n.toNat D (D y) < lessN n.toNat D (D x) := lessN_lt (by omega) hy (by omega)
        have h3 : C * ((lessN n.toNat D (D y) : Int) + 1) ≤ C * (lessN n.toNat D (D x) : Int) := Int.mul_le_mul_of_nonneg_left (by omega) hC0
        rw [Int.mul_add] at h3
        omega
  intro x x0 x1
  by_cases hx : 0 ≤ D x
  · have h1 := key _ x x0 x1 hx rfl
    have h2 := lessN_le n.toNat D (D x)
    have h3 : C * (lessN n.toNat D (D x) : Int) ≤ C * n := Int.mul_le_mul_of_nonneg_left (by omega) hC0
    omega
  · have : 0 ≤ C * n := Int.mul_nonneg hC0 (by omega)
    omega
/-! ### The first phase: X are the nodes that lose their distances, m those that are to be looked at, Pend those that are yet to be put there. -/
structure Los (n d : Int) (G : Gr) (D : Int → Int) (m : Int → Option Int) (top : Int) (X : Int → Bool) (Pend : Int → Prop) : Prop where
  key : ∀ x k, 0 ≤ x → x < n → m x = some k → k = D x ∧ 0 ≤ D x ∧ x ≠ d ∧ X x = false ∧ top ≤ D x
  lost : ∀ x, 0 ≤ x → x < n → X x = true → x ≠ d ∧ 0 ≤ D x ∧ D x ≤ top
  sup : ∀ x, 0 ≤ x → x < n → x ≠ d → 0 ≤ D x → X x = false → m x = some (D x) ∨ (∃ y c, G x y c ∧ 0 ≤ D y ∧ X y = false ∧ D y + c ≤ D x) ∨ Pend x
section
variable {n d top : Int} {G : Gr} {D : Int → Int} {m : Int → Option Int} {X : Int → Bool} {Pend : Int → Prop}
/-- A changed arc's tail is put there. -/
theorem Los.put (h : Los n d G D m top X Pend) {x0 : Int} (hx : 0 ≤ x0 ∧ x0 < n) (hd : x0 ≠ d) (h0 : 0 ≤ D x0) (hX : X x0 = false) (ht : top ≤ D x0) : Los n d G D (upd m x0 (some (D x0))) top X (fun x => Pend x ∧ x ≠ x0) := by
  refine ⟨fun x k a b hm => ?_, h.lost, fun x a b c e f => ?_⟩
  · unfold upd at hm
    split at hm
    · rename_i e
      injection hm with hm
      subst e
      exact ⟨hm.symm, h0, hd, hX, ht⟩
    · exact h.key x k a b hm
  · by_cases e0 : x = x0
    · left; unfold upd; rw [if_pos e0, e0]
    · rcases h.sup x a b c e f with g | g | g
      · left; unfold upd; rw [if_neg e0]; exact g
      · exact .inr (.inl g)
      · exact .inr (.inr ⟨g, e0⟩)
/-- A tail that need not be put there. -/
theorem Los.pass (h : Los n d G D m top X Pend) {x0 : Int} (hp : x0 = d ∨ D x0 < 0 ∨ X x0 = true) : Los n d G D m top X (fun x => Pend x ∧ x ≠ x0) := by
  refine ⟨h.key, h.lost, fun x a b c e f => ?_⟩
  rcases h.sup x a b c e f with g | g | g
  · exact .inl g
  · exact .inr (.inl g)
  · refine .inr (.inr ⟨g, fun q => ?_⟩)
    subst q
    rcases hp with q | q | q
    · exact c q
    · omega
    · rw [q] at f; cases f
theorem Los.weak {P' : Int → Prop} (h : Los n d G D m top X Pend) (hp : ∀ x, 0 ≤ x → x < n → Pend x → P' x) : Los n d G D m top X P' := { h with sup := fun x a b c e f => (h.sup x a b c e f).imp id (Or.imp id (hp x a b)) }
/-- The least one is taken out, and is supported. -/
theorem Los.keep (h : Los n d G D m top X fun _ => False) {y k : Int} (hy : 0 ≤ y ∧ y < n) (hm : m y = some k) (hmin : ∀ x k', 0 ≤ x → x < n → m x = some k' → k ≤ k') (hs : ∃ z c, G y z c ∧ 0 ≤ D z ∧ X z = false ∧ D z + c ≤ D y) : Los n d G D (upd m y none) k X fun _ => False := by
  obtain ⟨k1, k2, k3, k4, k5⟩ := h.key y k hy.1 hy.2 hm
  refine ⟨fun x k' a b hx => ?_, fun x a b hX => ?_, fun x a b c e f => ?_⟩
  · unfold upd at hx
    split at hx
    · cases hx
    · obtain ⟨q1, q2, q3, q4, q5⟩ := h.key x k' a b hx
      have := hmin x k' a b hx
      exact ⟨q1, q2, q3, q4, by omega⟩
  · obtain ⟨q1, q2, q3⟩ := h.lost x a b hX
    exact ⟨q1, q2, by omega⟩
  · by_cases e0 : x = y
    · subst e0; exact .inr (.inl hs)
    · rcases h.sup x a b c e f with g | g | g
      · left; unfold upd; rw [if_neg e0]; exact g
      · exact .inr (.inl g)
      · exact g.elim
/-- The least one is taken out, and is lost. -/
theorem Los.lose (hk : GOK n G) (h : Los n d G D m top X fun _ => False) {y k : Int} (hy : 0 ≤ y ∧ y < n) (hm : m y = some k) (hmin : ∀ x k', 0 ≤ x → x < n → m x = some k' → k ≤ k') : Los n d G D (upd m y none) k (fun x => if x = y then true else X x) fun x => k < D x ∧ ∃ c, G x y c := by
  obtain ⟨k1, k2, k3, k4, k5⟩ := h.key y k hy.1 hy.2 hm
  refine ⟨fun x k' a b hx => ?_, fun x a b hX => ?_, fun x a b c e f => ?_⟩
  · unfold upd at hx
    split at hx
    · cases hx
    · rename_i e0
      obtain ⟨q1, q2, q3, q4, q5⟩ := h.key x k' a b hx
      have := hmin x k' a b hx
      exact ⟨q1, q2, q3, by rw [if_neg e0]; exact q4, by omega⟩
  · by_cases e0 : x = y
    · subst e0; exact ⟨k3, k2, by omega⟩
    · rw [if_neg e0] at hX
      obtain ⟨q1, q2, q3⟩ := h.lost x a b hX
      exact ⟨q1, q2, by omega⟩
  · by_cases e0 : x = y
    · rw [if_pos e0] at f; cases f
    · rw [if_neg e0] at f
      rcases h.sup x a b c e f with g | ⟨z, q, g1, g2, g3, g4⟩ | g
      · left; unfold upd; rw [if_neg e0]; exact g
      · by_cases e1 : z = y
        · subst e1
          obtain ⟨_, _, hc⟩ := hk.ok x z q g1
          exact .inr (.inr ⟨by omega, q, g1⟩)
        · exact .inr (.inl ⟨z, q, g1, g2, by rw [if_neg e1]; exact g3, g4⟩)
      · exact g.elim
end
/-! ### The second phase: F are the distances as they are, m the offers, P the arcs that were looked at. -/
structure Gai (n d : Int) (G P : Gr) (F : Int → Int) (m : Int → Option Int) (top : Int) : Prop where
  root : F d = 0
  neg : ∀ x, 0 ≤ x → x < n → -1 ≤ F x
  rel : ∀ x y c, G x y c → P x y c → 0 ≤ F y → x ≠ d → (0 ≤ F x ∧ F x ≤ F y + c) ∨ ∃ k, m x = some k ∧ k ≤ F y + c
  sup : ∀ x, 0 ≤ x → x < n → x ≠ d → 0 ≤ F x → ∃ y c, G x y c ∧ 0 ≤ F y ∧ F y + c ≤ F x
  src : ∀ x k, 0 ≤ x → x < n → m x = some k → x ≠ d ∧ (F x < 0 ∨ k < F x) ∧ top ≤ k ∧ ∃ y c, G x y c ∧ 0 ≤ F y ∧ F y + c ≤ k
section
variable {n d top : Int} {G P : Gr} {F : Int → Int} {m : Int → Option Int}
theorem Gai.done (hk : GOK n G) (hd : 0 ≤ d ∧ d < n) (h : Gai n d G P F m top) (hP : ∀ x y c, G x y c → P x y c) (he : ∀ x, 0 ≤ x → x < n → m x = none) : Bell n d G F := by
  have hle : ∀ x y c, G x y c → 0 ≤ F y → 0 ≤ F x ∧ F x ≤ F y + c := fun x y c hg hy => by
    obtain ⟨a, _, hc⟩ := hk.ok x y c hg
    by_cases e : x = d
    · subst e; rw [h.root]; omega
    · rcases h.rel x y c hg (hP x y c hg) hy e with g | ⟨k, g, _⟩
      · exact g
      · rw [he x a.1 a.2] at g; cases g
  refine ⟨h.root, h.neg, hle, fun x x0 x1 hx hx0 => ?_⟩
  obtain ⟨y, c, hg, hy, hq⟩ := h.sup x x0 x1 hx hx0
  have := hle x y c hg hy
  exact ⟨y, c, hg, hy, by omega⟩
theorem Gai.sub {P' : Gr} (h : Gai n d G P F m top) (hs : ∀ x y c, G x y c → P' x y c → P x y c) : Gai n d G P' F m top := { h with rel := fun x y c hg hp => h.rel x y c hg (hs x y c hg hp) }
/-- An offer that is not taken: the node has no less. -/
theorem Gai.none_ (h : Gai n d G P F m top) {x0 v : Int} {Q : Gr} (hQ : ∀ x y c, G x y c → Q x y c → x = x0 ∧ (0 ≤ F y → 0 ≤ v ∧ v ≤ F y + c)) (hn : x0 = d ∨ v < 0 ∨ (0 ≤ F x0 ∧ F x0 ≤ v) ∨ ∃ k, m x0 = some k ∧ k ≤ v) : Gai n d G (fun x y c => P x y c ∨ Q x y c) F m top := by
  refine ⟨h.root, h.neg, fun x y c hg hp hy hx => ?_, h.sup, h.src⟩
  rcases hp with hp | hp
  · exact h.rel x y c hg hp hy hx
  · obtain ⟨rfl, hv⟩ := hQ x y c hg hp
    have := hv hy
    rcases hn with g | g | g | ⟨k, g, g2⟩
    · exact absurd g hx
    · omega
    · left; omega
    · exact .inr ⟨k, g, by omega⟩
/-- An offer that is taken. -/
theorem Gai.offer (h : Gai n d G P F m top) {x0 v : Int} {Q : Gr} (hx0 : 0 ≤ x0 ∧ x0 < n) (hQ : ∀ x y c, G x y c → Q x y c → x = x0 ∧ (0 ≤ F y → 0 ≤ v ∧ v ≤ F y + c)) (hd : x0 ≠ d) (hF : F x0 < 0 ∨ v < F x0) (hm : ∀ k, m x0 = some k → v ≤ k) (ht : top ≤ v) (hs : ∃ y c, G x0 y c ∧ 0 ≤ F y ∧ F y + c ≤ v) :
    Gai n d G (fun x y c => P x y c ∨ Q x y c) F (upd m x0 (some v)) top := by
  refine ⟨h.root, h.neg, fun x y c hg hp hy hx => ?_, h.sup, fun x k a b hk => ?_⟩
  · by_cases e : x = x0
    · right
      refine ⟨v, by unfold upd; rw [if_pos e], ?_⟩
      rcases hp with hp | hp
      · rcases h.rel x y c hg hp hy hx with g | ⟨k, g, g2⟩
        · subst e; omega
        · subst e
          have := hm k g
          omega
      · exact ((hQ x y c hg hp).2 hy).2
    · rcases hp with hp | hp
      · rcases h.rel x y c hg hp hy hx with g | ⟨k, g, g2⟩
        · exact .inl g
        · exact .inr ⟨k, by unfold upd; rw [if_neg e]; exact g, g2⟩
      · exact absurd (hQ x y c hg hp).1 e
  · unfold upd at hk
    split at hk
    · rename_i e
      injection hk with hk
      subst hk e
      exact ⟨hd, hF, ht, hs⟩
    · exact h.src x k a b hk
/-- The least offer is taken out: the node has it. -/
theorem Gai.pop (hk : GOK n G) (h : Gai n d G P F m top) (hP : ∀ x y c, G x y c → P x y c) {y k : Int} (hy : 0 ≤ y ∧ y < n) (hm : m y = some k) (ht0 : 0 ≤ top) (hmin : ∀ x k', 0 ≤ x → x < n → m x = some k' → k ≤ k') :
    Gai n d G (fun _ z _ => z ≠ y) (fun x => if x = y then k else F x) (upd m y none) k := by
  obtain ⟨hyd, hF, htk, z0, c0, hg0, hz0, hq0⟩ := h.src y k hy.1 hy.2 hm
  have hle : ∀ x, 0 ≤ F x → (if x = y then k else F x) ≤ F x := fun x hx => by
    split
    · rename_i e; subst e; omega
    · exact Int.le_refl _
  have hnn : ∀ x, 0 ≤ F x → 0 ≤ (if x = y then k else F x) := fun x hx => by split <;> omega
  refine ⟨by rw [if_neg (fun e => hyd e.symm)]; exact h.root, fun x a b => ?_, fun x z c hg hp hz hx => ?_, fun x a b hx hx0 => ?_, fun x k' a b hx => ?_⟩
  · split
    · omega
    · exact h.neg x a b
  · rw [if_neg hp] at hz ⊢
    by_cases e : x = y
    · rw [if_pos e]
      left
      rcases h.rel x z c hg (hP x z c hg) hz hx with g | ⟨k', g, g2⟩
      · subst e; omega
      · rw [e, hm] at g
        injection g with g
        omega
    · rw [if_neg e]
      rcases h.rel x z c hg (hP x z c hg) hz hx with g | ⟨k', g, g2⟩
      · exact .inl g
      · exact .inr ⟨k', by unfold upd; rw [if_neg e]; exact g, g2⟩
  · by_cases e : x = y
    · rw [if_pos e]
      subst e
      have h1 := hle z0 hz0
      exact ⟨z0, c0, hg0, hnn z0 hz0, by omega⟩
    · rw [if_neg e] at hx0 ⊢
      obtain ⟨z, c, hg, hz, hq⟩ := h.sup x a b hx hx0
      have h1 := hle z hz
      exact ⟨z, c, hg, hnn z hz, by omega⟩
  · unfold upd at hx
    split at hx
    · cases hx
    · rename_i e
      obtain ⟨q1, q2, q3, z, c, hg, hz, hq⟩ := h.src x k' a b hx
      have h1 := hle z hz
      rw [if_neg e]
      exact ⟨q1, q2, hmin x k' a b hx, z, c, hg, hnn z hz, by omega⟩
end
end Go.Proofs.Ythhhegmhgheeiaa
