/- There are always distances. No program in sight. -/
import Derived.Test.YthhhegmhgheeiaaBell
namespace Go.Proofs.Ythhhegmhgheeiaa
open Go.Wf
set_option linter.unusedVariables false
theorem least_of {p : Nat → Prop} (h : ∃ n, p n) : ∃ n, p n ∧ ∀ m, p m → n ≤ m := by
  obtain ⟨n, hn⟩ := h
  induction n using Nat.strongRecOn with
  | _ n ih =>
    by_cases h : ∃ m, m < n ∧ p m
    · obtain ⟨m, hm, hp⟩ := h
      exact ih m hm hp
    · exact ⟨n, hn, fun m hm => Nat.le_of_not_lt fun hlt => h ⟨m, hlt, hm⟩⟩
/-- A way to d, and what it costs. -/
inductive Way (G : Gr) (d : Int) : Int → Nat → Prop where
  | root : Way G d d 0
  | step {x y c : Int} {k : Nat} (hg : G x y c) (h : Way G d y k) : Way G d x (c.toNat + k)
theorem Bell.ex_ {n d : Int} {G : Gr} (hk : GOK n G) : ∃ D, Bell n d G D := by
  have key : ∀ x : Int, ∃ v : Int, (v = -1 ∧ ∀ k, ¬ Way G d x k) ∨ (0 ≤ v ∧ Way G d x v.toNat ∧ ∀ k, Way G d x k → v ≤ k) := fun x => by
    by_cases h : ∃ k, Way G d x k
    · obtain ⟨k, h1, h2⟩ := least_of h
      exact ⟨k, .inr ⟨by omega, by simpa using h1, fun m hm => by have := h2 m hm; omega⟩⟩
    · exact ⟨-1, .inl ⟨rfl, fun k hk => h ⟨k, hk⟩⟩⟩
  let D : Int → Int := fun x => Classical.choose (key x)
  have hD : ∀ x, (D x = -1 ∧ ∀ k, ¬ Way G d x k) ∨ (0 ≤ D x ∧ Way G d x (D x).toNat ∧ ∀ k, Way G d x k → D x ≤ k) := fun x => Classical.choose_spec (key x)
  refine ⟨D, ?_, fun x _ _ => ?_, fun x y c hg hy => ?_, fun x x0 x1 hx hx0 => ?_⟩
  · rcases hD d with ⟨_, h⟩ | ⟨h0, _, h⟩
    · exact absurd Way.root (h 0)
    · have := h 0 Way.root
      omega
  · rcases hD x with ⟨h, _⟩ | ⟨h, _⟩ <;> omega
  · obtain ⟨_, _, hc⟩ := hk.ok x y c hg
    rcases hD y with ⟨h, _⟩ | ⟨_, hw, _⟩
    · omega
    · have hw' := Way.step hg hw
      rcases hD x with ⟨_, h⟩ | ⟨h0, _, h⟩
      · exact absurd hw' (h _)
      · have := h _ hw'
        exact ⟨h0, by omega⟩
  · rcases hD x with ⟨h, _⟩ | ⟨_, hw, hl⟩
    · omega
    · generalize hk2 : (D x).toNat = k at hw
      cases hw with
      | root => exact absurd rfl hx
      | step hg h =>
        rename_i y c k'
        obtain ⟨_, _, hc⟩ := hk.ok x y c hg
        rcases hD y with ⟨_, hn⟩ | ⟨h0, hwy, hly⟩
        · exact absurd h (hn _)
        · have h1 := hly _ h
          have h2 := hl _ (Way.step hg hwy)
          exact ⟨y, c, hg, h0, by omega⟩
end Go.Proofs.Ythhhegmhgheeiaa
