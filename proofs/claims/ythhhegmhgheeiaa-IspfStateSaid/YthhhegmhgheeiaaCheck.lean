/- Distances and first paths of a given topology, by computing. No program in sight. -/
import Derived.Test.YthhhegmhgheeiaaRelax
namespace Go.Proofs.Ythhhegmhgheeiaa
open Go.Wf
set_option linter.unusedVariables false
def allI (k : Nat) (p : Int → Bool) : Bool := (List.range k).all fun i => p (i : Int)
def anyI (k : Nat) (p : Int → Bool) : Bool := (List.range k).any fun i => p (i : Int)
theorem allI_spec {k : Nat} {p : Int → Bool} (h : allI k p = true) {i : Int} (h0 : 0 ≤ i) (h1 : i < k) : p i = true := by
  unfold allI at h
  rw [List.all_eq_true] at h
  have := h i.toNat (by rw [List.mem_range]; omega)
  rwa [Int.toNat_of_nonneg h0] at this
theorem anyI_spec {k : Nat} {p : Int → Bool} (h : anyI k p = true) : ∃ i : Int, (0 ≤ i ∧ i < k) ∧ p i = true := by
  unfold anyI at h
  rw [List.any_eq_true] at h
  obtain ⟨i, hi, h⟩ := h
  rw [List.mem_range] at hi
  exact ⟨i, by omega, h⟩
/-- The distances to d are these. -/
def dlB (T : Top) (dn : List Bool) (d : Int) (l : List Int) : Bool :=
  decide ((l.length : Int) = T.n) && decide (ia l d = 0) && allI T.n.toNat (fun x => decide (-1 ≤ ia l x)) &&
  allI (2 * T.ls.length) (fun a => ba dn a || !(decide (T.hd a = d) || !T.over (T.hd a)) || decide (ia l (T.hd a) < 0) || (decide (0 ≤ ia l (T.tl a)) && decide (ia l (T.tl a) ≤ ia l (T.hd a) + T.co a))) &&
  allI T.n.toNat (fun x => decide (x = d) || decide (ia l x < 0) || anyI (2 * T.ls.length) fun a => !ba dn a && (decide (T.hd a = d) || !T.over (T.hd a)) && decide (x = T.tl a) && decide (0 ≤ ia l (T.hd a)) && decide (ia l x = ia l (T.hd a) + T.co a))
theorem dlB_spec {T : Top} {dn : List Bool} {d : Int} {l : List Int} (h : dlB T dn d l = true) : DL T.n d (GD T dn d) l := by
  unfold dlB at h
  simp only [Bool.and_eq_true] at h
  obtain ⟨⟨⟨⟨h1, h2⟩, h3⟩, h4⟩, h5⟩ := h
  refine ⟨of_decide_eq_true h1, of_decide_eq_true h2, fun x x0 x1 => of_decide_eq_true (allI_spec h3 x0 (by omega)), fun x y c ⟨a, ha, g1, g2, g3, g4, g5⟩ hy => ?_, fun x x0 x1 hx hx0 => ?_⟩
  · have := allI_spec h4 ha.1 (by unfold Top.arcs at ha; omega)
    subst g3 g4 g5
    rw [g1] at this
    simp only [Bool.false_or, Bool.or_eq_true, Bool.and_eq_true, Bool.not_eq_true', Bool.or_eq_false_iff, decide_eq_true_eq, decide_eq_false_iff_not, Bool.not_eq_false'] at this
    rcases this with (⟨u, v⟩ | u) | u
    · rcases g2 with g2 | g2
      · exact absurd g2 u
      · rw [g2] at v; cases v
    · omega
    · exact u
  · have := allI_spec h5 x0 (by omega)
    simp only [Bool.or_eq_true, decide_eq_true_eq] at this
    rcases this with (u | u) | u
    · exact absurd u hx
    · omega
    · obtain ⟨a, ha, u⟩ := anyI_spec u
      simp only [Bool.and_eq_true, Bool.not_eq_true', Bool.or_eq_true, decide_eq_true_eq] at u
      obtain ⟨⟨⟨⟨u1, u2⟩, u3⟩, u4⟩, u5⟩ := u
      exact ⟨T.hd a, T.co a, ⟨a, by unfold Top.arcs; omega, u1, u2, u3, rfl, rfl⟩, u4, u5⟩
def fpB (T : Top) (dn : List Bool) (d : Int) (D : Int → Int) : Int → List Int → Bool
  | x, [] => decide (x = d)
  | x, a :: r => decide (x ≠ d) && decide (0 ≤ a ∧ a < T.arcs) && decide (T.tl a = x ∧ OnA T dn d D a) && allI a.toNat (fun b => !decide (T.tl b = x ∧ OnA T dn d D b)) && fpB T dn d D (T.hd a) r
theorem fpB_spec {T : Top} {dn : List Bool} {d : Int} {D : Int → Int} : ∀ {p : List Int} {x : Int}, fpB T dn d D x p = true → FP T dn d D x p
  | [], x, h => by
    have : x = d := of_decide_eq_true h
    exact this
  | a :: r, x, h => by
    unfold fpB at h
    simp only [Bool.and_eq_true] at h
    obtain ⟨⟨⟨⟨h1, h2⟩, h3⟩, h4⟩, h5⟩ := h
    refine ⟨of_decide_eq_true h1, of_decide_eq_true h2, of_decide_eq_true h3, fun b b0 b1 => ?_, fpB_spec h5⟩
    have := allI_spec h4 b0 (by omega)
    simp only [Bool.not_eq_true', decide_eq_false_iff_not] at this
    exact this
end Go.Proofs.Ythhhegmhgheeiaa
