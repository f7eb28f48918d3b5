/- Which shortest paths a failure breaks: the plain law. No program in sight. -/
import Derived.Test.YtldoplehchngfaaTopo
namespace Go.Proofs.Ytldoplehchngfaa
open Go.Wf
set_option linter.unusedVariables false
/-- An arc lies on a shortest path from x to y; A are the distances from x, B those to y. -/
def OnSP (T : Top) (A B : Int → Int) (x y a : Int) : Prop := 0 ≤ A (T.tl a) ∧ 0 ≤ B (T.hd a) ∧ (T.tl a = x ∨ T.over (T.tl a) = false) ∧ (T.hd a = y ∨ T.over (T.hd a) = false) ∧ x ≠ y ∧ A (T.tl a) + T.co a + B (T.hd a) = A y
instance (T : Top) (A B : Int → Int) (x y a : Int) : Decidable (OnSP T A B x y a) := by unfold OnSP; infer_instance
/-- The pair uses the mask. -/
def UsesP (T : Top) (dn : List Bool) (A B : Int → Int) (x y : Int) : Prop := ∃ a, (0 ≤ a ∧ a < T.arcs) ∧ ba dn a = true ∧ OnSP T A B x y a
section
variable {T : Top} {dn : List Bool} {x y z : Int} {A B Bz Az Ay Az' : Int → Int}
/-- Distances to y by way of z. -/
theorem tri_to (hT : T.Ok) (hz : Bell T.n z (GD T dn z) Bz) (hy : Bell T.n y (GD T dn y) B) (ho : z = y ∨ T.over z = false) (hB : 0 ≤ B z) : ∀ q, 0 ≤ q → q < T.n → 0 ≤ Bz q → 0 ≤ B q ∧ B q ≤ Bz q + B z := by
  have key : ∀ N : Nat, ∀ q, 0 ≤ q → q < T.n → 0 ≤ Bz q → (Bz q).toNat = N → 0 ≤ B q ∧ B q ≤ Bz q + B z := by
    intro N
    induction N using Nat.strongRecOn with
    | _ N ih =>
      intro q q0 q1 hq hN
      by_cases e : q = z
      · subst e; omega
      · obtain ⟨v, c, ⟨a, h1, h2, h3, h4, h5, h6⟩, hv, he⟩ := hz.ex q q0 q1 e hq
        obtain ⟨p1, p2, p3, _⟩ := hT.arc h1
        obtain ⟨i, j⟩ := ih (Bz v).toNat (by omega) v (by omega) (by omega) hv rfl
        have hov : v = y ∨ T.over v = false := by
          rcases h3 with h3 | h3
          · rw [h3]; exact ho
          · exact .inr h3
        have := hy.le q v c ⟨a, h1, h2, hov, h4, h5, h6⟩ i
        omega
  exact fun q q0 q1 hq => key _ q q0 q1 hq rfl
/-- Distances from x by way of z. -/
theorem tri_from (hT : T.Ok) (hz : Bell T.n z (GF T dn z) Az) (hx : Bell T.n x (GF T dn x) A) (ho : z = x ∨ T.over z = false) (hA : 0 ≤ A z) : ∀ q, 0 ≤ q → q < T.n → 0 ≤ Az q → 0 ≤ A q ∧ A q ≤ A z + Az q := by
  have key : ∀ N : Nat, ∀ q, 0 ≤ q → q < T.n → 0 ≤ Az q → (Az q).toNat = N → 0 ≤ A q ∧ A q ≤ A z + Az q := by
    intro N
    induction N using Nat.strongRecOn with
    | _ N ih =>
      intro q q0 q1 hq hN
      by_cases e : q = z
      · subst e; omega
      · obtain ⟨v, c, ⟨a, h1, h2, h3, h4, h5, h6⟩, hv, he⟩ := hz.ex q q0 q1 e hq
        obtain ⟨p1, p2, p3, _⟩ := hT.arc h1
        obtain ⟨i, j⟩ := ih (Az v).toNat (by omega) v (by omega) (by omega) hv rfl
        have hov : v = x ∨ T.over v = false := by
          rcases h3 with h3 | h3
          · rw [h3]; exact ho
          · exact .inr h3
        have := hx.le q v c ⟨a, h1, h2, hov, h4, h5, h6⟩ i
        omega
  exact fun q q0 q1 hq => key _ q q0 q1 hq rfl
/-- The distance is at most that over a node between. -/
theorem over_mid (hT : T.Ok) (ha : Bell T.n x (GF T dn x) A) (hb : Bell T.n y (GD T dn y) B) {q : Int} (hq : 0 ≤ q ∧ q < T.n) (ho : q = x ∨ T.over q = false) (h1 : 0 ≤ A q) (h2 : 0 ≤ B q) : 0 ≤ A y ∧ A y ≤ A q + B q :=
  both_le hT ha hb _ q hq.1 hq.2 ho h1 h2 rfl
/-- What is used towards a node on the way is used towards the end. -/
theorem on_fore (hT : T.Ok) (ha : Bell T.n x (GF T [] x) A) (hb : Bell T.n y (GD T [] y) B) (hz : Bell T.n z (GD T [] z) Bz) (hxy : x ≠ y) (hzo : z = y ∨ T.over z = false) (hAz : 0 ≤ A z) (hBz : 0 ≤ B z) (hon : A z + B z ≤ A y) {b : Int} (hb1 : 0 ≤ b ∧ b < T.arcs) (h : OnSP T A Bz x z b) : OnSP T A B x y b := by
  obtain ⟨h1, h2, h3, h4, h5, h6⟩ := h
  obtain ⟨p1, p2, p3, _⟩ := hT.arc hb1
  obtain ⟨i, j⟩ := tri_to hT hz hb hzo hBz (T.hd b) p2.1 p2.2 h2
  have ho : T.hd b = y ∨ T.over (T.hd b) = false := by
    rcases h4 with h4 | h4
    · rw [h4]; exact hzo
    · exact .inr h4
  have hAq := ha.le (T.hd b) (T.tl b) (T.co b) ⟨b, hb1, by simp [ba], h3, rfl, rfl, rfl⟩ h1
  refine ⟨h1, i, h3, ho, hxy, ?_⟩
  rcases ho with ho | ho
  · rw [ho] at hAq i j ⊢
    have := hb.root
    omega
  · have := over_mid hT ha hb p2 (.inr ho) hAq.1 i
    omega
/-- What is used from a node on the way is used from the start. -/
theorem on_back (hT : T.Ok) (ha : Bell T.n x (GF T [] x) A) (hb : Bell T.n y (GD T [] y) B) (hz : Bell T.n z (GF T [] z) Az) (hxy : x ≠ y) (hzo : z = x ∨ T.over z = false) (hAz : 0 ≤ A z) (hBz : 0 ≤ B z) (hzy : Az y = B z) (hon : A z + B z ≤ A y) {b : Int} (hb1 : 0 ≤ b ∧ b < T.arcs) (h : OnSP T Az B z y b) : OnSP T A B x y b := by
  obtain ⟨h1, h2, h3, h4, h5, h6⟩ := h
  obtain ⟨p1, p2, p3, _⟩ := hT.arc hb1
  obtain ⟨i, j⟩ := tri_from hT hz ha hzo hAz (T.tl b) p1.1 p1.2 h1
  have ho : T.tl b = x ∨ T.over (T.tl b) = false := by
    rcases h3 with h3 | h3
    · rw [h3]; exact hzo
    · exact .inr h3
  have hAq := ha.le (T.hd b) (T.tl b) (T.co b) ⟨b, hb1, by simp [ba], ho, rfl, rfl, rfl⟩ i
  refine ⟨i, h2, ho, h4, hxy, ?_⟩
  rcases h4 with h4 | h4
  · rw [h4] at hAq h6 h2 ⊢
    have := hb.root
    omega
  · have := over_mid hT ha hb p2 (.inr h4) hAq.1 h2
    omega
/-- Where no shortest path is broken, the distance stays. -/
theorem stays_from (hT : T.Ok) (hx : 0 ≤ x ∧ x < T.n) {F : Int → Int → Int} {A' : Int → Int} (hF : ∀ z, 0 ≤ z → z < T.n → Bell T.n z (GD T [] z) (F z)) (ha : Bell T.n x (GF T [] x) A) (ha' : Bell T.n x (GF T dn x) A') : ∀ y, 0 ≤ y → y < T.n → 0 ≤ A y → ¬ UsesP T dn A (F y) x y → A' y = A y := by
  have key : ∀ N : Nat, ∀ y, 0 ≤ y → y < T.n → 0 ≤ A y → ¬ UsesP T dn A (F y) x y → (A y).toNat = N → 0 ≤ A' y ∧ A' y ≤ A y := by
    intro N
    induction N using Nat.strongRecOn with
    | _ N ih =>
      intro y y0 y1 hy hu hN
      by_cases e : y = x
      · subst e; rw [ha.root, ha'.root]; omega
      · obtain ⟨u, c, ⟨a, h1, h2, h3, h4, h5, h6⟩, hv, he⟩ := ha.ex y y0 y1 e hy
        obtain ⟨p1, p2, p3, _⟩ := hT.arc h1
        have hB := hF y y0 y1
        have hAB := both hT hx ⟨y0, y1⟩ ha hB
        subst h4 h5 h6
        have hon : OnSP T A (F (T.hd a)) x (T.hd a) a := ⟨hv, by rw [hB.root]; omega, h3, .inl rfl, fun q => e q.symm, by rw [hB.root]; omega⟩
        have hup : ba dn a = false := by
          cases hd : ba dn a with
          | false => rfl
          | true => exact absurd ⟨a, h1, hd, hon⟩ hu
        have hA'u : 0 ≤ A' (T.tl a) ∧ A' (T.tl a) ≤ A (T.tl a) := by
          by_cases eu : T.tl a = x
          · rw [eu, ha.root, ha'.root]; omega
          · have hov := h3.resolve_left eu
            have hBu := hB.le (T.tl a) (T.hd a) (T.co a) ⟨a, h1, h2, .inl rfl, rfl, rfl, rfl⟩ (by rw [hB.root]; omega)
            rw [hB.root] at hBu
            refine ih _ (by omega) (T.tl a) p1.1 p1.2 hv (fun ⟨b, q1, q2, q3⟩ => hu ⟨b, q1, q2, ?_⟩) rfl
            exact on_fore hT ha hB (hF _ p1.1 p1.2) (fun q => e q.symm) (.inr hov) hv hBu.1 (by omega) q1 q3
        have := ha'.le (T.hd a) (T.tl a) (T.co a) ⟨a, h1, hup, h3, rfl, rfl, rfl⟩ hA'u.1
        omega
  intro y y0 y1 hy hu
  have h1 := key _ y y0 y1 hy hu rfl
  have h2 := Bell.mono (GF.ok hT) (fun p q c ⟨a, g1, g2, g3⟩ => ⟨a, g1, by simp [ba], g3⟩) ha ha' y y0 y1 h1.1
  omega
theorem stays_to (hT : T.Ok) (hy : 0 ≤ y ∧ y < T.n) {F : Int → Int → Int} {B' : Int → Int} (hF : ∀ z, 0 ≤ z → z < T.n → Bell T.n z (GF T [] z) (F z)) (hb : Bell T.n y (GD T [] y) B) (hb' : Bell T.n y (GD T dn y) B') : ∀ x, 0 ≤ x → x < T.n → 0 ≤ B x → ¬ UsesP T dn (F x) B x y → B' x = B x := by
  have key : ∀ N : Nat, ∀ x, 0 ≤ x → x < T.n → 0 ≤ B x → ¬ UsesP T dn (F x) B x y → (B x).toNat = N → 0 ≤ B' x ∧ B' x ≤ B x := by
    intro N
    induction N using Nat.strongRecOn with
    | _ N ih =>
      intro x x0 x1 hx hu hN
      by_cases e : x = y
      · subst e; rw [hb.root, hb'.root]; omega
      · obtain ⟨u, c, ⟨a, h1, h2, h3, h4, h5, h6⟩, hv, he⟩ := hb.ex x x0 x1 e hx
        obtain ⟨p1, p2, p3, _⟩ := hT.arc h1
        have hA := hF x x0 x1
        have hAB := both hT ⟨x0, x1⟩ hy hA hb
        subst h4 h5 h6
        have hon : OnSP T (F (T.tl a)) B (T.tl a) y a := ⟨by rw [hA.root]; omega, hv, .inl rfl, h3, e, by rw [hA.root, hAB]; omega⟩
        have hup : ba dn a = false := by
          cases hd : ba dn a with
          | false => rfl
          | true => exact absurd ⟨a, h1, hd, hon⟩ hu
        have hBu : 0 ≤ B' (T.hd a) ∧ B' (T.hd a) ≤ B (T.hd a) := by
          by_cases eu : T.hd a = y
          · rw [eu, hb.root, hb'.root]; omega
          · have hov := h3.resolve_left eu
            have hAu := hA.le (T.hd a) (T.tl a) (T.co a) ⟨a, h1, h2, .inl rfl, rfl, rfl, rfl⟩ (by rw [hA.root]; omega)
            rw [hA.root] at hAu
            refine ih _ (by omega) (T.hd a) p2.1 p2.2 hv (fun ⟨b, q1, q2, q3⟩ => hu ⟨b, q1, q2, ?_⟩) rfl
            exact on_back hT hA hb (hF _ p2.1 p2.2) e (.inr hov) hAu.1 hv (both hT p2 hy (hF _ p2.1 p2.2) hb) (by rw [hAB]; omega) q1 q3
        have := hb'.le (T.tl a) (T.hd a) (T.co a) ⟨a, h1, hup, h3, rfl, rfl, rfl⟩ hBu.1
        omega
  intro x x0 x1 hx hu
  have h1 := key _ x x0 x1 hx hu rfl
  have h2 := Bell.mono (GD.ok hT) (fun p q c ⟨a, g1, g2, g3⟩ => ⟨a, g1, by simp [ba], g3⟩) hb hb' x x0 x1 h1.1
  omega
end
end Go.Proofs.Ytldoplehchngfaa
