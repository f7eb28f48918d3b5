/- What a failure breaks: distances as functions of both ends, the plain laws of P- and Q-spaces. No program in sight. -/
import Derived.Test.YtldoplehchngfaaMetric
import Derived.Test.YtldoplehchngfaaEx
import Derived.Test.YtldoplehchngfaaIncr
import Derived.Test.YtldoplehchngfaaWalks
namespace Go.Proofs.Ytldoplehchngfaa
open Go.Wf
set_option linter.unusedVariables false
theorem GD.capq {tp : Top} {dn : List Bool} {d : Int} (ht : tp.Ok) : ∀ x y c, GD tp dn d x y c → c ≤ 65535 := fun x y c ⟨a, ha, _, _, _, _, hc⟩ => by
  obtain ⟨_, _, h, _⟩ := ht.arc ha
  omega
theorem dists {T : Top} (ht : T.Ok) : ∃ A B : Int → Int → Int, (∀ x, Bell T.n x (GF T [] x) (A x)) ∧ (∀ y, Bell T.n y (GD T [] y) (B y)) :=
  ⟨fun x => Classical.choose (Bell.ex_ (d := x) (GF.ok (dn := []) (s := x) ht)), fun y => Classical.choose (Bell.ex_ (d := y) (GD.ok (dn := []) (d := y) ht)), fun x => Classical.choose_spec (Bell.ex_ (d := x) (GF.ok (dn := []) (s := x) ht)), fun y => Classical.choose_spec (Bell.ex_ (d := y) (GD.ok (dn := []) (d := y) ht))⟩
theorem pred_of (P : Int → Prop) : ∃ p : Int → Bool, ∀ k, p k = true ↔ P k :=
  ⟨fun k => @decide (P k) (Classical.propDecidable _), fun k => @decide_eq_true_iff (P k) (Classical.propDecidable _)⟩
/-- x reaches y, and the pair does not use the mask. -/
def FreeP (T : Top) (dn : List Bool) (A B : Int → Int) (x y : Int) : Prop := 0 ≤ A y ∧ ¬ UsesP T dn A B x y
section
variable {T : Top} {dn : List Bool} {x y : Int} {A B : Int → Int → Int}
theorem OnSP.congr {A A' B B' : Int → Int} (hT : T.Ok) (hy : 0 ≤ y ∧ y < T.n) (hA : ∀ z, 0 ≤ z → z < T.n → A z = A' z) (hB : ∀ z, 0 ≤ z → z < T.n → B z = B' z) {a : Int} (ha : 0 ≤ a ∧ a < T.arcs) : OnSP T A B x y a ↔ OnSP T A' B' x y a := by
  obtain ⟨h1, h2, _⟩ := hT.arc ha
  unfold OnSP
  rw [hA _ h1.1 h1.2, hB _ h2.1 h2.2, hA y hy.1 hy.2]
theorem UsesP.congr {A A' B B' : Int → Int} (hT : T.Ok) (hy : 0 ≤ y ∧ y < T.n) (hA : ∀ z, 0 ≤ z → z < T.n → A z = A' z) (hB : ∀ z, 0 ≤ z → z < T.n → B z = B' z) : UsesP T dn A B x y ↔ UsesP T dn A' B' x y :=
  ⟨fun ⟨a, ha, h1, h2⟩ => ⟨a, ha, h1, (OnSP.congr hT hy hA hB ha).1 h2⟩, fun ⟨a, ha, h1, h2⟩ => ⟨a, ha, h1, (OnSP.congr hT hy hA hB ha).2 h2⟩⟩
theorem UsesP.pos {A B : Int → Int} (hT : T.Ok) (h : UsesP T dn A B x y) : 0 ≤ A y := by
  obtain ⟨a, ha, _, h1, h2, _, _, _, h3⟩ := h
  obtain ⟨_, _, h4, _⟩ := hT.arc ha
  omega
theorem not_uses_self {A B : Int → Int} : ¬ UsesP T dn A B x x := fun ⟨_, _, _, _, _, _, _, h, _⟩ => h rfl
/-- With a node of a P-space, the nodes and arcs on shortest paths to it. -/
theorem parts (hT : T.Ok) (hx : 0 ≤ x ∧ x < T.n) (hy : 0 ≤ y ∧ y < T.n) (hA : ∀ x, Bell T.n x (GF T [] x) (A x)) (hB : ∀ y, Bell T.n y (GD T [] y) (B y)) (hfr : FreeP T dn (A x) (B y) x y) {a : Int} (ha : 0 ≤ a ∧ a < T.arcs) (hon : OnSP T (A x) (B y) x y a) :
    FreeP T dn (A x) (B (T.tl a)) x (T.tl a) ∧ FreeP T dn (A x) (B (T.hd a)) x (T.hd a) ∧ ba dn a = false := by
  obtain ⟨hAy, hnu⟩ := hfr
  obtain ⟨h1, h2, h3, h4, h5, h6⟩ := id hon
  obtain ⟨p1, p2, p3, _⟩ := hT.arc ha
  have hAv := (hA x).le (T.hd a) (T.tl a) (T.co a) ⟨a, ha, ba_nil a, h3, rfl, rfl, rfl⟩ h1
  have hBu := (hB y).le (T.tl a) (T.hd a) (T.co a) ⟨a, ha, ba_nil a, h4, rfl, rfl, rfl⟩ h2
  refine ⟨⟨h1, fun hu => ?_⟩, ⟨hAv.1, fun hu => ?_⟩, ?_⟩
  · rcases h3 with h3 | h3
    · rw [h3] at hu
      exact not_uses_self hu
    · obtain ⟨b, hb1, hb2, hb3⟩ := hu
      have hm := over_mid hT (hA x) (hB y) p1 (.inr h3) h1 hBu.1
      exact hnu ⟨b, hb1, hb2, on_fore hT (hA x) (hB y) (hB _) h5 (.inr h3) h1 hBu.1 (by omega) hb1 hb3⟩
  · obtain ⟨b, hb1, hb2, hb3⟩ := hu
    have hsum : A x (T.hd a) + B y (T.hd a) = A x y := by
      rcases h4 with h4 | h4
      · rw [h4] at h2 hAv h6 ⊢
        have := (hB y).root
        omega
      · have := over_mid hT (hA x) (hB y) p2 (.inr h4) hAv.1 h2
        omega
    exact hnu ⟨b, hb1, hb2, on_fore hT (hA x) (hB y) (hB _) h5 h4 hAv.1 h2 (by omega) hb1 hb3⟩
  · cases hd : ba dn a with
    | false => rfl
    | true => exact absurd ⟨a, ha, hd, hon⟩ hnu
/-- What is reached by way of a node that is not overloaded. -/
theorem ext_reach (hT : T.Ok) {n h : Int} (hh : 0 ≤ h ∧ h < T.n) {A' : Int → Int} (hA' : Bell T.n n (GF T dn n) A') {C : Int → Int} (hC : Bell T.n h (GF T dn h) C) (ho : h = n ∨ T.over h = false) (h0 : 0 ≤ A' h) {e : Int} (he : 0 ≤ e ∧ e < T.n) (h1 : 0 ≤ C e) : 0 ≤ A' e := by
  have key : ∀ N : Nat, ∀ q, 0 ≤ q → q < T.n → 0 ≤ C q → (C q).toNat = N → 0 ≤ A' q := by
    intro N
    induction N using Nat.strongRecOn with
    | _ N ih =>
      intro q q0 q1 hq hN
      by_cases e : q = h
      · subst e; exact h0
      · obtain ⟨v, c, ⟨a, g1, g2, g3, g4, g5, g6⟩, hv, he⟩ := hC.ex q q0 q1 e hq
        obtain ⟨p1, p2, p3, _⟩ := hT.arc g1
        have hi := ih (C v).toNat (by omega) v (by omega) (by omega) hv rfl
        have hov : v = n ∨ T.over v = false := by
          rcases g3 with g3 | g3
          · rw [g3]; exact ho
          · exact .inr g3
        exact (hA'.le q v c ⟨a, g1, g2, hov, g4, g5, g6⟩ hi).1
  exact key _ e he.1 he.2 h1 rfl
end
/-- A topology whose links cost the same both ways, without overloaded nodes. -/
structure Even (T : Top) : Prop where
  ov : ∀ x, T.over x = false
  co : ∀ i, (el T.ls i).c0 = (el T.ls i).c1
section
variable {T : Top} {dn : List Bool} {A B : Int → Int → Int}
theorem even_gr (hE : Even T) (x : Int) : GF T [] x = GD T [] x := by
  funext u v c
  have hfl : ∀ a, 0 ≤ a → T.co (a / 2 * 2 + 1 - a % 2) = T.co a := fun a ha => by
    unfold Top.co
    have := hE.co (a / 2)
    by_cases e : a % 2 = 0
    · rw [if_neg (by omega), if_pos e, show (a / 2 * 2 + 1 - a % 2) / 2 = a / 2 by omega, this]
    · rw [if_pos (by omega), if_neg e, show (a / 2 * 2 + 1 - a % 2) / 2 = a / 2 by omega, this]
  have htl : ∀ a, 0 ≤ a → T.tl (a / 2 * 2 + 1 - a % 2) = T.hd a := fun a ha => by
    unfold Top.tl Top.hd
    by_cases e : a % 2 = 0
    · rw [if_neg (by omega), if_pos e, show (a / 2 * 2 + 1 - a % 2) / 2 = a / 2 by omega]
    · rw [if_pos (by omega), if_neg e, show (a / 2 * 2 + 1 - a % 2) / 2 = a / 2 by omega]
  have hhd : ∀ a, 0 ≤ a → T.hd (a / 2 * 2 + 1 - a % 2) = T.tl a := fun a ha => by
    unfold Top.tl Top.hd
    by_cases e : a % 2 = 0
    · rw [if_neg (by omega), if_pos e, show (a / 2 * 2 + 1 - a % 2) / 2 = a / 2 by omega]
    · rw [if_pos (by omega), if_neg e, show (a / 2 * 2 + 1 - a % 2) / 2 = a / 2 by omega]
  refine propext ⟨fun ⟨a, ha, h1, h2, h3, h4, h5⟩ => ?_, fun ⟨a, ha, h1, h2, h3, h4, h5⟩ => ?_⟩
  · exact ⟨a / 2 * 2 + 1 - a % 2, by unfold Top.arcs at ha ⊢; omega, ba_nil _, .inr (hE.ov v), by rw [h3, htl a ha.1], by rw [h4, hhd a ha.1], by rw [h5, hfl a ha.1]⟩
  · exact ⟨a / 2 * 2 + 1 - a % 2, by unfold Top.arcs at ha ⊢; omega, ba_nil _, .inr (hE.ov v), by rw [h3, hhd a ha.1], by rw [h4, htl a ha.1], by rw [h5, hfl a ha.1]⟩
/-- Each node that an end n of a link reaches is in the P-space of n or in the Q-space of an affected destination. -/
theorem two (hT : T.Ok) (hE : Even T) {n m d v c : Int} (hn : 0 ≤ n ∧ n < T.n) (hm : 0 ≤ m ∧ m < T.n) (hd : 0 ≤ d ∧ d < T.n) (hv : 0 ≤ v ∧ v < T.n) (hc : 1 ≤ c) (hA : ∀ x, Bell T.n x (GF T [] x) (A x)) (hB : ∀ y, Bell T.n y (GD T [] y) (B y))
    (hdn : ∀ a, 0 ≤ a → a < T.arcs → ba dn a = true → T.co a = c ∧ ((T.tl a = n ∧ T.hd a = m) ∨ (T.tl a = m ∧ T.hd a = n))) (haff : 0 ≤ A n m ∧ 0 ≤ B d m ∧ c + B d m = A n d) (hr : 0 ≤ A n v) : FreeP T dn (A n) (B v) n v ∨ FreeP T dn (A v) (B d) v d := by
  have hsym : ∀ x y, 0 ≤ x → x < T.n → 0 ≤ y → y < T.n → A x y = B x y := fun x y x0 x1 y0 y1 => by
    have h1 := hA x
    rw [even_gr hE] at h1
    exact Bell.one (GD.ok hT) h1 (hB x) y y0 y1
  have hboth : ∀ x y, 0 ≤ x → x < T.n → 0 ≤ y → y < T.n → A x y = B y x := fun x y x0 x1 y0 y1 => both hT ⟨x0, x1⟩ ⟨y0, y1⟩ (hA x) (hB y)
  have tri : ∀ x y z, 0 ≤ x → x < T.n → 0 ≤ y → y < T.n → 0 ≤ z → z < T.n → 0 ≤ A x z → 0 ≤ B y z → 0 ≤ A x y ∧ A x y ≤ A x z + B y z := fun x y z x0 x1 y0 y1 z0 z1 h1 h2 => over_mid hT (hA x) (hB y) ⟨z0, z1⟩ (.inr (hE.ov z)) h1 h2
  refine Classical.byContradiction fun hno => ?_
  have h1 : UsesP T dn (A n) (B v) n v := Classical.byContradiction fun h => hno (.inl ⟨hr, h⟩)
  have e1 := hboth n v hn.1 hn.2 hv.1 hv.2
  have e2 := hsym n v hn.1 hn.2 hv.1 hv.2
  have e3 := hboth v n hv.1 hv.2 hn.1 hn.2
  have e4 := hboth n d hn.1 hn.2 hd.1 hd.2
  have e5 := hboth v d hv.1 hv.2 hd.1 hd.2
  have e6 := hsym v m hv.1 hv.2 hm.1 hm.2
  have e7 := hboth v m hv.1 hv.2 hm.1 hm.2
  have e8 := hsym v n hv.1 hv.2 hn.1 hn.2
  have hvd := (tri v d n hv.1 hv.2 hd.1 hd.2 hn.1 hn.2 (by omega) (by omega)).1
  have h2 : UsesP T dn (A v) (B d) v d := Classical.byContradiction fun h => hno (.inr ⟨hvd, h⟩)
  obtain ⟨a, ha, ha1, u1, u2, _, _, _, u3⟩ := h1
  obtain ⟨b, hb, hb1, w1, w2, _, _, _, w3⟩ := h2
  obtain ⟨hca, hac⟩ := hdn a ha.1 ha.2 ha1
  obtain ⟨hcb, hbc⟩ := hdn b hb.1 hb.2 hb1
  have hvm : 0 ≤ B v m ∧ A n v = c + B v m := by
    rcases hac with ⟨q1, q2⟩ | ⟨q1, q2⟩
    · rw [q1] at u1 u3
      rw [q2] at u2 u3
      have := (hA n).root
      omega
    · rw [q1] at u1 u3
      rw [q2] at u2 u3
      omega
  have ht := tri v d m hv.1 hv.2 hd.1 hd.2 hm.1 hm.2 (by omega) haff.2.1
  rcases hbc with ⟨q1, q2⟩ | ⟨q1, q2⟩
  · rw [q1] at w1 w3
    rw [q2] at w2 w3
    omega
  · rw [q1] at w1 w3
    rw [q2] at w2 w3
    omega
end
end Go.Proofs.Ytldoplehchngfaa
