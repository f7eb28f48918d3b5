/- Topologies, their arcs, what distances over them are, and what the laws on distances come down to. No program in sight. -/
import Derived.Test.YthhhegmhgheeiaaBell
namespace Go.Proofs.Ythhhegmhgheeiaa
open Go.Wf
set_option linter.unusedVariables false
structure Lk where
  (a b c0 c1 cap dl gp : Int)
instance : Inhabited Lk := ⟨⟨0, 0, 0, 0, 0, 0, 0⟩⟩
structure Top where
  (n : Int) (ov : List Bool) (ls : List Lk)
namespace Top
variable (T : Top)
/-- Where an arc begins, where it ends, what it costs. -/
def tl (a : Int) : Int := if a % 2 = 0 then (el T.ls (a / 2)).a else (el T.ls (a / 2)).b
def hd (a : Int) : Int := if a % 2 = 0 then (el T.ls (a / 2)).b else (el T.ls (a / 2)).a
def co (a : Int) : Int := if a % 2 = 0 then (el T.ls (a / 2)).c0 else (el T.ls (a / 2)).c1
def arcs : Int := 2 * (T.ls.length : Int)
def over (x : Int) : Bool := ba T.ov x
end Top
/-- What is asked of a link. -/
def lkOk (n : Int) (l : Lk) : Prop := (0 ≤ l.a ∧ l.a < n) ∧ (0 ≤ l.b ∧ l.b < n) ∧ l.a ≠ l.b ∧ (1 ≤ l.c0 ∧ l.c0 ≤ 65535) ∧ (1 ≤ l.c1 ∧ l.c1 ≤ 65535) ∧ (0 ≤ l.cap ∧ l.cap ≤ 1048576) ∧ (1 ≤ l.dl ∧ l.dl ≤ 65536) ∧ (0 ≤ l.gp ∧ l.gp ≤ 64)
instance (n : Int) (l : Lk) : Decidable (lkOk n l) := by unfold lkOk; infer_instance
structure Top.Ok (T : Top) : Prop where
  n : 1 ≤ T.n ∧ T.n ≤ 64
  ov : T.ov.length = 0 ∨ (T.ov.length : Int) = T.n
  ln : T.ls.length ≤ 256
  lk : ∀ l ∈ T.ls, lkOk T.n l
/-- A mask that fits. -/
def Fit (T : Top) (dn : List Bool) : Prop := dn.length = 0 ∨ (dn.length : Int) = T.arcs
instance (T : Top) (dn : List Bool) : Decidable (Fit T dn) := by unfold Fit; infer_instance
/-- The arcs over which distances to d, and from s, are found. -/
def GD (T : Top) (dn : List Bool) (d : Int) : Gr := fun x y c => ∃ a, (0 ≤ a ∧ a < T.arcs) ∧ ba dn a = false ∧ (y = d ∨ T.over y = false) ∧ x = T.tl a ∧ y = T.hd a ∧ c = T.co a
def GF (T : Top) (dn : List Bool) (s : Int) : Gr := fun x y c => ∃ a, (0 ≤ a ∧ a < T.arcs) ∧ ba dn a = false ∧ (y = s ∨ T.over y = false) ∧ x = T.hd a ∧ y = T.tl a ∧ c = T.co a
section
variable {T : Top} {dn : List Bool} {d s : Int}
theorem Top.Ok.el (h : T.Ok) {a : Int} (ha : 0 ≤ a ∧ a < T.arcs) : lkOk T.n (el T.ls (a / 2)) := h.lk _ (el_mem (by unfold Top.arcs at ha; omega))
theorem Top.Ok.arc (h : T.Ok) {a : Int} (ha : 0 ≤ a ∧ a < T.arcs) : (0 ≤ T.tl a ∧ T.tl a < T.n) ∧ (0 ≤ T.hd a ∧ T.hd a < T.n) ∧ (1 ≤ T.co a ∧ T.co a ≤ 65535) ∧ T.tl a ≠ T.hd a := by
  obtain ⟨p, q, r, u, v, _⟩ := h.el ha
  unfold Top.tl Top.hd Top.co
  by_cases e : a % 2 = 0
  · simp only [if_pos e]; exact ⟨p, q, u, r⟩
  · simp only [if_neg e]; exact ⟨q, p, v, fun x => r x.symm⟩
theorem GD.ok (h : T.Ok) : GOK T.n (GD T dn d) := ⟨fun x y c ⟨a, ha, _, _, hx, hy, hc⟩ => by
  obtain ⟨p, q, r, _⟩ := h.arc ha
  subst hx hy hc
  exact ⟨p, q, r.1⟩⟩
theorem GF.ok (h : T.Ok) : GOK T.n (GF T dn s) := ⟨fun x y c ⟨a, ha, _, _, hx, hy, hc⟩ => by
  obtain ⟨p, q, r, _⟩ := h.arc ha
  subst hx hy hc
  exact ⟨q, p, r.1⟩⟩
/-- A list has the distances. -/
structure DL (n d : Int) (G : Gr) (l : List Int) : Prop where
  len : (l.length : Int) = n
  bell : Bell n d G (ia l)
theorem ia_ext {l m : List Int} (hl : l.length = m.length) (h : ∀ x : Int, 0 ≤ x → x < l.length → ia l x = ia m x) : l = m := by
  apply List.ext_getElem hl
  intro i h1 h2
  have := h i (by omega) (by omega)
  unfold ia at this
  simpa [List.getD_eq_getElem?_getD, h1, h2] using this
theorem DL.one {n d : Int} {G : Gr} {l m : List Int} (hk : GOK n G) (h : DL n d G l) (h' : DL n d G m) : l = m :=
  ia_ext (by have := h.len; have := h'.len; omega) fun x x0 x1 => Bell.one hk h.bell h'.bell x x0 (by have := h.len; omega)
/-- The distance from s to d is the same both ways. -/
theorem both_le {A B : Int → Int} (hT : T.Ok) (ha : Bell T.n s (GF T dn s) A) (hb : Bell T.n d (GD T dn d) B) : ∀ N : Nat, ∀ x, 0 ≤ x → x < T.n → (x = s ∨ T.over x = false) → 0 ≤ A x → 0 ≤ B x → (B x).toNat = N → 0 ≤ A d ∧ A d ≤ A x + B x := by
  intro N
  induction N using Nat.strongRecOn with
  | _ N ih =>
    intro x x0 x1 hx hA hB hN
    by_cases hd : x = d
    · subst hd; omega
    · obtain ⟨y, c, ⟨a, h1, h2, h3, h4, h5, h6⟩, hy, he⟩ := hb.ex x x0 x1 hd hB
      obtain ⟨p, q, r, _⟩ := hT.arc h1
      have hg : GF T dn s y x c := ⟨a, h1, h2, hx, h5, h4, h6⟩
      obtain ⟨i, j⟩ := ha.le y x c hg hA
      by_cases hyd : y = d
      · subst hyd
        omega
      · have hov : T.over y = false := h3.resolve_left hyd
        obtain ⟨u, v⟩ := ih (B y).toNat (by omega) y (by omega) (by omega) (.inr hov) i hy rfl
        omega
theorem both_ge {A B : Int → Int} (hT : T.Ok) (ha : Bell T.n s (GF T dn s) A) (hb : Bell T.n d (GD T dn d) B) : ∀ N : Nat, ∀ x, 0 ≤ x → x < T.n → (x = d ∨ T.over x = false) → 0 ≤ A x → 0 ≤ B x → (A x).toNat = N → 0 ≤ B s ∧ B s ≤ A x + B x := by
  intro N
  induction N using Nat.strongRecOn with
  | _ N ih =>
    intro x x0 x1 hx hA hB hN
    by_cases hd : x = s
    · subst hd; omega
    · obtain ⟨y, c, ⟨a, h1, h2, h3, h4, h5, h6⟩, hy, he⟩ := ha.ex x x0 x1 hd hA
      obtain ⟨p, q, r, _⟩ := hT.arc h1
      have hg : GD T dn d y x c := ⟨a, h1, h2, hx, h5, h4, h6⟩
      obtain ⟨i, j⟩ := hb.le y x c hg hB
      by_cases hyd : y = s
      · subst hyd
        omega
      · have hov : T.over y = false := h3.resolve_left hyd
        obtain ⟨u, v⟩ := ih (A y).toNat (by omega) y (by omega) (by omega) (.inr hov) hy i rfl
        omega
theorem both {A B : Int → Int} (hT : T.Ok) (hs : 0 ≤ s ∧ s < T.n) (hd : 0 ≤ d ∧ d < T.n) (ha : Bell T.n s (GF T dn s) A) (hb : Bell T.n d (GD T dn d) B) : A d = B s := by
  have h1 := ha.neg d hd.1 hd.2
  have h2 := hb.neg s hs.1 hs.2
  have p := both_le hT ha hb (B s).toNat s hs.1 hs.2 (.inl rfl) (by rw [ha.root]; omega)
  have q := both_ge hT ha hb (A d).toNat d hd.1 hd.2 (.inl rfl)
  rw [ha.root] at p
  rw [hb.root] at q
  by_cases h : 0 ≤ B s
  · have := p h rfl
    have := q this.1 (by omega) rfl
    omega
  · by_cases h' : 0 ≤ A d
    · have := q h' (by omega) rfl; omega
    · omega
/-- A path over arcs that are up, whose inner nodes are not overloaded, and its cost. -/
def Walk (T : Top) (dn : List Bool) : Int → List Int → Int → Int → Prop
  | x, [], y, c => x = y ∧ c = 0
  | x, a :: r, y, c => (0 ≤ a ∧ a < T.arcs) ∧ ba dn a = false ∧ T.tl a = x ∧ (r ≠ [] → T.over (T.hd a) = false) ∧ ∃ c', c = T.co a + c' ∧ Walk T dn (T.hd a) r y c'
theorem Walk.least {B : Int → Int} (hb : Bell T.n d (GD T dn d) B) : ∀ {p : List Int} {x c : Int}, Walk T dn x p d c → 0 ≤ B x ∧ B x ≤ c
  | [], x, c, h => by obtain ⟨rfl, rfl⟩ := h; rw [hb.root]; omega
  | a :: r, x, c, ⟨h1, h2, h3, h4, c', h5, h6⟩ => by
    obtain ⟨i, j⟩ := Walk.least hb h6
    have hy : T.hd a = d ∨ T.over (T.hd a) = false := by
      cases r with
      | nil => exact .inl h6.1
      | cons b r => exact .inr (h4 (by simp))
    have := hb.le x (T.hd a) (T.co a) ⟨a, h1, h2, hy, h3.symm, rfl, rfl⟩ i
    omega
/-- An arc with which a shortest path to d begins. -/
def OnA (T : Top) (dn : List Bool) (d : Int) (D : Int → Int) (a : Int) : Prop := ba dn a = false ∧ T.tl a ≠ d ∧ 0 ≤ D (T.hd a) ∧ (T.hd a = d ∨ T.over (T.hd a) = false) ∧ D (T.tl a) = D (T.hd a) + T.co a
instance (D : Int → Int) (a : Int) : Decidable (OnA T dn d D a) := by unfold OnA; infer_instance
/-- The first shortest path: at each node the first such arc. -/
def FP (T : Top) (dn : List Bool) (d : Int) (D : Int → Int) : Int → List Int → Prop
  | x, [] => x = d
  | x, a :: r => x ≠ d ∧ (0 ≤ a ∧ a < T.arcs) ∧ (T.tl a = x ∧ OnA T dn d D a) ∧ (∀ b, 0 ≤ b → b < a → ¬ (T.tl b = x ∧ OnA T dn d D b)) ∧ FP T dn d D (T.hd a) r
theorem FP.one {D : Int → Int} : ∀ {p q : List Int} {x : Int}, FP T dn d D x p → FP T dn d D x q → p = q
  | [], [], _, _, _ => rfl
  | [], b :: q, x, h, h' => absurd h h'.1
  | a :: p, [], x, h, h' => absurd h' h.1
  | a :: p, b :: q, x, h, h' => by
    obtain ⟨h1, h2, h3, h4, h5⟩ := h
    obtain ⟨g1, g2, g3, g4, g5⟩ := h'
    have e : a = b := by
      rcases Int.lt_trichotomy a b with e | e | e
      · exact absurd h3 (g4 a h2.1 e)
      · exact e
      · exact absurd g3 (h4 b g2.1 e)
    subst e
    rw [FP.one h5 g5]
theorem FP.walk {D : Int → Int} (hb : Bell T.n d (GD T dn d) D) : ∀ {p : List Int} {x : Int}, FP T dn d D x p → Walk T dn x p d (D x)
  | [], x, h => by
    have : x = d := h
    subst this
    exact ⟨rfl, hb.root⟩
  | a :: r, x, ⟨h1, h2, ⟨h3, h4⟩, h5, h6⟩ => by
    obtain ⟨o1, o2, o3, o4, o5⟩ := h4
    refine ⟨h2, o1, h3, fun hr => ?_, D (T.hd a), by rw [← h3, o5]; omega, FP.walk hb h6⟩
    rcases o4 with e | e
    · cases r with
      | nil => exact absurd rfl hr
      | cons b r => exact absurd e h6.1
    · exact e
theorem FP.drop {D : Int → Int} : ∀ {p : List Int} {x : Int} {i : Nat} {a : Int}, FP T dn d D x p → p[i]? = some a → FP T dn d D (T.tl a) (p.drop i) ∧ (0 ≤ a ∧ a < T.arcs) ∧ ba dn a = false
  | [], x, i, a, h, h' => by simp at h'
  | b :: p, x, 0, a, h, h' => by
    simp at h'
    subst h'
    obtain ⟨h1, h2, ⟨h3, h4⟩, h5⟩ := id h
    rw [h3]
    exact ⟨h, h2, h4.1⟩
  | b :: p, x, i + 1, a, ⟨_, _, _, _, h⟩, h' => by
    have := FP.drop (p := p) (i := i) (a := a) h (by simpa using h')
    simpa using this
/-- Where a node reaches d, an arc leads on, and the distance decreases. -/
theorem on_arc {D : Int → Int} (hT : T.Ok) (hb : Bell T.n d (GD T dn d) D) {x : Int} (hx : 0 ≤ x ∧ x < T.n) (hne : x ≠ d) (h : 0 ≤ D x) : ∃ a, (0 ≤ a ∧ a < T.arcs) ∧ T.tl a = x ∧ OnA T dn d D a := by
  obtain ⟨y, c, ⟨a, h1, h2, h3, h4, h5, h6⟩, hy, he⟩ := hb.ex x hx.1 hx.2 hne h
  subst h4 h5 h6
  exact ⟨a, h1, rfl, h2, hne, hy, h3, he⟩
theorem OnA.less {D : Int → Int} (hT : T.Ok) {a : Int} (ha : 0 ≤ a ∧ a < T.arcs) (h : OnA T dn d D a) : 0 ≤ D (T.hd a) ∧ D (T.hd a) < D (T.tl a) := by
  obtain ⟨_, _, c, _⟩ := hT.arc ha
  obtain ⟨_, _, h3, _, h5⟩ := h
  omega
end
end Go.Proofs.Ythhhegmhgheeiaa
