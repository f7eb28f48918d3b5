/- Distances after a change of some arcs: how the two phases begin, what is counted, what an offer does, what changes are. No program in sight. -/
import Derived.Test.YthhhegmhgheeiaaIncr
import Derived.Test.YthhhegmhgheeiaaTopo
namespace Go.Proofs.Ythhhegmhgheeiaa
open Go.Wf
set_option linter.unusedVariables false
/-- How many numbers below n have a property. -/
def cntP (n : Nat) (p : Int → Bool) : Nat := ((List.range n).filter fun i : Nat => p (i : Int)).length
theorem cntP_le (n : Nat) (p : Int → Bool) : cntP n p ≤ n := by
  unfold cntP
  refine Nat.le_trans (List.length_filter_le _ _) ?_
  simp
theorem cntP_lt {n : Nat} {p q : Int → Bool} (h : ∀ x : Int, 0 ≤ x → x < n → q x = true → p x = true) {y : Int} (hy : 0 ≤ y ∧ y < n) (h1 : p y = true) (h2 : q y = false) : cntP n q < cntP n p := by
  unfold cntP
  have hs : (List.range n).filter (fun i : Nat => q (i : Int)) = ((List.range n).filter fun i : Nat => p (i : Int)).filter fun i : Nat => q (i : Int) := by
    rw [List.filter_filter]
    refine List.filter_congr fun i hi => ?_
    rw [List.mem_range] at hi
    have := h i (by omega) (by omega)
    cases hq : q (i : Int)
    · simp
    · rw [this hq]; simp
  rw [hs, List.length_filter_lt_length_iff_exists]
  exact ⟨y.toNat, List.mem_filter.2 ⟨List.mem_range.2 (by omega), by rw [Int.toNat_of_nonneg hy.1]; exact h1⟩, by rw [Int.toNat_of_nonneg hy.1, h2]; simp⟩
/-- The least that a node's arcs offer, over the nodes that are not lost; or -1. -/
structure BestP (G : Gr) (F : Int → Int) (X : Int → Bool) (x v : Int) : Prop where
  le : ∀ y c, G x y c → 0 ≤ F y → X y = false → 0 ≤ v ∧ v ≤ F y + c
  ex : v = -1 ∨ ∃ y c, G x y c ∧ 0 ≤ F y ∧ X y = false ∧ F y + c = v
/-- What an offer makes of the offers. -/
def offM (d : Int) (F : Int → Int) (m : Int → Option Int) (x v : Int) : Int → Option Int :=
  if x = d ∨ v < 0 ∨ (0 ≤ F x ∧ F x ≤ v) then m else match m x with
    | some k => if v < k then upd m x (some v) else m
    | none => upd m x (some v)
section
variable {n d top : Int} {G G0 : Gr} {D F : Int → Int} {m : Int → Option Int} {X : Int → Bool} {C : Int → Prop}
theorem Los.start (h : Bell n d G0 D) (h01 : ∀ x y c, G0 x y c → C x ∨ G x y c) : Los n d G D (fun _ => none) 0 (fun _ => false) C := by
  refine ⟨fun x k _ _ h => (by cases h), fun x _ _ h => (by cases h), fun x x0 x1 hx hD _ => ?_⟩
  obtain ⟨y, c, hg, hy, he⟩ := h.ex x x0 x1 hx hD
  rcases h01 x y c hg with hc | hg
  · exact .inr (.inr hc)
  · exact .inr (.inl ⟨y, c, hg, hy, rfl, by omega⟩)
theorem Gai.start (hb : Bell n d G0 D) (hd : 0 ≤ d ∧ d < n) (hk : GOK n G) (hl : Los n d G D (fun _ => none) top X fun _ => False) (h10 : ∀ x y c, G x y c → C x ∨ G0 x y c) (hF : ∀ x, 0 ≤ x → x < n → F x = if X x = true then -1 else D x) : Gai n d G (fun x _ _ => X x = false ∧ ¬ C x) F (fun _ => none) 0 := by
  have hXd : X d = false := by
    cases h : X d with
    | false => rfl
    | true => exact absurd rfl (hl.lost d hd.1 hd.2 h).1
  refine ⟨by rw [hF d hd.1 hd.2, hXd]; simpa using hb.root, fun x x0 x1 => ?_, fun x y c hg hp hy hx => ?_, fun x x0 x1 hx h0 => ?_, fun x k _ _ h => (by cases h)⟩
  · rw [hF x x0 x1]
    split
    · omega
    · exact hb.neg x x0 x1
  · obtain ⟨a, b, hc⟩ := hk.ok x y c hg
    rw [hF y b.1 b.2] at hy ⊢
    rw [hF x a.1 a.2, hp.1]
    have hXy : X y = false := by
      cases h : X y with
      | false => rfl
      | true => rw [h] at hy; simp at hy
    rw [hXy] at hy ⊢
    rcases h10 x y c hg with h | h
    · exact absurd h hp.2
    · left; simpa using hb.le x y c h (by simpa using hy)
  · rw [hF x x0 x1] at h0 ⊢
    have hXx : X x = false := by
      cases h : X x with
      | false => rfl
      | true => rw [h] at h0; simp at h0
    rw [hXx] at h0 ⊢
    rcases hl.sup x x0 x1 hx (by simpa using h0) hXx with h | ⟨y, c, hg, hy, hXy, he⟩ | h
    · cases h
    · obtain ⟨a, b, hc⟩ := hk.ok x y c hg
      refine ⟨y, c, hg, ?_, ?_⟩
      · rw [hF y b.1 b.2, hXy]; simpa using hy
      · rw [hF y b.1 b.2, hXy]; simpa using he
    · exact h.elim
theorem Gai.step {P Q : Gr} (h : Gai n d G P F m top) {x0 v : Int} (hx0 : 0 ≤ x0 ∧ x0 < n) (hQ : ∀ x y c, G x y c → Q x y c → x = x0 ∧ (0 ≤ F y → 0 ≤ v ∧ v ≤ F y + c)) (ht : 0 ≤ v → top ≤ v) (hs : 0 ≤ v → ∃ y c, G x0 y c ∧ 0 ≤ F y ∧ F y + c ≤ v) : Gai n d G (fun x y c => P x y c ∨ Q x y c) F (offM d F m x0 v) top := by
  unfold offM
  split
  · rename_i e
    rcases e with e | e | e
    · exact h.none_ hQ (.inl e)
    · exact h.none_ hQ (.inr (.inl e))
    · exact h.none_ hQ (.inr (.inr (.inl e)))
  · rename_i e
    have h1 : x0 ≠ d := fun q => e (.inl q)
    have h2 : 0 ≤ v := Decidable.byContradiction fun q => e (.inr (.inl (by omega)))
    have h3 : F x0 < 0 ∨ v < F x0 := by
      refine Decidable.byContradiction fun q => e (.inr (.inr ?_))
      omega
    cases hk : m x0 with
    | none => exact h.offer hx0 hQ h1 h3 (fun k' hk' => by rw [hk] at hk'; cases hk') (ht h2) (hs h2)
    | some k =>
      simp only []
      split
      · exact h.offer hx0 hQ h1 h3 (fun k' hk' => by rw [hk] at hk'; injection hk' with hk'; omega) (ht h2) (hs h2)
      · exact h.none_ hQ (.inr (.inr (.inr ⟨k, hk, by omega⟩)))
theorem offM_le {x0 v B : Int} (h : ∀ x k, m x = some k → k ≤ B) (hv : v ≤ B) : ∀ x k, offM d F m x0 v x = some k → k ≤ B := by
  have hu : ∀ x k, upd m x0 (some v) x = some k → k ≤ B := fun x k hx => by
    unfold upd at hx
    split at hx
    · injection hx with hx; omega
    · exact h x k hx
  intro x k hx
  unfold offM at hx
  split at hx
  · exact h x k hx
  · cases hk : m x0 with
    | none => rw [hk] at hx; exact hu x k hx
    | some k' =>
      rw [hk] at hx
      simp only [] at hx
      split at hx
      · exact hu x k hx
      · exact h x k hx
/-- What is left to be looked at in the first phase, and in the second. -/
def muL (n : Nat) (D : Int → Int) (m : Int → Option Int) (top : Int) : Nat := cntP n fun x => decide (top < D x) || (m x).isSome
def muG (n : Nat) (F : Int → Int) (top : Int) : Nat := cntP n fun x => decide (F x < 0 ∨ top < F x)
theorem muL_lt {n : Nat} {m' : Int → Option Int} {y k : Int} (hy : 0 ≤ y ∧ y < n) (hm : m y = some k) (hk : k = D y) (ht : top ≤ k) (h : ∀ x : Int, 0 ≤ x → x < n → (m' x).isSome = true → ((m x).isSome = true ∧ x ≠ y) ∨ k < D x) : muL n D m' k < muL n D m top := by
  refine cntP_lt (fun x x0 x1 hx => ?_) hy (by rw [hm]; simp) ?_
  · rw [Bool.or_eq_true, decide_eq_true_eq] at hx ⊢
    rcases hx with hx | hx
    · left; omega
    · rcases h x x0 x1 hx with e | e
      · exact .inr e.1
      · left; omega
  · cases hx : (m' y).isSome with
    | false => simp; omega
    | true =>
      rcases h y hy.1 hy.2 hx with e | e
      · exact absurd rfl e.2
      · omega
theorem muG_lt {n : Nat} {F' : Int → Int} {y k : Int} (hy : 0 ≤ y ∧ y < n) (hF : F y < 0 ∨ k < F y) (ht : top ≤ k) (h0 : 0 ≤ k) (h : ∀ x : Int, 0 ≤ x → x < n → F' x = if x = y then k else F x) : muG n F' k < muG n F top := by
  refine cntP_lt (fun x x0 x1 hx => ?_) hy (by rw [decide_eq_true_eq]; omega) ?_
  · rw [decide_eq_true_eq] at hx ⊢
    rw [h x x0 x1] at hx
    split at hx <;> omega
  · rw [decide_eq_false_iff_not, h y hy.1 hy.2, if_pos rfl]
    omega
end
/-! ### What changes are. -/
/-- All but some arcs are as they were. -/
structure Chg (tp tp' : Top) (dn dn' : List Bool) (d : Int) (ch : List Int) : Prop where
  ar : tp'.arcs = tp.arcs
  tl : ∀ a, 0 ≤ a → a < tp.arcs → tp'.tl a = tp.tl a ∧ tp'.hd a = tp.hd a
  co : ∀ a, 0 ≤ a → a < tp.arcs → a ∉ ch → tp'.co a = tp.co a ∧ ba dn' a = ba dn a ∧ tp'.over (tp.hd a) = tp.over (tp.hd a)
theorem Chg.to {tp tp' : Top} {dn dn' : List Bool} {d : Int} {ch : List Int} (h : Chg tp tp' dn dn' d ch) : ∀ x y c, GD tp dn d x y c → (∃ a ∈ ch, tp'.tl a = x) ∨ GD tp' dn' d x y c := fun x y c ⟨a, ha, h1, h2, h3, h4, h5⟩ => by
  obtain ⟨t1, t2⟩ := h.tl a ha.1 ha.2
  by_cases e : a ∈ ch
  · exact .inl ⟨a, e, by rw [t1, h3]⟩
  · obtain ⟨c1, c2, c3⟩ := h.co a ha.1 ha.2 e
    exact .inr ⟨a, by rw [h.ar]; exact ha, by rw [c2]; exact h1, by rw [h4, c3, ← h4]; exact h2, by rw [t1]; exact h3, by rw [t2]; exact h4, by rw [c1]; exact h5⟩
theorem Chg.of {tp tp' : Top} {dn dn' : List Bool} {d : Int} {ch : List Int} (h : Chg tp tp' dn dn' d ch) : ∀ x y c, GD tp' dn' d x y c → (∃ a ∈ ch, tp'.tl a = x) ∨ GD tp dn d x y c := fun x y c ⟨a, ha, h1, h2, h3, h4, h5⟩ => by
  rw [h.ar] at ha
  obtain ⟨t1, t2⟩ := h.tl a ha.1 ha.2
  by_cases e : a ∈ ch
  · exact .inl ⟨a, e, by rw [h3]⟩
  · obtain ⟨c1, c2, c3⟩ := h.co a ha.1 ha.2 e
    rw [t2] at h4
    exact .inr ⟨a, ha, by rw [← c2]; exact h1, by rw [h4, ← c3, ← h4]; exact h2, by rw [← t1]; exact h3, h4, by rw [← c1]; exact h5⟩
/-- A link with another cost. -/
def lkSet (l : Lk) (p c : Int) : Lk := if p = 0 then { l with c0 := c } else { l with c1 := c }
def Top.setCost (T : Top) (a c : Int) : Top := { T with ls := T.ls.set (a / 2).toNat (lkSet (Go.Wf.el T.ls (a / 2)) (a % 2) c) }
def Top.setOver (T : Top) (x : Int) (b : Bool) : Top := { T with ov := T.ov.set x.toNat b }
theorem baI_set {l : List Bool} {i j : Int} {b : Bool} (hi : 0 ≤ i ∧ i < l.length) (hj : 0 ≤ j) : ba (l.set i.toNat b) j = if i = j then b else ba l j := by
  unfold ba
  rw [List.getD_eq_getElem?_getD, List.getElem?_set]
  by_cases e : i = j
  · subst e
    rw [if_pos rfl, if_pos (by omega), if_pos rfl]
    rfl
  · rw [if_neg (by omega), if_neg e, List.getD_eq_getElem?_getD]
theorem el_set' {l : List Lk} {i j : Int} {v : Lk} (hi : 0 ≤ i ∧ i < l.length) (hj : 0 ≤ j) : el (l.set i.toNat v) j = if i = j then v else el l j := by
  unfold el
  rw [List.getD_eq_getElem?_getD, List.getElem?_set]
  by_cases e : i = j
  · subst e
    rw [if_pos rfl, if_pos (by omega), if_pos rfl]
    rfl
  · rw [if_neg (by omega), if_neg e, List.getD_eq_getElem?_getD]
theorem lkSet_ab (l : Lk) (p c : Int) : (lkSet l p c).a = l.a ∧ (lkSet l p c).b = l.b := by
  unfold lkSet; split <;> exact ⟨rfl, rfl⟩
section
variable {tp : Top} {dn : List Bool} {d a c : Int}
theorem setCost_tl (ha : 0 ≤ a ∧ a < tp.arcs) {q : Int} (hq : 0 ≤ q) : (tp.setCost a c).tl q = tp.tl q ∧ (tp.setCost a c).hd q = tp.hd q := by
  have hA : tp.arcs = 2 * (tp.ls.length : Int) := rfl
  have he : ∀ j, 0 ≤ j → (Go.Wf.el (tp.setCost a c).ls j).a = (Go.Wf.el tp.ls j).a ∧ (Go.Wf.el (tp.setCost a c).ls j).b = (Go.Wf.el tp.ls j).b := fun j hj => by
    unfold Top.setCost
    rw [el_set' (by omega) hj]
    split
    · rename_i e; rw [← e]; exact lkSet_ab _ _ _
    · exact ⟨rfl, rfl⟩
  obtain ⟨h1, h2⟩ := he (q / 2) (by omega)
  unfold Top.tl Top.hd
  rw [h1, h2]
  exact ⟨rfl, rfl⟩
theorem setCost_co (ha : 0 ≤ a ∧ a < tp.arcs) {q : Int} (hq : 0 ≤ q) : (tp.setCost a c).co q = if q = a then c else tp.co q := by
  have hA : tp.arcs = 2 * (tp.ls.length : Int) := rfl
  have he : Go.Wf.el (tp.setCost a c).ls (q / 2) = if a / 2 = q / 2 then lkSet (Go.Wf.el tp.ls (a / 2)) (a % 2) c else Go.Wf.el tp.ls (q / 2) := el_set' (by omega) (by omega)
  unfold Top.co
  rw [he]
  by_cases e : a / 2 = q / 2
  · rw [if_pos e, e]
    unfold lkSet
    by_cases e1 : a % 2 = 0 <;> by_cases e2 : q % 2 = 0
    · rw [if_pos e1, if_pos e2, if_pos (by omega)]
    · rw [if_pos e1, if_neg e2, if_neg (by omega), if_neg e2]
    · rw [if_neg e1, if_pos e2, if_neg (by omega), if_pos e2]
    · rw [if_neg e1, if_neg e2, if_pos (by omega)]
  · have e3 : ¬ q = a := fun h => e (by rw [h])
    simp only [if_neg e, if_neg e3]
theorem setCost_ok (ht : tp.Ok) (ha : 0 ≤ a ∧ a < tp.arcs) (hc : 1 ≤ c ∧ c ≤ 65535) : (tp.setCost a c).Ok := by
  have hA : tp.arcs = 2 * (tp.ls.length : Int) := rfl
  refine ⟨ht.n, ht.ov, by unfold Top.setCost; simpa using ht.ln, fun l hl => ?_⟩
  unfold Top.setCost at hl
  rcases List.mem_or_eq_of_mem_set hl with h | h
  · exact ht.lk l h
  · have := ht.el ha
    subst h
    unfold lkOk at this ⊢
    unfold lkSet
    split
    · refine ⟨this.1, this.2.1, this.2.2.1, hc, this.2.2.2.2⟩
    · refine ⟨this.1, this.2.1, this.2.2.1, this.2.2.2.1, hc, this.2.2.2.2.2⟩
theorem setCost_chg (ha : 0 ≤ a ∧ a < tp.arcs) : Chg tp (tp.setCost a c) dn dn d [a] := by
  refine ⟨by unfold Top.setCost Top.arcs; simp, fun q q0 _ => setCost_tl ha q0, fun q q0 q1 hq => ⟨?_, rfl, rfl⟩⟩
  rw [setCost_co ha q0, if_neg (by simpa using hq)]
theorem setDown_chg {b : Bool} (ha : 0 ≤ a ∧ a < dn.length) : Chg tp tp dn (dn.set a.toNat b) d [a] := by
  refine ⟨rfl, fun q _ _ => ⟨rfl, rfl⟩, fun q q0 q1 hq => ⟨rfl, ?_, rfl⟩⟩
  rw [baI_set ha q0, if_neg (fun e => hq (by simp [e]))]
theorem setOver_ok (ht : tp.Ok) {x : Int} {b : Bool} : (tp.setOver x b).Ok := ⟨ht.n, by unfold Top.setOver; simpa using ht.ov, ht.ln, ht.lk⟩
theorem setOver_chg (ht : tp.Ok) {x : Int} {b : Bool} (hx : 0 ≤ x ∧ x < tp.ov.length) {ch : List Int} (hch : ∀ a, 0 ≤ a → a < tp.arcs → tp.hd a = x → a ∈ ch) : Chg tp (tp.setOver x b) dn dn d ch := by
  refine ⟨rfl, fun q _ _ => ⟨rfl, rfl⟩, fun q q0 q1 hq => ⟨rfl, rfl, ?_⟩⟩
  obtain ⟨_, hh, _⟩ := ht.arc ⟨q0, q1⟩
  unfold Top.over Top.setOver
  simp only []
  rw [baI_set hx hh.1, if_neg (fun e => hq (hch q q0 q1 e.symm))]
end
/-! ### How many distances differ; the next arcs. -/
def difN (l m : List Int) : Int := (cntP l.length fun x => decide (ia m x ≠ ia l x) : Nat)
theorem cntP_succ (n : Nat) (p : Int → Bool) : cntP (n + 1) p = cntP n p + if p n = true then 1 else 0 := by
  unfold cntP
  rw [List.range_succ, List.filter_append, List.length_append]
  congr 1
  cases h : p n <;> simp [h]
theorem cntP_next {n : Int} (h : 0 ≤ n) (p : Int → Bool) : (cntP (n + 1).toNat p : Int) = cntP n.toNat p + if p n = true then 1 else 0 := by
  rw [show (n + 1).toNat = n.toNat + 1 by omega, cntP_succ, Int.toNat_of_nonneg h]
  split <;> simp
end Go.Proofs.Ythhhegmhgheeiaa
