/- The states of a tree, and what changes do to them. No program in sight. -/
import Derived.Test.YthhhegmhgheeiaaIncrB
import Derived.Test.YthhhegmhgheeiaaEx
import Derived.Test.YthhhegmhgheeiaaCore9
namespace Go.Proofs.Ythhhegmhgheeiaa
open Go.Wf
set_option linter.unusedVariables false
/-- What is known of a tree's topology and mask. -/
structure TrS (tp : Top) (dn : List Bool) (d : Int) : Prop where
  ok : tp.Ok
  dn : (dn.length : Int) = tp.arcs
  ov : (tp.ov.length : Int) = tp.n
  d : 0 ≤ d ∧ d < tp.n
/-- The distances. -/
noncomputable def dlist (tp : Top) (dn : List Bool) (d : Int) : List Int :=
  open Classical in if h : ∃ D, Bell tp.n d (GD tp dn d) D then (List.range tp.n.toNat).map fun i : Nat => Classical.choose h (i : Int) else []
section
variable {tp : Top} {dn : List Bool} {d : Int}
theorem dlist_ok (ht : tp.Ok) (hd : 0 ≤ d ∧ d < tp.n) : DL tp.n d (GD tp dn d) (dlist tp dn d) := by
  have h : ∃ D, Bell tp.n d (GD tp dn d) D := Bell.ex_ (GD.ok ht)
  unfold dlist
  rw [dif_pos h]
  refine ⟨by simp; have := ht.n; omega, (Classical.choose_spec h).congr (GD.ok ht) hd (fun _ _ _ => Iff.rfl) fun x x0 x1 => ?_⟩
  unfold ia
  rw [List.getD_eq_getElem?_getD, List.getElem?_map, List.getElem?_range (by omega)]
  simp [Int.toNat_of_nonneg x0]
theorem dlist_eq (ht : tp.Ok) (hd : 0 ≤ d ∧ d < tp.n) {l : List Int} (h : DL tp.n d (GD tp dn d) l) : l = dlist tp dn d := DL.one (GD.ok ht) h (dlist_ok ht hd)
theorem dlist_len (ht : tp.Ok) (hd : 0 ≤ d ∧ d < tp.n) : ((dlist tp dn d).length : Int) = tp.n := (dlist_ok ht hd).len
end
structure Act3 where
  (k i n : Int)
def actE (tp : Top) (a : Act3) : Int := if a.k ≤ 2 then (if 0 ≤ a.i ∧ a.i < tp.arcs then (if a.k = 0 ∧ ¬ (1 ≤ a.n ∧ a.n ≤ 65535) then 1 else 0) else 2) else (if 0 ≤ a.i ∧ a.i < tp.n then 0 else 2)
def actT (tp : Top) (a : Act3) : Top := if a.k = 0 then tp.setCost a.i a.n else if a.k ≤ 2 then tp else tp.setOver a.i (decide (a.k = 3))
def actD (dn : List Bool) (a : Act3) : List Bool := if a.k = 1 ∨ a.k = 2 then dn.set a.i.toNat (decide (a.k = 1)) else dn
structure TS where
  (tp : Top) (dn : List Bool) (d k : Int)
noncomputable def TS.l (s : TS) : List Int := dlist s.tp s.dn s.d
noncomputable def TS.to (s : TS) (tp' : Top) (dn' : List Bool) : TS := ⟨tp', dn', s.d, difN s.l (dlist tp' dn' s.d)⟩
noncomputable def TS.step (s : TS) (a : Act3) : TS := if actE s.tp a = 0 then s.to (actT s.tp a) (actD s.dn a) else s
abbrev TS.Ok (s : TS) : Prop := TrS s.tp s.dn s.d
/-- A change of one of the five kinds. -/
def Act3.Ok (a : Act3) : Prop := 0 ≤ a.k ∧ a.k ≤ 4
instance (a : Act3) : Decidable a.Ok := by unfold Act3.Ok; infer_instance
section
variable {tp : Top} {dn : List Bool} {d : Int} {a b : Act3} {s : TS}
theorem setCost_arcs (x c : Int) : (tp.setCost x c).arcs = tp.arcs := by unfold Top.setCost Top.arcs; simp
theorem actT_arcs : (actT tp a).arcs = tp.arcs := by
  unfold actT
  split
  · exact setCost_arcs _ _
  · split <;> rfl
theorem actT_n : (actT tp a).n = tp.n := by
  unfold actT
  split
  · rfl
  · split <;> rfl
theorem actT_ov : (actT tp a).ov.length = tp.ov.length := by
  unfold actT
  split
  · rfl
  · split
    · rfl
    · unfold Top.setOver; simp
theorem actE_act : actE (actT tp a) b = actE tp b := by unfold actE; rw [actT_arcs, actT_n]
theorem actD_len : (actD dn a).length = dn.length := by unfold actD; split <;> simp
theorem actE_arc (he : actE tp a = 0) (h : a.k ≤ 2) : 0 ≤ a.i ∧ a.i < tp.arcs := by
  unfold actE at he
  rw [if_pos h] at he
  split at he
  · assumption
  · omega
theorem actE_cost (he : actE tp a = 0) (h : a.k = 0) : 1 ≤ a.n ∧ a.n ≤ 65535 := by
  unfold actE at he
  rw [if_pos (by omega)] at he
  split at he
  · split at he
    · omega
    · rename_i h2
      exact Decidable.byContradiction fun h3 => h2 ⟨h, h3⟩
  · omega
theorem actE_node (he : actE tp a = 0) (h : ¬ a.k ≤ 2) : 0 ≤ a.i ∧ a.i < tp.n := by
  unfold actE at he
  rw [if_neg h] at he
  split at he
  · assumption
  · omega
theorem actT_ok (h : TrS tp dn d) (he : actE tp a = 0) : TrS (actT tp a) (actD dn a) d := by
  refine ⟨?_, by rw [actD_len, actT_arcs]; exact h.dn, by rw [actT_ov, actT_n]; exact h.ov, by rw [actT_n]; exact h.d⟩
  unfold actT
  split
  · rename_i hk
    exact setCost_ok h.ok (actE_arc he (by omega)) (actE_cost he hk)
  · split
    · exact h.ok
    · exact setOver_ok h.ok
theorem TS.step_ok (h : s.Ok) : (s.step a).Ok := by
  unfold TS.step
  split
  · rename_i he
    exact actT_ok h he
  · exact h
theorem TS.step_d : (s.step a).d = s.d := by unfold TS.step; split <;> rfl
theorem TS.step_n : (s.step a).tp.n = s.tp.n := by
  unfold TS.step
  split
  · exact actT_n
  · rfl
theorem TS.step_arcs : (s.step a).tp.arcs = s.tp.arcs := by
  unfold TS.step
  split
  · exact actT_arcs
  · rfl
theorem TS.l_len (h : s.Ok) : (s.l.length : Int) = s.tp.n := dlist_len h.ok h.d
/-! ### Changes of different arcs and nodes. -/
theorem lkSet_comm (l : Lk) {p q c e : Int} (h : (p = 0) ≠ (q = 0)) : lkSet (lkSet l p c) q e = lkSet (lkSet l q e) p c := by
  unfold lkSet
  by_cases h1 : p = 0 <;> by_cases h2 : q = 0 <;> simp only [h1, h2, if_true, if_false] <;> exact absurd (by simp [h1, h2]) h
theorem setCost_comm {x y c e : Int} (hx : 0 ≤ x ∧ x < tp.arcs) (hy : 0 ≤ y ∧ y < tp.arcs) (h : x ≠ y) : (tp.setCost x c).setCost y e = (tp.setCost y e).setCost x c := by
  have hA : tp.arcs = 2 * (tp.ls.length : Int) := rfl
  unfold Top.setCost
  simp only [Top.mk.injEq, true_and]
  by_cases e1 : x / 2 = y / 2
  · rw [el_set' (by omega) (by omega), el_set' (by omega) (by omega), if_pos e1, if_pos e1.symm, e1, List.set_set, List.set_set]
    congr 1
    exact lkSet_comm _ (fun h2 => h (by
      have : x % 2 = 0 ↔ y % 2 = 0 := by rw [h2]
      omega))
  · rw [el_set' (by omega) (by omega), el_set' (by omega) (by omega), if_neg e1, if_neg (fun h => e1 h.symm), List.set_comm _ _ (by omega)]
theorem setOver_comm {x y : Int} {p q : Bool} (hx : 0 ≤ x) (hy : 0 ≤ y) (h : x ≠ y) : (tp.setOver x p).setOver y q = (tp.setOver y q).setOver x p := by
  unfold Top.setOver
  simp only [Top.mk.injEq, true_and, and_true]
  rw [List.set_comm _ _ (by omega)]
theorem actT_comm (ha : actE tp a = 0) (hb : actE tp b = 0) (h : a.i ≠ b.i) : actT (actT tp a) b = actT (actT tp b) a := by
  by_cases a0 : a.k = 0
  · by_cases b0 : b.k = 0
    · have e1 : ∀ t : Top, actT t a = t.setCost a.i a.n := fun t => by unfold actT; rw [if_pos a0]
      have e2 : ∀ t : Top, actT t b = t.setCost b.i b.n := fun t => by unfold actT; rw [if_pos b0]
      rw [e1, e2, e1, e2]
      exact setCost_comm (actE_arc ha (by omega)) (actE_arc hb (by omega)) h
    · have e1 : ∀ t : Top, actT t a = t.setCost a.i a.n := fun t => by unfold actT; rw [if_pos a0]
      by_cases b2 : b.k ≤ 2
      · have e2 : ∀ t : Top, actT t b = t := fun t => by unfold actT; rw [if_neg b0, if_pos b2]
        rw [e1, e2, e1, e2]
      · have e2 : ∀ t : Top, actT t b = t.setOver b.i (decide (b.k = 3)) := fun t => by unfold actT; rw [if_neg b0, if_neg b2]
        rw [e1, e2, e1, e2]
        rfl
  · by_cases a2 : a.k ≤ 2
    · have e1 : ∀ t : Top, actT t a = t := fun t => by unfold actT; rw [if_neg a0, if_pos a2]
      rw [e1, e1]
    · have e1 : ∀ t : Top, actT t a = t.setOver a.i (decide (a.k = 3)) := fun t => by unfold actT; rw [if_neg a0, if_neg a2]
      by_cases b0 : b.k = 0
      · have e2 : ∀ t : Top, actT t b = t.setCost b.i b.n := fun t => by unfold actT; rw [if_pos b0]
        rw [e1, e2, e1, e2]
        rfl
      · by_cases b2 : b.k ≤ 2
        · have e2 : ∀ t : Top, actT t b = t := fun t => by unfold actT; rw [if_neg b0, if_pos b2]
          rw [e2, e2]
        · have e2 : ∀ t : Top, actT t b = t.setOver b.i (decide (b.k = 3)) := fun t => by unfold actT; rw [if_neg b0, if_neg b2]
          rw [e1, e2, e1, e2]
          exact setOver_comm (actE_node ha a2).1 (actE_node hb b2).1 h
theorem actD_comm (ha : actE tp a = 0) (hb : actE tp b = 0) (h : a.i ≠ b.i) : actD (actD dn a) b = actD (actD dn b) a := by
  unfold actD
  by_cases a1 : a.k = 1 ∨ a.k = 2
  · by_cases b1 : b.k = 1 ∨ b.k = 2
    · rw [if_pos a1, if_pos b1, if_pos b1, if_pos a1]
      have h1 := actE_arc ha (by omega)
      have h2 := actE_arc hb (by omega)
      rw [List.set_comm _ _ (by omega)]
    · rw [if_neg b1, if_neg b1]
  · rw [if_neg a1, if_neg a1]
/-- A tree's topology and mask. -/
structure TC where
  (tp : Top) (dn : List Bool)
def TC.step (c : TC) (a : Act3) : TC := if actE c.tp a = 0 then ⟨actT c.tp a, actD c.dn a⟩ else c
def TS.c (s : TS) : TC := ⟨s.tp, s.dn⟩
theorem TS.step_c : (s.step a).c = s.c.step a := by
  unfold TS.step TC.step TS.c
  split <;> rfl
theorem TC.comm {c : TC} (h : a.i ≠ b.i) : (c.step a).step b = (c.step b).step a := by
  unfold TC.step
  by_cases ha : actE c.tp a = 0
  · rw [if_pos ha]
    by_cases hb : actE c.tp b = 0
    · rw [if_pos hb, if_pos (by rw [actE_act]; exact hb), if_pos (by rw [actE_act]; exact ha)]
      rw [actT_comm ha hb h, actD_comm ha hb h]
    · rw [if_neg hb, if_neg (by rw [actE_act]; exact hb), if_pos ha]
  · rw [if_neg ha]
    by_cases hb : actE c.tp b = 0
    · rw [if_pos hb, if_neg (by rw [actE_act]; exact ha)]
    · rw [if_neg hb, if_neg ha]
theorem TC.past {c : TC} : ∀ {l : List Act3}, (∀ b ∈ l, a.i ≠ b.i) → l.foldl TC.step (c.step a) = (l.foldl TC.step c).step a
  | [], _ => rfl
  | b :: r, h => by
    rw [List.foldl_cons, List.foldl_cons, TC.comm (h b (by simp)), TC.past fun x hx => h x (by simp [hx])]
theorem TC.rev : ∀ {l : List Act3} {c : TC}, l.Pairwise (fun a b => a.i ≠ b.i) → l.foldl TC.step c = l.reverse.foldl TC.step c
  | [], _, _ => rfl
  | a :: r, c, h => by
    obtain ⟨h1, h2⟩ := List.pairwise_cons.1 h
    rw [List.foldl_cons, TC.past h1, List.reverse_cons, List.foldl_append, TC.rev h2]
    rfl
theorem TS.fold_c : ∀ {l : List Act3} {s : TS}, (l.foldl TS.step s).c = l.foldl TC.step s.c
  | [], _ => rfl
  | a :: r, s => by rw [List.foldl_cons, List.foldl_cons, TS.fold_c, TS.step_c]
theorem TS.fold_d : ∀ {l : List Act3} {s : TS}, (l.foldl TS.step s).d = s.d
  | [], _ => rfl
  | a :: r, s => by rw [List.foldl_cons, TS.fold_d, TS.step_d]
theorem TS.fold_ok : ∀ {l : List Act3} {s : TS}, s.Ok → (l.foldl TS.step s).Ok
  | [], _, h => h
  | a :: r, s, h => TS.fold_ok (l := r) (s := s.step a) (TS.step_ok h)
theorem TS.rev {l : List Act3} {s : TS} (h : l.Pairwise fun a b => a.i ≠ b.i) : (l.foldl TS.step s).l = (l.reverse.foldl TS.step s).l := by
  have e1 : (l.foldl TS.step s).c = (l.reverse.foldl TS.step s).c := by rw [TS.fold_c, TS.fold_c]; exact TC.rev h
  have e2 : (l.foldl TS.step s).d = (l.reverse.foldl TS.step s).d := by rw [TS.fold_d, TS.fold_d]
  have e3 := congrArg TC.tp e1
  have e4 := congrArg TC.dn e1
  unfold TS.c at e3 e4
  simp only [] at e3 e4
  unfold TS.l
  rw [e2, e3, e4]
/-! ### A change that is undone. -/
theorem difN_comm {l m : List Int} (h : l.length = m.length) : difN l m = difN m l := by
  unfold difN
  rw [h]
  congr 2
  funext x
  simp only [ne_eq, decide_not, Bool.not_inj_iff, decide_eq_decide]
  exact ⟨fun e => e.symm, fun e => e.symm⟩
theorem difN_self (l : List Int) : difN l l = 0 := by
  unfold difN cntP
  simp
/-- What undoes a change. -/
def actB (tp : Top) (dn : List Bool) (a : Act3) : Act3 := if a.k ≤ 2 then (if a.k = 0 then ⟨0, a.i, tp.co a.i⟩ else ⟨if ba dn a.i = true then 1 else 2, a.i, tp.co a.i⟩) else ⟨if tp.over a.i = true then 3 else 4, a.i, a.n⟩
theorem lkSet_back (l : Lk) (p c : Int) : lkSet (lkSet l p c) p (if p = 0 then l.c0 else l.c1) = l := by
  unfold lkSet
  by_cases h : p = 0
  · simp [h]
  · simp [h]
theorem set_el {l : List Lk} {i : Int} (hi : 0 ≤ i ∧ i < l.length) : l.set i.toNat (el l i) = l := by
  rw [el_get hi]
  exact List.set_getElem_self _
theorem set_ba {l : List Bool} {i : Int} (hi : 0 ≤ i ∧ i < l.length) : l.set i.toNat (ba l i) = l := by
  have : ba l i = l[i.toNat]'(by omega) := by unfold ba; rw [List.getD_eq_getElem?_getD, List.getElem?_eq_getElem (by omega)]; rfl
  rw [this]
  exact List.set_getElem_self _
theorem setCost_back {x c : Int} (hx : 0 ≤ x ∧ x < tp.arcs) : (tp.setCost x c).setCost x (tp.co x) = tp := by
  have hA : tp.arcs = 2 * (tp.ls.length : Int) := rfl
  have e : tp.co x = if x % 2 = 0 then (el tp.ls (x / 2)).c0 else (el tp.ls (x / 2)).c1 := rfl
  unfold Top.setCost
  simp only []
  rw [el_set' (by omega) (by omega), if_pos rfl, e, lkSet_back, List.set_set, set_el (by omega)]
theorem actB_e (h : TrS tp dn d) (hk : a.Ok) (he : actE tp a = 0) : actE tp (actB tp dn a) = 0 := by
  obtain ⟨k0, k4⟩ := hk
  by_cases h2 : a.k ≤ 2
  · have hi := actE_arc he h2
    obtain ⟨_, _, hc, _⟩ := h.ok.arc hi
    by_cases h0 : a.k = 0
    · have : actB tp dn a = ⟨0, a.i, tp.co a.i⟩ := by unfold actB; rw [if_pos h2, if_pos h0]
      rw [this]
      unfold actE
      rw [if_pos (by dsimp only; omega), if_pos hi, if_neg (by dsimp only; omega)]
    · have : actB tp dn a = ⟨if ba dn a.i = true then 1 else 2, a.i, tp.co a.i⟩ := by unfold actB; rw [if_pos h2, if_neg h0]
      rw [this]
      unfold actE
      rw [if_pos (by dsimp only; split <;> omega), if_pos hi, if_neg (by dsimp only; split <;> omega)]
  · have hi := actE_node he h2
    have : actB tp dn a = ⟨if tp.over a.i = true then 3 else 4, a.i, a.n⟩ := by unfold actB; rw [if_neg h2]
    rw [this]
    unfold actE
    rw [if_neg (by dsimp only; split <;> omega), if_pos hi]
theorem actT_cost (t : Top) (h : a.k = 0) : actT t a = t.setCost a.i a.n := by unfold actT; rw [if_pos h]
theorem actT_down (t : Top) (h : a.k ≠ 0) (h2 : a.k ≤ 2) : actT t a = t := by unfold actT; rw [if_neg h, if_pos h2]
theorem actT_over (t : Top) (h : ¬ a.k ≤ 2) : actT t a = t.setOver a.i (decide (a.k = 3)) := by unfold actT; rw [if_neg (by omega), if_neg h]
theorem actD_down (l : List Bool) (h : a.k = 1 ∨ a.k = 2) : actD l a = l.set a.i.toNat (decide (a.k = 1)) := by unfold actD; rw [if_pos h]
theorem actD_no (l : List Bool) (h : ¬ (a.k = 1 ∨ a.k = 2)) : actD l a = l := by unfold actD; rw [if_neg h]
theorem actB_t (h : TrS tp dn d) (hk : a.Ok) (he : actE tp a = 0) : actT (actT tp a) (actB tp dn a) = tp ∧ actD (actD dn a) (actB tp dn a) = dn := by
  obtain ⟨k0, k4⟩ := hk
  have hdl := h.dn
  have hol := h.ov
  by_cases h2 : a.k ≤ 2
  · have hi := actE_arc he h2
    by_cases h0 : a.k = 0
    · have e : actB tp dn a = ⟨0, a.i, tp.co a.i⟩ := by unfold actB; rw [if_pos h2, if_pos h0]
      rw [e, actT_cost tp h0, actT_cost _ rfl, actD_no dn (by omega), actD_no _ (by simp)]
      exact ⟨setCost_back hi, rfl⟩
    · cases hb : ba dn a.i
      · have e : actB tp dn a = ⟨2, a.i, tp.co a.i⟩ := by unfold actB; rw [if_pos h2, if_neg h0, hb]; rfl
        rw [e, actT_down tp h0 h2, actT_down tp (by decide : (2 : Int) ≠ 0) (by decide : (2 : Int) ≤ 2), actD_down dn (by omega), actD_down _ (.inr rfl), List.set_set]
        refine ⟨rfl, ?_⟩
        show dn.set a.i.toNat false = dn
        rw [← hb]
        exact set_ba (by omega)
      · have e : actB tp dn a = ⟨1, a.i, tp.co a.i⟩ := by unfold actB; rw [if_pos h2, if_neg h0, hb]; rfl
        rw [e, actT_down tp h0 h2, actT_down tp (by decide : (1 : Int) ≠ 0) (by decide : (1 : Int) ≤ 2), actD_down dn (by omega), actD_down _ (.inl rfl), List.set_set]
        refine ⟨rfl, ?_⟩
        show dn.set a.i.toNat true = dn
        rw [← hb]
        exact set_ba (by omega)
  · have hi := actE_node he h2
    have hso : ∀ p q : Bool, (tp.setOver a.i p).setOver a.i q = tp.setOver a.i q := fun p q => by unfold Top.setOver; simp only [List.set_set]
    have hse : tp.setOver a.i (tp.over a.i) = tp := by
      unfold Top.setOver Top.over
      rw [set_ba (by omega)]
    cases hb : tp.over a.i
    · have e : actB tp dn a = ⟨4, a.i, a.n⟩ := by unfold actB; rw [if_neg h2, hb]; rfl
      rw [e, actT_over tp h2, actT_over _ (by decide : ¬ (4 : Int) ≤ 2), actD_no dn (by omega), actD_no _ (by simp)]
      refine ⟨?_, rfl⟩
      show (tp.setOver a.i _).setOver a.i false = tp
      rw [hso, ← hb, hse]
    · have e : actB tp dn a = ⟨3, a.i, a.n⟩ := by unfold actB; rw [if_neg h2, hb]; rfl
      rw [e, actT_over tp h2, actT_over _ (by decide : ¬ (3 : Int) ≤ 2), actD_no dn (by omega), actD_no _ (by simp)]
      refine ⟨?_, rfl⟩
      show (tp.setOver a.i _).setOver a.i true = tp
      rw [hso, ← hb, hse]
theorem TS.undone (h : s.Ok) (hk : a.Ok) (he : actE s.tp a = 0) : ((s.step a).step (actB s.tp s.dn a)).c = s.c ∧ ((s.step a).step (actB s.tp s.dn a)).l = s.l ∧ ((s.step a).step (actB s.tp s.dn a)).k = (s.step a).k := by
  obtain ⟨e1, e2⟩ := actB_t h hk he
  have e3 := actB_e h hk he
  have q1 : s.step a = s.to (actT s.tp a) (actD s.dn a) := by unfold TS.step; rw [if_pos he]
  have q2 : (s.step a).step (actB s.tp s.dn a) = (s.step a).to s.tp s.dn := by
    rw [q1]
    unfold TS.step
    have q3 : (s.to (actT s.tp a) (actD s.dn a)).tp = actT s.tp a := rfl
    have q4 : (s.to (actT s.tp a) (actD s.dn a)).dn = actD s.dn a := rfl
    rw [q3, q4, actE_act, if_pos e3, e1, e2]
  rw [q2]
  refine ⟨rfl, ?_, ?_⟩
  · unfold TS.l TS.to
    simp only [TS.step_d]
  · rw [q1]
    have hl1 := dlist_len (dn := s.dn) h.ok h.d
    have h' := actT_ok h he
    have hl2 := dlist_len (dn := actD s.dn a) h'.ok h'.d
    rw [actT_n] at hl2
    unfold TS.to TS.l
    simp only []
    exact difN_comm (by omega)
/-! ### Changes of arcs on no shortest path. -/
theorem idle_cost (ht : tp.Ok) {D : Int → Int} (hb : Bell tp.n d (GD tp dn d) D) {x c : Int} (hx : 0 ≤ x ∧ x < tp.arcs) (hn : ¬ OnA tp dn d D x) (hc : tp.co x ≤ c) : Bell tp.n d (GD (tp.setCost x c) dn d) D := by
  refine ⟨hb.root, hb.neg, fun y z q ⟨e, he, h1, h2, h3, h4, h5⟩ hz => ?_, fun y y0 y1 hy hy0 => ?_⟩
  · rw [setCost_arcs] at he
    obtain ⟨t1, t2⟩ := setCost_tl (c := c) hx he.1
    rw [t1] at h3
    rw [t2] at h4
    rw [setCost_co hx he.1] at h5
    have := hb.le y z (tp.co e) ⟨e, he, h1, h2, h3, h4, rfl⟩ hz
    split at h5
    · rename_i ee
      subst ee
      omega
    · omega
  · obtain ⟨z, q, ⟨e, he, h1, h2, h3, h4, h5⟩, hz, hq⟩ := hb.ex y y0 y1 hy hy0
    have hne : e ≠ x := fun ee => by
      subst ee h3 h4 h5
      exact hn ⟨h1, hy, hz, h2, hq⟩
    obtain ⟨t1, t2⟩ := setCost_tl (c := c) hx he.1
    refine ⟨z, q, ⟨e, by rw [setCost_arcs]; exact he, h1, h2, by rw [t1]; exact h3, by rw [t2]; exact h4, by rw [setCost_co hx he.1, if_neg hne]; exact h5⟩, hz, hq⟩
theorem idle_on (ht : tp.Ok) {D : Int → Int} (hb : Bell tp.n d (GD tp dn d) D) {x : Int} (hx : 0 ≤ x ∧ x < tp.arcs) : ¬ OnA (tp.setCost x (tp.co x + 1)) dn d D x := by
  intro ⟨h1, h2, h3, h4, h5⟩
  obtain ⟨t1, t2⟩ := setCost_tl (c := tp.co x + 1) hx hx.1
  rw [t1] at h2 h5
  rw [t2] at h3 h4 h5
  rw [setCost_co hx hx.1, if_pos rfl] at h5
  have := hb.le (tp.tl x) (tp.hd x) (tp.co x) ⟨x, hx, h1, h4, rfl, rfl, rfl⟩ h3
  omega
theorem idle_down {D : Int → Int} (hb : Bell tp.n d (GD tp dn d) D) {x : Int} (hx : 0 ≤ x ∧ x < dn.length) (hn : ¬ OnA tp dn d D x) : Bell tp.n d (GD tp (dn.set x.toNat true) d) D := by
  refine ⟨hb.root, hb.neg, fun y z q ⟨e, he, h1, h2⟩ hz => ?_, fun y y0 y1 hy hy0 => ?_⟩
  · rw [baI_set hx he.1] at h1
    split at h1
    · cases h1
    · exact hb.le y z q ⟨e, he, h1, h2⟩ hz
  · obtain ⟨z, q, ⟨e, he, h1, h2, h3, h4, h5⟩, hz, hq⟩ := hb.ex y y0 y1 hy hy0
    have hne : x ≠ e := fun ee => by
      subst ee h3 h4 h5
      exact hn ⟨h1, hy, hz, h2, hq⟩
    exact ⟨z, q, ⟨e, he, by rw [baI_set hx he.1, if_neg hne]; exact h1, h2, h3, h4, h5⟩, hz, hq⟩
/-! ### The beginning: an empty mask, and no overloaded nodes, written out. -/
def Top.fill (T : Top) : Top := { T with ov := if T.ov.length = 0 then List.replicate T.n.toNat false else T.ov }
def fillD (tp : Top) (dn : List Bool) : List Bool := cpB (List.replicate tp.arcs.toNat false) dn
theorem baI_rep (k : Nat) (i : Int) : ba (List.replicate k false) i = false := by
  unfold ba
  rw [List.getD_eq_getElem?_getD, List.getElem?_replicate]
  split <;> rfl
theorem ba_nil (i : Int) : ba [] i = false := by unfold ba; rfl
theorem fill_over (x : Int) : tp.fill.over x = tp.over x := by
  unfold Top.over Top.fill
  simp only []
  split
  · rename_i h
    rw [baI_rep, List.length_eq_zero_iff.1 h, ba_nil]
  · rfl
theorem fillD_ba (x : Int) : ba (fillD tp dn) x = ba dn x := by
  unfold fillD cpB
  split
  · rename_i h
    rw [baI_rep, List.length_eq_zero_iff.1 h, ba_nil]
  · rfl
theorem fill_gd : GD tp.fill (fillD tp dn) d = GD tp dn d := by
  funext x y c
  unfold GD
  simp only [fill_over, fillD_ba]
  rfl
theorem fill_dlist : dlist tp.fill (fillD tp dn) d = dlist tp dn d := by
  have e : tp.fill.n = tp.n := rfl
  unfold dlist
  rw [e, fill_gd]
theorem fill_ok (ht : tp.Ok) (hf : Fit tp dn) (hd : 0 ≤ d ∧ d < tp.n) : TrS tp.fill (fillD tp dn) d := by
  have hn := ht.n
  have hov := ht.ov
  have har0 : tp.arcs = 2 * (tp.ls.length : Int) := rfl
  refine ⟨⟨ht.n, ?_, ht.ln, ht.lk⟩, ?_, ?_, hd⟩
  · unfold Top.fill
    simp only []
    split
    · simp; omega
    · exact hov
  · unfold fillD cpB
    show _ = tp.arcs
    split
    · simp; omega
    · rcases hf with h | h
      · omega
      · exact h
  · unfold Top.fill
    simp only []
    split
    · simp; omega
    · omega
end
end Go.Proofs.Ythhhegmhgheeiaa
