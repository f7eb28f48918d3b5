/- Distances by repeated comparison: what holds while some are still too great. No program in sight. -/
import Derived.Test.YthhhegmhgheeiaaTopo
namespace Go.Proofs.Ythhhegmhgheeiaa
open Go.Wf
set_option linter.unusedVariables false
def nn (x : Int) : Nat := if 0 ≤ x then 1 else 0
/-- How many have a distance. -/
def cntN (l : List Int) : Nat := (l.map nn).sum
def rm (B : Nat) (x : Int) : Nat := if x < 0 then B + 1 else x.toNat
/-- How much the list can decrease. -/
def room (B : Nat) (l : List Int) : Nat := (l.map (rm B)).sum
theorem sum_map_set {α : Type} (f : α → Nat) : ∀ {l : List α} {i : Nat} (h : i < l.length) (v : α), ((l.set i v).map f).sum + f l[i] = (l.map f).sum + f v
  | [], i, h, v => by simp at h
  | a :: r, 0, h, v => by simp; omega
  | a :: r, i + 1, h, v => by
    have := sum_map_set f (l := r) (i := i) (by simpa using h) v
    simp only [List.set_cons_succ, List.map_cons, List.sum_cons, List.getElem_cons_succ]
    omega
theorem cntN_le : ∀ l : List Int, cntN l ≤ l.length
  | [] => by simp [cntN]
  | a :: r => by
    have := cntN_le r
    have h : nn a ≤ 1 := by unfold nn; split <;> omega
    simp only [cntN, List.map_cons, List.sum_cons, List.length_cons] at this ⊢
    omega
theorem ia_at {l : List Int} {i : Int} (h : 0 ≤ i ∧ i < l.length) : l[i.toNat]'(by omega) = ia l i := by
  unfold ia
  rw [List.getD_eq_getElem?_getD, List.getElem?_eq_getElem (by omega)]
  rfl
theorem cntN_new {l : List Int} {i v : Int} (h : 0 ≤ i ∧ i < l.length) (ho : ia l i < 0) (hv : 0 ≤ v) : cntN (l.set i.toNat v) = cntN l + 1 := by
  have := sum_map_set nn (l := l) (i := i.toNat) (by omega) v
  rw [ia_at h] at this
  unfold cntN
  unfold nn at this ⊢
  rw [if_neg (by omega), if_pos hv] at this
  omega
theorem cntN_same {l : List Int} {i v : Int} (h : 0 ≤ i ∧ i < l.length) (ho : 0 ≤ ia l i) (hv : 0 ≤ v) : cntN (l.set i.toNat v) = cntN l := by
  have := sum_map_set nn (l := l) (i := i.toNat) (by omega) v
  rw [ia_at h] at this
  unfold cntN
  unfold nn at this ⊢
  rw [if_pos ho, if_pos hv] at this
  omega
theorem room_set {B : Nat} {l : List Int} {i v : Int} (h : 0 ≤ i ∧ i < l.length) (hv : 0 ≤ v ∧ v ≤ B) (ho : ia l i < 0 ∨ v < ia l i) : room B (l.set i.toNat v) < room B l := by
  have := sum_map_set (rm B) (l := l) (i := i.toNat) (by omega) v
  rw [ia_at h] at this
  unfold room
  have h1 : rm B v < rm B (ia l i) := by
    unfold rm
    rw [if_neg (by omega)]
    split <;> omega
  omega
/-- Distances, some of them too great as yet. -/
structure Rx (n d : Int) (G : Gr) (C : Int) (l : List Int) : Prop where
  len : (l.length : Int) = n
  root : ia l d = 0
  neg : ∀ x, 0 ≤ x → x < n → -1 ≤ ia l x
  sup : ∀ x, 0 ≤ x → x < n → x ≠ d → 0 ≤ ia l x → ∃ y c, G x y c ∧ 0 ≤ ia l y ∧ ia l y + c ≤ ia l x
  cap : ∀ x, 0 ≤ x → x < n → ia l x ≤ C * cntN l
section
variable {n d C : Int} {G : Gr} {l : List Int}
theorem Rx.bound (hC : 0 ≤ C) (h : Rx n d G C l) {x : Int} (hx : 0 ≤ x ∧ x < n) : ia l x ≤ C * n := by
  have h1 := h.cap x hx.1 hx.2
  have h2 := cntN_le l
  have h3 := h.len
  have : C * (cntN l : Int) ≤ C * n := Int.mul_le_mul_of_nonneg_left (by omega) hC
  omega
theorem Rx.step (hk : GOK n G) (hC : ∀ x y c, G x y c → c ≤ C) (h : Rx n d G C l) (hd : 0 ≤ d ∧ d < n) {x y c : Int} (hg : G x y c) (hy : 0 ≤ ia l y) (ho : ia l x < 0 ∨ ia l y + c < ia l x) :
    Rx n d G C (l.set x.toNat (ia l y + c)) ∧ ia l y + c ≤ C * n ∧ 0 ≤ ia l y + c := by
  obtain ⟨hx, hyn, hc⟩ := hk.ok x y c hg
  have hcC := hC x y c hg
  have hlen := h.len
  have hne : x ≠ d := fun e => by rw [e, h.root] at ho; omega
  have hset : ∀ z, 0 ≤ z → z < n → ia (l.set x.toNat (ia l y + c)) z = if x = z then ia l y + c else ia l z := fun z z0 z1 => ia_upd (by omega) (by omega)
  have hcapy := h.cap y hyn.1 hyn.2
  have hcl := cntN_le l
  have hR : Rx n d G C (l.set x.toNat (ia l y + c)) := by
    refine ⟨by rw [List.length_set]; exact hlen, by rw [hset d hd.1 hd.2, if_neg hne]; exact h.root, fun z z0 z1 => ?_, fun z z0 z1 hz hz0 => ?_, fun z z0 z1 => ?_⟩
    · rw [hset z z0 z1]
      split
      · omega
      · exact h.neg z z0 z1
    · rw [hset z z0 z1] at hz0 ⊢
      by_cases e : x = z
      · subst e
        rw [if_pos rfl]
        refine ⟨y, c, hg, ?_, ?_⟩
        · rw [hset y hyn.1 hyn.2]
          split <;> omega
        · rw [hset y hyn.1 hyn.2]
          by_cases e2 : x = y
          · subst e2
            rcases ho with ho | ho <;> omega
          · rw [if_neg e2]; exact Int.le_refl _
      · rw [if_neg e] at hz0 ⊢
        obtain ⟨y2, c2, hg2, hy2, he2⟩ := h.sup z z0 z1 hz hz0
        obtain ⟨_, hy2n, _⟩ := hk.ok z y2 c2 hg2
        refine ⟨y2, c2, hg2, ?_, ?_⟩
        · rw [hset y2 hy2n.1 hy2n.2]
          split <;> omega
        · rw [hset y2 hy2n.1 hy2n.2]
          by_cases e2 : x = y2
          · subst e2
            rw [if_pos rfl]
            rcases ho with ho | ho <;> omega
          · rw [if_neg e2]; exact he2
    · rw [hset z z0 z1]
      by_cases hneg : ia l x < 0
      · rw [cntN_new (by omega) hneg (by omega)]
        have hz := h.cap z z0 z1
        have : C * ((cntN l + 1 : Nat) : Int) = C * (cntN l : Int) + C := by rw [Int.natCast_add, Int.mul_add]; simp
        split <;> omega
      · rw [cntN_same (by omega) (by omega) (by omega)]
        have hz := h.cap z z0 z1
        have hx' := h.cap x hx.1 hx.2
        split <;> omega
  refine ⟨hR, ?_, by omega⟩
  have := hR.bound (by omega) hx
  rw [hset x hx.1 hx.2, if_pos rfl] at this
  exact this
theorem Rx.done (h : Rx n d G C l) (hr : ∀ x y c, G x y c → 0 ≤ ia l y → 0 ≤ ia l x ∧ ia l x ≤ ia l y + c) : DL n d G l := by
  refine ⟨h.len, h.root, h.neg, hr, fun x x0 x1 hx hx0 => ?_⟩
  obtain ⟨y, c, hg, hy, he⟩ := h.sup x x0 x1 hx hx0
  have := hr x y c hg hy
  exact ⟨y, c, hg, hy, by omega⟩
theorem Rx.start (hC : 0 ≤ C) (hd : 0 ≤ d ∧ d < n) : Rx n d G C ((List.replicate n.toNat (-1)).set d.toNat 0) := by
  have hr : ∀ z, 0 ≤ z → z < n → ia (List.replicate n.toNat (-1 : Int)) z = -1 := fun z z0 z1 => by
    unfold ia
    rw [List.getD_eq_getElem?_getD, List.getElem?_replicate, if_pos (by omega)]
    rfl
  have hset : ∀ z, 0 ≤ z → z < n → ia ((List.replicate n.toNat (-1 : Int)).set d.toNat 0) z = if d = z then 0 else -1 := fun z z0 z1 => by
    rw [ia_upd (by simp; omega) (by simp; omega), hr z z0 z1]
  refine ⟨by simp; omega, by rw [hset d hd.1 hd.2, if_pos rfl], fun z z0 z1 => by rw [hset z z0 z1]; split <;> omega, fun z z0 z1 hz hz0 => ?_, fun z z0 z1 => ?_⟩
  · rw [hset z z0 z1, if_neg (fun e => hz e.symm)] at hz0; omega
  · rw [hset z z0 z1]
    have : 0 ≤ C * (cntN ((List.replicate n.toNat (-1 : Int)).set d.toNat 0) : Int) := Int.mul_nonneg hC (by omega)
    split <;> omega
end
end Go.Proofs.Ythhhegmhgheeiaa
