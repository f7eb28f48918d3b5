/- A channel, by the departures of its accepted packets: the plain law of its runs. -/
import Derived.Test.YtgidkddkoopdfaaChA
namespace Go.Proofs.Ytgidkddkoopdfaa
open Go.Wf
set_option linter.unusedVariables false
/-- How many depart up to a tick. -/
def cle (D : List Int) (t : Int) : Int := ((D.filter fun d => decide (d ≤ t)).length : Int)
def lst (D : List Int) : Int := ia D ((D.length : Int) - 1)
/-- The runs say of the departures: at each of their ticks the number up to it. -/
structure Rep (R : List (Int × Int)) (D : List Int) : Prop where
  inc : ∀ i j : Int, 0 ≤ i → i < j → j < R.length → (el R i).1 < (el R j).1
  low : ∀ t : Int, (∀ i : Int, 0 ≤ i → i < R.length → t < (el R i).1) → cle D t = 0
  mid : ∀ i t : Int, 0 ≤ i → i < R.length → (el R i).1 ≤ t → (∀ j : Int, i < j → j < R.length → t < (el R j).1) → cle D t = (el R i).2
  nil : (R = [] ↔ D = [])
  top : R ≠ [] → lst D = (el R ((R.length : Int) - 1)).1 ∧ (D.length : Int) = (el R ((R.length : Int) - 1)).2
  srt : ∀ d ∈ D, d ≤ lst D
  len : R.length ≤ D.length
theorem Rep.zero : Rep [] [] := ⟨fun i j _ _ h => by simp at h; omega, fun _ _ => rfl, fun i t _ h => by simp at h; omega, by simp, fun h => absurd rfl h, fun d h => (by cases h), Nat.le_refl _⟩
theorem cle_app (D : List Int) (d t : Int) : cle (D ++ [d]) t = cle D t + if d ≤ t then 1 else 0 := by
  unfold cle
  rw [List.filter_append, List.length_append]
  split
  · rename_i h; simp [h]
  · rename_i h; simp [h]
theorem cle_all {D : List Int} {t : Int} (h : ∀ d ∈ D, d ≤ t) : cle D t = D.length := by
  unfold cle
  rw [List.filter_eq_self.2 (by simpa using h)]
theorem cle_le (D : List Int) (t : Int) : 0 ≤ cle D t ∧ cle D t ≤ D.length := by
  unfold cle
  have := List.length_filter_le (fun d => decide (d ≤ t)) D
  omega
theorem cle_cons (d : Int) (D : List Int) (t : Int) : cle (d :: D) t = cle D t + if d ≤ t then 1 else 0 := by
  unfold cle
  rw [List.filter_cons]
  by_cases h : d ≤ t
  · simp [h]
  · simp [h]
theorem cle_mono (D : List Int) {s t : Int} (h : s ≤ t) : cle D s ≤ cle D t := by
  induction D with
  | nil => exact Int.le_refl _
  | cons d D ih =>
    rw [cle_cons, cle_cons]
    repeat' split
    all_goals omega
theorem lst_app (D : List Int) (d : Int) : lst (D ++ [d]) = d := by
  unfold lst ia
  simp [List.getD_eq_getElem?_getD]
/-- One more packet departs in the last tick. -/
theorem Rep.more {R : List (Int × Int)} {D : List Int} {t : Int} (h : Rep R D) (hR : R ≠ []) (ht : (el R ((R.length : Int) - 1)).1 = t) :
    Rep (R.set ((R.length : Int) - 1).toNat (t, (el R ((R.length : Int) - 1)).2 + 1)) (D ++ [t]) := by
  have hlen : 0 < R.length := List.length_pos_iff.2 hR
  have e1 : ∀ j : Int, 0 ≤ j → j < R.length → (el (R.set ((R.length : Int) - 1).toNat (t, (el R ((R.length : Int) - 1)).2 + 1)) j).1 = (el R j).1 := fun j j0 j1 => by
    rw [el_set (by omega) ⟨j0, j1⟩]
    split
    · rename_i e; rw [← e, ht]
    · rfl
  obtain ⟨t1, t2⟩ := h.top hR
  refine ⟨fun i j i0 ij jn => ?_, fun x hx => ?_, fun i x i0 i1 hx hj => ?_, ?_, fun _ => ?_, fun d hd => ?_, by have := h.len; simp; omega⟩
  · rw [List.length_set] at jn
    rw [e1 i i0 (by omega), e1 j (by omega) jn]
    exact h.inc i j i0 ij jn
  · rw [List.length_set] at hx
    have h2 : ∀ i : Int, 0 ≤ i → i < R.length → x < (el R i).1 := fun i i0 i1 => by rw [← e1 i i0 i1]; exact hx i i0 i1
    have := h2 ((R.length : Int) - 1) (by omega) (by omega)
    rw [cle_app, h.low x h2, if_neg (by omega)]
    rfl
  · rw [List.length_set] at i1
    rw [e1 i i0 i1] at hx
    have h2 : ∀ j : Int, i < j → j < R.length → x < (el R j).1 := fun j j0 j1 => by rw [← e1 j (by omega) j1]; exact hj j j0 (by rw [List.length_set]; exact j1)
    rw [cle_app, h.mid i x i0 i1 hx h2, el_set (by omega) ⟨i0, i1⟩]
    by_cases e : (R.length : Int) - 1 = i
    · rw [if_pos e, ← e, if_pos (by rw [← e] at hx; omega)]
    · have := h2 ((R.length : Int) - 1) (by omega) (by omega)
      rw [if_neg e, if_neg (by omega)]
      omega
  · simp [hR]
  · rw [lst_app]
    simp only [List.length_set, List.length_append, List.length_singleton]
    rw [el_set (by omega) (by omega), if_pos rfl]
    exact ⟨rfl, by dsimp only; omega⟩
  · rw [lst_app]
    rcases List.mem_append.1 hd with hd | hd
    · have := h.srt d hd; omega
    · simp at hd; omega
/-- A packet departs in a later tick. -/
theorem Rep.next {R : List (Int × Int)} {D : List Int} {t : Int} (h : Rep R D) (ht : R ≠ [] → (el R ((R.length : Int) - 1)).1 < t) : Rep (R ++ [(t, (D.length : Int) + 1)]) (D ++ [t]) := by
  have e1 : ∀ j : Int, 0 ≤ j → j < R.length → el (R ++ [(t, (D.length : Int) + 1)]) j = el R j := fun j j0 j1 => el_app ⟨j0, j1⟩
  have e2 : el (R ++ [(t, (D.length : Int) + 1)]) R.length = (t, (D.length : Int) + 1) := el_last
  have hlt : ∀ j : Int, 0 ≤ j → j < R.length → (el R j).1 < t := fun j j0 j1 => by
    have h1 := ht (by intro e; rw [e] at j1; simp at j1; omega)
    by_cases e : j = (R.length : Int) - 1
    · rw [e]; exact h1
    · have := h.inc j ((R.length : Int) - 1) j0 (by omega) (by omega)
      omega
  have hd : ∀ d ∈ D, d ≤ t := fun d hd => by
    have hR : R ≠ [] := fun e => by rw [h.nil.1 e] at hd; cases hd
    have h1 := h.srt d hd
    have h2 := h.top hR
    have := ht hR
    omega
  refine ⟨fun i j i0 ij jn => ?_, fun x hx => ?_, fun i x i0 i1 hx hj => ?_, by simp, fun _ => ?_, fun d hd2 => ?_, by have := h.len; simp; omega⟩
  · simp only [List.length_append, List.length_singleton] at jn
    by_cases e : j = R.length
    · rw [e, e2, e1 i i0 (by omega)]
      exact hlt i i0 (by omega)
    · rw [e1 i i0 (by omega), e1 j (by omega) (by omega)]
      exact h.inc i j i0 ij (by omega)
  · simp only [List.length_append, List.length_singleton] at hx
    have h2 : ∀ i : Int, 0 ≤ i → i < R.length → x < (el R i).1 := fun i i0 i1 => by rw [← e1 i i0 i1]; exact hx i i0 (by omega)
    have h3 := hx R.length (by omega) (by omega)
    rw [e2] at h3
    rw [cle_app, h.low x h2, if_neg (by omega)]
    rfl
  · simp only [List.length_append, List.length_singleton] at i1 hj
    by_cases e : i = R.length
    · rw [e, e2] at hx
      dsimp only at hx
      rw [e, e2, cle_app, if_pos hx, cle_all fun d hd2 => by have := hd d hd2; omega]
    · rw [e1 i i0 (by omega)] at hx ⊢
      have h3 := hj R.length (by omega) (by omega)
      rw [e2] at h3
      rw [cle_app, if_neg (by omega), h.mid i x i0 (by omega) hx fun j j0 j1 => by rw [← e1 j (by omega) j1]; exact hj j j0 (by omega)]
      omega
  · rw [lst_app]
    have e3 : ((R ++ [(t, (D.length : Int) + 1)]).length : Int) - 1 = R.length := by simp
    rw [e3, e2]
    exact ⟨rfl, by simp⟩
  · rw [lst_app]
    rcases List.mem_append.1 hd2 with hd2 | hd2
    · exact hd d hd2
    · simp at hd2; omega
/-- The departure of a packet that is offered now. -/
def dep (rate : Int) (D : List Int) (now : Int) : Int := if D.length = 0 then now else if lst D < now then now else if D.length - cle D (lst D - 1) < rate then lst D else lst D + 1
theorem dep_ge {rate now : Int} {D : List Int} : now ≤ dep rate D now ∧ (D.length ≠ 0 → lst D ≤ dep rate D now) := by
  unfold dep
  repeat' split
  all_goals omega
end Go.Proofs.Ytgidkddkoopdfaa
