/- The law of a binary heap, with no program in sight: an exchange on the way up, and on the way down. -/
import Derived.Test.YthhhegmhgheeiaaHpA
namespace Go.Proofs.Ythhhegmhgheeiaa
open Go.Wf
set_option linter.unusedVariables false

def par (q : Int) : Int := (q - 1) / 2
theorem par_t {q : Int} (h : 0 < q) : (q - 1).tdiv 2 = par q := Int.tdiv_eq_ediv_of_nonneg (by omega)
section
variable (K : List Int) (l : Int)
def Up (O : Int → Int) (p : Int) : Prop := (∀ q, 0 < q → q < l → q ≠ p → par q ≠ p → ¬ less K (O q) (O (par q))) ∧ (0 < p → ∀ q, 0 < q → q < l → par q = p → ¬ less K (O q) (O (par p)))
def Down (O : Int → Int) (p : Int) : Prop := (∀ q, 0 < q → q < l → par q ≠ p → ¬ less K (O q) (O (par q))) ∧ (0 < p → ∀ q, 0 < q → q < l → par q = p → ¬ less K (O q) (O (par p)))
def Hord (O : Int → Int) : Prop := ∀ q, 0 < q → q < l → ¬ less K (O q) (O (par q))
variable {K l} {O N : Int → Int} {p r : Int}
theorem less_trans {a b c : Int} (h : ¬ less K a b) (h' : ¬ less K b c) : ¬ less K a c := by unfold less at *; omega
theorem less_asymm {a b : Int} (h : less K a b) : ¬ less K b a := by unfold less at *; omega
theorem up_step (hp : 0 < p ∧ p < l) (hr : r = par p) (hN : ∀ x, 0 ≤ x → x < l → N x = if x = r then O p else if x = p then O r else O x) (hU : Up K l O p) (hl : less K (O p) (O r)) : Up K l N r := by
  obtain ⟨h1, h2⟩ := hU
  refine ⟨fun q q0 ql hqr hqp => ?_, fun r0 q q0 ql hq => ?_⟩
  · have a1 : 0 ≤ par q ∧ par q < q := by unfold par; omega
    have e1 : q ≠ p := fun e => hqp (by rw [e, hr])
    rw [hN q (by omega) ql, if_neg hqr, if_neg e1, hN (par q) (by omega) (by omega), if_neg hqp]
    split
    · rename_i h; rw [hr]; exact h2 hp.1 q q0 ql h
    · rename_i h; exact h1 q q0 ql e1 h
  · have a1 : 0 ≤ par r ∧ par r < r := by unfold par; omega
    have a2 : 0 ≤ r ∧ r < p := by subst hr; unfold par; omega
    have a3 : r < q := by subst hq; unfold par; omega
    rw [hN (par r) (by omega) (by omega), if_neg (by omega), if_neg (by omega), hN q (by omega) ql, if_neg (by omega)]
    have hrr := h1 r (by omega) (by omega) (by omega) (by omega)
    split
    · exact hrr
    · rename_i h
      have := h1 q q0 ql h (by omega)
      rw [hq] at this
      exact less_trans this hrr
theorem up_done (hp : 0 ≤ p ∧ p < l) (h : p = 0 ∨ ¬ less K (O p) (O (par p))) (hU : Up K l O p) : Down K l O p := by
  refine ⟨fun q q0 ql hq => ?_, hU.2⟩
  by_cases e : q = p
  · subst e
    rcases h with h | h
    · omega
    · exact h
  · exact hU.1 q q0 ql e hq
theorem down_step {c : Int} (hp : 0 ≤ p) (hc : 0 < c ∧ c < l) (hpc : par c = p) (hN : ∀ x, 0 ≤ x → x < l → N x = if x = c then O p else if x = p then O c else O x) (hD : Down K l O p) (hl : less K (O c) (O p))
    (hmin : ∀ d, 0 < d → d < l → par d = p → ¬ less K (O d) (O c)) : Down K l N c := by
  obtain ⟨h1, h2⟩ := hD
  have a0 : p < c := by subst hpc; unfold par; omega
  refine ⟨fun q q0 ql hq => ?_, fun c0 q q0 ql hq => ?_⟩
  · have a1 : 0 ≤ par q ∧ par q < q := by unfold par; omega
    rw [hN q (by omega) ql, hN (par q) (by omega) (by omega), if_neg hq]
    by_cases e1 : q = c
    · rw [if_pos e1, if_pos (by rw [e1, hpc])]
      exact less_asymm hl
    · rw [if_neg e1]
      by_cases e2 : q = p
      · rw [if_pos e2, if_neg (by omega)]
        subst e2
        exact h2 q0 c hc.1 hc.2 hpc
      · rw [if_neg e2]
        split
        · rename_i h; exact hmin q q0 ql h
        · rename_i h; exact h1 q q0 ql h
  · have a1 : c < q := by subst hq; unfold par; omega
    rw [hpc, hN p hp (by omega), if_neg (by omega), if_pos rfl, hN q (by omega) ql, if_neg (by omega), if_neg (by omega)]
    have := h1 q q0 ql (by omega)
    rwa [hq] at this
theorem down_done (hD : Down K l O p) (hmin : ∀ d, 0 < d → d < l → par d = p → ¬ less K (O d) (O p)) : Hord K l O := fun q q0 ql => by
  by_cases e : par q = p
  · rw [e]; exact hmin q q0 ql e
  · exact hD.1 q q0 ql e
theorem less_tot {a b : Int} (h : ¬ less K a b) (h' : ¬ less K b a) : a = b := by unfold less at *; omega
/-- The first item of a heap comes first. -/
theorem first (hH : Hord K l O) : ∀ (m : Nat) (q : Int), q.toNat ≤ m → 0 ≤ q → q < l → ¬ less K (O q) (O 0) := by
  intro m
  induction m with
  | zero => intro q hm h0 hl
            obtain rfl : q = 0 := by omega
            unfold less; omega
  | succ m ih =>
    intro q hm h0 hl
    by_cases e : q = 0
    · subst e; unfold less; omega
    · exact less_trans (hH q (by omega) hl) (ih (par q) (by unfold par; omega) (by unfold par; omega) (by unfold par; omega))
end
/-- What holds of a heap, but for its order. -/
structure Inv (n : Nat) (K Pl O : List Int) : Prop where
  hK : K.length = n
  hP : Pl.length = n
  el : ∀ p : Int, 0 ≤ p → p < O.length → 0 ≤ ia O p ∧ ia O p < n
  pl : ∀ p : Int, 0 ≤ p → p < O.length → ia Pl (ia O p) = p + 1
  un : ∀ i : Int, 0 ≤ i → i < n → ia Pl i ≠ 0 → 1 ≤ ia Pl i ∧ ia Pl i ≤ O.length ∧ ia O (ia Pl i - 1) = i
  zr : ∀ i : Int, 0 ≤ i → i < n → ia Pl i = 0 → ia K i = 0
section
variable {n : Nat} {K Pl O : List Int} {p q : Int}
theorem Inv.inj (h : Inv n K Pl O) {a b : Int} (ha : 0 ≤ a ∧ a < O.length) (hb : 0 ≤ b ∧ b < O.length) (e : ia O a = ia O b) : a = b := by
  have h1 := h.pl a ha.1 ha.2
  have h2 := h.pl b hb.1 hb.2
  rw [e] at h1; omega
theorem swO_len : (swO O p q).length = O.length := by simp [swO]
theorem swP_len : (swP Pl O p q).length = Pl.length := by simp [swP]
theorem swO_at (hp : 0 ≤ p ∧ p < O.length) (hq : 0 ≤ q ∧ q < O.length) (x : Int) (h0 : 0 ≤ x) (hx : x < O.length) : ia (swO O p q) x = if x = q then ia O p else if x = p then ia O q else ia O x := by
  unfold swO
  rw [ia_set (by rw [set_len]; omega) (by rw [set_len]; omega), ia_set (by omega) (by omega)]
  by_cases e1 : x = q
  · rw [if_pos e1.symm, if_pos e1]
  · rw [if_neg (fun e => e1 e.symm), if_neg e1]
    by_cases e2 : x = p
    · rw [if_pos e2.symm, if_pos e2]
    · rw [if_neg (fun e => e2 e.symm), if_neg e2]
theorem Inv.swP_at (h : Inv n K Pl O) (hp : 0 ≤ p ∧ p < O.length) (hq : 0 ≤ q ∧ q < O.length) (i : Int) (h0 : 0 ≤ i) (hi : i < n) : ia (swP Pl O p q) i = if i = ia O p then q + 1 else if i = ia O q then p + 1 else ia Pl i := by
  have h1 := h.el p hp.1 hp.2
  have h2 := h.el q hq.1 hq.2
  have hP := h.hP
  unfold swP
  rw [ia_set (by rw [set_len]; omega) (by rw [set_len]; omega), ia_set (by omega) (by omega)]
  by_cases e1 : i = ia O p
  · rw [if_pos e1.symm, if_pos e1]
  · rw [if_neg (fun e => e1 e.symm), if_neg e1]
    by_cases e2 : i = ia O q
    · rw [if_pos e2.symm, if_pos e2]
    · rw [if_neg (fun e => e2 e.symm), if_neg e2]
theorem Inv.swap (h : Inv n K Pl O) (hp : 0 ≤ p ∧ p < O.length) (hq : 0 ≤ q ∧ q < O.length) : Inv n K (swP Pl O p q) (swO O p q) ∧ ∀ i : Int, 0 ≤ i → i < n → (ia (swP Pl O p q) i = 0 ↔ ia Pl i = 0) := by
  have h1 := h.el p hp.1 hp.2
  have h2 := h.el q hq.1 hq.2
  have p1 := h.pl p hp.1 hp.2
  have p2 := h.pl q hq.1 hq.2
  have hz : ∀ i : Int, 0 ≤ i → i < n → (ia (swP Pl O p q) i = 0 ↔ ia Pl i = 0) := fun i h0 hi => by
    rw [h.swP_at hp hq i h0 hi]
    split
    · subst_vars; omega
    · split
      · subst_vars; omega
      · exact Iff.rfl
  refine ⟨⟨h.hK, by rw [swP_len]; exact h.hP, fun x h0 hx => ?_, fun x h0 hx => ?_, fun i h0 hi hne => ?_, fun i h0 hi hz' => h.zr i h0 hi ((hz i h0 hi).1 hz')⟩, hz⟩
  · rw [swO_len] at hx
    rw [swO_at hp hq x h0 hx]
    split
    · exact h1
    · split
      · exact h2
      · exact h.el x h0 hx
  · rw [swO_len] at hx
    rw [swO_at hp hq x h0 hx]
    split
    · rw [h.swP_at hp hq _ h1.1 h1.2, if_pos rfl]; omega
    · rename_i e1
      split
      · rename_i e2
        subst e2
        rw [h.swP_at hp hq _ h2.1 h2.2]
        rw [if_neg (fun e => e1 (h.inj ⟨h0, hx⟩ hq e.symm)), if_pos rfl]
      · rename_i e2
        have h3 := h.el x h0 hx
        rw [h.swP_at hp hq _ h3.1 h3.2, if_neg (fun e => e2 (h.inj ⟨h0, hx⟩ hp e)), if_neg (fun e => e1 (h.inj ⟨h0, hx⟩ hq e))]
        exact h.pl x h0 hx
  · have hne' : ia Pl i ≠ 0 := fun e => hne ((hz i h0 hi).2 e)
    obtain ⟨u1, u2, u3⟩ := h.un i h0 hi hne'
    rw [h.swP_at hp hq i h0 hi, swO_len]
    split
    · rename_i e
      refine ⟨by omega, by omega, ?_⟩
      rw [show q + 1 - 1 = q by omega, swO_at hp hq q hq.1 hq.2, if_pos rfl, e]
    · rename_i e1
      split
      · rename_i e
        refine ⟨by omega, by omega, ?_⟩
        rw [show p + 1 - 1 = p by omega, swO_at hp hq p hp.1 hp.2]
        split
        · rename_i e2; rw [e2] at e1; exact absurd e e1
        · rw [if_pos rfl, e]
      · rename_i e2
        refine ⟨u1, u2, ?_⟩
        rw [swO_at hp hq _ (by omega) (by omega)]
        rw [if_neg (fun e => e2 (by rw [← u3, e])), if_neg (fun e => e1 (by rw [← u3, e]))]
        exact u3
end
end Go.Proofs.Ythhhegmhgheeiaa
