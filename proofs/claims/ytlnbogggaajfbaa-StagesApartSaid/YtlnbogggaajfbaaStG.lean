/- The statement StagesApart, first part: what a node's stage is at each tick. -/
import Derived.Test.YtlnbogggaajfbaaStE
import Derived.Test.YtlnbogggaajfbaaCore3
import Derived.Test.YtlnbogggaajfbaaFrame
namespace Go.Proofs.Ytlnbogggaajfbaa
open Go.Wf
set_option linter.unusedVariables false
/-- The stage of a node that notices its first change at a: behind the tick 'now'. -/
def nst (g h a now : Int) : Int × Int := if now < a then (3, 0) else if now < a + g then (0, a + g - now) else if now < a + g + h then (2, a + g + h - now) else (3, 0)
def two (d : Int × Int) : Int := min d.1 d.2
def cn (d : Int × Int) (now : Int) : Int := (if d.1 ≤ now then 1 else 0) + (if d.2 ≤ now then 1 else 0)
/-- Behind one tick, before the changes of 'now'. -/
def aft (g h a now : Int) : Int × Int := ((tk (nst g h a (now - 1)).1 (nst g h a (now - 1)).2 h 1).1, (tk (nst g h a (now - 1)).1 (nst g h a (now - 1)).2 h 1).2.1)
def chf (g h now d : Int) (s : Int × Int) : Int × Int := if d = now then chg s.1 s.2 g h else s
def stg (g h : Int) (d : Int × Int) (now k : Int) : Int × Int := if k = 0 then aft g h (two d) now else if k = 1 then chf g h now d.1 (aft g h (two d) now) else chf g h now d.2 (chf g h now d.1 (aft g h (two d) now))
def cnk (d : Int × Int) (now k : Int) : Int := cn d (now - 1) + (if 1 ≤ k ∧ d.1 = now then 1 else 0) + (if 2 ≤ k ∧ d.2 = now then 1 else 0)
theorem nst_vld {g h a now : Int} (hg : 2 ≤ g) (hh : 2 ≤ h) (hg1 : g ≤ 21) (hh1 : h ≤ 21) : vld (nst g h a now).1 (nst g h a now).2 g h := by
  unfold vld tm nst
  repeat' split
  all_goals (dsimp only; omega)
theorem aft_eq {g h a now : Int} (hg : 2 ≤ g) (hh : 2 ≤ h) : aft g h a now = if now ≤ a then (3, 0) else nst g h a now := by
  unfold aft nst tk
  repeat' split
  all_goals try dsimp only at *
  all_goals first | omega | exact Prod.ext rfl (by dsimp only; omega) | rfl
theorem aft_vld {g h a now : Int} (hg : 2 ≤ g) (hh : 2 ≤ h) (hg1 : g ≤ 21) (hh1 : h ≤ 21) : vld (aft g h a now).1 (aft g h a now).2 g h := by
  rw [aft_eq hg hh]
  split
  · unfold vld tm; dsimp only; omega
  · exact nst_vld hg hh hg1 hh1
theorem chg_vld {a b g h : Int} (hv : vld a b g h) : vld (chg a b g h).1 (chg a b g h).2 g h := by
  unfold vld tm chg at *
  repeat' split
  all_goals (dsimp only; omega)
theorem stg_vld {g h now k : Int} {d : Int × Int} (hg : 2 ≤ g) (hh : 2 ≤ h) (hg1 : g ≤ 21) (hh1 : h ≤ 21) : vld (stg g h d now k).1 (stg g h d now k).2 g h := by
  have h0 := aft_vld (a := two d) (now := now) hg hh hg1 hh1
  unfold stg chf
  repeat' split
  all_goals first | exact h0 | exact chg_vld h0 | exact chg_vld (chg_vld h0)
theorem stg_end {g h now : Int} {d : Int × Int} (hg : 2 ≤ g) (hh : 2 ≤ h) (h0 : 0 ≤ d.1 ∧ d.1 < g) (h1 : 0 ≤ d.2 ∧ d.2 < g) : stg g h d now 2 = nst g h (two d) now := by
  unfold stg
  rw [if_neg (by decide), if_neg (by decide), aft_eq hg hh]
  have e0 : ∀ s : Int × Int, s.1 = 0 → chg s.1 s.2 g h = s := fun s hs => by
    unfold chg
    rw [if_neg (by omega), if_neg (by omega)]
  have e3 : chg 3 0 g h = (0, g) := if_pos rfl
  have ha : two d = min d.1 d.2 := rfl
  by_cases hn : now ≤ two d
  · rw [if_pos hn]
    by_cases h3 : d.1 = now
    · have ev : chf g h now d.1 (3, 0) = (0, g) := by unfold chf; rw [if_pos h3]; exact e3
      have en : nst g h (two d) now = (0, g) := by
        unfold nst
        rw [if_neg (by omega), if_pos (by omega)]
        exact Prod.ext rfl (by dsimp only; omega)
      rw [ev, en]
      unfold chf
      split
      · exact e0 _ rfl
      · rfl
    · have ev : chf g h now d.1 (3, 0) = (3, 0) := by unfold chf; rw [if_neg h3]
      rw [ev]
      unfold chf nst
      split
      · rw [if_neg (by omega), if_pos (by omega)]
        exact e3.trans (Prod.ext rfl (by dsimp only; omega))
      · rw [if_pos (by omega)]
  · rw [if_neg hn]
    have ec : ∀ x : Int, 0 ≤ x → x < g → chf g h now x (nst g h (two d) now) = nst g h (two d) now := fun x x0 x1 => by
      unfold chf
      split
      · refine e0 _ ?_
        unfold nst
        rw [if_neg (by omega), if_pos (by omega)]
      · rfl
    rw [ec _ h0.1 h0.2, ec _ h1.1 h1.2]
theorem cnk_end {now : Int} {d : Int × Int} : cnk d now 2 = cn d now := by
  unfold cnk cn
  repeat' split
  all_goals omega
/-- In Transition every change is noticed; Final, behind a change, no one is Old and all have noticed. -/
theorem nst_two {g h now last : Int} {d : Int × Int} (hg : 2 ≤ g) (hh : 2 ≤ h) (h0 : 0 ≤ d.1 ∧ 0 ≤ d.2) (hl : last < g) : ¬ (nst g h (two d) now).1 = 2 ∨ last ≤ now := by
  unfold nst two
  repeat' split
  all_goals try dsimp only
  all_goals omega
theorem nst_fin {g h now : Int} {d e : Int × Int} (hg : 2 ≤ g) (hh : 2 ≤ h) (h0 : 0 ≤ d.1 ∧ 0 ≤ d.2) (he : 0 ≤ e.1 ∧ e.1 < g ∧ e.1 < h) (he2 : 0 ≤ e.2 ∧ e.2 < g ∧ e.2 < h) (hc : 0 < cn d now) (hf : (nst g h (two d) now).1 = 3) : ¬ cn e now = 0 ∧ ¬ (nst g h (two e) now).1 = 0 := by
  have hnow : g + h ≤ now := by
    unfold cn at hc
    unfold nst two at hf
    repeat' split at hf
    all_goals first | (repeat' split at hc) | skip
    all_goals try dsimp only at hf
    all_goals omega
  constructor
  · unfold cn
    rw [if_pos (by omega), if_pos (by omega)]
    decide
  · unfold nst two
    repeat' split
    all_goals try dsimp only
    all_goals omega
theorem nst_last {g h : Int} {d : Int × Int} (hg : 2 ≤ g ∧ g ≤ 21) (hh : 2 ≤ h ∧ h ≤ 21) (h0 : 0 ≤ d.1 ∧ d.1 < g) (h1 : 0 ≤ d.2) : nst g h (two d) 99 = (3, 0) := by
  unfold nst two
  rw [if_neg (by omega), if_neg (by omega), if_neg (by omega)]
theorem cn_pos (d : Int × Int) (now : Int) : 0 ≤ cn d now ∧ cn d now ≤ 2 := by
  unfold cn
  repeat' split
  all_goals omega
theorem ia_none (n : Nat) (i : Int) : ia (List.replicate n 0) i = 0 := by
  unfold ia
  simp [List.getD_eq_getElem?_getD, List.getElem?_replicate]
  split <;> rfl
theorem cnk_zero {d : Int × Int} {now : Int} : cnk d now 0 = cn d (now - 1) := by
  unfold cnk
  rw [if_neg (by omega), if_neg (by omega)]
  omega
theorem stg_step0 {g h now : Int} {d : Int × Int} (hc : d.1 = now) : chg (stg g h d now 0).1 (stg g h d now 0).2 g h = stg g h d now 1 := by
  unfold stg chf
  rw [if_pos rfl, if_neg (by decide), if_pos rfl, if_pos hc]
theorem stg_stay0 {g h now : Int} {d : Int × Int} (hc : ¬ d.1 = now) : stg g h d now 0 = stg g h d now 1 := by
  unfold stg chf
  rw [if_pos rfl, if_neg (by decide), if_pos rfl, if_neg hc]
theorem stg_step1 {g h now : Int} {d : Int × Int} (hc : d.2 = now) : chg (stg g h d now 1).1 (stg g h d now 1).2 g h = stg g h d now 2 := by
  have e1 : stg g h d now 1 = chf g h now d.1 (aft g h (two d) now) := rfl
  have e2 : stg g h d now 2 = chf g h now d.2 (chf g h now d.1 (aft g h (two d) now)) := rfl
  rw [e1, e2]
  exact (if_pos hc).symm
theorem stg_stay1 {g h now : Int} {d : Int × Int} (hc : ¬ d.2 = now) : stg g h d now 1 = stg g h d now 2 := by
  have e1 : stg g h d now 1 = chf g h now d.1 (aft g h (two d) now) := rfl
  have e2 : stg g h d now 2 = chf g h now d.2 (chf g h now d.1 (aft g h (two d) now)) := rfl
  rw [e1, e2]
  exact (if_neg hc).symm
theorem cnk_step0 {now : Int} {d : Int × Int} (hc : d.1 = now) : cnk d now 0 + 1 = cnk d now 1 := by
  unfold cnk
  rw [if_neg (by omega), if_neg (by omega), if_pos (by omega), if_neg (by omega)]
  omega
theorem cnk_stay0 {now : Int} {d : Int × Int} (hc : ¬ d.1 = now) : cnk d now 0 = cnk d now 1 := by
  unfold cnk
  rw [if_neg (by omega), if_neg (by omega), if_neg (by omega), if_neg (by omega)]
theorem cnk_step1 {now : Int} {d : Int × Int} (hc : d.2 = now) : cnk d now 1 + 1 = cnk d now 2 := by
  unfold cnk
  by_cases h1 : d.1 = now
  · rw [if_pos (by omega), if_neg (by omega), if_pos (by omega), if_pos (by omega)]
    omega
  · rw [if_neg (by omega), if_neg (by omega), if_neg (by omega), if_pos (by omega)]
    omega
theorem cnk_stay1 {now : Int} {d : Int × Int} (hc : ¬ d.2 = now) : cnk d now 1 = cnk d now 2 := by
  unfold cnk
  by_cases h1 : d.1 = now
  · rw [if_pos (by omega), if_neg (by omega), if_pos (by omega), if_neg (by omega)]
  · rw [if_neg (by omega), if_neg (by omega), if_neg (by omega), if_neg (by omega)]
end Go.Proofs.Ytlnbogggaajfbaa
