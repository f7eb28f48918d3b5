/- The document's example of a heap. -/
import Derived.Test.YtknkakaffjhlmaaHpF
namespace Go.Proofs.Ytknkakaffjhlmaa
open Go.Wf
set_option linter.unusedVariables false
theorem pop4 {m : Int → Option Int} {i k : Int} {f : Int → Int} (hi : 0 ≤ i ∧ i < 4) (hm : m i = some k) (h0 : ∀ k', m 0 = some k' → k < k' ∨ (k = k' ∧ i ≤ 0)) (h1 : ∀ k', m 1 = some k' → k < k' ∨ (k = k' ∧ i ≤ 1)) (h2 : ∀ k', m 2 = some k' → k < k' ∨ (k = k' ∧ i ≤ 2)) (h3 : ∀ k', m 3 = some k' → k < k' ∨ (k = k' ∧ i ≤ 3)) : popS 4 m i k true := by
  refine .inr ⟨rfl, hi.1, by omega, hm, fun j k' j0 j4 hj => ?_⟩
  rcases (by omega : j = 0 ∨ j = 1 ∨ j = 2 ∨ j = 3) with rfl | rfl | rfl | rfl
  · exact h0 k' hj
  · exact h1 k' hj
  · exact h2 k' hj
  · exact h3 k' hj
set_option maxHeartbeats 2000000 in
theorem awake_any (w : World) : Calls Try.prog 8 #[] w fun e w' => e = .returned (.bool true) ∧ Mod [] w w' := by
  refine Goal.enter (args := []) Try.func8 rfl Try.ntmps8 rfl (St.nil w) ?_
  repeat' (first
    | (refine Goal.loud (o := ⟨some 13, _, _, _, _, _⟩) rfl ?_; apply Loud.callN; exact rfl; exact rfl; exact rfl; exact rfl; exact T.bod_9; exact (fun w H => new_ok 4 (by decide) w); rintro ⟨bh, bk, bp, A1⟩ h1; dsimp only at h1 ⊢)
    | (refine Goal.loud (o := ⟨some 23, _, _, _, _, _⟩) rfl ?_; refine Loud.callE ([]) (set_ok h1 (by decide) 0 5) rfl rfl rfl rfl T.bod_10 (fun _ h => h) ?_; intro A2 h2; rw [if_pos (by decide)] at h2 ⊢)
    | (refine Goal.loud (o := ⟨some 25, _, _, _, _, _⟩) rfl ?_; refine Loud.callE ([]) (set_ok h2 (by decide) 1 3) rfl rfl rfl rfl T.bod_10 (fun _ h => h) ?_; intro A3 h3; rw [if_pos (by decide)] at h3 ⊢)
    | (refine Goal.loud (o := ⟨some 27, _, _, _, _, _⟩) rfl ?_; refine Loud.callE ([]) (set_ok h3 (by decide) 3 3) rfl rfl rfl rfl T.bod_10 (fun _ h => h) ?_; intro A4 h4; rw [if_pos (by decide)] at h4 ⊢)
    | (refine Goal.loud (o := ⟨some 30, _, _, _, _, _⟩) rfl ?_; refine Loud.callE ([]) (pop_ok h4 (by decide)) rfl rfl rfl rfl T.bod_11 (fun _ h => h) ?_; rintro ⟨i5, k5, ok5, A5⟩ ⟨p5, h5⟩; dsimp only at p5 h5 ⊢; obtain ⟨rfl, rfl, rfl⟩ := popS_one p5 (pop4 (i := 1) (k := 3) (f := id) (by decide) (by simp [upd]) (by intro k' h; simp [upd] at h <;> omega) (by intro k' h; simp [upd] at h <;> omega) (by intro k' h; simp [upd] at h <;> omega) (by intro k' h; simp [upd] at h <;> omega)); rw [if_pos rfl] at h5)
    | (refine Goal.loud (o := ⟨some 36, _, _, _, _, _⟩) rfl ?_; refine Loud.callE ([]) (pop_ok h5 (by decide)) rfl rfl rfl rfl T.bod_11 (fun _ h => h) ?_; rintro ⟨i6, k6, ok6, A6⟩ ⟨p6, h6⟩; dsimp only at p6 h6 ⊢; obtain ⟨rfl, rfl, rfl⟩ := popS_one p6 (pop4 (i := 3) (k := 3) (f := id) (by decide) (by simp [upd]) (by intro k' h; simp [upd] at h <;> omega) (by intro k' h; simp [upd] at h <;> omega) (by intro k' h; simp [upd] at h <;> omega) (by intro k' h; simp [upd] at h <;> omega)); rw [if_pos rfl] at h6)
    | (refine Goal.loud (o := ⟨some 41, _, _, _, _, _⟩) rfl ?_; refine Loud.callE ([]) (set_ok h6 (by decide) 0 2) rfl rfl rfl rfl T.bod_10 (fun _ h => h) ?_; intro A7 h7; rw [if_pos (by decide)] at h7 ⊢)
    | (refine Goal.loud (o := ⟨some 44, _, _, _, _, _⟩) rfl ?_; refine Loud.callE ([]) (pop_ok h7 (by decide)) rfl rfl rfl rfl T.bod_11 (fun _ h => h) ?_; rintro ⟨i8, k8, ok8, A8⟩ ⟨p8, h8⟩; dsimp only at p8 h8 ⊢; obtain ⟨rfl, rfl, rfl⟩ := popS_one p8 (pop4 (i := 0) (k := 2) (f := id) (by decide) (by simp [upd]) (by intro k' h; simp [upd] at h <;> omega) (by intro k' h; simp [upd] at h <;> omega) (by intro k' h; simp [upd] at h <;> omega) (by intro k' h; simp [upd] at h <;> omega)); rw [if_pos rfl] at h8)
    | (refine Goal.loud (o := ⟨some 74, _, _, _, _, _⟩) rfl ?_; refine Loud.callE ([]) (len_ok h8) rfl rfl rfl rfl T.bod_17 (fun _ h => h) ?_; rintro ⟨⟩ -)
    | (apply G.move; exact rfl; exact rfl)
    | (apply G.assign; exact rfl; exact rfl)
    | refine Goal.seq (fun _ _ => ?_)
    | refine Goal.next (by assumption) ?_
    | refine Goal.lnil ?_
    | refine Goal.region ?_
    | refine Goal.skip ?_
    | refine Goal.block ?_
    | refine Goal.exit ?_
    | refine Goal.ret ?_
    | refine Goal.then_exit ?_
    | refine Goal.then_ret ?_
    | refine Goal.inBlock_exit ?_
    | refine Goal.inBlock_normal ?_
    | refine Goal.inBlock_ret ?_
    | refine Goal.inBlock_other rfl ?_
    | (apply Goal.condT; exact rfl)
    | (apply Goal.condF; exact rfl)
    | (refine Goal.condD rfl (fun hc => ?_) (fun hc => ?_) <;> first | (exfalso; omega) | contradiction | skip)
    | refine Goal.condB rfl (fun hc => ?_) (fun hc => ?_)
    | refine Goal.guardT rfl rfl ?_
    | refine Goal.guardF rfl rfl rfl rfl ?_
    | refine Goal.guardU rfl rfl rfl ?_
    | (refine Goal.guardD rfl rfl (fun hc => ?_) (fun hc => ?_) <;> first | (exfalso; omega) | contradiction | skip)
    | refine Goal.guardB rfl rfl (fun hc => ?_) (fun hc => ?_)
    | (apply G.pickT; exact rfl; exact rfl; exact rfl)
    | (apply G.pickF; exact rfl; exact rfl; exact rfl)
    | (apply G.eql; exact rfl; exact rfl; exact rfl)
    | (apply G.neq; exact rfl; exact rfl; exact rfl)
    | (refine Goal.quiet rfl (Run.eqlP T.ptr_24 rfl rfl rfl) ?_)
    | (refine Goal.quiet rfl (Run.neqP T.ptr_24 rfl rfl rfl) ?_)
    | (apply G.extract; exact rfl; exact rfl; exact rfl))
  refine Goal.done (vs := [_]) (by first | exact .inl rfl | exact .inr rfl) Try.results8 ⟨rfl, trivial⟩ rfl (fun w' H => ⟨ret_bool (by decide), H.mod⟩)
set_option maxHeartbeats 2000000 in
theorem law_nil (i : Int) (w : World) : Calls Try.prog 7 #[.int .i64 i] w fun e w' => e = .returned (.bool true) ∧ Mod [] w w' := by
  refine Goal.enter (args := [.int .i64 i]) Try.func7 rfl Try.ntmps7 rfl (St.nil w) ?_
  repeat' (first
    | (refine Goal.loud (o := ⟨some 9, _, _, _, _, _⟩) rfl ?_; apply Loud.call0; exact rfl; exact rfl; exact rfl; exact rfl; exact T.bod_8; exact (fun w H => awake_any w))
    | (refine Goal.loud (o := ⟨some 14, _, _, _, _, _⟩) rfl ?_; apply Loud.call0; exact rfl; exact rfl; exact rfl; exact rfl; exact T.bod_18; exact (fun w H => key_nil i w))
    | (refine Goal.loud (o := ⟨some 19, _, _, _, _, _⟩) rfl ?_; apply Loud.call0; exact rfl; exact rfl; exact rfl; exact rfl; exact T.bod_11; exact (fun w H => pop_nil w))
    | (refine Goal.loud (o := ⟨some 26, _, _, _, _, _⟩) rfl ?_; apply Loud.call0; exact rfl; exact rfl; exact rfl; exact rfl; exact T.bod_10; exact (fun w H => set_nil i i w))
    | (refine Goal.loud (o := ⟨some 31, _, _, _, _, _⟩) rfl ?_; apply Loud.call0; exact rfl; exact rfl; exact rfl; exact rfl; exact T.bod_14; exact (fun w H => remove_nil i w))
    | (refine Goal.loud (o := ⟨some 56, _, _, _, _, _⟩) rfl ?_; apply Loud.call0; exact rfl; exact rfl; exact rfl; exact rfl; exact T.bod_17; exact (fun w H => len_nil w))
    | (apply G.move; exact rfl; exact rfl)
    | (apply G.assign; exact rfl; exact rfl)
    | refine Goal.seq (fun _ _ => ?_)
    | refine Goal.next (by assumption) ?_
    | refine Goal.lnil ?_
    | refine Goal.region ?_
    | refine Goal.skip ?_
    | refine Goal.block ?_
    | refine Goal.exit ?_
    | refine Goal.ret ?_
    | refine Goal.then_exit ?_
    | refine Goal.then_ret ?_
    | refine Goal.inBlock_exit ?_
    | refine Goal.inBlock_normal ?_
    | refine Goal.inBlock_ret ?_
    | refine Goal.inBlock_other rfl ?_
    | (apply Goal.condT; exact rfl)
    | (apply Goal.condF; exact rfl)
    | (refine Goal.condD rfl (fun hc => ?_) (fun hc => ?_) <;> first | (exfalso; omega) | contradiction | skip)
    | refine Goal.condB rfl (fun hc => ?_) (fun hc => ?_)
    | refine Goal.guardT rfl rfl ?_
    | refine Goal.guardF rfl rfl rfl rfl ?_
    | refine Goal.guardU rfl rfl rfl ?_
    | (refine Goal.guardD rfl rfl (fun hc => ?_) (fun hc => ?_) <;> first | (exfalso; omega) | contradiction | skip)
    | refine Goal.guardB rfl rfl (fun hc => ?_) (fun hc => ?_)
    | (apply G.pickT; exact rfl; exact rfl; exact rfl)
    | (apply G.pickF; exact rfl; exact rfl; exact rfl)
    | (apply G.eql; exact rfl; exact rfl; exact rfl)
    | (apply G.notT; exact rfl; exact rfl)
    | (apply G.notF; exact rfl; exact rfl)
    | (refine G.notD rfl rfl ?_)
    | (apply G.notB; exact rfl; exact rfl)
    | (apply G.extract; exact rfl; exact rfl; exact rfl))
  refine Goal.done (vs := [_]) (by first | exact .inl rfl | exact .inr rfl) Try.results7 ⟨rfl, trivial⟩ rfl (fun w' H => ⟨ret_bool (by decide), H.mod⟩)
end Go.Proofs.Ytknkakaffjhlmaa
