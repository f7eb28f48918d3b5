/- The sizes of a heap. -/
import Derived.Test.YtknkakaffjhlmaaHpG
namespace Go.Proofs.Ytknkakaffjhlmaa
open Go.Wf
set_option linter.unusedVariables false
theorem cnt_none (n : Nat) : cnt n (fun _ => none) = 0 := by
  unfold cnt
  rw [List.length_eq_zero_iff, List.filter_eq_nil_iff]
  intro a _
  simp
theorem cnt_same {n : Nat} {m m' : Int → Option Int} (h : ∀ i : Int, 0 ≤ i → i < n → m i = m' i) : cnt n m = cnt n m' := by
  unfold cnt
  congr 1
  apply List.filter_congr
  intro x hx
  rw [h x (by omega) (by have : x < n := by simpa using hx
                         omega)]
theorem cnt_last {n : Nat} {m : Int → Option Int} (hm : ∀ i : Int, 0 ≤ i → i < n → m i = none) (k : Int) : cnt (n + 1) (upd m n (some k)) = 1 := by
  unfold cnt
  rw [List.range_succ, List.filter_append, List.length_append]
  have h1 : (List.range n).filter (fun i : Nat => (upd m n (some k) (i : Int)).isSome) = [] := by
    rw [List.filter_eq_nil_iff]
    intro a ha
    have : a < n := by simpa using ha
    unfold upd
    rw [if_neg (by omega), hm _ (by omega) (by omega)]
    simp
  rw [h1]
  simp [upd]
set_option maxHeartbeats 2000000 in
theorem law_sizes (s : Int) (w : World) : Calls Try.prog 5 #[.int .i64 s] w fun e w' => e = .returned (.bool true) ∧ Mod [] w w' := by
  by_cases hb : s < 0 ∨ 65536 < s
  · refine Goal.enter (args := [.int .i64 s]) Try.func5 rfl Try.ntmps5 rfl (St.nil w) ?_
    repeat' (first
      | (refine Goal.loud (o := ⟨some 5, _, _, _, _, _⟩) rfl ?_; apply Loud.call0; exact rfl; exact rfl; exact rfl; exact rfl; exact T.bod_8; exact (fun w H => awake_any w))
      | (refine Goal.loud (o := ⟨some 11, _, _, _, _, _⟩) rfl ?_; apply Loud.call0; exact rfl; exact rfl; exact rfl; exact rfl; exact T.bod_9; exact (fun w H => new_bad _ (by omega) w))
      | (apply G.move; exact rfl; exact rfl)
      | (apply G.assign; exact rfl; exact rfl)
      | refine Goal.seq (fun _ _ => ?_)
      | refine Goal.next (by assumption) ?_
      | refine Goal.lnil ?_
      | refine Goal.region ?_
      | refine Goal.skip ?_
      | refine Goal.block ?_
      | refine Goal.exit ?_
      | refine Goal.ret ?_
      | refine Goal.then_exit ?_
      | refine Goal.then_ret ?_
      | refine Goal.inBlock_exit ?_
      | refine Goal.inBlock_normal ?_
      | refine Goal.inBlock_ret ?_
      | refine Goal.inBlock_other rfl ?_
      | (apply Goal.condT; exact rfl)
      | (apply Goal.condF; exact rfl)
      | (refine Goal.condD rfl (fun hc => ?_) (fun hc => ?_) <;> first | (exfalso; omega) | contradiction | skip)
      | refine Goal.condB rfl (fun hc => ?_) (fun hc => ?_)
      | refine Goal.guardT rfl rfl ?_
      | refine Goal.guardF rfl rfl rfl rfl ?_
      | refine Goal.guardU rfl rfl rfl ?_
      | (refine Goal.guardD rfl rfl (fun hc => ?_) (fun hc => ?_) <;> first | (exfalso; omega) | contradiction | skip)
      | refine Goal.guardB rfl rfl (fun hc => ?_) (fun hc => ?_)
      | (apply G.pickT; exact rfl; exact rfl; exact rfl)
      | (apply G.pickF; exact rfl; exact rfl; exact rfl)
      | (apply G.lss; exact rfl; exact rfl; exact rfl)
      | (apply G.gtr; exact rfl; exact rfl; exact rfl)
      | (apply G.eql; exact rfl; exact rfl; exact rfl)
      | (apply G.neq; exact rfl; exact rfl; exact rfl)
      | (apply G.sub; exact rfl; exact rfl; exact rfl; first | exact IntWalk.i64_in _ (by omega) | exact IntWalk.u8_in _ (by omega) | exact IntWalk.u16_in _ (by omega) | exact IntWalk.u32_in _ (by omega) | exact IntWalk.u64_in _ (by omega))
      | (refine Goal.quiet rfl (Run.eqlP T.ptr_24 rfl rfl rfl) ?_)
      | (refine Goal.quiet rfl (Run.neqP T.ptr_24 rfl rfl rfl) ?_)
      | (apply G.notT; exact rfl; exact rfl)
      | (apply G.notF; exact rfl; exact rfl)
      | (refine G.notD rfl rfl ?_)
      | (apply G.notB; exact rfl; exact rfl)
      | (apply G.extract; exact rfl; exact rfl; exact rfl))
    all_goals
      refine Goal.done (vs := [_]) (by first | exact .inl rfl | exact .inr rfl) Try.results5 ⟨rfl, trivial⟩ rfl (fun w' H => ⟨rfl, H.mod⟩)
  · have hs : 0 ≤ s ∧ s ≤ 65536 := by omega
    have e0 : ((s.toNat : Nat) : Int) = s := Int.toNat_of_nonneg hs.1
    refine Goal.enter (args := [.int .i64 s]) Try.func5 rfl Try.ntmps5 rfl (St.nil w) ?_
    repeat' (first
      | (refine Goal.loud (o := ⟨some 5, _, _, _, _, _⟩) rfl ?_; apply Loud.call0; exact rfl; exact rfl; exact rfl; exact rfl; exact T.bod_8; exact (fun w H => awake_any w))
      | (refine Goal.loud (o := ⟨some 11, _, _, _, _, _⟩) rfl ?_; apply Loud.callN; exact rfl; exact rfl; exact rfl; exact rfl; exact T.bod_9; exact (fun w H => new_ok s hs w); rintro ⟨bh, bk, bp, A1⟩ h1; dsimp only at h1 ⊢)
      | (refine Goal.loud (o := ⟨some 34, _, _, _, _, _⟩) rfl ?_; refine Loud.callE ([]) (len_ok h1) rfl rfl rfl rfl T.bod_17 (fun _ h => h) ?_; rintro ⟨⟩ -; rw [cnt_none])
      | (refine Goal.loud (o := ⟨some 40, _, _, _, _, _⟩) rfl ?_; refine Loud.callE ([]) (set_ok h1 (by omega) s 1) rfl rfl rfl rfl T.bod_10 (fun _ h => h) ?_; intro A2 h2; rw [if_neg (by omega)] at h2 ⊢)
      | (refine Goal.loud (o := ⟨some 45, _, _, _, _, _⟩) rfl ?_; refine Loud.callE ([]) (set_ok h2 (by omega) (-1) 1) rfl rfl rfl rfl T.bod_10 (fun _ h => h) ?_; intro A3 h3; rw [if_neg (by omega)] at h3 ⊢)
      | (refine Goal.loud (o := ⟨some 51, _, _, _, _, _⟩) rfl ?_; refine Loud.callE ([]) (remove_ok h3 (by omega) s) rfl rfl rfl rfl T.bod_14 (fun _ h => h) ?_; intro A4 h4; rw [if_neg (by omega)] at h4 ⊢)
      | (refine Goal.loud (o := ⟨some 60, _, _, _, _, _⟩) rfl ?_; refine Loud.callE ([]) (remove_ok h4 (by omega) (s - 1)) rfl rfl rfl rfl T.bod_14 (fun _ h => h) ?_; intro A5 h5; rw [if_pos (by omega)] at h5 ⊢; rw [if_pos rfl])
      | (refine Goal.loud (o := ⟨some 66, _, _, _, _, _⟩) rfl ?_; refine Loud.callE ([]) (set_ok h5 (by omega) (s - 1) 7) rfl rfl rfl rfl T.bod_10 (fun _ h => h) ?_; intro A6 h6; rw [if_pos (by omega)] at h6 ⊢)
      | (refine Goal.loud (o := ⟨some 71, _, _, _, _, _⟩) rfl ?_; refine Loud.callE ([]) (len_ok h6) rfl rfl rfl rfl T.bod_17 (fun _ h => h) ?_; rintro ⟨⟩ -)
      | (apply G.move; exact rfl; exact rfl)
      | (apply G.assign; exact rfl; exact rfl)
      | refine Goal.seq (fun _ _ => ?_)
      | refine Goal.next (by assumption) ?_
      | refine Goal.lnil ?_
      | refine Goal.region ?_
      | refine Goal.skip ?_
      | refine Goal.block ?_
      | refine Goal.exit ?_
      | refine Goal.ret ?_
      | refine Goal.then_exit ?_
      | refine Goal.then_ret ?_
      | refine Goal.inBlock_exit ?_
      | refine Goal.inBlock_normal ?_
      | refine Goal.inBlock_ret ?_
      | refine Goal.inBlock_other rfl ?_
      | (apply Goal.condT; exact rfl)
      | (apply Goal.condF; exact rfl)
      | (refine Goal.condD rfl (fun hc => ?_) (fun hc => ?_) <;> first | (exfalso; omega) | contradiction | skip)
      | refine Goal.condB rfl (fun hc => ?_) (fun hc => ?_)
      | refine Goal.guardT rfl rfl ?_
      | refine Goal.guardF rfl rfl rfl rfl ?_
      | refine Goal.guardU rfl rfl rfl ?_
      | (refine Goal.guardD rfl rfl (fun hc => ?_) (fun hc => ?_) <;> first | (exfalso; omega) | contradiction | skip)
      | refine Goal.guardB rfl rfl (fun hc => ?_) (fun hc => ?_)
      | (apply G.pickT; exact rfl; exact rfl; exact rfl)
      | (apply G.pickF; exact rfl; exact rfl; exact rfl)
      | (apply G.lss; exact rfl; exact rfl; exact rfl)
      | (apply G.gtr; exact rfl; exact rfl; exact rfl)
      | (apply G.eql; exact rfl; exact rfl; exact rfl)
      | (apply G.neq; exact rfl; exact rfl; exact rfl)
      | (apply G.sub; exact rfl; exact rfl; exact rfl; first | exact IntWalk.i64_in _ (by omega) | exact IntWalk.u8_in _ (by omega) | exact IntWalk.u16_in _ (by omega) | exact IntWalk.u32_in _ (by omega) | exact IntWalk.u64_in _ (by omega))
      | (refine Goal.quiet rfl (Run.eqlP T.ptr_24 rfl rfl rfl) ?_)
      | (refine Goal.quiet rfl (Run.neqP T.ptr_24 rfl rfl rfl) ?_)
      | (apply G.notT; exact rfl; exact rfl)
      | (apply G.notF; exact rfl; exact rfl)
      | (refine G.notD rfl rfl ?_)
      | (apply G.notB; exact rfl; exact rfl)
      | (apply G.extract; exact rfl; exact rfl; exact rfl))
    · skip
      refine Goal.done (vs := [_]) (by first | exact .inl rfl | exact .inr rfl) Try.results5 ⟨rfl, trivial⟩ rfl (fun w' H => ⟨rfl, H.mod⟩)
    · have e1 : cnt s.toNat (upd (upd (fun _ => none) (s - 1) none) (s - 1) (some 7)) = 1 := by
        have e2 : s.toNat = (s.toNat - 1) + 1 := by omega
        have := cnt_last (n := s.toNat - 1) (m := fun _ => none) (fun _ _ _ => rfl) 7
        rw [← e2] at this
        rw [← this]
        refine cnt_same fun i h0 h1 => ?_
        unfold upd
        have e3 : ((s.toNat - 1 : Nat) : Int) = s - 1 := by omega
        rw [e3]
        split
        · rfl
        · rfl
      refine Goal.done (vs := [_]) (by first | exact .inl rfl | exact .inr rfl) Try.results5 ⟨rfl, trivial⟩ rfl (fun w' H => ⟨ret_bool (by rw [e1]; rfl), H.mod⟩)
end Go.Proofs.Ytknkakaffjhlmaa
