/- EventsLimits' contract. -/
import Derived.Test.YtcekjnfdgbeekaaEvK
namespace Go.Proofs.Ytcekjnfdgbeekaa
open Go.Wf
set_option linter.unusedVariables false
/-- n events, one after the other. -/
def evr (n : Nat) (t : Int → Int) : List Evt := (List.range n).map fun j : Nat => ⟨(j : Int) + 1, t (j : Int), (j : Int)⟩
theorem evr_len (n : Nat) (t : Int → Int) : (evr n t).length = n := by simp [evr]
theorem evr_succ (n : Nat) (t : Int → Int) : evr (n + 1) t = evr n t ++ [⟨(n : Int) + 1, t n, n⟩] := by simp [evr, List.range_succ]
theorem evr_has {n : Nat} {t : Int → Int} {id : Int} (h : 1 ≤ id ∧ id ≤ n) : hasId (evr n t) id = true := by
  unfold hasId evr
  rw [List.any_map, List.any_eq_true]
  refine ⟨(id - 1).toNat, by rw [List.mem_range]; omega, ?_⟩
  simp
  omega
theorem without_lt {E : List Evt} {id : Int} (h : hasId E id = true) : (without E id).length < E.length := by
  unfold hasId at h
  rw [List.any_eq_true] at h
  obtain ⟨e, he, h⟩ := h
  unfold without
  rw [List.length_filter_lt_length_iff_exists]
  exact ⟨e, he, by simpa using h⟩
structure LX where
  (i : Int) (A : List Blk)
set_option maxHeartbeats 4000000 in
theorem law_limits (time n : Int) (hn : 0 ≤ n ∧ n < 256) (w : World) : Calls Try.prog 5 #[.int .i64 time, .int .u8 n] w fun e w' => e = .returned (.bool true) ∧ Mod [] w w' := by
  have he : (0 ≤ time ∧ time ≤ 1073741824 ∧ addErr ([] : List Evt).length 0 time = 0) ∨ (¬ (0 ≤ time ∧ time ≤ 1073741824) ∧ addErr ([] : List Evt).length 0 time = 1) := by
    unfold addErr
    by_cases h : time < 0 ∨ 1073741824 < time
    · rw [if_pos h]; exact .inr ⟨by omega, rfl⟩
    · rw [if_neg h, if_neg (by omega), if_neg (by decide)]; exact .inl ⟨by omega, by omega, rfl⟩
  refine Goal.enter (args := [.int .i64 time, .int .u8 n]) Try.func5 rfl Try.ntmps5 rfl (St.nil w) ?_
  repeat' (first
    | (refine Goal.loud (o := ⟨some 15, _, _, _, _, _⟩) rfl ?_; apply Loud.call0; exact rfl; exact rfl; exact rfl; exact rfl; exact T.bod_9; exact (fun w H => awake_any w))
    | (refine Goal.loud (o := ⟨some 17, _, _, _, _, _⟩) rfl ?_; apply Loud.callN; exact rfl; exact rfl; exact rfl; exact rfl; exact T.bod_10; exact (fun w H => newQ w); rintro ⟨bq, A1⟩ h1; dsimp only at h1 ⊢)
    | (refine Goal.loud (o := ⟨some 21, _, _, _, _, _⟩) rfl ?_; refine Loud.callE ([]) (addQ h1 time 1 (by decide)) rfl rfl rfl rfl T.bod_11 (fun _ h => h) ?_; intro A2 h2; clear h2; generalize addErr ([] : List Evt).length 0 time = er at he ⊢)
    | (refine Goal.cut (x := Code.seq (Code.region 5 _ _) _) (X := Unit) (fun _ => [(1, .int .u8 n)]) (fun _ => []) (fun _ => True) ?_ ?_)
    | (apply G.move; exact rfl; exact rfl)
    | (apply G.assign; exact rfl; exact rfl)
    | refine Goal.seq (fun _ _ => ?_)
    | refine Goal.next (by assumption) ?_
    | refine Goal.lnil ?_
    | refine Goal.region ?_
    | refine Goal.skip ?_
    | refine Goal.block ?_
    | refine Goal.exit ?_
    | refine Goal.ret ?_
    | refine Goal.then_exit ?_
    | refine Goal.then_ret ?_
    | refine Goal.inBlock_exit ?_
    | refine Goal.inBlock_normal ?_
    | refine Goal.inBlock_ret ?_
    | refine Goal.inBlock_other rfl ?_
    | (apply Goal.condT; exact rfl)
    | (apply Goal.condF; exact rfl)
    | (refine Goal.condD rfl (fun hc => ?_) (fun hc => ?_) <;> first | (exfalso; omega) | contradiction | skip)
    | refine Goal.condB rfl (fun hc => ?_) (fun hc => ?_)
    | refine Goal.guardT rfl rfl ?_
    | refine Goal.guardF rfl rfl rfl rfl ?_
    | refine Goal.guardU rfl rfl rfl ?_
    | (refine Goal.guardD rfl rfl (fun hc => ?_) (fun hc => ?_) <;> first | (exfalso; omega) | contradiction | skip)
    | refine Goal.guardB rfl rfl (fun hc => ?_) (fun hc => ?_)
    | (apply G.pickT; exact rfl; exact rfl; exact rfl)
    | (apply G.pickF; exact rfl; exact rfl; exact rfl)
    | (apply G.lss; exact rfl; exact rfl; exact rfl)
    | (apply G.leq; exact rfl; exact rfl; exact rfl)
    | (apply G.geq; exact rfl; exact rfl; exact rfl)
    | (apply G.eql; exact rfl; exact rfl; exact rfl)
    | (apply G.neq; exact rfl; exact rfl; exact rfl)
    | (apply G.add; exact rfl; exact rfl; exact rfl; first | exact IntWalk.i64_in _ (by omega) | exact IntWalk.u8_in _ (by omega) | exact IntWalk.u16_in _ (by omega) | exact IntWalk.u32_in _ (by omega) | exact IntWalk.u64_in _ (by omega))
    | (apply G.eqlB; exact rfl; exact T.boo_4; exact rfl; exact rfl)
    | (apply G.neqB; exact rfl; exact T.boo_4; exact rfl; exact rfl)
    | (apply G.rem; exact rfl; exact rfl; exact rfl; (first | decide | omega); exact IntWalk.rem_in _ _ (by omega))
    | (apply G.notT; exact rfl; exact rfl)
    | (apply G.notF; exact rfl; exact rfl)
    | (refine G.notD rfl rfl ?_)
    | (apply G.notB; exact rfl; exact rfl)
    | (apply G.extract; exact rfl; exact rfl; exact rfl))
  · intro K hk
    rcases he with ⟨h0, h1, rfl⟩ | ⟨h0, rfl⟩
    · skip
      repeat' (first
        | (apply G.move; exact rfl; exact rfl)
        | (apply G.assign; exact rfl; exact rfl)
        | refine Goal.seq (fun _ _ => ?_)
        | refine Goal.next (by assumption) ?_
        | refine Goal.lnil ?_
        | refine Goal.region ?_
        | refine Goal.skip ?_
        | refine Goal.block ?_
        | refine Goal.exit ?_
        | refine Goal.ret ?_
        | refine Goal.then_exit ?_
        | refine Goal.then_ret ?_
        | refine Goal.inBlock_exit ?_
        | refine Goal.inBlock_normal ?_
        | refine Goal.inBlock_ret ?_
        | refine Goal.inBlock_other rfl ?_
        | (apply Goal.condT; exact rfl)
        | (apply Goal.condF; exact rfl)
        | (refine Goal.condD rfl (fun hc => ?_) (fun hc => ?_) <;> first | (exfalso; omega) | contradiction | skip)
        | refine Goal.condB rfl (fun hc => ?_) (fun hc => ?_)
        | refine Goal.guardT rfl rfl ?_
        | refine Goal.guardF rfl rfl rfl rfl ?_
        | refine Goal.guardU rfl rfl rfl ?_
        | (refine Goal.guardD rfl rfl (fun hc => ?_) (fun hc => ?_) <;> first | (exfalso; omega) | contradiction | skip)
        | refine Goal.guardB rfl rfl (fun hc => ?_) (fun hc => ?_)
        | (apply G.pickT; exact rfl; exact rfl; exact rfl)
        | (apply G.pickF; exact rfl; exact rfl; exact rfl)
        | (apply G.lss; exact rfl; exact rfl; exact rfl)
        | (apply G.leq; exact rfl; exact rfl; exact rfl)
        | (apply G.geq; exact rfl; exact rfl; exact rfl)
        | (apply G.eql; exact rfl; exact rfl; exact rfl)
        | (apply G.neq; exact rfl; exact rfl; exact rfl)
        | (apply G.add; exact rfl; exact rfl; exact rfl; first | exact IntWalk.i64_in _ (by omega) | exact IntWalk.u8_in _ (by omega) | exact IntWalk.u16_in _ (by omega) | exact IntWalk.u32_in _ (by omega) | exact IntWalk.u64_in _ (by omega))
        | (apply G.eqlB; exact rfl; exact T.boo_4; exact rfl; exact rfl)
        | (apply G.neqB; exact rfl; exact T.boo_4; exact rfl; exact rfl)
        | (apply G.rem; exact rfl; exact rfl; exact rfl; (first | decide | omega); exact IntWalk.rem_in _ _ (by omega))
        | (apply G.notT; exact rfl; exact rfl)
        | (apply G.notF; exact rfl; exact rfl)
        | (refine G.notD rfl rfl ?_)
        | (apply G.notB; exact rfl; exact rfl)
        | (apply G.extract; exact rfl; exact rfl; exact rfl))
      all_goals first | exact Goal.meet hk () trivial ⟨rfl, trivial⟩ (fun _ h => h.sub (List.nil_sublist _)) | (exfalso; simp_all; done) | (exfalso; simp_all; omega)
    · skip
      repeat' (first
        | (apply G.move; exact rfl; exact rfl)
        | (apply G.assign; exact rfl; exact rfl)
        | refine Goal.seq (fun _ _ => ?_)
        | refine Goal.next (by assumption) ?_
        | refine Goal.lnil ?_
        | refine Goal.region ?_
        | refine Goal.skip ?_
        | refine Goal.block ?_
        | refine Goal.exit ?_
        | refine Goal.ret ?_
        | refine Goal.then_exit ?_
        | refine Goal.then_ret ?_
        | refine Goal.inBlock_exit ?_
        | refine Goal.inBlock_normal ?_
        | refine Goal.inBlock_ret ?_
        | refine Goal.inBlock_other rfl ?_
        | (apply Goal.condT; exact rfl)
        | (apply Goal.condF; exact rfl)
        | (refine Goal.condD rfl (fun hc => ?_) (fun hc => ?_) <;> first | (exfalso; omega) | contradiction | skip)
        | refine Goal.condB rfl (fun hc => ?_) (fun hc => ?_)
        | refine Goal.guardT rfl rfl ?_
        | refine Goal.guardF rfl rfl rfl rfl ?_
        | refine Goal.guardU rfl rfl rfl ?_
        | (refine Goal.guardD rfl rfl (fun hc => ?_) (fun hc => ?_) <;> first | (exfalso; omega) | contradiction | skip)
        | refine Goal.guardB rfl rfl (fun hc => ?_) (fun hc => ?_)
        | (apply G.pickT; exact rfl; exact rfl; exact rfl)
        | (apply G.pickF; exact rfl; exact rfl; exact rfl)
        | (apply G.lss; exact rfl; exact rfl; exact rfl)
        | (apply G.leq; exact rfl; exact rfl; exact rfl)
        | (apply G.geq; exact rfl; exact rfl; exact rfl)
        | (apply G.eql; exact rfl; exact rfl; exact rfl)
        | (apply G.neq; exact rfl; exact rfl; exact rfl)
        | (apply G.add; exact rfl; exact rfl; exact rfl; first | exact IntWalk.i64_in _ (by omega) | exact IntWalk.u8_in _ (by omega) | exact IntWalk.u16_in _ (by omega) | exact IntWalk.u32_in _ (by omega) | exact IntWalk.u64_in _ (by omega))
        | (apply G.eqlB; exact rfl; exact T.boo_4; exact rfl; exact rfl)
        | (apply G.neqB; exact rfl; exact T.boo_4; exact rfl; exact rfl)
        | (apply G.rem; exact rfl; exact rfl; exact rfl; (first | decide | omega); exact IntWalk.rem_in _ _ (by omega))
        | (apply G.notT; exact rfl; exact rfl)
        | (apply G.notF; exact rfl; exact rfl)
        | (refine G.notD rfl rfl ?_)
        | (apply G.notB; exact rfl; exact rfl)
        | (apply G.extract; exact rfl; exact rfl; exact rfl))
      all_goals first | exact Goal.meet hk () trivial ⟨rfl, trivial⟩ (fun _ h => h.sub (List.nil_sublist _)) | (exfalso; simp_all; done) | (exfalso; simp_all; omega)
  · rintro ⟨⟩ -
    repeat' (first
      | (refine Goal.loud (o := ⟨some 44, _, _, _, _, _⟩) rfl ?_; apply Loud.callN; exact rfl; exact rfl; exact rfl; exact rfl; exact T.bod_10; exact (fun w H => newQ w); rintro ⟨bq, A1⟩ h1; dsimp only at h1 ⊢)
      | (apply G.move; exact rfl; exact rfl)
      | (apply G.assign; exact rfl; exact rfl)
      | refine Goal.seq (fun _ _ => ?_)
      | refine Goal.next (by assumption) ?_
      | refine Goal.lnil ?_
      | refine Goal.region ?_
      | refine Goal.skip ?_
      | refine Goal.block ?_
      | refine Goal.exit ?_
      | refine Goal.ret ?_
      | refine Goal.then_exit ?_
      | refine Goal.then_ret ?_
      | refine Goal.inBlock_exit ?_
      | refine Goal.inBlock_normal ?_
      | refine Goal.inBlock_ret ?_
      | refine Goal.inBlock_other rfl ?_
      | (apply Goal.condT; exact rfl)
      | (apply Goal.condF; exact rfl)
      | (refine Goal.condD rfl (fun hc => ?_) (fun hc => ?_) <;> first | (exfalso; omega) | contradiction | skip)
      | refine Goal.condB rfl (fun hc => ?_) (fun hc => ?_)
      | refine Goal.guardT rfl rfl ?_
      | refine Goal.guardF rfl rfl rfl rfl ?_
      | refine Goal.guardU rfl rfl rfl ?_
      | (refine Goal.guardD rfl rfl (fun hc => ?_) (fun hc => ?_) <;> first | (exfalso; omega) | contradiction | skip)
      | refine Goal.guardB rfl rfl (fun hc => ?_) (fun hc => ?_)
      | (apply G.pickT; exact rfl; exact rfl; exact rfl)
      | (apply G.pickF; exact rfl; exact rfl; exact rfl)
      | (apply G.lss; exact rfl; exact rfl; exact rfl)
      | (apply G.leq; exact rfl; exact rfl; exact rfl)
      | (apply G.geq; exact rfl; exact rfl; exact rfl)
      | (apply G.eql; exact rfl; exact rfl; exact rfl)
      | (apply G.neq; exact rfl; exact rfl; exact rfl)
      | (apply G.add; exact rfl; exact rfl; exact rfl; first | exact IntWalk.i64_in _ (by omega) | exact IntWalk.u8_in _ (by omega) | exact IntWalk.u16_in _ (by omega) | exact IntWalk.u32_in _ (by omega) | exact IntWalk.u64_in _ (by omega))
      | (apply G.eqlB; exact rfl; exact T.boo_4; exact rfl; exact rfl)
      | (apply G.neqB; exact rfl; exact T.boo_4; exact rfl; exact rfl)
      | (apply G.rem; exact rfl; exact rfl; exact rfl; (first | decide | omega); exact IntWalk.rem_in _ _ (by omega))
      | (apply G.notT; exact rfl; exact rfl)
      | (apply G.notF; exact rfl; exact rfl)
      | (refine G.notD rfl rfl ?_)
      | (apply G.notB; exact rfl; exact rfl)
      | (apply G.extract; exact rfl; exact rfl; exact rfl))
    · refine Goal.done (vs := [_]) (by first | exact .inl rfl | exact .inr rfl) Try.results5 ⟨rfl, trivial⟩ rfl (fun w' H => ⟨rfl, H.mod⟩)
    · refine Goal.loopP (X := LX) (fun x => [(5, .pointer (some ⟨bq, 0, none⟩)), (45, .int .i64 x.i)]) (fun x => x.A) (fun x => (0 ≤ x.i ∧ x.i ≤ 65536) ∧ QM bq (evr x.i.toNat fun j => j % 7) 0 x.i x.A) (fun x => (65536 - x.i).toNat) ⟨0, A1⟩ ⟨rfl, rfl, trivial⟩ (fun _ h => h) ⟨by dsimp only; omega, h1⟩ ?_
      rintro ⟨i, A⟩ ⟨hi, hA⟩
      dsimp only at hi hA ⊢
      by_cases h : i < 65536
      · have hE : addErr (evr i.toNat fun j => j % 7).length 0 (i % 7) = 0 := by
          unfold addErr
          rw [evr_len, if_neg (by omega), if_neg (by omega), if_neg (by omega)]
        repeat' (first
          | (refine Goal.loud (o := ⟨some 53, _, _, _, _, _⟩) rfl ?_; refine Loud.callE ([]) (addQ hA (i % 7) i (by omega)) rfl rfl rfl rfl T.bod_11 (fun _ h => h) ?_; intro A2 h2; rw [hE, if_pos rfl, if_pos rfl] at h2; rw [hE, if_pos rfl])
          | (apply G.move; exact rfl; exact rfl)
          | (apply G.assign; exact rfl; exact rfl)
          | refine Goal.seq (fun _ _ => ?_)
          | refine Goal.next (by assumption) ?_
          | refine Goal.lnil ?_
          | refine Goal.region ?_
          | refine Goal.skip ?_
          | refine Goal.block ?_
          | refine Goal.exit ?_
          | refine Goal.ret ?_
          | refine Goal.then_exit ?_
          | refine Goal.then_ret ?_
          | refine Goal.inBlock_exit ?_
          | refine Goal.inBlock_normal ?_
          | refine Goal.inBlock_ret ?_
          | refine Goal.inBlock_other rfl ?_
          | (apply Goal.condT; exact rfl)
          | (apply Goal.condF; exact rfl)
          | (refine Goal.condD rfl (fun hc => ?_) (fun hc => ?_) <;> first | (exfalso; omega) | contradiction | skip)
          | refine Goal.condB rfl (fun hc => ?_) (fun hc => ?_)
          | refine Goal.guardT rfl rfl ?_
          | refine Goal.guardF rfl rfl rfl rfl ?_
          | refine Goal.guardU rfl rfl rfl ?_
          | (refine Goal.guardD rfl rfl (fun hc => ?_) (fun hc => ?_) <;> first | (exfalso; omega) | contradiction | skip)
          | refine Goal.guardB rfl rfl (fun hc => ?_) (fun hc => ?_)
          | (apply G.pickT; exact rfl; exact rfl; exact rfl)
          | (apply G.pickF; exact rfl; exact rfl; exact rfl)
          | (apply G.lss; exact rfl; exact rfl; exact rfl)
          | (apply G.leq; exact rfl; exact rfl; exact rfl)
          | (apply G.geq; exact rfl; exact rfl; exact rfl)
          | (apply G.eql; exact rfl; exact rfl; exact rfl)
          | (apply G.neq; exact rfl; exact rfl; exact rfl)
          | (apply G.add; exact rfl; exact rfl; exact rfl; first | exact IntWalk.i64_in _ (by omega) | exact IntWalk.u8_in _ (by omega) | exact IntWalk.u16_in _ (by omega) | exact IntWalk.u32_in _ (by omega) | exact IntWalk.u64_in _ (by omega))
          | (apply G.eqlB; exact rfl; exact T.boo_4; exact rfl; exact rfl)
          | (apply G.neqB; exact rfl; exact T.boo_4; exact rfl; exact rfl)
          | (apply G.rem; exact rfl; exact rfl; exact rfl; (first | decide | omega); exact IntWalk.rem_in _ _ (by omega))
          | (apply G.notT; exact rfl; exact rfl)
          | (apply G.notF; exact rfl; exact rfl)
          | (refine G.notD rfl rfl ?_)
          | (apply G.notB; exact rfl; exact rfl)
          | (apply G.extract; exact rfl; exact rfl; exact rfl))
        refine Goal.again ⟨i + 1, A2⟩ ⟨by dsimp only; omega, ?_⟩ (by dsimp only; omega) ⟨rfl, rfl, trivial⟩ (fun _ h => h)
        dsimp only
        rw [show (i + 1).toNat = i.toNat + 1 by omega, evr_succ, show ((i.toNat : Nat) : Int) = i by omega]
        exact h2
      · generalize hEE : evr i.toNat (fun j => j % 7) = E at hA
        have hl : E.length = 65536 := by rw [← hEE, evr_len]; omega
        have hE : addErr E.length 0 1 = 6 := by
          unfold addErr
          rw [if_neg (by omega), if_neg (by omega), if_pos (by omega)]
        have hh : hasId E 5 = true := by rw [← hEE]; exact evr_has (by omega)
        have hlt := without_lt hh
        have hE2 : addErr (without E 5).length 0 1 = 0 := by
          unfold addErr
          rw [if_neg (by omega), if_neg (by omega), if_neg (by omega)]
        have hi2 : i = 65536 := by omega
        repeat' (first
          | (refine Goal.loud (o := ⟨some 61, _, _, _, _, _⟩) rfl ?_; refine Loud.callE ([]) (addQ hA 1 1 (by omega)) rfl rfl rfl rfl T.bod_11 (fun _ h => h) ?_; intro A2 h2; rw [hE, if_neg (by decide), if_neg (by decide)] at h2; rw [hE])
          | (refine Goal.loud (o := ⟨some 68, _, _, _, _, _⟩) rfl ?_; refine Loud.callE ([]) (lenQ h2) rfl rfl rfl rfl T.bod_13 (fun _ h => h) ?_; rintro ⟨⟩ -)
          | (refine Goal.loud (o := ⟨some 73, _, _, _, _, _⟩) rfl ?_; refine Loud.callE ([]) (cancelQ h2 5) rfl rfl rfl rfl T.bod_14 (fun _ h => h) ?_; intro A3 h3; rw [hh, if_pos rfl])
          | (refine Goal.loud (o := ⟨some 78, _, _, _, _, _⟩) rfl ?_; refine Loud.callE ([]) (addQ h3 1 1 (by omega)) rfl rfl rfl rfl T.bod_11 (fun _ h => h) ?_; intro A4 h4; rw [hE2, if_pos rfl])
          | (apply G.move; exact rfl; exact rfl)
          | (apply G.assign; exact rfl; exact rfl)
          | refine Goal.seq (fun _ _ => ?_)
          | refine Goal.next (by assumption) ?_
          | refine Goal.lnil ?_
          | refine Goal.region ?_
          | refine Goal.skip ?_
          | refine Goal.block ?_
          | refine Goal.exit ?_
          | refine Goal.ret ?_
          | refine Goal.then_exit ?_
          | refine Goal.then_ret ?_
          | refine Goal.inBlock_exit ?_
          | refine Goal.inBlock_normal ?_
          | refine Goal.inBlock_ret ?_
          | refine Goal.inBlock_other rfl ?_
          | (apply Goal.condT; exact rfl)
          | (apply Goal.condF; exact rfl)
          | (refine Goal.condD rfl (fun hc => ?_) (fun hc => ?_) <;> first | (exfalso; omega) | contradiction | skip)
          | refine Goal.condB rfl (fun hc => ?_) (fun hc => ?_)
          | refine Goal.guardT rfl rfl ?_
          | refine Goal.guardF rfl rfl rfl rfl ?_
          | refine Goal.guardU rfl rfl rfl ?_
          | (refine Goal.guardD rfl rfl (fun hc => ?_) (fun hc => ?_) <;> first | (exfalso; omega) | contradiction | skip)
          | refine Goal.guardB rfl rfl (fun hc => ?_) (fun hc => ?_)
          | (apply G.pickT; exact rfl; exact rfl; exact rfl)
          | (apply G.pickF; exact rfl; exact rfl; exact rfl)
          | (apply G.lss; exact rfl; exact rfl; exact rfl)
          | (apply G.leq; exact rfl; exact rfl; exact rfl)
          | (apply G.geq; exact rfl; exact rfl; exact rfl)
          | (apply G.eql; exact rfl; exact rfl; exact rfl)
          | (apply G.neq; exact rfl; exact rfl; exact rfl)
          | (apply G.add; exact rfl; exact rfl; exact rfl; first | exact IntWalk.i64_in _ (by omega) | exact IntWalk.u8_in _ (by omega) | exact IntWalk.u16_in _ (by omega) | exact IntWalk.u32_in _ (by omega) | exact IntWalk.u64_in _ (by omega))
          | (apply G.eqlB; exact rfl; exact T.boo_4; exact rfl; exact rfl)
          | (apply G.neqB; exact rfl; exact T.boo_4; exact rfl; exact rfl)
          | (apply G.rem; exact rfl; exact rfl; exact rfl; (first | decide | omega); exact IntWalk.rem_in _ _ (by omega))
          | (apply G.notT; exact rfl; exact rfl)
          | (apply G.notF; exact rfl; exact rfl)
          | (refine G.notD rfl rfl ?_)
          | (apply G.notB; exact rfl; exact rfl)
          | (apply G.extract; exact rfl; exact rfl; exact rfl))
        refine Goal.done (vs := [_]) (by first | exact .inl rfl | exact .inr rfl) Try.results5 ⟨rfl, trivial⟩ rfl (fun w' H => ⟨ret_bool (by simp; omega), H.mod⟩)
end Go.Proofs.Ytcekjnfdgbeekaa
