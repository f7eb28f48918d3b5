/- EventsChain's contract. -/
import Derived.Test.YtcekjnfdgbeekaaEvS
namespace Go.Proofs.Ytcekjnfdgbeekaa
open Go.Wf
set_option linter.unusedVariables false
theorem ints_snoc2 (l : List Int) (x : Int) : ints l ++ [Value.int .i64 x] = ints (l ++ [x]) := by simp [ints]
theorem ia_snoc {l : List Int} {x j : Int} (h : 0 ≤ j ∧ j < l.length) : ia (l ++ [x]) j = ia l j := by
  unfold ia
  rw [List.getD_eq_getElem?_getD, List.getD_eq_getElem?_getD, List.getElem?_append_left (by omega)]
theorem ia_snoc_last {l : List Int} {x j : Int} (h : j = l.length) : ia (l ++ [x]) j = x := by
  unfold ia
  rw [List.getD_eq_getElem?_getD, h, Int.toNat_natCast, List.getElem?_append_right (Nat.le_refl _)]
  simp
theorem ia_rep0 (n : Nat) (i : Int) : ia (List.replicate n 0) i = 0 := by
  unfold ia
  simp [List.getD_eq_getElem?_getD, List.getElem?_replicate]
  split <;> rfl
structure CX1 where
  (i : Int) (A : List Blk)
structure CX2 where
  (i : Int) (v : Value) (Aa : List Blk)
structure CX3 where
  (s now ld : Int) (al : List Int) (v : Value) (E : List Evt) (Aa A : List Blk)
set_option maxHeartbeats 8000000 in
theorem law_chain (l : List Int) (v : Value) (st : Int) (w : World) (hr : RdV w v (l.map (.int .u8))) (hq : ∀ n ∈ l, 0 ≤ n ∧ n < 256) (hst : 0 ≤ st ∧ st < 256) : Calls Try.prog 3 #[v, .int .u8 st] w fun e w' => e = .returned (.bool true) ∧ Mod [] w w' := by
  obtain ⟨ad, cap, rfl, hr'⟩ := id hr
  rw [List.length_map] at hr ⊢
  by_cases hbig : l.length = 0 ∨ 60 < l.length
  · refine Goal.enter (args := [.slice ad l.length cap, .int .u8 st]) Try.func3 rfl Try.ntmps3 rfl (St.nil w) ?_
    repeat' (first
      | (refine Goal.loud (o := ⟨some 20, _, _, _, _, _⟩) rfl ?_; apply Loud.call0; exact rfl; exact rfl; exact rfl; exact rfl; exact T.bod_9; exact (fun w H => awake_any w))
      | (refine Goal.loud (o := ⟨some 53, _, _, _, _, _⟩) rfl ?_; refine Loud.buildSlice (cs := [_]) rfl T.slc_29 T.inf_3 rfl rfl (by decide) rfl rfl rfl (fun b53 => ?_))
      | (refine Goal.loud (o := ⟨some 130, _, _, _, _, _⟩) rfl ?_; refine Loud.buildSlice (cs := [_]) rfl T.slc_29 T.inf_3 rfl rfl (by decide) rfl rfl rfl (fun b130 => ?_))
      | (apply G.move; exact rfl; exact rfl)
      | (apply G.assign; exact rfl; exact rfl)
      | refine Goal.seq (fun _ _ => ?_)
      | refine Goal.next (by assumption) ?_
      | refine Goal.lnil ?_
      | refine Goal.region ?_
      | refine Goal.skip ?_
      | refine Goal.block ?_
      | refine Goal.exit ?_
      | refine Goal.ret ?_
      | refine Goal.then_exit ?_
      | refine Goal.then_ret ?_
      | refine Goal.inBlock_exit ?_
      | refine Goal.inBlock_normal ?_
      | refine Goal.inBlock_ret ?_
      | refine Goal.inBlock_other rfl ?_
      | (apply Goal.condT; exact rfl)
      | (apply Goal.condF; exact rfl)
      | (refine Goal.condD rfl (fun hc => ?_) (fun hc => ?_) <;> first | (exfalso; omega) | contradiction | skip)
      | refine Goal.condB rfl (fun hc => ?_) (fun hc => ?_)
      | refine Goal.guardT rfl rfl ?_
      | refine Goal.guardF rfl rfl rfl rfl ?_
      | refine Goal.guardU rfl rfl rfl ?_
      | (refine Goal.guardD rfl rfl (fun hc => ?_) (fun hc => ?_) <;> first | (exfalso; omega) | contradiction | skip)
      | refine Goal.guardB rfl rfl (fun hc => ?_) (fun hc => ?_)
      | (apply G.load; exact rfl; exact rfl; first | exact LoadOK.one (by first | exact T.one_3 | exact T.one_5) 0 rfl rfl | exact LoadOK.one (by first | exact T.one_3 | exact T.one_5) 1 rfl rfl | exact LoadOK.one (by first | exact T.one_3 | exact T.one_5) 2 rfl rfl | exact LoadOK.one (by first | exact T.one_3 | exact T.one_5) 3 rfl rfl | exact LoadOK.one (by first | exact T.one_3 | exact T.one_5) 4 rfl rfl | exact LoadOK.one (by first | exact T.one_3 | exact T.one_5) 5 rfl rfl | exact LoadOK.one (by first | exact T.one_3 | exact T.one_5) 6 rfl rfl | exact LoadOK.one (by first | exact T.one_3 | exact T.one_5) 7 rfl rfl)
      | (apply G.pickT; exact rfl; exact rfl; exact rfl)
      | (apply G.pickF; exact rfl; exact rfl; exact rfl)
      | (apply G.lss; exact rfl; exact rfl; exact rfl)
      | (apply G.gtr; exact rfl; exact rfl; exact rfl)
      | (apply G.geq; exact rfl; exact rfl; exact rfl)
      | (apply G.eql; exact rfl; exact rfl; exact rfl)
      | (apply G.neq; exact rfl; exact rfl; exact rfl)
      | (apply G.add; exact rfl; exact rfl; exact rfl; first | exact IntWalk.i64_in _ (by omega) | exact IntWalk.u8_in _ (by omega) | exact IntWalk.u16_in _ (by omega) | exact IntWalk.u32_in _ (by omega) | exact IntWalk.u64_in _ (by omega))
      | (apply G.rem; exact rfl; exact rfl; exact rfl; (first | decide | omega); exact IntWalk.rem_in _ _ (by omega))
      | (apply G.conv; exact rfl; exact rfl; (first | exact T.int_3 | exact T.int_5); (first | exact T.int_3 | exact T.int_5); first | exact IntWalk.i64_in _ (by omega) | exact IntWalk.u8_in _ (by omega) | exact IntWalk.u16_in _ (by omega) | exact IntWalk.u32_in _ (by omega) | exact IntWalk.u64_in _ (by omega))
      | (apply G.notT; exact rfl; exact rfl)
      | (apply G.notF; exact rfl; exact rfl)
      | (refine G.notD rfl rfl ?_)
      | (apply G.notB; exact rfl; exact rfl)
      | (apply G.extract; exact rfl; exact rfl; exact rfl)
      | (apply G.len; exact rfl; exact rfl; (first | exact T.slc_22 | exact T.slc_29))
      | (refine G.indexAddr1 rfl (by first | exact T.slc_22 | exact T.slc_29) (by first | exact T.sz_3 | exact T.sz_5) rfl rfl _ rfl (by omega) ?_)
      | (refine G.indexAddr1 rfl (by first | exact T.slc_22 | exact T.slc_29) (by first | exact T.sz_3 | exact T.sz_5) rfl rfl _ (Int.toNat_of_nonneg (by omega)).symm (by omega) ?_))
    all_goals
      refine Goal.done (vs := [_]) (by first | exact .inl rfl | exact .inr rfl) Try.results3 ⟨rfl, trivial⟩ rfl (fun w' H => ⟨rfl, H.mod⟩)
  · obtain ⟨b, o, rfl, hk⟩ := rd_nums hr (by omega)
    obtain ⟨m, hm⟩ : ∃ m, m = 1 + st % 8 := ⟨_, rfl⟩
    refine Goal.enter (args := [.slice (some ⟨b, o, none⟩) l.length cap, .int .u8 st]) Try.func3 rfl Try.ntmps3 rfl (St.nil w) ?_
    repeat' (first
      | (refine Goal.loud (o := ⟨some 20, _, _, _, _, _⟩) rfl ?_; apply Loud.call0; exact rfl; exact rfl; exact rfl; exact rfl; exact T.bod_9; exact (fun w H => awake_any w))
      | (refine Goal.loud (o := ⟨some 30, _, _, _, _, _⟩) rfl ?_; apply Loud.callN; exact rfl; exact rfl; exact rfl; exact rfl; exact T.bod_10; exact (fun w H => newQ w); rintro ⟨bq, A1⟩ h1; dsimp only at h1 ⊢)
      | (refine Goal.loud (o := ⟨some 53, _, _, _, _, _⟩) rfl ?_; refine Loud.buildSlice (cs := [_]) rfl T.slc_29 T.inf_3 rfl rfl (by decide) rfl rfl rfl (fun b53 => ?_))
      | (refine Goal.loud (o := ⟨some 130, _, _, _, _, _⟩) rfl ?_; refine Loud.buildSlice (cs := [_]) rfl T.slc_29 T.inf_3 rfl rfl (by decide) rfl rfl rfl (fun b130 => ?_))
      | (apply G.move; exact rfl; exact rfl)
      | (apply G.assign; exact rfl; exact rfl)
      | refine Goal.seq (fun _ _ => ?_)
      | refine Goal.next (by assumption) ?_
      | refine Goal.lnil ?_
      | refine Goal.region ?_
      | refine Goal.skip ?_
      | refine Goal.block ?_
      | refine Goal.exit ?_
      | refine Goal.ret ?_
      | refine Goal.then_exit ?_
      | refine Goal.then_ret ?_
      | refine Goal.inBlock_exit ?_
      | refine Goal.inBlock_normal ?_
      | refine Goal.inBlock_ret ?_
      | refine Goal.inBlock_other rfl ?_
      | (apply Goal.condT; exact rfl)
      | (apply Goal.condF; exact rfl)
      | (refine Goal.condD rfl (fun hc => ?_) (fun hc => ?_) <;> first | (exfalso; omega) | contradiction | skip)
      | refine Goal.condB rfl (fun hc => ?_) (fun hc => ?_)
      | refine Goal.guardT rfl rfl ?_
      | refine Goal.guardF rfl rfl rfl rfl ?_
      | refine Goal.guardU rfl rfl rfl ?_
      | (refine Goal.guardD rfl rfl (fun hc => ?_) (fun hc => ?_) <;> first | (exfalso; omega) | contradiction | skip)
      | refine Goal.guardB rfl rfl (fun hc => ?_) (fun hc => ?_)
      | (apply G.load; exact rfl; exact rfl; first | exact LoadOK.one (by first | exact T.one_3 | exact T.one_5) 0 rfl rfl | exact LoadOK.one (by first | exact T.one_3 | exact T.one_5) 1 rfl rfl | exact LoadOK.one (by first | exact T.one_3 | exact T.one_5) 2 rfl rfl | exact LoadOK.one (by first | exact T.one_3 | exact T.one_5) 3 rfl rfl | exact LoadOK.one (by first | exact T.one_3 | exact T.one_5) 4 rfl rfl | exact LoadOK.one (by first | exact T.one_3 | exact T.one_5) 5 rfl rfl | exact LoadOK.one (by first | exact T.one_3 | exact T.one_5) 6 rfl rfl | exact LoadOK.one (by first | exact T.one_3 | exact T.one_5) 7 rfl rfl)
      | (apply G.pickT; exact rfl; exact rfl; exact rfl)
      | (apply G.pickF; exact rfl; exact rfl; exact rfl)
      | (apply G.lss; exact rfl; exact rfl; exact rfl)
      | (apply G.gtr; exact rfl; exact rfl; exact rfl)
      | (apply G.geq; exact rfl; exact rfl; exact rfl)
      | (apply G.eql; exact rfl; exact rfl; exact rfl)
      | (apply G.neq; exact rfl; exact rfl; exact rfl)
      | (apply G.add; exact rfl; exact rfl; exact rfl; first | exact IntWalk.i64_in _ (by omega) | exact IntWalk.u8_in _ (by omega) | exact IntWalk.u16_in _ (by omega) | exact IntWalk.u32_in _ (by omega) | exact IntWalk.u64_in _ (by omega))
      | (apply G.rem; exact rfl; exact rfl; exact rfl; (first | decide | omega); exact IntWalk.rem_in _ _ (by omega))
      | (apply G.conv; exact rfl; exact rfl; (first | exact T.int_3 | exact T.int_5); (first | exact T.int_3 | exact T.int_5); first | exact IntWalk.i64_in _ (by omega) | exact IntWalk.u8_in _ (by omega) | exact IntWalk.u16_in _ (by omega) | exact IntWalk.u32_in _ (by omega) | exact IntWalk.u64_in _ (by omega))
      | (apply G.notT; exact rfl; exact rfl)
      | (apply G.notF; exact rfl; exact rfl)
      | (refine G.notD rfl rfl ?_)
      | (apply G.notB; exact rfl; exact rfl)
      | (apply G.extract; exact rfl; exact rfl; exact rfl)
      | (apply G.len; exact rfl; exact rfl; (first | exact T.slc_22 | exact T.slc_29))
      | (refine G.indexAddr1 rfl (by first | exact T.slc_22 | exact T.slc_29) (by first | exact T.sz_3 | exact T.sz_5) rfl rfl _ rfl (by omega) ?_)
      | (refine G.indexAddr1 rfl (by first | exact T.slc_22 | exact T.slc_29) (by first | exact T.sz_3 | exact T.sz_5) rfl rfl _ (Int.toNat_of_nonneg (by omega)).symm (by omega) ?_))
    rw [← hm]
    refine Goal.loopP (X := CX1) (fun x => [(0, .slice (some ⟨b, o, none⟩) l.length cap), (1, .int .u8 st), (5, .pointer (some ⟨bq, 0, none⟩)), (6, .int .i64 x.i), (34, .int .i64 m), (35, .int .i64 x.i)]) (fun x => x.A) (fun x => (0 ≤ x.i ∧ x.i ≤ m) ∧ QM bq (evr x.i.toNat fun _ => 0) 0 x.i x.A) (fun x => (m - x.i).toNat) ⟨0, A1⟩ ⟨rfl, rfl, rfl, rfl, rfl, rfl, trivial⟩ (fun _ h => h) ⟨by dsimp only; omega, h1⟩ ?_
    rintro ⟨i, A⟩ ⟨hi, hA⟩
    dsimp only at hi hA ⊢
    by_cases h : i < m
    · have hE : addErr (evr i.toNat fun _ => 0).length 0 0 = 0 := by
        unfold addErr
        rw [evr_len, if_neg (by omega), if_neg (by omega), if_neg (by omega)]
      repeat' (first
        | (refine Goal.loud (o := ⟨some 40, _, _, _, _, _⟩) rfl ?_; refine Loud.callE ([]) (addQ hA 0 i (by omega)) rfl rfl rfl rfl T.bod_11 (fun _ h => h) ?_; intro A2 h2; rw [hE, if_pos rfl, if_pos rfl] at h2; rw [hE, if_pos rfl])
        | (refine Goal.loud (o := ⟨some 53, _, _, _, _, _⟩) rfl ?_; refine Loud.buildSlice (cs := [_]) rfl T.slc_29 T.inf_3 rfl rfl (by decide) rfl rfl rfl (fun b53 => ?_))
        | (refine Goal.loud (o := ⟨some 130, _, _, _, _, _⟩) rfl ?_; refine Loud.buildSlice (cs := [_]) rfl T.slc_29 T.inf_3 rfl rfl (by decide) rfl rfl rfl (fun b130 => ?_))
        | (apply G.move; exact rfl; exact rfl)
        | (apply G.assign; exact rfl; exact rfl)
        | refine Goal.seq (fun _ _ => ?_)
        | refine Goal.next (by assumption) ?_
        | refine Goal.lnil ?_
        | refine Goal.region ?_
        | refine Goal.skip ?_
        | refine Goal.block ?_
        | refine Goal.exit ?_
        | refine Goal.ret ?_
        | refine Goal.then_exit ?_
        | refine Goal.then_ret ?_
        | refine Goal.inBlock_exit ?_
        | refine Goal.inBlock_normal ?_
        | refine Goal.inBlock_ret ?_
        | refine Goal.inBlock_other rfl ?_
        | (apply Goal.condT; exact rfl)
        | (apply Goal.condF; exact rfl)
        | (refine Goal.condD rfl (fun hc => ?_) (fun hc => ?_) <;> first | (exfalso; omega) | contradiction | skip)
        | refine Goal.condB rfl (fun hc => ?_) (fun hc => ?_)
        | refine Goal.guardT rfl rfl ?_
        | refine Goal.guardF rfl rfl rfl rfl ?_
        | refine Goal.guardU rfl rfl rfl ?_
        | (refine Goal.guardD rfl rfl (fun hc => ?_) (fun hc => ?_) <;> first | (exfalso; omega) | contradiction | skip)
        | refine Goal.guardB rfl rfl (fun hc => ?_) (fun hc => ?_)
        | (apply G.load; exact rfl; exact rfl; first | exact LoadOK.one (by first | exact T.one_3 | exact T.one_5) 0 rfl rfl | exact LoadOK.one (by first | exact T.one_3 | exact T.one_5) 1 rfl rfl | exact LoadOK.one (by first | exact T.one_3 | exact T.one_5) 2 rfl rfl | exact LoadOK.one (by first | exact T.one_3 | exact T.one_5) 3 rfl rfl | exact LoadOK.one (by first | exact T.one_3 | exact T.one_5) 4 rfl rfl | exact LoadOK.one (by first | exact T.one_3 | exact T.one_5) 5 rfl rfl | exact LoadOK.one (by first | exact T.one_3 | exact T.one_5) 6 rfl rfl | exact LoadOK.one (by first | exact T.one_3 | exact T.one_5) 7 rfl rfl)
        | (apply G.pickT; exact rfl; exact rfl; exact rfl)
        | (apply G.pickF; exact rfl; exact rfl; exact rfl)
        | (apply G.lss; exact rfl; exact rfl; exact rfl)
        | (apply G.gtr; exact rfl; exact rfl; exact rfl)
        | (apply G.geq; exact rfl; exact rfl; exact rfl)
        | (apply G.eql; exact rfl; exact rfl; exact rfl)
        | (apply G.neq; exact rfl; exact rfl; exact rfl)
        | (apply G.add; exact rfl; exact rfl; exact rfl; first | exact IntWalk.i64_in _ (by omega) | exact IntWalk.u8_in _ (by omega) | exact IntWalk.u16_in _ (by omega) | exact IntWalk.u32_in _ (by omega) | exact IntWalk.u64_in _ (by omega))
        | (apply G.rem; exact rfl; exact rfl; exact rfl; (first | decide | omega); exact IntWalk.rem_in _ _ (by omega))
        | (apply G.conv; exact rfl; exact rfl; (first | exact T.int_3 | exact T.int_5); (first | exact T.int_3 | exact T.int_5); first | exact IntWalk.i64_in _ (by omega) | exact IntWalk.u8_in _ (by omega) | exact IntWalk.u16_in _ (by omega) | exact IntWalk.u32_in _ (by omega) | exact IntWalk.u64_in _ (by omega))
        | (apply G.notT; exact rfl; exact rfl)
        | (apply G.notF; exact rfl; exact rfl)
        | (refine G.notD rfl rfl ?_)
        | (apply G.notB; exact rfl; exact rfl)
        | (apply G.extract; exact rfl; exact rfl; exact rfl)
        | (apply G.len; exact rfl; exact rfl; (first | exact T.slc_22 | exact T.slc_29))
        | (refine G.indexAddr1 rfl (by first | exact T.slc_22 | exact T.slc_29) (by first | exact T.sz_3 | exact T.sz_5) rfl rfl _ rfl (by omega) ?_)
        | (refine G.indexAddr1 rfl (by first | exact T.slc_22 | exact T.slc_29) (by first | exact T.sz_3 | exact T.sz_5) rfl rfl _ (Int.toNat_of_nonneg (by omega)).symm (by omega) ?_))
      refine Goal.again ⟨i + 1, A2⟩ ⟨by dsimp only; omega, ?_⟩ (by dsimp only; omega) ⟨rfl, rfl, rfl, rfl, rfl, rfl, trivial⟩ (fun _ h => h)
      dsimp only
      rw [show (i + 1).toNat = i.toNat + 1 by omega, evr_succ, show ((i.toNat : Nat) : Int) = i by omega]
      exact h2
    · obtain rfl : i = m := by omega
      repeat' (first
        | (refine Goal.drawAll (id := 14) 3 T.mixed ?_; all_goals ((refine Goal.takeP (listed' := #[false, true, false]) 1 ⟨rfl, by kernel_rfl, by kernel_rfl, by kernel_rfl, by kernel_rfl⟩ rfl (fun _ _ _ _ h => h) (by intro _; exact Run.assign rfl) ?_)); all_goals (refine Goal.ready1 (i := 0) (by kernel_rfl) ?_); all_goals ((refine Goal.up (i := 0) (listed' := #[true, true, false]) rfl (by kernel_rfl) ?_; (first | refine Loud.makeSlice rfl T.slc_29 T.inf_3 rfl rfl (by decide) rfl rfl rfl rfl (by omega) (by omega) (by omega) (fun b48 => ?_) | refine Loud.makeSlice rfl T.slc_29 T.inf_3 rfl rfl (by decide) rfl rfl (Int.toNat_of_nonneg (by omega)).symm (Int.toNat_of_nonneg (by omega)).symm (by omega) (by omega) (by omega) (fun b48 => ?_)); first | refine Goal.tail rfl ?_ | refine Goal.kept (by (first | exact fun _ h => h | exact fun _ h => h.sub (.cons _ (.refl _)) | exact fun _ h => h.sub (.cons _ (.cons _ (.refl _))) | exact fun _ h => h.sub (.cons _ (.cons _ (.cons _ (.refl _)))) | exact fun _ h => h.drop | exact fun _ h => h.sub (List.sublist_append_left _ _) | exact fun _ h => by simpa only [List.append_eq, List.append_assoc, List.cons_append, List.nil_append, List.append_nil] using h)) ?_)); all_goals ((refine Goal.takeP (listed' := #[true, true, true]) 2 ⟨rfl, by kernel_rfl, by kernel_rfl, by kernel_rfl, by kernel_rfl⟩ rfl (fun _ _ _ _ h => h) (by intro _; exact Run.assign rfl) ?_)); all_goals (refine Goal.allUp (by kernel_rfl) ?_))
        | (refine Goal.loud (o := ⟨some 53, _, _, _, _, _⟩) rfl ?_; refine Loud.buildSlice (cs := [_]) rfl T.slc_29 T.inf_3 rfl rfl (by decide) rfl rfl rfl (fun b53 => ?_))
        | (refine Goal.loud (o := ⟨some 130, _, _, _, _, _⟩) rfl ?_; refine Loud.buildSlice (cs := [_]) rfl T.slc_29 T.inf_3 rfl rfl (by decide) rfl rfl rfl (fun b130 => ?_))
        | (apply G.move; exact rfl; exact rfl)
        | (apply G.assign; exact rfl; exact rfl)
        | refine Goal.seq (fun _ _ => ?_)
        | refine Goal.next (by assumption) ?_
        | refine Goal.lnil ?_
        | refine Goal.region ?_
        | refine Goal.skip ?_
        | refine Goal.block ?_
        | refine Goal.exit ?_
        | refine Goal.ret ?_
        | refine Goal.then_exit ?_
        | refine Goal.then_ret ?_
        | refine Goal.inBlock_exit ?_
        | refine Goal.inBlock_normal ?_
        | refine Goal.inBlock_ret ?_
        | refine Goal.inBlock_other rfl ?_
        | (apply Goal.condT; exact rfl)
        | (apply Goal.condF; exact rfl)
        | (refine Goal.condD rfl (fun hc => ?_) (fun hc => ?_) <;> first | (exfalso; omega) | contradiction | skip)
        | refine Goal.condB rfl (fun hc => ?_) (fun hc => ?_)
        | refine Goal.guardT rfl rfl ?_
        | refine Goal.guardF rfl rfl rfl rfl ?_
        | refine Goal.guardU rfl rfl rfl ?_
        | (refine Goal.guardD rfl rfl (fun hc => ?_) (fun hc => ?_) <;> first | (exfalso; omega) | contradiction | skip)
        | refine Goal.guardB rfl rfl (fun hc => ?_) (fun hc => ?_)
        | (apply G.load; exact rfl; exact rfl; first | exact LoadOK.one (by first | exact T.one_3 | exact T.one_5) 0 rfl rfl | exact LoadOK.one (by first | exact T.one_3 | exact T.one_5) 1 rfl rfl | exact LoadOK.one (by first | exact T.one_3 | exact T.one_5) 2 rfl rfl | exact LoadOK.one (by first | exact T.one_3 | exact T.one_5) 3 rfl rfl | exact LoadOK.one (by first | exact T.one_3 | exact T.one_5) 4 rfl rfl | exact LoadOK.one (by first | exact T.one_3 | exact T.one_5) 5 rfl rfl | exact LoadOK.one (by first | exact T.one_3 | exact T.one_5) 6 rfl rfl | exact LoadOK.one (by first | exact T.one_3 | exact T.one_5) 7 rfl rfl)
        | (apply G.pickT; exact rfl; exact rfl; exact rfl)
        | (apply G.pickF; exact rfl; exact rfl; exact rfl)
        | (apply G.lss; exact rfl; exact rfl; exact rfl)
        | (apply G.gtr; exact rfl; exact rfl; exact rfl)
        | (apply G.geq; exact rfl; exact rfl; exact rfl)
        | (apply G.eql; exact rfl; exact rfl; exact rfl)
        | (apply G.neq; exact rfl; exact rfl; exact rfl)
        | (apply G.add; exact rfl; exact rfl; exact rfl; first | exact IntWalk.i64_in _ (by omega) | exact IntWalk.u8_in _ (by omega) | exact IntWalk.u16_in _ (by omega) | exact IntWalk.u32_in _ (by omega) | exact IntWalk.u64_in _ (by omega))
        | (apply G.rem; exact rfl; exact rfl; exact rfl; (first | decide | omega); exact IntWalk.rem_in _ _ (by omega))
        | (apply G.conv; exact rfl; exact rfl; (first | exact T.int_3 | exact T.int_5); (first | exact T.int_3 | exact T.int_5); first | exact IntWalk.i64_in _ (by omega) | exact IntWalk.u8_in _ (by omega) | exact IntWalk.u16_in _ (by omega) | exact IntWalk.u32_in _ (by omega) | exact IntWalk.u64_in _ (by omega))
        | (apply G.notT; exact rfl; exact rfl)
        | (apply G.notF; exact rfl; exact rfl)
        | (refine G.notD rfl rfl ?_)
        | (apply G.notB; exact rfl; exact rfl)
        | (apply G.extract; exact rfl; exact rfl; exact rfl)
        | (apply G.len; exact rfl; exact rfl; (first | exact T.slc_22 | exact T.slc_29))
        | (refine G.indexAddr1 rfl (by first | exact T.slc_22 | exact T.slc_29) (by first | exact T.sz_3 | exact T.sz_5) rfl rfl _ rfl (by omega) ?_)
        | (refine G.indexAddr1 rfl (by first | exact T.slc_22 | exact T.slc_29) (by first | exact T.sz_3 | exact T.sz_5) rfl rfl _ (Int.toNat_of_nonneg (by omega)).symm (by omega) ?_))
      refine Goal.loopP (X := CX2) (fun x => [(0, .slice (some ⟨b, o, none⟩) l.length cap), (1, .int .u8 st), (5, .pointer (some ⟨bq, 0, none⟩)), (6, .int .i64 i), (9, .int .i64 0), (10, x.v), (49, .int .i64 i), (50, .int .i64 x.i)]) (fun x => x.Aa ++ A) (fun x => (0 ≤ x.i ∧ x.i ≤ i) ∧ Sl x.v 3 1 x.i.toNat (ints (List.replicate x.i.toNat 0)) x.Aa) (fun x => (i - x.i).toNat) ⟨0, .slice (some ⟨b48, 0, none⟩) 0 300, [(b48, .cells (rep 300 [.int .i64 0]).toArray 3)]⟩ ⟨rfl, rfl, rfl, rfl, rfl, rfl, rfl, rfl, trivial⟩ (fun _ h => h) ⟨by dsimp only; omega, ?_⟩ ?_
      · exact Sl.mk (vs := []) (rest := rep 300 [.int .i64 0]) rfl (by rw [rep_ints, ints_len, List.length_replicate]; rfl) (by omega)
      · rintro ⟨j, va, Aa⟩ ⟨hj, hS⟩
        dsimp only at hj hS ⊢
        obtain ⟨ada, ca, rfl⟩ := hS.shape
        by_cases h2 : j < i
        · skip
          repeat' (first
            | (refine Goal.loud (o := ⟨some 54, _, _, _, _, _⟩) rfl ?_; refine Loud.appendM rfl T.slc_29 T.inf_3 rfl [] rfl hS rfl rfl rfl rfl (by omega) (by omega) ?_; intro v2 A2 hA2)
            | (refine Goal.loud (o := ⟨some 53, _, _, _, _, _⟩) rfl ?_; refine Loud.buildSlice (cs := [_]) rfl T.slc_29 T.inf_3 rfl rfl (by decide) rfl rfl rfl (fun b53 => ?_))
            | (refine Goal.loud (o := ⟨some 130, _, _, _, _, _⟩) rfl ?_; refine Loud.buildSlice (cs := [_]) rfl T.slc_29 T.inf_3 rfl rfl (by decide) rfl rfl rfl (fun b130 => ?_))
            | (apply G.move; exact rfl; exact rfl)
            | (apply G.assign; exact rfl; exact rfl)
            | refine Goal.seq (fun _ _ => ?_)
            | refine Goal.next (by assumption) ?_
            | refine Goal.lnil ?_
            | refine Goal.region ?_
            | refine Goal.skip ?_
            | refine Goal.block ?_
            | refine Goal.exit ?_
            | refine Goal.ret ?_
            | refine Goal.then_exit ?_
            | refine Goal.then_ret ?_
            | refine Goal.inBlock_exit ?_
            | refine Goal.inBlock_normal ?_
            | refine Goal.inBlock_ret ?_
            | refine Goal.inBlock_other rfl ?_
            | (apply Goal.condT; exact rfl)
            | (apply Goal.condF; exact rfl)
            | (refine Goal.condD rfl (fun hc => ?_) (fun hc => ?_) <;> first | (exfalso; omega) | contradiction | skip)
            | refine Goal.condB rfl (fun hc => ?_) (fun hc => ?_)
            | refine Goal.guardT rfl rfl ?_
            | refine Goal.guardF rfl rfl rfl rfl ?_
            | refine Goal.guardU rfl rfl rfl ?_
            | (refine Goal.guardD rfl rfl (fun hc => ?_) (fun hc => ?_) <;> first | (exfalso; omega) | contradiction | skip)
            | refine Goal.guardB rfl rfl (fun hc => ?_) (fun hc => ?_)
            | (apply G.load; exact rfl; exact rfl; first | exact LoadOK.one (by first | exact T.one_3 | exact T.one_5) 0 rfl rfl | exact LoadOK.one (by first | exact T.one_3 | exact T.one_5) 1 rfl rfl | exact LoadOK.one (by first | exact T.one_3 | exact T.one_5) 2 rfl rfl | exact LoadOK.one (by first | exact T.one_3 | exact T.one_5) 3 rfl rfl | exact LoadOK.one (by first | exact T.one_3 | exact T.one_5) 4 rfl rfl | exact LoadOK.one (by first | exact T.one_3 | exact T.one_5) 5 rfl rfl | exact LoadOK.one (by first | exact T.one_3 | exact T.one_5) 6 rfl rfl | exact LoadOK.one (by first | exact T.one_3 | exact T.one_5) 7 rfl rfl)
            | (apply G.pickT; exact rfl; exact rfl; exact rfl)
            | (apply G.pickF; exact rfl; exact rfl; exact rfl)
            | (apply G.lss; exact rfl; exact rfl; exact rfl)
            | (apply G.gtr; exact rfl; exact rfl; exact rfl)
            | (apply G.geq; exact rfl; exact rfl; exact rfl)
            | (apply G.eql; exact rfl; exact rfl; exact rfl)
            | (apply G.neq; exact rfl; exact rfl; exact rfl)
            | (apply G.add; exact rfl; exact rfl; exact rfl; first | exact IntWalk.i64_in _ (by omega) | exact IntWalk.u8_in _ (by omega) | exact IntWalk.u16_in _ (by omega) | exact IntWalk.u32_in _ (by omega) | exact IntWalk.u64_in _ (by omega))
            | (apply G.rem; exact rfl; exact rfl; exact rfl; (first | decide | omega); exact IntWalk.rem_in _ _ (by omega))
            | (apply G.conv; exact rfl; exact rfl; (first | exact T.int_3 | exact T.int_5); (first | exact T.int_3 | exact T.int_5); first | exact IntWalk.i64_in _ (by omega) | exact IntWalk.u8_in _ (by omega) | exact IntWalk.u16_in _ (by omega) | exact IntWalk.u32_in _ (by omega) | exact IntWalk.u64_in _ (by omega))
            | (apply G.notT; exact rfl; exact rfl)
            | (apply G.notF; exact rfl; exact rfl)
            | (refine G.notD rfl rfl ?_)
            | (apply G.notB; exact rfl; exact rfl)
            | (apply G.extract; exact rfl; exact rfl; exact rfl)
            | (apply G.len; exact rfl; exact rfl; (first | exact T.slc_22 | exact T.slc_29))
            | (refine G.indexAddr1 rfl (by first | exact T.slc_22 | exact T.slc_29) (by first | exact T.sz_3 | exact T.sz_5) rfl rfl _ rfl (by omega) ?_)
            | (refine G.indexAddr1 rfl (by first | exact T.slc_22 | exact T.slc_29) (by first | exact T.sz_3 | exact T.sz_5) rfl rfl _ (Int.toNat_of_nonneg (by omega)).symm (by omega) ?_))
          refine Goal.again ⟨j + 1, v2, A2⟩ ⟨by dsimp only; omega, ?_⟩ (by dsimp only; omega) ⟨rfl, rfl, rfl, rfl, rfl, rfl, rfl, rfl, trivial⟩ (fun _ h => h)
          dsimp only
          rw [show (j + 1).toNat = j.toNat + 1 by omega, List.replicate_succ', ← ints_snoc2]
          exact hA2
        · obtain rfl : j = i := by omega
          repeat' (first
            | (refine Goal.loud (o := ⟨some 53, _, _, _, _, _⟩) rfl ?_; refine Loud.buildSlice (cs := [_]) rfl T.slc_29 T.inf_3 rfl rfl (by decide) rfl rfl rfl (fun b53 => ?_))
            | (refine Goal.loud (o := ⟨some 130, _, _, _, _, _⟩) rfl ?_; refine Loud.buildSlice (cs := [_]) rfl T.slc_29 T.inf_3 rfl rfl (by decide) rfl rfl rfl (fun b130 => ?_))
            | (apply G.move; exact rfl; exact rfl)
            | (apply G.assign; exact rfl; exact rfl)
            | refine Goal.seq (fun _ _ => ?_)
            | refine Goal.next (by assumption) ?_
            | refine Goal.lnil ?_
            | refine Goal.region ?_
            | refine Goal.skip ?_
            | refine Goal.block ?_
            | refine Goal.exit ?_
            | refine Goal.ret ?_
            | refine Goal.then_exit ?_
            | refine Goal.then_ret ?_
            | refine Goal.inBlock_exit ?_
            | refine Goal.inBlock_normal ?_
            | refine Goal.inBlock_ret ?_
            | refine Goal.inBlock_other rfl ?_
            | (apply Goal.condT; exact rfl)
            | (apply Goal.condF; exact rfl)
            | (refine Goal.condD rfl (fun hc => ?_) (fun hc => ?_) <;> first | (exfalso; omega) | contradiction | skip)
            | refine Goal.condB rfl (fun hc => ?_) (fun hc => ?_)
            | refine Goal.guardT rfl rfl ?_
            | refine Goal.guardF rfl rfl rfl rfl ?_
            | refine Goal.guardU rfl rfl rfl ?_
            | (refine Goal.guardD rfl rfl (fun hc => ?_) (fun hc => ?_) <;> first | (exfalso; omega) | contradiction | skip)
            | refine Goal.guardB rfl rfl (fun hc => ?_) (fun hc => ?_)
            | (apply G.load; exact rfl; exact rfl; first | exact LoadOK.one (by first | exact T.one_3 | exact T.one_5) 0 rfl rfl | exact LoadOK.one (by first | exact T.one_3 | exact T.one_5) 1 rfl rfl | exact LoadOK.one (by first | exact T.one_3 | exact T.one_5) 2 rfl rfl | exact LoadOK.one (by first | exact T.one_3 | exact T.one_5) 3 rfl rfl | exact LoadOK.one (by first | exact T.one_3 | exact T.one_5) 4 rfl rfl | exact LoadOK.one (by first | exact T.one_3 | exact T.one_5) 5 rfl rfl | exact LoadOK.one (by first | exact T.one_3 | exact T.one_5) 6 rfl rfl | exact LoadOK.one (by first | exact T.one_3 | exact T.one_5) 7 rfl rfl)
            | (apply G.pickT; exact rfl; exact rfl; exact rfl)
            | (apply G.pickF; exact rfl; exact rfl; exact rfl)
            | (apply G.lss; exact rfl; exact rfl; exact rfl)
            | (apply G.gtr; exact rfl; exact rfl; exact rfl)
            | (apply G.geq; exact rfl; exact rfl; exact rfl)
            | (apply G.eql; exact rfl; exact rfl; exact rfl)
            | (apply G.neq; exact rfl; exact rfl; exact rfl)
            | (apply G.add; exact rfl; exact rfl; exact rfl; first | exact IntWalk.i64_in _ (by omega) | exact IntWalk.u8_in _ (by omega) | exact IntWalk.u16_in _ (by omega) | exact IntWalk.u32_in _ (by omega) | exact IntWalk.u64_in _ (by omega))
            | (apply G.rem; exact rfl; exact rfl; exact rfl; (first | decide | omega); exact IntWalk.rem_in _ _ (by omega))
            | (apply G.conv; exact rfl; exact rfl; (first | exact T.int_3 | exact T.int_5); (first | exact T.int_3 | exact T.int_5); first | exact IntWalk.i64_in _ (by omega) | exact IntWalk.u8_in _ (by omega) | exact IntWalk.u16_in _ (by omega) | exact IntWalk.u32_in _ (by omega) | exact IntWalk.u64_in _ (by omega))
            | (apply G.notT; exact rfl; exact rfl)
            | (apply G.notF; exact rfl; exact rfl)
            | (refine G.notD rfl rfl ?_)
            | (apply G.notB; exact rfl; exact rfl)
            | (apply G.extract; exact rfl; exact rfl; exact rfl)
            | (apply G.len; exact rfl; exact rfl; (first | exact T.slc_22 | exact T.slc_29))
            | (refine G.indexAddr1 rfl (by first | exact T.slc_22 | exact T.slc_29) (by first | exact T.sz_3 | exact T.sz_5) rfl rfl _ rfl (by omega) ?_)
            | (refine G.indexAddr1 rfl (by first | exact T.slc_22 | exact T.slc_29) (by first | exact T.sz_3 | exact T.sz_5) rfl rfl _ (Int.toNat_of_nonneg (by omega)).symm (by omega) ?_))
          refine Goal.loopP (X := CX3) (fun x => [(0, .slice (some ⟨b, o, none⟩) l.length cap), (1, .int .u8 st), (5, .pointer (some ⟨bq, 0, none⟩)), (6, .int .i64 (j + x.s)), (9, .int .i64 x.now), (10, x.v), (11, .int .i64 x.now), (12, .int .i64 x.ld), (56, .int .i64 x.s)]) (fun x => x.Aa ++ x.A)
            (fun x => ((0 ≤ x.s ∧ x.s ≤ 200) ∧ (x.al.length : Int) = j + x.s ∧ Sl x.v 3 1 x.al.length (ints x.al) x.Aa ∧ QM bq x.E x.now (j + x.s) x.A ∧ (x.E.length : Int) = j) ∧ (x.E.Pairwise fun a b => a.data < b.data) ∧ (x.now ≤ 255 * x.s ∧ 0 ≤ x.now) ∧
              ∀ e ∈ x.E, (0 ≤ e.data ∧ e.data < j + x.s) ∧ ia x.al e.data = e.time ∧ (x.now ≤ e.time ∧ e.time ≤ 255 * x.s) ∧ (e.time = x.now → x.ld < e.data)) (fun x => (200 - x.s).toNat)
            ⟨0, 0, -1, List.replicate j.toNat 0, .slice ada j.toNat ca, evr j.toNat fun _ => 0, Aa, A⟩ ⟨rfl, rfl, rfl, ?_, rfl, rfl, rfl, rfl, rfl, trivial⟩ (fun _ h => h)
            ⟨⟨by dsimp only; omega, by simp; omega, by simpa using hS, ?_, by rw [evr_len]; omega⟩, by dsimp only; exact evr_sorted _ _, by dsimp only; omega, fun e he => ?_⟩ ?_
          · dsimp only; rw [Int.add_zero]; rfl
          · dsimp only; rw [Int.add_zero]; exact hA
          · dsimp only at he
            obtain ⟨a, b, c⟩ := mem_evr he
            dsimp only
            rw [ia_rep0]
            omega
          · clear hA hS h1
            rintro ⟨s, now, ld, al, va, E, Aa, A⟩ ⟨⟨hs, hal, hS, hA, hEl⟩, hso, hnow, hall⟩
            dsimp only at hs hal hS hA hEl hso hnow hall ⊢
            obtain ⟨ada, ca, rfl⟩ := hS.shape
            by_cases h3 : s < 200
            · have hne : E ≠ [] := fun x => by subst x; simp at hEl; omega
              have hmod : 0 ≤ s % l.length ∧ s % l.length < l.length := ⟨Int.emod_nonneg _ (by omega), Int.emod_lt_of_pos _ (by omega)⟩
              have hmm := hq _ (mem_ia (i := s % l.length) hmod)
              repeat' (first
                | (refine Goal.loud (o := ⟨some 61, _, _, _, _, _⟩) rfl ?_; refine Loud.callE (Aa) (nextQ hA) rfl rfl rfl rfl T.bod_12 (fun _ h => h) ?_; rintro ⟨k, d, ok, A3⟩ h4; dsimp only at h4 ⊢; obtain ⟨rfl, E1, e, E2, hF, rfl, rfl, g3⟩ := nx_any hne h4; obtain ⟨hme, hmE⟩ := hF.mem; obtain ⟨hed, hie, het, hld⟩ := hall e hme; obtain ⟨hso2, hr2⟩ := hF.rest hso; obtain ⟨bal, rest, cal, hv, rfl, hv1, hv2, hv3⟩ := hS.pos (by omega); injection hv with hv hv4 hv5; subst hv; have hE : addErr (E1 ++ E2).length e.time (e.time + ia l (s % l.length)) = 0 := (by unfold addErr; rw [if_neg (by omega), if_neg (by omega), if_neg (by omega)]))
                | (refine Goal.loud (o := ⟨some 117, _, _, _, _, _⟩) rfl ?_; refine Loud.callE ([_]) (addQ g3 (e.time + ia l (s % l.length)) (j + s) (by omega)) rfl rfl rfl rfl T.bod_11 (fun _ h => h) ?_; intro A4 h5; rw [hE, if_pos rfl, if_pos rfl] at h5; rw [hE, if_pos rfl])
                | (refine Goal.loud (o := ⟨some 131, _, _, _, _, _⟩) rfl ?_; refine Loud.appendM rfl T.slc_29 T.inf_3 rfl [] rfl hS rfl rfl rfl rfl (by omega) (by omega) ?_; intro v2 A2 hA2)
                | (refine Goal.loud (o := ⟨some 53, _, _, _, _, _⟩) rfl ?_; refine Loud.buildSlice (cs := [_]) rfl T.slc_29 T.inf_3 rfl rfl (by decide) rfl rfl rfl (fun b53 => ?_))
                | (refine Goal.loud (o := ⟨some 130, _, _, _, _, _⟩) rfl ?_; refine Loud.buildSlice (cs := [_]) rfl T.slc_29 T.inf_3 rfl rfl (by decide) rfl rfl rfl (fun b130 => ?_))
                | (apply G.move; exact rfl; exact rfl)
                | (apply G.assign; exact rfl; exact rfl)
                | refine Goal.seq (fun _ _ => ?_)
                | refine Goal.next (by assumption) ?_
                | refine Goal.lnil ?_
                | refine Goal.region ?_
                | refine Goal.skip ?_
                | refine Goal.block ?_
                | refine Goal.exit ?_
                | refine Goal.ret ?_
                | refine Goal.then_exit ?_
                | refine Goal.then_ret ?_
                | refine Goal.inBlock_exit ?_
                | refine Goal.inBlock_normal ?_
                | refine Goal.inBlock_ret ?_
                | refine Goal.inBlock_other rfl ?_
                | (apply Goal.condT; exact rfl)
                | (apply Goal.condF; exact rfl)
                | (refine Goal.condD rfl (fun hc => ?_) (fun hc => ?_) <;> first | (exfalso; omega) | contradiction | skip)
                | refine Goal.condB rfl (fun hc => ?_) (fun hc => ?_)
                | refine Goal.guardT rfl rfl ?_
                | refine Goal.guardF rfl rfl rfl rfl ?_
                | refine Goal.guardU rfl rfl rfl ?_
                | (refine Goal.guardD rfl rfl (fun hc => ?_) (fun hc => ?_) <;> first | (exfalso; omega) | contradiction | skip)
                | refine Goal.guardB rfl rfl (fun hc => ?_) (fun hc => ?_)
                | (apply G.load; exact rfl; exact rfl; first | exact LoadOK.old T.one_5 (hk _ (by omega) (by omega)) (by simp) | exact LoadOK.iaMe (b := bal) (l := al) (rest := rest) (E := 3) (i := e.data) (x := e.time) T.one_3 (by simp) (by omega) hie | exact LoadOK.one (by first | exact T.one_3 | exact T.one_5) 0 rfl rfl | exact LoadOK.one (by first | exact T.one_3 | exact T.one_5) 1 rfl rfl | exact LoadOK.one (by first | exact T.one_3 | exact T.one_5) 2 rfl rfl | exact LoadOK.one (by first | exact T.one_3 | exact T.one_5) 3 rfl rfl | exact LoadOK.one (by first | exact T.one_3 | exact T.one_5) 4 rfl rfl | exact LoadOK.one (by first | exact T.one_3 | exact T.one_5) 5 rfl rfl | exact LoadOK.one (by first | exact T.one_3 | exact T.one_5) 6 rfl rfl | exact LoadOK.one (by first | exact T.one_3 | exact T.one_5) 7 rfl rfl)
                | (apply G.pickT; exact rfl; exact rfl; exact rfl)
                | (apply G.pickF; exact rfl; exact rfl; exact rfl)
                | (apply G.lss; exact rfl; exact rfl; exact rfl)
                | (apply G.gtr; exact rfl; exact rfl; exact rfl)
                | (apply G.geq; exact rfl; exact rfl; exact rfl)
                | (apply G.eql; exact rfl; exact rfl; exact rfl)
                | (apply G.neq; exact rfl; exact rfl; exact rfl)
                | (apply G.add; exact rfl; exact rfl; exact rfl; first | exact IntWalk.i64_in _ (by omega) | exact IntWalk.u8_in _ (by omega) | exact IntWalk.u16_in _ (by omega) | exact IntWalk.u32_in _ (by omega) | exact IntWalk.u64_in _ (by omega))
                | (apply G.rem; exact rfl; exact rfl; exact rfl; (first | decide | omega); exact IntWalk.rem_in _ _ (by omega))
                | (apply G.conv; exact rfl; exact rfl; (first | exact T.int_3 | exact T.int_5); (first | exact T.int_3 | exact T.int_5); first | exact IntWalk.i64_in _ (by omega) | exact IntWalk.u8_in _ (by omega) | exact IntWalk.u16_in _ (by omega) | exact IntWalk.u32_in _ (by omega) | exact IntWalk.u64_in _ (by omega))
                | (apply G.notT; exact rfl; exact rfl)
                | (apply G.notF; exact rfl; exact rfl)
                | (refine G.notD rfl rfl ?_)
                | (apply G.notB; exact rfl; exact rfl)
                | (apply G.extract; exact rfl; exact rfl; exact rfl)
                | (apply G.len; exact rfl; exact rfl; (first | exact T.slc_22 | exact T.slc_29))
                | (refine G.indexAddr1 rfl (by first | exact T.slc_22 | exact T.slc_29) (by first | exact T.sz_3 | exact T.sz_5) rfl rfl _ rfl (by omega) ?_)
                | (refine G.indexAddr1 rfl (by first | exact T.slc_22 | exact T.slc_29) (by first | exact T.sz_3 | exact T.sz_5) rfl rfl _ (Int.toNat_of_nonneg (by omega)).symm (by omega) ?_))
              all_goals
                refine Goal.again ⟨s + 1, e.time, e.data, al ++ [e.time + ia l (s % l.length)], v2, (E1 ++ E2) ++ [⟨j + s + 1, e.time + ia l (s % l.length), j + s⟩], A2, A4⟩ ⟨⟨by dsimp only; omega, by rw [List.length_append]; simp; omega, ?_, ?_, ?_⟩, ?_, by dsimp only; omega, fun a ha => ?_⟩ (by dsimp only; omega) ⟨rfl, rfl, rfl, ?_, rfl, rfl, rfl, rfl, rfl, trivial⟩ (fun _ h => h)
                · dsimp only
                  rw [List.length_append, ← ints_snoc2]
                  exact hA2
                · dsimp only
                  rw [← Int.add_assoc]
                  exact h5
                · dsimp only
                  rw [List.length_append]
                  simp only [List.length_cons, List.length_nil]
                  omega
                · dsimp only
                  refine List.pairwise_append.2 ⟨hso2, by simp, fun x hx y hy => ?_⟩
                  simp at hy
                  subst hy
                  have := (hall x (hr2 x hx).1).1
                  dsimp only
                  omega
                · dsimp only at ha ⊢
                  rcases List.mem_append.1 ha with ha | ha
                  · obtain ⟨x1, x2, x3⟩ := hr2 a ha
                    obtain ⟨y1, y2, y3, y4⟩ := hall a x1
                    rw [ia_snoc (by omega)]
                    exact ⟨by omega, y2, by omega, fun h => by omega⟩
                  · simp at ha
                    subst ha
                    dsimp only
                    rw [ia_snoc_last (by omega)]
                    exact ⟨by omega, rfl, by omega, fun _ => by omega⟩
                · dsimp only
                  rw [← Int.add_assoc]
                  rfl
            · skip
              repeat' (first
                | (refine Goal.loud (o := ⟨some 136, _, _, _, _, _⟩) rfl ?_; refine Loud.callE (Aa) (lenQ hA) rfl rfl rfl rfl T.bod_13 (fun _ h => h) ?_; rintro ⟨⟩ -)
                | (refine Goal.loud (o := ⟨some 53, _, _, _, _, _⟩) rfl ?_; refine Loud.buildSlice (cs := [_]) rfl T.slc_29 T.inf_3 rfl rfl (by decide) rfl rfl rfl (fun b53 => ?_))
                | (refine Goal.loud (o := ⟨some 130, _, _, _, _, _⟩) rfl ?_; refine Loud.buildSlice (cs := [_]) rfl T.slc_29 T.inf_3 rfl rfl (by decide) rfl rfl rfl (fun b130 => ?_))
                | (apply G.move; exact rfl; exact rfl)
                | (apply G.assign; exact rfl; exact rfl)
                | refine Goal.seq (fun _ _ => ?_)
                | refine Goal.next (by assumption) ?_
                | refine Goal.lnil ?_
                | refine Goal.region ?_
                | refine Goal.skip ?_
                | refine Goal.block ?_
                | refine Goal.exit ?_
                | refine Goal.ret ?_
                | refine Goal.then_exit ?_
                | refine Goal.then_ret ?_
                | refine Goal.inBlock_exit ?_
                | refine Goal.inBlock_normal ?_
                | refine Goal.inBlock_ret ?_
                | refine Goal.inBlock_other rfl ?_
                | (apply Goal.condT; exact rfl)
                | (apply Goal.condF; exact rfl)
                | (refine Goal.condD rfl (fun hc => ?_) (fun hc => ?_) <;> first | (exfalso; omega) | contradiction | skip)
                | refine Goal.condB rfl (fun hc => ?_) (fun hc => ?_)
                | refine Goal.guardT rfl rfl ?_
                | refine Goal.guardF rfl rfl rfl rfl ?_
                | refine Goal.guardU rfl rfl rfl ?_
                | (refine Goal.guardD rfl rfl (fun hc => ?_) (fun hc => ?_) <;> first | (exfalso; omega) | contradiction | skip)
                | refine Goal.guardB rfl rfl (fun hc => ?_) (fun hc => ?_)
                | (apply G.load; exact rfl; exact rfl; first | exact LoadOK.one (by first | exact T.one_3 | exact T.one_5) 0 rfl rfl | exact LoadOK.one (by first | exact T.one_3 | exact T.one_5) 1 rfl rfl | exact LoadOK.one (by first | exact T.one_3 | exact T.one_5) 2 rfl rfl | exact LoadOK.one (by first | exact T.one_3 | exact T.one_5) 3 rfl rfl | exact LoadOK.one (by first | exact T.one_3 | exact T.one_5) 4 rfl rfl | exact LoadOK.one (by first | exact T.one_3 | exact T.one_5) 5 rfl rfl | exact LoadOK.one (by first | exact T.one_3 | exact T.one_5) 6 rfl rfl | exact LoadOK.one (by first | exact T.one_3 | exact T.one_5) 7 rfl rfl)
                | (apply G.pickT; exact rfl; exact rfl; exact rfl)
                | (apply G.pickF; exact rfl; exact rfl; exact rfl)
                | (apply G.lss; exact rfl; exact rfl; exact rfl)
                | (apply G.gtr; exact rfl; exact rfl; exact rfl)
                | (apply G.geq; exact rfl; exact rfl; exact rfl)
                | (apply G.eql; exact rfl; exact rfl; exact rfl)
                | (apply G.neq; exact rfl; exact rfl; exact rfl)
                | (apply G.add; exact rfl; exact rfl; exact rfl; first | exact IntWalk.i64_in _ (by omega) | exact IntWalk.u8_in _ (by omega) | exact IntWalk.u16_in _ (by omega) | exact IntWalk.u32_in _ (by omega) | exact IntWalk.u64_in _ (by omega))
                | (apply G.rem; exact rfl; exact rfl; exact rfl; (first | decide | omega); exact IntWalk.rem_in _ _ (by omega))
                | (apply G.conv; exact rfl; exact rfl; (first | exact T.int_3 | exact T.int_5); (first | exact T.int_3 | exact T.int_5); first | exact IntWalk.i64_in _ (by omega) | exact IntWalk.u8_in _ (by omega) | exact IntWalk.u16_in _ (by omega) | exact IntWalk.u32_in _ (by omega) | exact IntWalk.u64_in _ (by omega))
                | (apply G.notT; exact rfl; exact rfl)
                | (apply G.notF; exact rfl; exact rfl)
                | (refine G.notD rfl rfl ?_)
                | (apply G.notB; exact rfl; exact rfl)
                | (apply G.extract; exact rfl; exact rfl; exact rfl)
                | (apply G.len; exact rfl; exact rfl; (first | exact T.slc_22 | exact T.slc_29))
                | (refine G.indexAddr1 rfl (by first | exact T.slc_22 | exact T.slc_29) (by first | exact T.sz_3 | exact T.sz_5) rfl rfl _ rfl (by omega) ?_)
                | (refine G.indexAddr1 rfl (by first | exact T.slc_22 | exact T.slc_29) (by first | exact T.sz_3 | exact T.sz_5) rfl rfl _ (Int.toNat_of_nonneg (by omega)).symm (by omega) ?_))
              refine Goal.done (vs := [_]) (by first | exact .inl rfl | exact .inr rfl) Try.results3 ⟨rfl, trivial⟩ rfl (fun w' H => ⟨ret_bool (by simp; omega), H.mod⟩)
end Go.Proofs.Ytcekjnfdgbeekaa
