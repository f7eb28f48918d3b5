/- The statement HeapCalls: under any calls. -/
import Derived.Test.YtknkakaffjhlmaaHpV
namespace Go.Proofs.Ytknkakaffjhlmaa
open Go.Wf
set_option linter.unusedVariables false
set_option maxHeartbeats 16000000 in
theorem law_calls (s : Int) (hs : 0 ≤ s ∧ s ≤ 255) (acts : List (Int × Int × Int)) (v : Value) (w : World) (hr : RdE w v 3 (acts.map fun a => [.int .u8 a.1, .int .i64 a.2.1, .int .i64 a.2.2])) (hq : ∀ a ∈ acts, (Lit.int .u8 a.1).wf = true) : Calls Try.prog 6 #[.int .u8 s, v] w fun e w' => e = .returned (.bool true) ∧ Mod [] w w' := by
  obtain ⟨ad, cap, rfl, hr'⟩ := id hr
  simp only [List.length_map] at hr ⊢
  have hn : 0 ≤ s % 40 ∧ s % 40 < 40 := by omega
  have en : ((s % 40).toNat : Int) = s % 40 := Int.toNat_of_nonneg hn.1
  by_cases hbig : 300 < acts.length
  · refine Goal.enter (args := [.int .u8 s, .slice ad acts.length cap]) Try.func6 rfl Try.ntmps6 rfl (St.nil w) ?_
    repeat' (first
      | (refine Goal.loud (o := ⟨some 26, _, _, _, _, _⟩) rfl ?_; apply Loud.call0; exact rfl; exact rfl; exact rfl; exact rfl; exact T.bod_8; exact (fun w H => awake_any w))
      | (refine Goal.loud (o := ⟨some 33, _, _, _, _, _⟩) rfl ?_; apply Loud.callN; exact rfl; exact rfl; exact rfl; exact rfl; exact T.bod_9; exact (fun w H => new_ok (s % 40) (by omega) w); rintro ⟨bh, bk, bp, A1⟩ h1; dsimp only at h1 ⊢)
      | (refine Goal.loud (o := ⟨some 37, _, _, _, _, _⟩) rfl ?_; apply Loud.callN; exact rfl; exact rfl; exact rfl; exact rfl; exact T.bod_12; exact (fun w H => rnew_ok (s % 40) (by omega) w); rintro ⟨br, ch, ck, R1⟩ g1; dsimp only at g1 ⊢)
      | (refine Goal.loud (o := ⟨some 10, _, _, _, _, _⟩) rfl ?_; refine Loud.allocA rfl T.inf_44 (fun b10 => ?_))
      | (apply G.move; exact rfl; exact rfl)
      | (apply G.assign; exact rfl; exact rfl)
      | refine Goal.seq (fun _ _ => ?_)
      | refine Goal.next (by assumption) ?_
      | refine Goal.lnil ?_
      | refine Goal.region ?_
      | refine Goal.skip ?_
      | refine Goal.block ?_
      | refine Goal.exit ?_
      | refine Goal.ret ?_
      | refine Goal.then_exit ?_
      | refine Goal.then_ret ?_
      | refine Goal.inBlock_exit ?_
      | refine Goal.inBlock_normal ?_
      | refine Goal.inBlock_ret ?_
      | refine Goal.inBlock_other rfl ?_
      | (apply Goal.condT; exact rfl)
      | (apply Goal.condF; exact rfl)
      | (refine Goal.condD rfl (fun hc => ?_) (fun hc => ?_) <;> first | (exfalso; omega) | contradiction | skip)
      | refine Goal.condB rfl (fun hc => ?_) (fun hc => ?_)
      | refine Goal.guardT rfl rfl ?_
      | refine Goal.guardF rfl rfl rfl rfl ?_
      | refine Goal.guardU rfl rfl rfl ?_
      | (refine Goal.guardD rfl rfl (fun hc => ?_) (fun hc => ?_) <;> first | (exfalso; omega) | contradiction | skip)
      | refine Goal.guardB rfl rfl (fun hc => ?_) (fun hc => ?_)
      | (apply G.fieldAddr; exact rfl; exact rfl; (first | exact T.fld_44_0 | exact T.fld_44_1 | exact T.fld_44_2))
      | (apply G.load; exact rfl; exact rfl; first | exact LoadOK.one (by first | exact T.one_3 | exact T.one_5) 0 rfl rfl | exact LoadOK.one (by first | exact T.one_3 | exact T.one_5) 1 rfl rfl | exact LoadOK.one (by first | exact T.one_3 | exact T.one_5) 2 rfl rfl | exact LoadOK.one (by first | exact T.one_3 | exact T.one_5) 3 rfl rfl | exact LoadOK.one (by first | exact T.one_3 | exact T.one_5) 4 rfl rfl | exact LoadOK.one (by first | exact T.one_3 | exact T.one_5) 5 rfl rfl | exact LoadOK.one (by first | exact T.one_3 | exact T.one_5) 6 rfl rfl | exact LoadOK.one (by first | exact T.one_3 | exact T.one_5) 7 rfl rfl | exact LoadOK.agg (vs := [_, _, _]) T.agg_44 0 rfl rfl ⟨rfl, rfl, rfl, trivial⟩ | exact LoadOK.agg (vs := [_, _, _]) T.agg_44 1 rfl rfl ⟨rfl, rfl, rfl, trivial⟩ | exact LoadOK.agg (vs := [_, _, _]) T.agg_44 2 rfl rfl ⟨rfl, rfl, rfl, trivial⟩ | exact LoadOK.agg (vs := [_, _, _]) T.agg_44 3 rfl rfl ⟨rfl, rfl, rfl, trivial⟩ | exact LoadOK.agg (vs := [_, _, _]) T.agg_44 4 rfl rfl ⟨rfl, rfl, rfl, trivial⟩ | exact LoadOK.agg (vs := [_, _, _]) T.agg_44 5 rfl rfl ⟨rfl, rfl, rfl, trivial⟩ | exact LoadOK.agg (vs := [_, _, _]) T.agg_44 6 rfl rfl ⟨rfl, rfl, rfl, trivial⟩ | exact LoadOK.agg (vs := [_, _, _]) T.agg_44 7 rfl rfl ⟨rfl, rfl, rfl, trivial⟩)
      | (apply G.pickT; exact rfl; exact rfl; exact rfl)
      | (apply G.pickF; exact rfl; exact rfl; exact rfl)
      | (apply G.lss; exact rfl; exact rfl; exact rfl)
      | (apply G.leq; exact rfl; exact rfl; exact rfl)
      | (apply G.gtr; exact rfl; exact rfl; exact rfl)
      | (apply G.eql; exact rfl; exact rfl; exact rfl)
      | (apply G.neq; exact rfl; exact rfl; exact rfl)
      | (apply G.add; exact rfl; exact rfl; exact rfl; first | exact IntWalk.i64_in _ (by omega) | exact IntWalk.u8_in _ (by omega) | exact IntWalk.u16_in _ (by omega) | exact IntWalk.u32_in _ (by omega) | exact IntWalk.u64_in _ (by omega))
      | (apply G.eqlB; exact rfl; exact T.boo_4; exact rfl; exact rfl)
      | (refine Goal.quiet rfl (Run.eqlP T.ptr_24 rfl rfl rfl) ?_)
      | (apply G.neqB; exact rfl; exact T.boo_4; exact rfl; exact rfl)
      | (refine Goal.quiet rfl (Run.neqP T.ptr_24 rfl rfl rfl) ?_)
      | (apply G.rem; exact rfl; exact rfl; exact rfl; (first | decide | omega); exact IntWalk.rem_in _ _ (by omega))
      | (apply G.conv; exact rfl; exact rfl; (first | exact T.int_3 | exact T.int_5); (first | exact T.int_3 | exact T.int_5); first | exact IntWalk.i64_in _ (by omega) | exact IntWalk.u8_in _ (by omega) | exact IntWalk.u16_in _ (by omega) | exact IntWalk.u32_in _ (by omega) | exact IntWalk.u64_in _ (by omega))
      | (apply G.notT; exact rfl; exact rfl)
      | (apply G.notF; exact rfl; exact rfl)
      | (refine G.notD rfl rfl ?_)
      | (apply G.notB; exact rfl; exact rfl)
      | (apply G.extract; exact rfl; exact rfl; exact rfl)
      | (apply G.len; exact rfl; exact rfl; exact T.slc_42)
      | (refine G.indexAddr rfl T.slc_42 T.sz_44 rfl rfl _ rfl (by omega) ?_)
      | (refine G.indexAddr rfl T.slc_42 T.sz_44 rfl rfl _ (Int.toNat_of_nonneg (by omega)).symm (by omega) ?_)
      | (refine Goal.loud rfl ?_; refine Loud.store0 rfl rfl T.sz_44 rfl rfl rfl (by first | exact Nat.le_refl _ | decide | (simp; omega)) rfl ?_)
      | (refine Goal.loud rfl ?_; refine Loud.store1 rfl rfl T.sz_44 rfl rfl rfl (by first | exact Nat.le_refl _ | decide | (simp; omega)) rfl ?_)
      | (refine Goal.loud rfl ?_; refine Loud.store2 rfl rfl T.sz_44 rfl rfl rfl (by first | exact Nat.le_refl _ | decide | (simp; omega)) rfl ?_)
      | (refine Goal.loud rfl ?_; refine Loud.store3 rfl rfl T.sz_44 rfl rfl rfl (by first | exact Nat.le_refl _ | decide | (simp; omega)) rfl ?_)
      | (refine Goal.loud rfl ?_; refine Loud.store4 rfl rfl T.sz_44 rfl rfl rfl (by first | exact Nat.le_refl _ | decide | (simp; omega)) rfl ?_)
      | (refine Goal.loud rfl ?_; refine Loud.store5 rfl rfl T.sz_44 rfl rfl rfl (by first | exact Nat.le_refl _ | decide | (simp; omega)) rfl ?_)
      | (refine Goal.loud rfl ?_; refine Loud.store6 rfl rfl T.sz_44 rfl rfl rfl (by first | exact Nat.le_refl _ | decide | (simp; omega)) rfl ?_)
      | (refine Goal.loud rfl ?_; refine Loud.store7 rfl rfl T.sz_44 rfl rfl rfl (by first | exact Nat.le_refl _ | decide | (simp; omega)) rfl ?_))
    all_goals
      refine Goal.done (vs := [_]) (by first | exact .inl rfl | exact .inr rfl) Try.results6 ⟨rfl, trivial⟩ rfl (fun w' H => ⟨by rw [decide_eq_true (by omega)], H.mod⟩)
  · refine Goal.enter (args := [.int .u8 s, .slice ad acts.length cap]) Try.func6 rfl Try.ntmps6 rfl (St.nil w) ?_
    repeat' (first
      | (refine Goal.loud (o := ⟨some 26, _, _, _, _, _⟩) rfl ?_; apply Loud.call0; exact rfl; exact rfl; exact rfl; exact rfl; exact T.bod_8; exact (fun w H => awake_any w))
      | (refine Goal.loud (o := ⟨some 33, _, _, _, _, _⟩) rfl ?_; apply Loud.callN; exact rfl; exact rfl; exact rfl; exact rfl; exact T.bod_9; exact (fun w H => new_ok (s % 40) (by omega) w); rintro ⟨bh, bk, bp, A1⟩ h1; dsimp only at h1 ⊢)
      | (refine Goal.loud (o := ⟨some 37, _, _, _, _, _⟩) rfl ?_; apply Loud.callN; exact rfl; exact rfl; exact rfl; exact rfl; exact T.bod_12; exact (fun w H => rnew_ok (s % 40) (by omega) w); rintro ⟨br, ch, ck, R1⟩ g1; dsimp only at g1 ⊢)
      | (refine Goal.loud (o := ⟨some 10, _, _, _, _, _⟩) rfl ?_; refine Loud.allocA rfl T.inf_44 (fun b10 => ?_))
      | (apply G.move; exact rfl; exact rfl)
      | (apply G.assign; exact rfl; exact rfl)
      | refine Goal.seq (fun _ _ => ?_)
      | refine Goal.next (by assumption) ?_
      | refine Goal.lnil ?_
      | refine Goal.region ?_
      | refine Goal.skip ?_
      | refine Goal.block ?_
      | refine Goal.exit ?_
      | refine Goal.ret ?_
      | refine Goal.then_exit ?_
      | refine Goal.then_ret ?_
      | refine Goal.inBlock_exit ?_
      | refine Goal.inBlock_normal ?_
      | refine Goal.inBlock_ret ?_
      | refine Goal.inBlock_other rfl ?_
      | (apply Goal.condT; exact rfl)
      | (apply Goal.condF; exact rfl)
      | (refine Goal.condD rfl (fun hc => ?_) (fun hc => ?_) <;> first | (exfalso; omega) | contradiction | skip)
      | refine Goal.condB rfl (fun hc => ?_) (fun hc => ?_)
      | refine Goal.guardT rfl rfl ?_
      | refine Goal.guardF rfl rfl rfl rfl ?_
      | refine Goal.guardU rfl rfl rfl ?_
      | (refine Goal.guardD rfl rfl (fun hc => ?_) (fun hc => ?_) <;> first | (exfalso; omega) | contradiction | skip)
      | refine Goal.guardB rfl rfl (fun hc => ?_) (fun hc => ?_)
      | (apply G.fieldAddr; exact rfl; exact rfl; (first | exact T.fld_44_0 | exact T.fld_44_1 | exact T.fld_44_2))
      | (apply G.load; exact rfl; exact rfl; first | exact LoadOK.one (by first | exact T.one_3 | exact T.one_5) 0 rfl rfl | exact LoadOK.one (by first | exact T.one_3 | exact T.one_5) 1 rfl rfl | exact LoadOK.one (by first | exact T.one_3 | exact T.one_5) 2 rfl rfl | exact LoadOK.one (by first | exact T.one_3 | exact T.one_5) 3 rfl rfl | exact LoadOK.one (by first | exact T.one_3 | exact T.one_5) 4 rfl rfl | exact LoadOK.one (by first | exact T.one_3 | exact T.one_5) 5 rfl rfl | exact LoadOK.one (by first | exact T.one_3 | exact T.one_5) 6 rfl rfl | exact LoadOK.one (by first | exact T.one_3 | exact T.one_5) 7 rfl rfl | exact LoadOK.agg (vs := [_, _, _]) T.agg_44 0 rfl rfl ⟨rfl, rfl, rfl, trivial⟩ | exact LoadOK.agg (vs := [_, _, _]) T.agg_44 1 rfl rfl ⟨rfl, rfl, rfl, trivial⟩ | exact LoadOK.agg (vs := [_, _, _]) T.agg_44 2 rfl rfl ⟨rfl, rfl, rfl, trivial⟩ | exact LoadOK.agg (vs := [_, _, _]) T.agg_44 3 rfl rfl ⟨rfl, rfl, rfl, trivial⟩ | exact LoadOK.agg (vs := [_, _, _]) T.agg_44 4 rfl rfl ⟨rfl, rfl, rfl, trivial⟩ | exact LoadOK.agg (vs := [_, _, _]) T.agg_44 5 rfl rfl ⟨rfl, rfl, rfl, trivial⟩ | exact LoadOK.agg (vs := [_, _, _]) T.agg_44 6 rfl rfl ⟨rfl, rfl, rfl, trivial⟩ | exact LoadOK.agg (vs := [_, _, _]) T.agg_44 7 rfl rfl ⟨rfl, rfl, rfl, trivial⟩)
      | (apply G.pickT; exact rfl; exact rfl; exact rfl)
      | (apply G.pickF; exact rfl; exact rfl; exact rfl)
      | (apply G.lss; exact rfl; exact rfl; exact rfl)
      | (apply G.leq; exact rfl; exact rfl; exact rfl)
      | (apply G.gtr; exact rfl; exact rfl; exact rfl)
      | (apply G.eql; exact rfl; exact rfl; exact rfl)
      | (apply G.neq; exact rfl; exact rfl; exact rfl)
      | (apply G.add; exact rfl; exact rfl; exact rfl; first | exact IntWalk.i64_in _ (by omega) | exact IntWalk.u8_in _ (by omega) | exact IntWalk.u16_in _ (by omega) | exact IntWalk.u32_in _ (by omega) | exact IntWalk.u64_in _ (by omega))
      | (apply G.eqlB; exact rfl; exact T.boo_4; exact rfl; exact rfl)
      | (refine Goal.quiet rfl (Run.eqlP T.ptr_24 rfl rfl rfl) ?_)
      | (apply G.neqB; exact rfl; exact T.boo_4; exact rfl; exact rfl)
      | (refine Goal.quiet rfl (Run.neqP T.ptr_24 rfl rfl rfl) ?_)
      | (apply G.rem; exact rfl; exact rfl; exact rfl; (first | decide | omega); exact IntWalk.rem_in _ _ (by omega))
      | (apply G.conv; exact rfl; exact rfl; (first | exact T.int_3 | exact T.int_5); (first | exact T.int_3 | exact T.int_5); first | exact IntWalk.i64_in _ (by omega) | exact IntWalk.u8_in _ (by omega) | exact IntWalk.u16_in _ (by omega) | exact IntWalk.u32_in _ (by omega) | exact IntWalk.u64_in _ (by omega))
      | (apply G.notT; exact rfl; exact rfl)
      | (apply G.notF; exact rfl; exact rfl)
      | (refine G.notD rfl rfl ?_)
      | (apply G.notB; exact rfl; exact rfl)
      | (apply G.extract; exact rfl; exact rfl; exact rfl)
      | (apply G.len; exact rfl; exact rfl; exact T.slc_42)
      | (refine G.indexAddr rfl T.slc_42 T.sz_44 rfl rfl _ rfl (by omega) ?_)
      | (refine G.indexAddr rfl T.slc_42 T.sz_44 rfl rfl _ (Int.toNat_of_nonneg (by omega)).symm (by omega) ?_)
      | (refine Goal.loud rfl ?_; refine Loud.store0 rfl rfl T.sz_44 rfl rfl rfl (by first | exact Nat.le_refl _ | decide | (simp; omega)) rfl ?_)
      | (refine Goal.loud rfl ?_; refine Loud.store1 rfl rfl T.sz_44 rfl rfl rfl (by first | exact Nat.le_refl _ | decide | (simp; omega)) rfl ?_)
      | (refine Goal.loud rfl ?_; refine Loud.store2 rfl rfl T.sz_44 rfl rfl rfl (by first | exact Nat.le_refl _ | decide | (simp; omega)) rfl ?_)
      | (refine Goal.loud rfl ?_; refine Loud.store3 rfl rfl T.sz_44 rfl rfl rfl (by first | exact Nat.le_refl _ | decide | (simp; omega)) rfl ?_)
      | (refine Goal.loud rfl ?_; refine Loud.store4 rfl rfl T.sz_44 rfl rfl rfl (by first | exact Nat.le_refl _ | decide | (simp; omega)) rfl ?_)
      | (refine Goal.loud rfl ?_; refine Loud.store5 rfl rfl T.sz_44 rfl rfl rfl (by first | exact Nat.le_refl _ | decide | (simp; omega)) rfl ?_)
      | (refine Goal.loud rfl ?_; refine Loud.store6 rfl rfl T.sz_44 rfl rfl rfl (by first | exact Nat.le_refl _ | decide | (simp; omega)) rfl ?_)
      | (refine Goal.loud rfl ?_; refine Loud.store7 rfl rfl T.sz_44 rfl rfl rfl (by first | exact Nat.le_refl _ | decide | (simp; omega)) rfl ?_))
    generalize (s % 40).toNat = n at h1 g1 en
    refine Goal.loopP (X := V1) (fun x => [(5, .int .i64 (s % 40)), (6, .pointer (some ⟨bh, 0, none⟩)), (8, .pointer (some ⟨br, 0, none⟩)), (52, .slice ad acts.length cap), (53, .int .i64 acts.length), (54, .int .i64 x.t)]) (fun x => x.A ++ x.R)
      (fun x => (0 ≤ x.t ∧ x.t ≤ acts.length) ∧ HpA bh bk bp n x.m x.A ∧ RpA br ch ck n x.m x.R) (fun x => (acts.length - x.t).toNat) ⟨0, fun _ => none, A1, R1⟩ ⟨rfl, rfl, rfl, rfl, rfl, rfl, trivial⟩ (fun _ h => h)
      ⟨by dsimp only; omega, h1, g1⟩ ?_
    clear h1 g1
    rintro ⟨t, m, A, R⟩ ⟨ht, hA, hR⟩
    dsimp only at ht hA hR ⊢
    by_cases hlt : t < acts.length
    · obtain ⟨b1, o1, rfl, hk1⟩ := RdE.at hr (by omega)
      have hk2 := hk1 t.toNat (by omega)
      have hb := bounds_u8 (hq _ (List.getElem_mem (by omega : t.toNat < acts.length)))
      generalize (acts[t.toNat]'(by omega)).1 = k0 at hk2 hb
      generalize (acts[t.toNat]'(by omega)).2.1 = c1 at hk2
      generalize (acts[t.toNat]'(by omega)).2.2 = c2 at hk2
      repeat' (first
        | (refine Goal.drawHd (id := 16) 13 T.mixed ?_; all_goals ((refine Goal.takeP (listed' := #[true, false, false, false, false, false, false, false, false, false, false, false, false]) 0 ⟨rfl, by kernel_rfl, by kernel_rfl, by kernel_rfl, by kernel_rfl⟩ rfl (fun _ _ _ _ h => h) (by intro _; exact Run.move rfl) ?_)); all_goals ((refine Goal.takeP (listed' := #[true, true, false, false, false, false, false, false, false, false, false, false, false]) 1 ⟨rfl, by kernel_rfl, by kernel_rfl, by kernel_rfl, by kernel_rfl⟩ rfl (fun _ _ _ _ h => h) (by intro _; exact Run.fieldAddr T.fld_44_1 rfl) ?_)); all_goals ((refine Goal.takeP (listed' := #[true, true, false, true, false, false, false, false, false, false, false, false, false]) 3 ⟨rfl, by kernel_rfl, by kernel_rfl, by kernel_rfl, by kernel_rfl⟩ rfl (fun _ _ _ _ h => h) (by intro _; exact Run.fieldAddr T.fld_44_2 rfl) ?_)); all_goals ((refine Goal.takeP (listed' := #[true, true, false, true, false, false, true, false, false, false, false, false, false]) 6 ⟨rfl, by kernel_rfl, by kernel_rfl, by kernel_rfl, by kernel_rfl⟩ rfl (fun _ _ _ _ h => h) (by intro _; exact Run.move rfl) ?_)); all_goals ((refine Goal.takeP (listed' := #[true, true, false, true, false, false, true, true, false, false, false, false, false]) 7 ⟨rfl, by kernel_rfl, by kernel_rfl, by kernel_rfl, by kernel_rfl⟩ rfl (fun _ _ _ _ h => h) (by intro _; exact Run.fieldAddr T.fld_44_1 rfl) ?_)); all_goals ((refine Goal.takeP (listed' := #[true, true, false, true, false, false, true, true, false, true, false, false, false]) 9 ⟨rfl, by kernel_rfl, by kernel_rfl, by kernel_rfl, by kernel_rfl⟩ rfl (fun _ _ _ _ h => h) (by intro _; exact Run.fieldAddr T.fld_44_2 rfl) ?_)); all_goals ((refine Goal.take (listed' := #[true, true, true, true, false, false, true, true, false, true, false, false, false]) 2 ⟨rfl, by kernel_rfl, by kernel_rfl, by kernel_rfl, by kernel_rfl, by kernel_rfl⟩ rfl (by (first | exact fun _ h => h.sub (List.Sublist.cons_cons _ (List.nil_sublist _)) | exact fun _ h => h.sub (.cons _ (.refl _)) | exact fun _ h => h.sub (.cons _ (.cons _ (.refl _))) | exact fun _ h => h.sub (.cons _ (.cons _ (.cons _ (.refl _)))) | exact fun _ h => h.drop)) (fun _ _ _ _ h => h) (by (apply Run.load; exact rfl; first | exact LoadOK.oldAgg (vs := [.int .u8 k0, .int .i64 c1, .int .i64 c2]) T.agg_44 rfl hk2 (by simp) | exact LoadOK.one T.one_3 0 rfl rfl | exact LoadOK.one T.one_3 1 rfl rfl | exact LoadOK.one T.one_3 2 rfl rfl | exact LoadOK.one T.one_3 3 rfl rfl | exact LoadOK.one T.one_3 4 rfl rfl | exact LoadOK.one T.one_3 5 rfl rfl | exact LoadOK.one T.one_3 6 rfl rfl | exact LoadOK.one T.one_3 7 rfl rfl)) ?_)); all_goals ((refine Goal.take (listed' := #[true, true, true, true, true, false, true, true, false, true, false, false, false]) 4 ⟨rfl, by kernel_rfl, by kernel_rfl, by kernel_rfl, by kernel_rfl, by kernel_rfl⟩ rfl (by (first | exact fun _ h => h.sub (List.Sublist.cons_cons _ (List.nil_sublist _)) | exact fun _ h => h.sub (.cons _ (.refl _)) | exact fun _ h => h.sub (.cons _ (.cons _ (.refl _))) | exact fun _ h => h.sub (.cons _ (.cons _ (.cons _ (.refl _)))) | exact fun _ h => h.drop)) (fun _ _ _ _ h => h) (by (apply Run.load; exact rfl; first | exact LoadOK.oldAgg (vs := [.int .u8 k0, .int .i64 c1, .int .i64 c2]) T.agg_44 rfl hk2 (by simp) | exact LoadOK.one T.one_3 0 rfl rfl | exact LoadOK.one T.one_3 1 rfl rfl | exact LoadOK.one T.one_3 2 rfl rfl | exact LoadOK.one T.one_3 3 rfl rfl | exact LoadOK.one T.one_3 4 rfl rfl | exact LoadOK.one T.one_3 5 rfl rfl | exact LoadOK.one T.one_3 6 rfl rfl | exact LoadOK.one T.one_3 7 rfl rfl)) ?_)); all_goals ((refine Goal.take (listed' := #[true, true, true, true, true, false, true, true, true, true, false, false, false]) 8 ⟨rfl, by kernel_rfl, by kernel_rfl, by kernel_rfl, by kernel_rfl, by kernel_rfl⟩ rfl (by (first | exact fun _ h => h.sub (List.Sublist.cons_cons _ (List.nil_sublist _)) | exact fun _ h => h.sub (.cons _ (.refl _)) | exact fun _ h => h.sub (.cons _ (.cons _ (.refl _))) | exact fun _ h => h.sub (.cons _ (.cons _ (.cons _ (.refl _)))) | exact fun _ h => h.drop)) (fun _ _ _ _ h => h) (by (apply Run.load; exact rfl; first | exact LoadOK.oldAgg (vs := [.int .u8 k0, .int .i64 c1, .int .i64 c2]) T.agg_44 rfl hk2 (by simp) | exact LoadOK.one T.one_3 0 rfl rfl | exact LoadOK.one T.one_3 1 rfl rfl | exact LoadOK.one T.one_3 2 rfl rfl | exact LoadOK.one T.one_3 3 rfl rfl | exact LoadOK.one T.one_3 4 rfl rfl | exact LoadOK.one T.one_3 5 rfl rfl | exact LoadOK.one T.one_3 6 rfl rfl | exact LoadOK.one T.one_3 7 rfl rfl)) ?_)); all_goals ((refine Goal.take (listed' := #[true, true, true, true, true, false, true, true, true, true, true, false, false]) 10 ⟨rfl, by kernel_rfl, by kernel_rfl, by kernel_rfl, by kernel_rfl, by kernel_rfl⟩ rfl (by (first | exact fun _ h => h.sub (List.Sublist.cons_cons _ (List.nil_sublist _)) | exact fun _ h => h.sub (.cons _ (.refl _)) | exact fun _ h => h.sub (.cons _ (.cons _ (.refl _))) | exact fun _ h => h.sub (.cons _ (.cons _ (.cons _ (.refl _)))) | exact fun _ h => h.drop)) (fun _ _ _ _ h => h) (by (apply Run.load; exact rfl; first | exact LoadOK.oldAgg (vs := [.int .u8 k0, .int .i64 c1, .int .i64 c2]) T.agg_44 rfl hk2 (by simp) | exact LoadOK.one T.one_3 0 rfl rfl | exact LoadOK.one T.one_3 1 rfl rfl | exact LoadOK.one T.one_3 2 rfl rfl | exact LoadOK.one T.one_3 3 rfl rfl | exact LoadOK.one T.one_3 4 rfl rfl | exact LoadOK.one T.one_3 5 rfl rfl | exact LoadOK.one T.one_3 6 rfl rfl | exact LoadOK.one T.one_3 7 rfl rfl)) ?_)); all_goals (refine Goal.ready1 (i := 5) (by kernel_rfl) ?_); all_goals ((refine Goal.up (i := 5) (listed' := #[true, true, true, true, true, true, true, true, true, true, true, false, false]) rfl (by kernel_rfl) ?_; (refine Loud.callM ([_]) (set_ok hA (by omega) c1 c2) rfl rfl rfl rfl T.bod_10 (fun _ h => h) ?_; intro A2 h2; generalize hz : (if 0 ≤ c1 ∧ c1 < n then (0 : Int) else 2) = z); first | refine Goal.tail rfl ?_ | refine Goal.kept (by (first | exact fun _ h => h.sub (List.Sublist.cons_cons _ (List.nil_sublist _)) | exact fun _ h => h.sub (.cons _ (.refl _)) | exact fun _ h => h.sub (.cons _ (.cons _ (.refl _))) | exact fun _ h => h.sub (.cons _ (.cons _ (.cons _ (.refl _)))) | exact fun _ h => h.drop)) ?_)); all_goals (refine Goal.ready1 (i := 11) (by kernel_rfl) ?_); all_goals ((refine Goal.up (i := 11) (listed' := #[true, true, true, true, true, true, true, true, true, true, true, true, false]) rfl (by kernel_rfl) ?_; (refine Loud.callE (_ :: A2) (rset_ok hR c1 c2) rfl rfl rfl rfl T.bod_13 (fun _ h => h) ?_; intro R2 g2; rw [hz]); first | refine Goal.tail rfl ?_ | refine Goal.kept (by (first | exact fun _ h => h.sub (List.Sublist.cons_cons _ (List.nil_sublist _)) | exact fun _ h => h.sub (.cons _ (.refl _)) | exact fun _ h => h.sub (.cons _ (.cons _ (.refl _))) | exact fun _ h => h.sub (.cons _ (.cons _ (.cons _ (.refl _)))) | exact fun _ h => h.drop)) ?_)); all_goals ((refine Goal.takeP (listed' := #[true, true, true, true, true, true, true, true, true, true, true, true, true]) 12 ⟨rfl, by kernel_rfl, by kernel_rfl, by kernel_rfl, by kernel_rfl⟩ rfl (fun _ _ _ _ h => h) (by intro _; first | exact Run.neq rfl rfl) ?_)); all_goals (refine Goal.allUp (by kernel_rfl) ?_))
        | (refine Goal.drawHd (id := 12) 9 T.mixed ?_; all_goals ((refine Goal.takeP (listed' := #[true, false, false, false, false, false, false, false, false]) 0 ⟨rfl, by kernel_rfl, by kernel_rfl, by kernel_rfl, by kernel_rfl⟩ rfl (fun _ _ _ _ h => h) (by intro _; exact Run.move rfl) ?_)); all_goals ((refine Goal.takeP (listed' := #[true, true, false, false, false, false, false, false, false]) 1 ⟨rfl, by kernel_rfl, by kernel_rfl, by kernel_rfl, by kernel_rfl⟩ rfl (fun _ _ _ _ h => h) (by intro _; exact Run.fieldAddr T.fld_44_1 rfl) ?_)); all_goals ((refine Goal.takeP (listed' := #[true, true, false, false, true, false, false, false, false]) 4 ⟨rfl, by kernel_rfl, by kernel_rfl, by kernel_rfl, by kernel_rfl⟩ rfl (fun _ _ _ _ h => h) (by intro _; exact Run.move rfl) ?_)); all_goals ((refine Goal.takeP (listed' := #[true, true, false, false, true, true, false, false, false]) 5 ⟨rfl, by kernel_rfl, by kernel_rfl, by kernel_rfl, by kernel_rfl⟩ rfl (fun _ _ _ _ h => h) (by intro _; exact Run.fieldAddr T.fld_44_1 rfl) ?_)); all_goals ((refine Goal.take (listed' := #[true, true, true, false, true, true, false, false, false]) 2 ⟨rfl, by kernel_rfl, by kernel_rfl, by kernel_rfl, by kernel_rfl, by kernel_rfl⟩ rfl (by (first | exact fun _ h => h.sub (List.Sublist.cons_cons _ (List.nil_sublist _)) | exact fun _ h => h.sub (.cons _ (.refl _)) | exact fun _ h => h.sub (.cons _ (.cons _ (.refl _))) | exact fun _ h => h.sub (.cons _ (.cons _ (.cons _ (.refl _)))) | exact fun _ h => h.drop)) (fun _ _ _ _ h => h) (by (apply Run.load; exact rfl; first | exact LoadOK.oldAgg (vs := [.int .u8 k0, .int .i64 c1, .int .i64 c2]) T.agg_44 rfl hk2 (by simp) | exact LoadOK.one T.one_3 0 rfl rfl | exact LoadOK.one T.one_3 1 rfl rfl | exact LoadOK.one T.one_3 2 rfl rfl | exact LoadOK.one T.one_3 3 rfl rfl | exact LoadOK.one T.one_3 4 rfl rfl | exact LoadOK.one T.one_3 5 rfl rfl | exact LoadOK.one T.one_3 6 rfl rfl | exact LoadOK.one T.one_3 7 rfl rfl)) ?_)); all_goals ((refine Goal.take (listed' := #[true, true, true, false, true, true, true, false, false]) 6 ⟨rfl, by kernel_rfl, by kernel_rfl, by kernel_rfl, by kernel_rfl, by kernel_rfl⟩ rfl (by (first | exact fun _ h => h.sub (List.Sublist.cons_cons _ (List.nil_sublist _)) | exact fun _ h => h.sub (.cons _ (.refl _)) | exact fun _ h => h.sub (.cons _ (.cons _ (.refl _))) | exact fun _ h => h.sub (.cons _ (.cons _ (.cons _ (.refl _)))) | exact fun _ h => h.drop)) (fun _ _ _ _ h => h) (by (apply Run.load; exact rfl; first | exact LoadOK.oldAgg (vs := [.int .u8 k0, .int .i64 c1, .int .i64 c2]) T.agg_44 rfl hk2 (by simp) | exact LoadOK.one T.one_3 0 rfl rfl | exact LoadOK.one T.one_3 1 rfl rfl | exact LoadOK.one T.one_3 2 rfl rfl | exact LoadOK.one T.one_3 3 rfl rfl | exact LoadOK.one T.one_3 4 rfl rfl | exact LoadOK.one T.one_3 5 rfl rfl | exact LoadOK.one T.one_3 6 rfl rfl | exact LoadOK.one T.one_3 7 rfl rfl)) ?_)); all_goals (refine Goal.ready1 (i := 3) (by kernel_rfl) ?_); all_goals ((refine Goal.up (i := 3) (listed' := #[true, true, true, true, true, true, true, false, false]) rfl (by kernel_rfl) ?_; (refine Loud.callM ([_]) (remove_ok hA (by omega) c1) rfl rfl rfl rfl T.bod_14 (fun _ h => h) ?_; intro A2 h2; generalize hz : (if 0 ≤ c1 ∧ c1 < n then (if m c1 = none then (8 : Int) else 0) else 2) = z); first | refine Goal.tail rfl ?_ | refine Goal.kept (by (first | exact fun _ h => h.sub (List.Sublist.cons_cons _ (List.nil_sublist _)) | exact fun _ h => h.sub (.cons _ (.refl _)) | exact fun _ h => h.sub (.cons _ (.cons _ (.refl _))) | exact fun _ h => h.sub (.cons _ (.cons _ (.cons _ (.refl _)))) | exact fun _ h => h.drop)) ?_)); all_goals (refine Goal.ready1 (i := 7) (by kernel_rfl) ?_); all_goals ((refine Goal.up (i := 7) (listed' := #[true, true, true, true, true, true, true, true, false]) rfl (by kernel_rfl) ?_; (refine Loud.callE (_ :: A2) (rremove_ok hR c1) rfl rfl rfl rfl T.bod_15 (fun _ h => h) ?_; intro R2 g2; rw [hz]); first | refine Goal.tail rfl ?_ | refine Goal.kept (by (first | exact fun _ h => h.sub (List.Sublist.cons_cons _ (List.nil_sublist _)) | exact fun _ h => h.sub (.cons _ (.refl _)) | exact fun _ h => h.sub (.cons _ (.cons _ (.refl _))) | exact fun _ h => h.sub (.cons _ (.cons _ (.cons _ (.refl _)))) | exact fun _ h => h.drop)) ?_)); all_goals ((refine Goal.takeP (listed' := #[true, true, true, true, true, true, true, true, true]) 8 ⟨rfl, by kernel_rfl, by kernel_rfl, by kernel_rfl, by kernel_rfl⟩ rfl (fun _ _ _ _ h => h) (by intro _; first | exact Run.neq rfl rfl) ?_)); all_goals (refine Goal.allUp (by kernel_rfl) ?_))
        | (refine Goal.loud (o := ⟨some 78, _, _, _, _, _⟩) rfl ?_; refine Loud.callM ([_]) (set_ok hA (by omega) c1 c2) rfl rfl rfl rfl T.bod_10 (fun _ h => h) ?_; intro A2 h2; generalize hz : (if 0 ≤ c1 ∧ c1 < n then (0 : Int) else 2) = z)
        | (refine Goal.loud (o := ⟨some 84, _, _, _, _, _⟩) rfl ?_; refine Loud.callE (_ :: A2) (rset_ok hR c1 c2) rfl rfl rfl rfl T.bod_13 (fun _ h => h) ?_; intro R2 g2; rw [hz])
        | (refine Goal.loud (o := ⟨some 64, _, _, _, _, _⟩) rfl ?_; refine Loud.callM ([_]) (remove_ok hA (by omega) c1) rfl rfl rfl rfl T.bod_14 (fun _ h => h) ?_; intro A2 h2; generalize hz : (if 0 ≤ c1 ∧ c1 < n then (if m c1 = none then (8 : Int) else 0) else 2) = z)
        | (refine Goal.loud (o := ⟨some 68, _, _, _, _, _⟩) rfl ?_; refine Loud.callE (_ :: A2) (rremove_ok hR c1) rfl rfl rfl rfl T.bod_15 (fun _ h => h) ?_; intro R2 g2; rw [hz])
        | (refine Goal.loud (o := ⟨some 90, _, _, _, _, _⟩) rfl ?_; refine Loud.callM ([_]) (pop_ok hA (by omega)) rfl rfl rfl rfl T.bod_11 (fun _ h => h) ?_; rintro ⟨i, k, ok, A2⟩ ⟨hp, h2⟩; dsimp only at hp h2 ⊢)
        | (refine Goal.loud (o := ⟨some 96, _, _, _, _, _⟩) rfl ?_; refine Loud.callE (_ :: A2) (rpop_ok hR (by omega)) rfl rfl rfl rfl T.bod_16 (fun _ h => h) ?_; rintro ⟨i', k', ok', R2⟩ ⟨gp, g2⟩; dsimp only at gp g2 ⊢; obtain ⟨rfl, rfl, rfl⟩ := popS_one hp gp)
        | (refine Goal.loud (o := ⟨some 117, _, _, _, _, _⟩) rfl ?_; refine Loud.callM ([_]) (key_ok h2 c1) rfl rfl rfl rfl T.bod_18 (fun _ h => h) ?_; rintro ⟨⟩ -)
        | (refine Goal.loud (o := ⟨some 124, _, _, _, _, _⟩) rfl ?_; refine Loud.callE (_ :: A2) (rkey_ok g2 c1) rfl rfl rfl rfl T.bod_19 (fun _ h => h) ?_; rintro ⟨⟩ -)
        | (refine Goal.loud (o := ⟨some 137, _, _, _, _, _⟩) rfl ?_; refine Loud.callM ([_]) (len_ok h2) rfl rfl rfl rfl T.bod_17 (fun _ h => h) ?_; rintro ⟨⟩ -)
        | (refine Goal.loud (o := ⟨some 139, _, _, _, _, _⟩) rfl ?_; refine Loud.callE (_ :: A2) (rlen_ok g2 (by omega)) rfl rfl rfl rfl T.bod_20 (fun _ h => h) ?_; rintro ⟨⟩ -)
        | (refine Goal.loud (o := ⟨some 10, _, _, _, _, _⟩) rfl ?_; refine Loud.allocA rfl T.inf_44 (fun b10 => ?_))
        | (apply G.move; exact rfl; exact rfl)
        | (apply G.assign; exact rfl; exact rfl)
        | refine Goal.seq (fun _ _ => ?_)
        | refine Goal.next (by assumption) ?_
        | refine Goal.lnil ?_
        | refine Goal.region ?_
        | refine Goal.skip ?_
        | refine Goal.block ?_
        | refine Goal.exit ?_
        | refine Goal.ret ?_
        | refine Goal.then_exit ?_
        | refine Goal.then_ret ?_
        | refine Goal.inBlock_exit ?_
        | refine Goal.inBlock_normal ?_
        | refine Goal.inBlock_ret ?_
        | refine Goal.inBlock_other rfl ?_
        | (apply Goal.condT; exact rfl)
        | (apply Goal.condF; exact rfl)
        | (refine Goal.condD rfl (fun hc => ?_) (fun hc => ?_) <;> first | (exfalso; omega) | contradiction | skip)
        | refine Goal.condB rfl (fun hc => ?_) (fun hc => ?_)
        | refine Goal.guardT rfl rfl ?_
        | refine Goal.guardF rfl rfl rfl rfl ?_
        | refine Goal.guardU rfl rfl rfl ?_
        | (refine Goal.guardD rfl rfl (fun hc => ?_) (fun hc => ?_) <;> first | (exfalso; omega) | contradiction | skip)
        | refine Goal.guardB rfl rfl (fun hc => ?_) (fun hc => ?_)
        | (apply G.fieldAddr; exact rfl; exact rfl; (first | exact T.fld_44_0 | exact T.fld_44_1 | exact T.fld_44_2))
        | (apply G.load; exact rfl; exact rfl; first | exact LoadOK.oldAgg (vs := [.int .u8 k0, .int .i64 c1, .int .i64 c2]) T.agg_44 rfl hk2 (by simp) | exact LoadOK.one (by first | exact T.one_3 | exact T.one_5) 0 rfl rfl | exact LoadOK.one (by first | exact T.one_3 | exact T.one_5) 1 rfl rfl | exact LoadOK.one (by first | exact T.one_3 | exact T.one_5) 2 rfl rfl | exact LoadOK.one (by first | exact T.one_3 | exact T.one_5) 3 rfl rfl | exact LoadOK.one (by first | exact T.one_3 | exact T.one_5) 4 rfl rfl | exact LoadOK.one (by first | exact T.one_3 | exact T.one_5) 5 rfl rfl | exact LoadOK.one (by first | exact T.one_3 | exact T.one_5) 6 rfl rfl | exact LoadOK.one (by first | exact T.one_3 | exact T.one_5) 7 rfl rfl | exact LoadOK.agg (vs := [_, _, _]) T.agg_44 0 rfl rfl ⟨rfl, rfl, rfl, trivial⟩ | exact LoadOK.agg (vs := [_, _, _]) T.agg_44 1 rfl rfl ⟨rfl, rfl, rfl, trivial⟩ | exact LoadOK.agg (vs := [_, _, _]) T.agg_44 2 rfl rfl ⟨rfl, rfl, rfl, trivial⟩ | exact LoadOK.agg (vs := [_, _, _]) T.agg_44 3 rfl rfl ⟨rfl, rfl, rfl, trivial⟩ | exact LoadOK.agg (vs := [_, _, _]) T.agg_44 4 rfl rfl ⟨rfl, rfl, rfl, trivial⟩ | exact LoadOK.agg (vs := [_, _, _]) T.agg_44 5 rfl rfl ⟨rfl, rfl, rfl, trivial⟩ | exact LoadOK.agg (vs := [_, _, _]) T.agg_44 6 rfl rfl ⟨rfl, rfl, rfl, trivial⟩ | exact LoadOK.agg (vs := [_, _, _]) T.agg_44 7 rfl rfl ⟨rfl, rfl, rfl, trivial⟩)
        | (apply G.pickT; exact rfl; exact rfl; exact rfl)
        | (apply G.pickF; exact rfl; exact rfl; exact rfl)
        | (apply G.lss; exact rfl; exact rfl; exact rfl)
        | (apply G.leq; exact rfl; exact rfl; exact rfl)
        | (apply G.gtr; exact rfl; exact rfl; exact rfl)
        | (apply G.eql; exact rfl; exact rfl; exact rfl)
        | (apply G.neq; exact rfl; exact rfl; exact rfl)
        | (apply G.add; exact rfl; exact rfl; exact rfl; first | exact IntWalk.i64_in _ (by omega) | exact IntWalk.u8_in _ (by omega) | exact IntWalk.u16_in _ (by omega) | exact IntWalk.u32_in _ (by omega) | exact IntWalk.u64_in _ (by omega))
        | (apply G.eqlB; exact rfl; exact T.boo_4; exact rfl; exact rfl)
        | (refine Goal.quiet rfl (Run.eqlP T.ptr_24 rfl rfl rfl) ?_)
        | (apply G.neqB; exact rfl; exact T.boo_4; exact rfl; exact rfl)
        | (refine Goal.quiet rfl (Run.neqP T.ptr_24 rfl rfl rfl) ?_)
        | (apply G.rem; exact rfl; exact rfl; exact rfl; (first | decide | omega); exact IntWalk.rem_in _ _ (by omega))
        | (apply G.conv; exact rfl; exact rfl; (first | exact T.int_3 | exact T.int_5); (first | exact T.int_3 | exact T.int_5); first | exact IntWalk.i64_in _ (by omega) | exact IntWalk.u8_in _ (by omega) | exact IntWalk.u16_in _ (by omega) | exact IntWalk.u32_in _ (by omega) | exact IntWalk.u64_in _ (by omega))
        | (apply G.notT; exact rfl; exact rfl)
        | (apply G.notF; exact rfl; exact rfl)
        | (refine G.notD rfl rfl ?_)
        | (apply G.notB; exact rfl; exact rfl)
        | (apply G.extract; exact rfl; exact rfl; exact rfl)
        | (apply G.len; exact rfl; exact rfl; exact T.slc_42)
        | (refine G.indexAddr rfl T.slc_42 T.sz_44 rfl rfl _ rfl (by omega) ?_)
        | (refine G.indexAddr rfl T.slc_42 T.sz_44 rfl rfl _ (Int.toNat_of_nonneg (by omega)).symm (by omega) ?_)
        | (refine Goal.loud rfl ?_; refine Loud.store0 rfl rfl T.sz_44 rfl rfl rfl (by first | exact Nat.le_refl _ | decide | (simp; omega)) rfl ?_)
        | (refine Goal.loud rfl ?_; refine Loud.store1 rfl rfl T.sz_44 rfl rfl rfl (by first | exact Nat.le_refl _ | decide | (simp; omega)) rfl ?_)
        | (refine Goal.loud rfl ?_; refine Loud.store2 rfl rfl T.sz_44 rfl rfl rfl (by first | exact Nat.le_refl _ | decide | (simp; omega)) rfl ?_)
        | (refine Goal.loud rfl ?_; refine Loud.store3 rfl rfl T.sz_44 rfl rfl rfl (by first | exact Nat.le_refl _ | decide | (simp; omega)) rfl ?_)
        | (refine Goal.loud rfl ?_; refine Loud.store4 rfl rfl T.sz_44 rfl rfl rfl (by first | exact Nat.le_refl _ | decide | (simp; omega)) rfl ?_)
        | (refine Goal.loud rfl ?_; refine Loud.store5 rfl rfl T.sz_44 rfl rfl rfl (by first | exact Nat.le_refl _ | decide | (simp; omega)) rfl ?_)
        | (refine Goal.loud rfl ?_; refine Loud.store6 rfl rfl T.sz_44 rfl rfl rfl (by first | exact Nat.le_refl _ | decide | (simp; omega)) rfl ?_)
        | (refine Goal.loud rfl ?_; refine Loud.store7 rfl rfl T.sz_44 rfl rfl rfl (by first | exact Nat.le_refl _ | decide | (simp; omega)) rfl ?_))
      all_goals
        refine Goal.again ⟨t + 1, _, A2, R2⟩ ⟨by dsimp only; omega, h2, g2⟩ (by dsimp only; omega) ⟨rfl, rfl, rfl, rfl, rfl, rfl, trivial⟩ (fun _ h => h.sub (List.sublist_cons_self _ (A2 ++ R2)))
    · skip
      repeat' (first
        | (refine Goal.loud (o := ⟨some 10, _, _, _, _, _⟩) rfl ?_; refine Loud.allocA rfl T.inf_44 (fun b10 => ?_))
        | (apply G.move; exact rfl; exact rfl)
        | (apply G.assign; exact rfl; exact rfl)
        | refine Goal.seq (fun _ _ => ?_)
        | refine Goal.next (by assumption) ?_
        | refine Goal.lnil ?_
        | refine Goal.region ?_
        | refine Goal.skip ?_
        | refine Goal.block ?_
        | refine Goal.exit ?_
        | refine Goal.ret ?_
        | refine Goal.then_exit ?_
        | refine Goal.then_ret ?_
        | refine Goal.inBlock_exit ?_
        | refine Goal.inBlock_normal ?_
        | refine Goal.inBlock_ret ?_
        | refine Goal.inBlock_other rfl ?_
        | (apply Goal.condT; exact rfl)
        | (apply Goal.condF; exact rfl)
        | (refine Goal.condD rfl (fun hc => ?_) (fun hc => ?_) <;> first | (exfalso; omega) | contradiction | skip)
        | refine Goal.condB rfl (fun hc => ?_) (fun hc => ?_)
        | refine Goal.guardT rfl rfl ?_
        | refine Goal.guardF rfl rfl rfl rfl ?_
        | refine Goal.guardU rfl rfl rfl ?_
        | (refine Goal.guardD rfl rfl (fun hc => ?_) (fun hc => ?_) <;> first | (exfalso; omega) | contradiction | skip)
        | refine Goal.guardB rfl rfl (fun hc => ?_) (fun hc => ?_)
        | (apply G.fieldAddr; exact rfl; exact rfl; (first | exact T.fld_44_0 | exact T.fld_44_1 | exact T.fld_44_2))
        | (apply G.load; exact rfl; exact rfl; first | exact LoadOK.one (by first | exact T.one_3 | exact T.one_5) 0 rfl rfl | exact LoadOK.one (by first | exact T.one_3 | exact T.one_5) 1 rfl rfl | exact LoadOK.one (by first | exact T.one_3 | exact T.one_5) 2 rfl rfl | exact LoadOK.one (by first | exact T.one_3 | exact T.one_5) 3 rfl rfl | exact LoadOK.one (by first | exact T.one_3 | exact T.one_5) 4 rfl rfl | exact LoadOK.one (by first | exact T.one_3 | exact T.one_5) 5 rfl rfl | exact LoadOK.one (by first | exact T.one_3 | exact T.one_5) 6 rfl rfl | exact LoadOK.one (by first | exact T.one_3 | exact T.one_5) 7 rfl rfl | exact LoadOK.agg (vs := [_, _, _]) T.agg_44 0 rfl rfl ⟨rfl, rfl, rfl, trivial⟩ | exact LoadOK.agg (vs := [_, _, _]) T.agg_44 1 rfl rfl ⟨rfl, rfl, rfl, trivial⟩ | exact LoadOK.agg (vs := [_, _, _]) T.agg_44 2 rfl rfl ⟨rfl, rfl, rfl, trivial⟩ | exact LoadOK.agg (vs := [_, _, _]) T.agg_44 3 rfl rfl ⟨rfl, rfl, rfl, trivial⟩ | exact LoadOK.agg (vs := [_, _, _]) T.agg_44 4 rfl rfl ⟨rfl, rfl, rfl, trivial⟩ | exact LoadOK.agg (vs := [_, _, _]) T.agg_44 5 rfl rfl ⟨rfl, rfl, rfl, trivial⟩ | exact LoadOK.agg (vs := [_, _, _]) T.agg_44 6 rfl rfl ⟨rfl, rfl, rfl, trivial⟩ | exact LoadOK.agg (vs := [_, _, _]) T.agg_44 7 rfl rfl ⟨rfl, rfl, rfl, trivial⟩)
        | (apply G.pickT; exact rfl; exact rfl; exact rfl)
        | (apply G.pickF; exact rfl; exact rfl; exact rfl)
        | (apply G.lss; exact rfl; exact rfl; exact rfl)
        | (apply G.leq; exact rfl; exact rfl; exact rfl)
        | (apply G.gtr; exact rfl; exact rfl; exact rfl)
        | (apply G.eql; exact rfl; exact rfl; exact rfl)
        | (apply G.neq; exact rfl; exact rfl; exact rfl)
        | (apply G.add; exact rfl; exact rfl; exact rfl; first | exact IntWalk.i64_in _ (by omega) | exact IntWalk.u8_in _ (by omega) | exact IntWalk.u16_in _ (by omega) | exact IntWalk.u32_in _ (by omega) | exact IntWalk.u64_in _ (by omega))
        | (apply G.eqlB; exact rfl; exact T.boo_4; exact rfl; exact rfl)
        | (refine Goal.quiet rfl (Run.eqlP T.ptr_24 rfl rfl rfl) ?_)
        | (apply G.neqB; exact rfl; exact T.boo_4; exact rfl; exact rfl)
        | (refine Goal.quiet rfl (Run.neqP T.ptr_24 rfl rfl rfl) ?_)
        | (apply G.rem; exact rfl; exact rfl; exact rfl; (first | decide | omega); exact IntWalk.rem_in _ _ (by omega))
        | (apply G.conv; exact rfl; exact rfl; (first | exact T.int_3 | exact T.int_5); (first | exact T.int_3 | exact T.int_5); first | exact IntWalk.i64_in _ (by omega) | exact IntWalk.u8_in _ (by omega) | exact IntWalk.u16_in _ (by omega) | exact IntWalk.u32_in _ (by omega) | exact IntWalk.u64_in _ (by omega))
        | (apply G.notT; exact rfl; exact rfl)
        | (apply G.notF; exact rfl; exact rfl)
        | (refine G.notD rfl rfl ?_)
        | (apply G.notB; exact rfl; exact rfl)
        | (apply G.extract; exact rfl; exact rfl; exact rfl)
        | (apply G.len; exact rfl; exact rfl; exact T.slc_42)
        | (refine G.indexAddr rfl T.slc_42 T.sz_44 rfl rfl _ rfl (by omega) ?_)
        | (refine G.indexAddr rfl T.slc_42 T.sz_44 rfl rfl _ (Int.toNat_of_nonneg (by omega)).symm (by omega) ?_)
        | (refine Goal.loud rfl ?_; refine Loud.store0 rfl rfl T.sz_44 rfl rfl rfl (by first | exact Nat.le_refl _ | decide | (simp; omega)) rfl ?_)
        | (refine Goal.loud rfl ?_; refine Loud.store1 rfl rfl T.sz_44 rfl rfl rfl (by first | exact Nat.le_refl _ | decide | (simp; omega)) rfl ?_)
        | (refine Goal.loud rfl ?_; refine Loud.store2 rfl rfl T.sz_44 rfl rfl rfl (by first | exact Nat.le_refl _ | decide | (simp; omega)) rfl ?_)
        | (refine Goal.loud rfl ?_; refine Loud.store3 rfl rfl T.sz_44 rfl rfl rfl (by first | exact Nat.le_refl _ | decide | (simp; omega)) rfl ?_)
        | (refine Goal.loud rfl ?_; refine Loud.store4 rfl rfl T.sz_44 rfl rfl rfl (by first | exact Nat.le_refl _ | decide | (simp; omega)) rfl ?_)
        | (refine Goal.loud rfl ?_; refine Loud.store5 rfl rfl T.sz_44 rfl rfl rfl (by first | exact Nat.le_refl _ | decide | (simp; omega)) rfl ?_)
        | (refine Goal.loud rfl ?_; refine Loud.store6 rfl rfl T.sz_44 rfl rfl rfl (by first | exact Nat.le_refl _ | decide | (simp; omega)) rfl ?_)
        | (refine Goal.loud rfl ?_; refine Loud.store7 rfl rfl T.sz_44 rfl rfl rfl (by first | exact Nat.le_refl _ | decide | (simp; omega)) rfl ?_))
      clear hlt ht
      refine Goal.loopP (X := Int) (fun x => [(5, .int .i64 (s % 40)), (6, .pointer (some ⟨bh, 0, none⟩)), (8, .pointer (some ⟨br, 0, none⟩)), (21, .int .i64 x)]) (fun x => A ++ R)
        (fun x => -1 ≤ x ∧ x ≤ n + 1) (fun x => (n + 1 - x).toNat) (-1) ⟨rfl, rfl, rfl, rfl, trivial⟩ (fun _ h => h)
        (by omega) ?_
      rintro i hi
      by_cases hlt : i ≤ n
      · skip
        repeat' (first
          | (refine Goal.loud (o := ⟨some 151, _, _, _, _, _⟩) rfl ?_; refine Loud.callM ([]) (key_ok hA i) rfl rfl rfl rfl T.bod_18 (fun _ h => h) ?_; rintro ⟨⟩ -)
          | (refine Goal.loud (o := ⟨some 157, _, _, _, _, _⟩) rfl ?_; refine Loud.callE (A) (rkey_ok hR i) rfl rfl rfl rfl T.bod_19 (fun _ h => h) ?_; rintro ⟨⟩ -)
          | (refine Goal.loud (o := ⟨some 10, _, _, _, _, _⟩) rfl ?_; refine Loud.allocA rfl T.inf_44 (fun b10 => ?_))
          | (apply G.move; exact rfl; exact rfl)
          | (apply G.assign; exact rfl; exact rfl)
          | refine Goal.seq (fun _ _ => ?_)
          | refine Goal.next (by assumption) ?_
          | refine Goal.lnil ?_
          | refine Goal.region ?_
          | refine Goal.skip ?_
          | refine Goal.block ?_
          | refine Goal.exit ?_
          | refine Goal.ret ?_
          | refine Goal.then_exit ?_
          | refine Goal.then_ret ?_
          | refine Goal.inBlock_exit ?_
          | refine Goal.inBlock_normal ?_
          | refine Goal.inBlock_ret ?_
          | refine Goal.inBlock_other rfl ?_
          | (apply Goal.condT; exact rfl)
          | (apply Goal.condF; exact rfl)
          | (refine Goal.condD rfl (fun hc => ?_) (fun hc => ?_) <;> first | (exfalso; omega) | contradiction | skip)
          | refine Goal.condB rfl (fun hc => ?_) (fun hc => ?_)
          | refine Goal.guardT rfl rfl ?_
          | refine Goal.guardF rfl rfl rfl rfl ?_
          | refine Goal.guardU rfl rfl rfl ?_
          | (refine Goal.guardD rfl rfl (fun hc => ?_) (fun hc => ?_) <;> first | (exfalso; omega) | contradiction | skip)
          | refine Goal.guardB rfl rfl (fun hc => ?_) (fun hc => ?_)
          | (apply G.fieldAddr; exact rfl; exact rfl; (first | exact T.fld_44_0 | exact T.fld_44_1 | exact T.fld_44_2))
          | (apply G.load; exact rfl; exact rfl; first | exact LoadOK.one (by first | exact T.one_3 | exact T.one_5) 0 rfl rfl | exact LoadOK.one (by first | exact T.one_3 | exact T.one_5) 1 rfl rfl | exact LoadOK.one (by first | exact T.one_3 | exact T.one_5) 2 rfl rfl | exact LoadOK.one (by first | exact T.one_3 | exact T.one_5) 3 rfl rfl | exact LoadOK.one (by first | exact T.one_3 | exact T.one_5) 4 rfl rfl | exact LoadOK.one (by first | exact T.one_3 | exact T.one_5) 5 rfl rfl | exact LoadOK.one (by first | exact T.one_3 | exact T.one_5) 6 rfl rfl | exact LoadOK.one (by first | exact T.one_3 | exact T.one_5) 7 rfl rfl | exact LoadOK.agg (vs := [_, _, _]) T.agg_44 0 rfl rfl ⟨rfl, rfl, rfl, trivial⟩ | exact LoadOK.agg (vs := [_, _, _]) T.agg_44 1 rfl rfl ⟨rfl, rfl, rfl, trivial⟩ | exact LoadOK.agg (vs := [_, _, _]) T.agg_44 2 rfl rfl ⟨rfl, rfl, rfl, trivial⟩ | exact LoadOK.agg (vs := [_, _, _]) T.agg_44 3 rfl rfl ⟨rfl, rfl, rfl, trivial⟩ | exact LoadOK.agg (vs := [_, _, _]) T.agg_44 4 rfl rfl ⟨rfl, rfl, rfl, trivial⟩ | exact LoadOK.agg (vs := [_, _, _]) T.agg_44 5 rfl rfl ⟨rfl, rfl, rfl, trivial⟩ | exact LoadOK.agg (vs := [_, _, _]) T.agg_44 6 rfl rfl ⟨rfl, rfl, rfl, trivial⟩ | exact LoadOK.agg (vs := [_, _, _]) T.agg_44 7 rfl rfl ⟨rfl, rfl, rfl, trivial⟩)
          | (apply G.pickT; exact rfl; exact rfl; exact rfl)
          | (apply G.pickF; exact rfl; exact rfl; exact rfl)
          | (apply G.lss; exact rfl; exact rfl; exact rfl)
          | (apply G.leq; exact rfl; exact rfl; exact rfl)
          | (apply G.gtr; exact rfl; exact rfl; exact rfl)
          | (apply G.eql; exact rfl; exact rfl; exact rfl)
          | (apply G.neq; exact rfl; exact rfl; exact rfl)
          | (apply G.add; exact rfl; exact rfl; exact rfl; first | exact IntWalk.i64_in _ (by omega) | exact IntWalk.u8_in _ (by omega) | exact IntWalk.u16_in _ (by omega) | exact IntWalk.u32_in _ (by omega) | exact IntWalk.u64_in _ (by omega))
          | (apply G.eqlB; exact rfl; exact T.boo_4; exact rfl; exact rfl)
          | (refine Goal.quiet rfl (Run.eqlP T.ptr_24 rfl rfl rfl) ?_)
          | (apply G.neqB; exact rfl; exact T.boo_4; exact rfl; exact rfl)
          | (refine Goal.quiet rfl (Run.neqP T.ptr_24 rfl rfl rfl) ?_)
          | (apply G.rem; exact rfl; exact rfl; exact rfl; (first | decide | omega); exact IntWalk.rem_in _ _ (by omega))
          | (apply G.conv; exact rfl; exact rfl; (first | exact T.int_3 | exact T.int_5); (first | exact T.int_3 | exact T.int_5); first | exact IntWalk.i64_in _ (by omega) | exact IntWalk.u8_in _ (by omega) | exact IntWalk.u16_in _ (by omega) | exact IntWalk.u32_in _ (by omega) | exact IntWalk.u64_in _ (by omega))
          | (apply G.notT; exact rfl; exact rfl)
          | (apply G.notF; exact rfl; exact rfl)
          | (refine G.notD rfl rfl ?_)
          | (apply G.notB; exact rfl; exact rfl)
          | (apply G.extract; exact rfl; exact rfl; exact rfl)
          | (apply G.len; exact rfl; exact rfl; exact T.slc_42)
          | (refine G.indexAddr rfl T.slc_42 T.sz_44 rfl rfl _ rfl (by omega) ?_)
          | (refine G.indexAddr rfl T.slc_42 T.sz_44 rfl rfl _ (Int.toNat_of_nonneg (by omega)).symm (by omega) ?_)
          | (refine Goal.loud rfl ?_; refine Loud.store0 rfl rfl T.sz_44 rfl rfl rfl (by first | exact Nat.le_refl _ | decide | (simp; omega)) rfl ?_)
          | (refine Goal.loud rfl ?_; refine Loud.store1 rfl rfl T.sz_44 rfl rfl rfl (by first | exact Nat.le_refl _ | decide | (simp; omega)) rfl ?_)
          | (refine Goal.loud rfl ?_; refine Loud.store2 rfl rfl T.sz_44 rfl rfl rfl (by first | exact Nat.le_refl _ | decide | (simp; omega)) rfl ?_)
          | (refine Goal.loud rfl ?_; refine Loud.store3 rfl rfl T.sz_44 rfl rfl rfl (by first | exact Nat.le_refl _ | decide | (simp; omega)) rfl ?_)
          | (refine Goal.loud rfl ?_; refine Loud.store4 rfl rfl T.sz_44 rfl rfl rfl (by first | exact Nat.le_refl _ | decide | (simp; omega)) rfl ?_)
          | (refine Goal.loud rfl ?_; refine Loud.store5 rfl rfl T.sz_44 rfl rfl rfl (by first | exact Nat.le_refl _ | decide | (simp; omega)) rfl ?_)
          | (refine Goal.loud rfl ?_; refine Loud.store6 rfl rfl T.sz_44 rfl rfl rfl (by first | exact Nat.le_refl _ | decide | (simp; omega)) rfl ?_)
          | (refine Goal.loud rfl ?_; refine Loud.store7 rfl rfl T.sz_44 rfl rfl rfl (by first | exact Nat.le_refl _ | decide | (simp; omega)) rfl ?_))
        refine Goal.again (i + 1) (by omega) (by omega) ⟨rfl, rfl, rfl, rfl, trivial⟩ (fun _ h => h)
      · skip
        repeat' (first
          | (refine Goal.loud (o := ⟨some 10, _, _, _, _, _⟩) rfl ?_; refine Loud.allocA rfl T.inf_44 (fun b10 => ?_))
          | (apply G.move; exact rfl; exact rfl)
          | (apply G.assign; exact rfl; exact rfl)
          | refine Goal.seq (fun _ _ => ?_)
          | refine Goal.next (by assumption) ?_
          | refine Goal.lnil ?_
          | refine Goal.region ?_
          | refine Goal.skip ?_
          | refine Goal.block ?_
          | refine Goal.exit ?_
          | refine Goal.ret ?_
          | refine Goal.then_exit ?_
          | refine Goal.then_ret ?_
          | refine Goal.inBlock_exit ?_
          | refine Goal.inBlock_normal ?_
          | refine Goal.inBlock_ret ?_
          | refine Goal.inBlock_other rfl ?_
          | (apply Goal.condT; exact rfl)
          | (apply Goal.condF; exact rfl)
          | (refine Goal.condD rfl (fun hc => ?_) (fun hc => ?_) <;> first | (exfalso; omega) | contradiction | skip)
          | refine Goal.condB rfl (fun hc => ?_) (fun hc => ?_)
          | refine Goal.guardT rfl rfl ?_
          | refine Goal.guardF rfl rfl rfl rfl ?_
          | refine Goal.guardU rfl rfl rfl ?_
          | (refine Goal.guardD rfl rfl (fun hc => ?_) (fun hc => ?_) <;> first | (exfalso; omega) | contradiction | skip)
          | refine Goal.guardB rfl rfl (fun hc => ?_) (fun hc => ?_)
          | (apply G.fieldAddr; exact rfl; exact rfl; (first | exact T.fld_44_0 | exact T.fld_44_1 | exact T.fld_44_2))
          | (apply G.load; exact rfl; exact rfl; first | exact LoadOK.one (by first | exact T.one_3 | exact T.one_5) 0 rfl rfl | exact LoadOK.one (by first | exact T.one_3 | exact T.one_5) 1 rfl rfl | exact LoadOK.one (by first | exact T.one_3 | exact T.one_5) 2 rfl rfl | exact LoadOK.one (by first | exact T.one_3 | exact T.one_5) 3 rfl rfl | exact LoadOK.one (by first | exact T.one_3 | exact T.one_5) 4 rfl rfl | exact LoadOK.one (by first | exact T.one_3 | exact T.one_5) 5 rfl rfl | exact LoadOK.one (by first | exact T.one_3 | exact T.one_5) 6 rfl rfl | exact LoadOK.one (by first | exact T.one_3 | exact T.one_5) 7 rfl rfl | exact LoadOK.agg (vs := [_, _, _]) T.agg_44 0 rfl rfl ⟨rfl, rfl, rfl, trivial⟩ | exact LoadOK.agg (vs := [_, _, _]) T.agg_44 1 rfl rfl ⟨rfl, rfl, rfl, trivial⟩ | exact LoadOK.agg (vs := [_, _, _]) T.agg_44 2 rfl rfl ⟨rfl, rfl, rfl, trivial⟩ | exact LoadOK.agg (vs := [_, _, _]) T.agg_44 3 rfl rfl ⟨rfl, rfl, rfl, trivial⟩ | exact LoadOK.agg (vs := [_, _, _]) T.agg_44 4 rfl rfl ⟨rfl, rfl, rfl, trivial⟩ | exact LoadOK.agg (vs := [_, _, _]) T.agg_44 5 rfl rfl ⟨rfl, rfl, rfl, trivial⟩ | exact LoadOK.agg (vs := [_, _, _]) T.agg_44 6 rfl rfl ⟨rfl, rfl, rfl, trivial⟩ | exact LoadOK.agg (vs := [_, _, _]) T.agg_44 7 rfl rfl ⟨rfl, rfl, rfl, trivial⟩)
          | (apply G.pickT; exact rfl; exact rfl; exact rfl)
          | (apply G.pickF; exact rfl; exact rfl; exact rfl)
          | (apply G.lss; exact rfl; exact rfl; exact rfl)
          | (apply G.leq; exact rfl; exact rfl; exact rfl)
          | (apply G.gtr; exact rfl; exact rfl; exact rfl)
          | (apply G.eql; exact rfl; exact rfl; exact rfl)
          | (apply G.neq; exact rfl; exact rfl; exact rfl)
          | (apply G.add; exact rfl; exact rfl; exact rfl; first | exact IntWalk.i64_in _ (by omega) | exact IntWalk.u8_in _ (by omega) | exact IntWalk.u16_in _ (by omega) | exact IntWalk.u32_in _ (by omega) | exact IntWalk.u64_in _ (by omega))
          | (apply G.eqlB; exact rfl; exact T.boo_4; exact rfl; exact rfl)
          | (refine Goal.quiet rfl (Run.eqlP T.ptr_24 rfl rfl rfl) ?_)
          | (apply G.neqB; exact rfl; exact T.boo_4; exact rfl; exact rfl)
          | (refine Goal.quiet rfl (Run.neqP T.ptr_24 rfl rfl rfl) ?_)
          | (apply G.rem; exact rfl; exact rfl; exact rfl; (first | decide | omega); exact IntWalk.rem_in _ _ (by omega))
          | (apply G.conv; exact rfl; exact rfl; (first | exact T.int_3 | exact T.int_5); (first | exact T.int_3 | exact T.int_5); first | exact IntWalk.i64_in _ (by omega) | exact IntWalk.u8_in _ (by omega) | exact IntWalk.u16_in _ (by omega) | exact IntWalk.u32_in _ (by omega) | exact IntWalk.u64_in _ (by omega))
          | (apply G.notT; exact rfl; exact rfl)
          | (apply G.notF; exact rfl; exact rfl)
          | (refine G.notD rfl rfl ?_)
          | (apply G.notB; exact rfl; exact rfl)
          | (apply G.extract; exact rfl; exact rfl; exact rfl)
          | (apply G.len; exact rfl; exact rfl; exact T.slc_42)
          | (refine G.indexAddr rfl T.slc_42 T.sz_44 rfl rfl _ rfl (by omega) ?_)
          | (refine G.indexAddr rfl T.slc_42 T.sz_44 rfl rfl _ (Int.toNat_of_nonneg (by omega)).symm (by omega) ?_)
          | (refine Goal.loud rfl ?_; refine Loud.store0 rfl rfl T.sz_44 rfl rfl rfl (by first | exact Nat.le_refl _ | decide | (simp; omega)) rfl ?_)
          | (refine Goal.loud rfl ?_; refine Loud.store1 rfl rfl T.sz_44 rfl rfl rfl (by first | exact Nat.le_refl _ | decide | (simp; omega)) rfl ?_)
          | (refine Goal.loud rfl ?_; refine Loud.store2 rfl rfl T.sz_44 rfl rfl rfl (by first | exact Nat.le_refl _ | decide | (simp; omega)) rfl ?_)
          | (refine Goal.loud rfl ?_; refine Loud.store3 rfl rfl T.sz_44 rfl rfl rfl (by first | exact Nat.le_refl _ | decide | (simp; omega)) rfl ?_)
          | (refine Goal.loud rfl ?_; refine Loud.store4 rfl rfl T.sz_44 rfl rfl rfl (by first | exact Nat.le_refl _ | decide | (simp; omega)) rfl ?_)
          | (refine Goal.loud rfl ?_; refine Loud.store5 rfl rfl T.sz_44 rfl rfl rfl (by first | exact Nat.le_refl _ | decide | (simp; omega)) rfl ?_)
          | (refine Goal.loud rfl ?_; refine Loud.store6 rfl rfl T.sz_44 rfl rfl rfl (by first | exact Nat.le_refl _ | decide | (simp; omega)) rfl ?_)
          | (refine Goal.loud rfl ?_; refine Loud.store7 rfl rfl T.sz_44 rfl rfl rfl (by first | exact Nat.le_refl _ | decide | (simp; omega)) rfl ?_))
        refine Goal.done (vs := [_]) (by first | exact .inl rfl | exact .inr rfl) Try.results6 ⟨rfl, trivial⟩ rfl (fun w' H => ⟨rfl, H.mod⟩)
end Go.Proofs.Ytknkakaffjhlmaa
