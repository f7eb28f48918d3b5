/- The statement StagesApart: no node is Final again while another one is Old. -/
import Derived.Test.YtlnbogggaajfbaaStG
namespace Go.Proofs.Ytlnbogggaajfbaa
open Go.Wf
set_option linter.unusedVariables false
def pr (a : Int × Int) : List Value := [.int .i64 a.1, .int .i64 a.2]
theorem pr_len (a : Int × Int) : (pr a).length = 2 := rfl
def dd (ts : List (Int × Int)) (sp j : Int) : Int × Int := ((el ts j).1 % sp, (el ts j).2 % sp)
structure G1 where
  (i last : Int) (ss : List (Int × Int))
structure G2 where
  (k last : Int)
structure G6 where
  (i : Int) (ss : List (Int × Int)) (nt : List Int)
structure G4 where
  (now : Int) (ss : List (Int × Int)) (nt : List Int)
set_option maxHeartbeats 16000000 in
theorem law_apart (g0 h0 : Int) (hg0 : 0 ≤ g0 ∧ g0 ≤ 255) (hh0 : 0 ≤ h0 ∧ h0 ≤ 255) (ts : List (Int × Int)) (v : Value) (w : World) (hr : RdE w v 2 (ts.map fun a => [.int .u8 a.1, .int .u8 a.2])) (hq : ∀ a ∈ ts, (Lit.int .u8 a.1).wf = true ∧ (Lit.int .u8 a.2).wf = true) :
    Calls Try.prog 6 #[.int .u8 g0, .int .u8 h0, v] w fun e w' => e = .returned (.bool true) ∧ Mod [] w w' := by
  obtain ⟨ad, cap, rfl, hr'⟩ := id hr
  simp only [List.length_map] at hr ⊢
  by_cases hbig : 8 < ts.length
  · refine Goal.enter (args := [.int .u8 g0, .int .u8 h0, .slice ad ts.length cap]) Try.func6 rfl Try.ntmps6 rfl (St.nil w) ?_
    repeat' (first
      | (refine Goal.loud (o := ⟨some 21, _, _, _, _, _⟩) rfl ?_; apply Loud.call0; exact rfl; exact rfl; exact rfl; exact rfl; exact T.bod_9; exact (fun w H => awake_any w))
      | (refine Goal.loud (o := ⟨some 7, _, _, _, _, _⟩) rfl ?_; refine Loud.allocA rfl T.inf_32 (fun b7 => ?_))
      | (refine Goal.loud (o := ⟨some 42, _, _, _, _, _⟩) rfl ?_; first | refine Loud.makeSlice rfl T.slc_48 T.inf_27 rfl rfl (by decide) rfl rfl rfl rfl (by omega) (by omega) (by omega) (fun b42 => ?_) | refine Loud.makeSlice rfl T.slc_48 T.inf_27 rfl rfl (by decide) rfl rfl (Int.toNat_of_nonneg (by omega)).symm (Int.toNat_of_nonneg (by omega)).symm (by omega) (by omega) (by omega) (fun b42 => ?_))
      | (refine Goal.loud (o := ⟨some 45, _, _, _, _, _⟩) rfl ?_; first | refine Loud.makeSlice rfl T.slc_28 T.inf_3 rfl rfl (by decide) rfl rfl rfl rfl (by omega) (by omega) (by omega) (fun b45 => ?_) | refine Loud.makeSlice rfl T.slc_28 T.inf_3 rfl rfl (by decide) rfl rfl (Int.toNat_of_nonneg (by omega)).symm (Int.toNat_of_nonneg (by omega)).symm (by omega) (by omega) (by omega) (fun b45 => ?_))
      | (apply G.move; exact rfl; exact rfl)
      | (apply G.assign; exact rfl; exact rfl)
      | refine Goal.seq (fun _ _ => ?_)
      | refine Goal.next (by assumption) ?_
      | refine Goal.lnil ?_
      | refine Goal.region ?_
      | refine Goal.skip ?_
      | refine Goal.block ?_
      | refine Goal.exit ?_
      | refine Goal.ret ?_
      | refine Goal.then_exit ?_
      | refine Goal.then_ret ?_
      | refine Goal.inBlock_exit ?_
      | refine Goal.inBlock_normal ?_
      | refine Goal.inBlock_ret ?_
      | refine Goal.inBlock_other rfl ?_
      | (apply Goal.condT; exact rfl)
      | (apply Goal.condF; exact rfl)
      | (refine Goal.condD rfl (fun hc => ?_) (fun hc => ?_) <;> first | (exfalso; omega) | contradiction | skip)
      | refine Goal.condB rfl (fun hc => ?_) (fun hc => ?_)
      | refine Goal.guardT rfl rfl ?_
      | refine Goal.guardF rfl rfl rfl rfl ?_
      | refine Goal.guardU rfl rfl rfl ?_
      | (refine Goal.guardD rfl rfl (fun hc => ?_) (fun hc => ?_) <;> first | (exfalso; omega) | contradiction | skip)
      | refine Goal.guardB rfl rfl (fun hc => ?_) (fun hc => ?_)
      | (apply G.fieldAddr; exact rfl; exact rfl; (first | exact T.fld_27_0 | exact T.fld_32_0 | exact T.fld_32_1))
      | (apply G.load; exact rfl; exact rfl; first | exact LoadOK.one (by first | exact T.one_3 | exact T.one_5) 0 rfl rfl | exact LoadOK.one (by first | exact T.one_3 | exact T.one_5) 1 rfl rfl | exact LoadOK.one (by first | exact T.one_3 | exact T.one_5) 2 rfl rfl | exact LoadOK.one (by first | exact T.one_3 | exact T.one_5) 3 rfl rfl | exact LoadOK.one (by first | exact T.one_3 | exact T.one_5) 4 rfl rfl | exact LoadOK.one (by first | exact T.one_3 | exact T.one_5) 5 rfl rfl | exact LoadOK.one (by first | exact T.one_3 | exact T.one_5) 6 rfl rfl | exact LoadOK.one (by first | exact T.one_3 | exact T.one_5) 7 rfl rfl | exact LoadOK.agg (vs := [_, _]) T.agg_27 0 rfl rfl ⟨rfl, rfl, trivial⟩ | exact LoadOK.agg (vs := [_, _]) T.agg_27 1 rfl rfl ⟨rfl, rfl, trivial⟩ | exact LoadOK.agg (vs := [_, _]) T.agg_27 2 rfl rfl ⟨rfl, rfl, trivial⟩ | exact LoadOK.agg (vs := [_, _]) T.agg_27 3 rfl rfl ⟨rfl, rfl, trivial⟩ | exact LoadOK.agg (vs := [_, _]) T.agg_27 4 rfl rfl ⟨rfl, rfl, trivial⟩ | exact LoadOK.agg (vs := [_, _]) T.agg_27 5 rfl rfl ⟨rfl, rfl, trivial⟩ | exact LoadOK.agg (vs := [_, _]) T.agg_27 6 rfl rfl ⟨rfl, rfl, trivial⟩ | exact LoadOK.agg (vs := [_, _]) T.agg_27 7 rfl rfl ⟨rfl, rfl, trivial⟩ | exact LoadOK.agg (vs := [_, _]) T.agg_32 0 rfl rfl ⟨rfl, rfl, trivial⟩ | exact LoadOK.agg (vs := [_, _]) T.agg_32 1 rfl rfl ⟨rfl, rfl, trivial⟩ | exact LoadOK.agg (vs := [_, _]) T.agg_32 2 rfl rfl ⟨rfl, rfl, trivial⟩ | exact LoadOK.agg (vs := [_, _]) T.agg_32 3 rfl rfl ⟨rfl, rfl, trivial⟩ | exact LoadOK.agg (vs := [_, _]) T.agg_32 4 rfl rfl ⟨rfl, rfl, trivial⟩ | exact LoadOK.agg (vs := [_, _]) T.agg_32 5 rfl rfl ⟨rfl, rfl, trivial⟩ | exact LoadOK.agg (vs := [_, _]) T.agg_32 6 rfl rfl ⟨rfl, rfl, trivial⟩ | exact LoadOK.agg (vs := [_, _]) T.agg_32 7 rfl rfl ⟨rfl, rfl, trivial⟩)
      | (apply G.pickT; exact rfl; exact rfl; exact rfl)
      | (apply G.pickF; exact rfl; exact rfl; exact rfl)
      | (apply G.lss; exact rfl; exact rfl; exact rfl)
      | (apply G.gtr; exact rfl; exact rfl; exact rfl)
      | (apply G.eql; exact rfl; exact rfl; exact rfl)
      | (apply G.neq; exact rfl; exact rfl; exact rfl)
      | (apply G.add; exact rfl; exact rfl; exact rfl; first | exact IntWalk.i64_in _ (by omega) | exact IntWalk.u8_in _ (by omega) | exact IntWalk.u16_in _ (by omega) | exact IntWalk.u32_in _ (by omega) | exact IntWalk.u64_in _ (by omega))
      | (apply G.eqlI2; exact rfl; exact T.i2_27; exact rfl; exact rfl)
      | (apply G.neqI2; exact rfl; exact T.i2_27; exact rfl; exact rfl)
      | (apply G.rem; exact rfl; exact rfl; exact rfl; (first | decide | omega); exact IntWalk.rem_in _ _ (by omega))
      | (apply G.conv; exact rfl; exact rfl; (first | exact T.int_3 | exact T.int_5); (first | exact T.int_3 | exact T.int_5); first | exact IntWalk.i64_in _ (by omega) | exact IntWalk.u8_in _ (by omega) | exact IntWalk.u16_in _ (by omega) | exact IntWalk.u32_in _ (by omega) | exact IntWalk.u64_in _ (by omega))
      | (apply G.notT; exact rfl; exact rfl)
      | (apply G.notF; exact rfl; exact rfl)
      | (refine G.notD rfl rfl ?_)
      | (apply G.notB; exact rfl; exact rfl)
      | (apply G.extract; exact rfl; exact rfl; exact rfl)
      | (apply G.build (cs := [_, _]); exact rfl; exact T.lay_27; exact rfl; exact rfl)
      | (apply G.build (cs := [_, _]); exact rfl; exact T.lay_32; exact rfl; exact rfl)
      | (apply G.len; exact rfl; exact rfl; (first | exact T.slc_47 | exact T.slc_48))
      | (refine Goal.quiet rfl (Run.max2 rfl rfl) ?_)
      | (refine Goal.quiet rfl (Run.min2 rfl rfl) ?_)
      | (refine G.indexAddr1 rfl (by first | exact T.slc_28 | exact T.slc_47 | exact T.slc_48) (by first | exact T.sz_3 | exact T.sz_5) rfl rfl _ rfl (by omega) ?_)
      | (refine G.indexAddr1 rfl (by first | exact T.slc_28 | exact T.slc_47 | exact T.slc_48) (by first | exact T.sz_3 | exact T.sz_5) rfl rfl _ (Int.toNat_of_nonneg (by omega)).symm (by omega) ?_)
      | (refine G.indexAddr rfl (by first | exact T.slc_28 | exact T.slc_47 | exact T.slc_48) (by first | exact T.sz_27 | exact T.sz_49) rfl rfl _ rfl (by omega) ?_)
      | (refine G.indexAddr rfl (by first | exact T.slc_28 | exact T.slc_47 | exact T.slc_48) (by first | exact T.sz_27 | exact T.sz_49) rfl rfl _ (Int.toNat_of_nonneg (by omega)).symm (by omega) ?_)
      | (refine G.indexAddrA rfl T.arr_49 (by first | exact T.sz_3 | exact T.sz_5 | exact T.sz_27 | exact T.sz_49) rfl rfl _ rfl (by omega) ?_)
      | (refine G.indexAddrA rfl T.arr_49 (by first | exact T.sz_3 | exact T.sz_5 | exact T.sz_27 | exact T.sz_49) rfl rfl _ (Int.toNat_of_nonneg (by omega)).symm (by omega) ?_)
      | (refine Goal.loud rfl ?_; refine Loud.store0 rfl rfl (by first | exact T.sz_3 | exact T.sz_27 | exact T.sz_32) rfl rfl rfl (by first | exact Nat.le_refl _ | decide | (simp; omega)) rfl ?_)
      | (refine Goal.loud rfl ?_; refine Loud.store1 rfl rfl (by first | exact T.sz_3 | exact T.sz_27 | exact T.sz_32) rfl rfl rfl (by first | exact Nat.le_refl _ | decide | (simp; omega)) rfl ?_)
      | (refine Goal.loud rfl ?_; refine Loud.store2 rfl rfl (by first | exact T.sz_3 | exact T.sz_27 | exact T.sz_32) rfl rfl rfl (by first | exact Nat.le_refl _ | decide | (simp; omega)) rfl ?_)
      | (refine Goal.loud rfl ?_; refine Loud.store3 rfl rfl (by first | exact T.sz_3 | exact T.sz_27 | exact T.sz_32) rfl rfl rfl (by first | exact Nat.le_refl _ | decide | (simp; omega)) rfl ?_)
      | (refine Goal.loud rfl ?_; refine Loud.store4 rfl rfl (by first | exact T.sz_3 | exact T.sz_27 | exact T.sz_32) rfl rfl rfl (by first | exact Nat.le_refl _ | decide | (simp; omega)) rfl ?_)
      | (refine Goal.loud rfl ?_; refine Loud.store5 rfl rfl (by first | exact T.sz_3 | exact T.sz_27 | exact T.sz_32) rfl rfl rfl (by first | exact Nat.le_refl _ | decide | (simp; omega)) rfl ?_)
      | (refine Goal.loud rfl ?_; refine Loud.store6 rfl rfl (by first | exact T.sz_3 | exact T.sz_27 | exact T.sz_32) rfl rfl rfl (by first | exact Nat.le_refl _ | decide | (simp; omega)) rfl ?_)
      | (refine Goal.loud rfl ?_; refine Loud.store7 rfl rfl (by first | exact T.sz_3 | exact T.sz_27 | exact T.sz_32) rfl rfl rfl (by first | exact Nat.le_refl _ | decide | (simp; omega)) rfl ?_))
    all_goals
      refine Goal.done (vs := [_]) (by first | exact .inl rfl | exact .inr rfl) Try.results6 ⟨rfl, trivial⟩ rfl (fun w' H => ⟨rfl, H.mod⟩)
  · refine Goal.enter (args := [.int .u8 g0, .int .u8 h0, .slice ad ts.length cap]) Try.func6 rfl Try.ntmps6 rfl (St.nil w) ?_
    repeat' (first
      | (refine Goal.loud (o := ⟨some 21, _, _, _, _, _⟩) rfl ?_; apply Loud.call0; exact rfl; exact rfl; exact rfl; exact rfl; exact T.bod_9; exact (fun w H => awake_any w))
      | (refine Goal.loud (o := ⟨some 7, _, _, _, _, _⟩) rfl ?_; refine Loud.allocA rfl T.inf_32 (fun b7 => ?_))
      | (refine Goal.loud (o := ⟨some 42, _, _, _, _, _⟩) rfl ?_; first | refine Loud.makeSlice rfl T.slc_48 T.inf_27 rfl rfl (by decide) rfl rfl rfl rfl (by omega) (by omega) (by omega) (fun b42 => ?_) | refine Loud.makeSlice rfl T.slc_48 T.inf_27 rfl rfl (by decide) rfl rfl (Int.toNat_of_nonneg (by omega)).symm (Int.toNat_of_nonneg (by omega)).symm (by omega) (by omega) (by omega) (fun b42 => ?_))
      | (refine Goal.loud (o := ⟨some 45, _, _, _, _, _⟩) rfl ?_; first | refine Loud.makeSlice rfl T.slc_28 T.inf_3 rfl rfl (by decide) rfl rfl rfl rfl (by omega) (by omega) (by omega) (fun b45 => ?_) | refine Loud.makeSlice rfl T.slc_28 T.inf_3 rfl rfl (by decide) rfl rfl (Int.toNat_of_nonneg (by omega)).symm (Int.toNat_of_nonneg (by omega)).symm (by omega) (by omega) (by omega) (fun b45 => ?_))
      | (apply G.move; exact rfl; exact rfl)
      | (apply G.assign; exact rfl; exact rfl)
      | refine Goal.seq (fun _ _ => ?_)
      | refine Goal.next (by assumption) ?_
      | refine Goal.lnil ?_
      | refine Goal.region ?_
      | refine Goal.skip ?_
      | refine Goal.block ?_
      | refine Goal.exit ?_
      | refine Goal.ret ?_
      | refine Goal.then_exit ?_
      | refine Goal.then_ret ?_
      | refine Goal.inBlock_exit ?_
      | refine Goal.inBlock_normal ?_
      | refine Goal.inBlock_ret ?_
      | refine Goal.inBlock_other rfl ?_
      | (apply Goal.condT; exact rfl)
      | (apply Goal.condF; exact rfl)
      | (refine Goal.condD rfl (fun hc => ?_) (fun hc => ?_) <;> first | (exfalso; omega) | contradiction | skip)
      | refine Goal.condB rfl (fun hc => ?_) (fun hc => ?_)
      | refine Goal.guardT rfl rfl ?_
      | refine Goal.guardF rfl rfl rfl rfl ?_
      | refine Goal.guardU rfl rfl rfl ?_
      | (refine Goal.guardD rfl rfl (fun hc => ?_) (fun hc => ?_) <;> first | (exfalso; omega) | contradiction | skip)
      | refine Goal.guardB rfl rfl (fun hc => ?_) (fun hc => ?_)
      | (apply G.fieldAddr; exact rfl; exact rfl; (first | exact T.fld_27_0 | exact T.fld_32_0 | exact T.fld_32_1))
      | (apply G.load; exact rfl; exact rfl; first | exact LoadOK.one (by first | exact T.one_3 | exact T.one_5) 0 rfl rfl | exact LoadOK.one (by first | exact T.one_3 | exact T.one_5) 1 rfl rfl | exact LoadOK.one (by first | exact T.one_3 | exact T.one_5) 2 rfl rfl | exact LoadOK.one (by first | exact T.one_3 | exact T.one_5) 3 rfl rfl | exact LoadOK.one (by first | exact T.one_3 | exact T.one_5) 4 rfl rfl | exact LoadOK.one (by first | exact T.one_3 | exact T.one_5) 5 rfl rfl | exact LoadOK.one (by first | exact T.one_3 | exact T.one_5) 6 rfl rfl | exact LoadOK.one (by first | exact T.one_3 | exact T.one_5) 7 rfl rfl | exact LoadOK.agg (vs := [_, _]) T.agg_27 0 rfl rfl ⟨rfl, rfl, trivial⟩ | exact LoadOK.agg (vs := [_, _]) T.agg_27 1 rfl rfl ⟨rfl, rfl, trivial⟩ | exact LoadOK.agg (vs := [_, _]) T.agg_27 2 rfl rfl ⟨rfl, rfl, trivial⟩ | exact LoadOK.agg (vs := [_, _]) T.agg_27 3 rfl rfl ⟨rfl, rfl, trivial⟩ | exact LoadOK.agg (vs := [_, _]) T.agg_27 4 rfl rfl ⟨rfl, rfl, trivial⟩ | exact LoadOK.agg (vs := [_, _]) T.agg_27 5 rfl rfl ⟨rfl, rfl, trivial⟩ | exact LoadOK.agg (vs := [_, _]) T.agg_27 6 rfl rfl ⟨rfl, rfl, trivial⟩ | exact LoadOK.agg (vs := [_, _]) T.agg_27 7 rfl rfl ⟨rfl, rfl, trivial⟩ | exact LoadOK.agg (vs := [_, _]) T.agg_32 0 rfl rfl ⟨rfl, rfl, trivial⟩ | exact LoadOK.agg (vs := [_, _]) T.agg_32 1 rfl rfl ⟨rfl, rfl, trivial⟩ | exact LoadOK.agg (vs := [_, _]) T.agg_32 2 rfl rfl ⟨rfl, rfl, trivial⟩ | exact LoadOK.agg (vs := [_, _]) T.agg_32 3 rfl rfl ⟨rfl, rfl, trivial⟩ | exact LoadOK.agg (vs := [_, _]) T.agg_32 4 rfl rfl ⟨rfl, rfl, trivial⟩ | exact LoadOK.agg (vs := [_, _]) T.agg_32 5 rfl rfl ⟨rfl, rfl, trivial⟩ | exact LoadOK.agg (vs := [_, _]) T.agg_32 6 rfl rfl ⟨rfl, rfl, trivial⟩ | exact LoadOK.agg (vs := [_, _]) T.agg_32 7 rfl rfl ⟨rfl, rfl, trivial⟩)
      | (apply G.pickT; exact rfl; exact rfl; exact rfl)
      | (apply G.pickF; exact rfl; exact rfl; exact rfl)
      | (apply G.lss; exact rfl; exact rfl; exact rfl)
      | (apply G.gtr; exact rfl; exact rfl; exact rfl)
      | (apply G.eql; exact rfl; exact rfl; exact rfl)
      | (apply G.neq; exact rfl; exact rfl; exact rfl)
      | (apply G.add; exact rfl; exact rfl; exact rfl; first | exact IntWalk.i64_in _ (by omega) | exact IntWalk.u8_in _ (by omega) | exact IntWalk.u16_in _ (by omega) | exact IntWalk.u32_in _ (by omega) | exact IntWalk.u64_in _ (by omega))
      | (apply G.eqlI2; exact rfl; exact T.i2_27; exact rfl; exact rfl)
      | (apply G.neqI2; exact rfl; exact T.i2_27; exact rfl; exact rfl)
      | (apply G.rem; exact rfl; exact rfl; exact rfl; (first | decide | omega); exact IntWalk.rem_in _ _ (by omega))
      | (apply G.conv; exact rfl; exact rfl; (first | exact T.int_3 | exact T.int_5); (first | exact T.int_3 | exact T.int_5); first | exact IntWalk.i64_in _ (by omega) | exact IntWalk.u8_in _ (by omega) | exact IntWalk.u16_in _ (by omega) | exact IntWalk.u32_in _ (by omega) | exact IntWalk.u64_in _ (by omega))
      | (apply G.notT; exact rfl; exact rfl)
      | (apply G.notF; exact rfl; exact rfl)
      | (refine G.notD rfl rfl ?_)
      | (apply G.notB; exact rfl; exact rfl)
      | (apply G.extract; exact rfl; exact rfl; exact rfl)
      | (apply G.build (cs := [_, _]); exact rfl; exact T.lay_27; exact rfl; exact rfl)
      | (apply G.build (cs := [_, _]); exact rfl; exact T.lay_32; exact rfl; exact rfl)
      | (apply G.len; exact rfl; exact rfl; (first | exact T.slc_47 | exact T.slc_48))
      | (refine Goal.quiet rfl (Run.max2 rfl rfl) ?_)
      | (refine Goal.quiet rfl (Run.min2 rfl rfl) ?_)
      | (refine G.indexAddr1 rfl (by first | exact T.slc_28 | exact T.slc_47 | exact T.slc_48) (by first | exact T.sz_3 | exact T.sz_5) rfl rfl _ rfl (by omega) ?_)
      | (refine G.indexAddr1 rfl (by first | exact T.slc_28 | exact T.slc_47 | exact T.slc_48) (by first | exact T.sz_3 | exact T.sz_5) rfl rfl _ (Int.toNat_of_nonneg (by omega)).symm (by omega) ?_)
      | (refine G.indexAddr rfl (by first | exact T.slc_28 | exact T.slc_47 | exact T.slc_48) (by first | exact T.sz_27 | exact T.sz_49) rfl rfl _ rfl (by omega) ?_)
      | (refine G.indexAddr rfl (by first | exact T.slc_28 | exact T.slc_47 | exact T.slc_48) (by first | exact T.sz_27 | exact T.sz_49) rfl rfl _ (Int.toNat_of_nonneg (by omega)).symm (by omega) ?_)
      | (refine G.indexAddrA rfl T.arr_49 (by first | exact T.sz_3 | exact T.sz_5 | exact T.sz_27 | exact T.sz_49) rfl rfl _ rfl (by omega) ?_)
      | (refine G.indexAddrA rfl T.arr_49 (by first | exact T.sz_3 | exact T.sz_5 | exact T.sz_27 | exact T.sz_49) rfl rfl _ (Int.toNat_of_nonneg (by omega)).symm (by omega) ?_)
      | (refine Goal.loud rfl ?_; refine Loud.store0 rfl rfl (by first | exact T.sz_3 | exact T.sz_27 | exact T.sz_32) rfl rfl rfl (by first | exact Nat.le_refl _ | decide | (simp; omega)) rfl ?_)
      | (refine Goal.loud rfl ?_; refine Loud.store1 rfl rfl (by first | exact T.sz_3 | exact T.sz_27 | exact T.sz_32) rfl rfl rfl (by first | exact Nat.le_refl _ | decide | (simp; omega)) rfl ?_)
      | (refine Goal.loud rfl ?_; refine Loud.store2 rfl rfl (by first | exact T.sz_3 | exact T.sz_27 | exact T.sz_32) rfl rfl rfl (by first | exact Nat.le_refl _ | decide | (simp; omega)) rfl ?_)
      | (refine Goal.loud rfl ?_; refine Loud.store3 rfl rfl (by first | exact T.sz_3 | exact T.sz_27 | exact T.sz_32) rfl rfl rfl (by first | exact Nat.le_refl _ | decide | (simp; omega)) rfl ?_)
      | (refine Goal.loud rfl ?_; refine Loud.store4 rfl rfl (by first | exact T.sz_3 | exact T.sz_27 | exact T.sz_32) rfl rfl rfl (by first | exact Nat.le_refl _ | decide | (simp; omega)) rfl ?_)
      | (refine Goal.loud rfl ?_; refine Loud.store5 rfl rfl (by first | exact T.sz_3 | exact T.sz_27 | exact T.sz_32) rfl rfl rfl (by first | exact Nat.le_refl _ | decide | (simp; omega)) rfl ?_)
      | (refine Goal.loud rfl ?_; refine Loud.store6 rfl rfl (by first | exact T.sz_3 | exact T.sz_27 | exact T.sz_32) rfl rfl rfl (by first | exact Nat.le_refl _ | decide | (simp; omega)) rfl ?_)
      | (refine Goal.loud rfl ?_; refine Loud.store7 rfl rfl (by first | exact T.sz_3 | exact T.sz_27 | exact T.sz_32) rfl rfl rfl (by first | exact Nat.le_refl _ | decide | (simp; omega)) rfl ?_))
    have hG : 2 ≤ 2 + g0 % 20 ∧ 2 + g0 % 20 ≤ 21 := by omega
    have hH : 2 ≤ 2 + h0 % 20 ∧ 2 + h0 % 20 ≤ 21 := by omega
    generalize 2 + g0 % 20 = Ga at hG ⊢
    generalize 2 + h0 % 20 = Ho at hH ⊢
    have hsp : 2 ≤ min Ga Ho ∧ min Ga Ho ≤ Ga ∧ min Ga Ho ≤ Ho := by omega
    generalize min Ga Ho = sp at hsp ⊢
    have hf : ∀ a, (pr a).length = 2 := pr_len
    have hD : ∀ j : Int, (0 ≤ (dd ts sp j).1 ∧ (dd ts sp j).1 < sp) ∧ (0 ≤ (dd ts sp j).2 ∧ (dd ts sp j).2 < sp) := fun j => ⟨⟨Int.emod_nonneg _ (by omega), Int.emod_lt_of_pos _ (by omega)⟩, Int.emod_nonneg _ (by omega), Int.emod_lt_of_pos _ (by omega)⟩
    have hB : ∀ j : Int, 0 ≤ j → j < ts.length → (0 ≤ (el ts j).1 ∧ (el ts j).1 ≤ 255) ∧ (0 ≤ (el ts j).2 ∧ (el ts j).2 ≤ 255) := fun j j0 j1 => ⟨bounds_u8 (hq _ (el_mem ⟨j0, j1⟩)).1, bounds_u8 (hq _ (el_mem ⟨j0, j1⟩)).2⟩
    refine Goal.loopP (X := G1) (fun x => [(2, .slice ad ts.length cap), (7, .pointer (some ⟨b7, 0, none⟩)), (8, .int .i64 sp), (9, .slice (some ⟨b42, 0, none⟩) ts.length ts.length), (10, .slice (some ⟨b45, 0, none⟩) ts.length ts.length), (11, .int .i64 x.last), (12, .int .i64 x.i)]) (fun x => [(b45, .cells (ints (List.replicate ts.length 0)).toArray 3), (b42, .cells (Els pr x.ss).toArray 27), (b7, .cells #[.int .i64 Ga, .int .i64 Ho] 32)])
      (fun x => (0 ≤ x.i ∧ x.i ≤ ts.length) ∧ (0 ≤ x.last ∧ x.last < sp) ∧ x.ss.length = ts.length ∧ ∀ j : Int, 0 ≤ j → j < x.i → el x.ss j = (3, 0)) (fun x => (ts.length - x.i).toNat) ⟨0, 0, List.replicate ts.length (0, 0)⟩ ⟨rfl, rfl, rfl, rfl, rfl, rfl, rfl, trivial⟩ (fun _ h => by rw [← rep_ints, ← rep_els]; exact h)
      ⟨by dsimp only; omega, by dsimp only; omega, by simp, fun j j0 j1 => by dsimp only at j1; omega⟩ ?_
    rintro ⟨i, last, ss⟩ ⟨hi, hl, hs, he⟩
    dsimp only at hi hl hs he ⊢
    by_cases hlt : i < ts.length
    · obtain ⟨bt, ot, rfl, hk⟩ := rd_els hr (by omega)
      have hBi := hB i hi.1 hlt
      repeat' (first
        | (refine Goal.loud (o := ⟨some 54, _, _, _, _, _⟩) rfl ?_; apply Loud.call0; exact rfl; exact rfl; exact rfl; exact rfl; exact T.bod_15; exact (fun w H => start_any w))
        | (refine Goal.loud (o := ⟨some 7, _, _, _, _, _⟩) rfl ?_; refine Loud.allocA rfl T.inf_32 (fun b7 => ?_))
        | (refine Goal.loud (o := ⟨some 42, _, _, _, _, _⟩) rfl ?_; first | refine Loud.makeSlice rfl T.slc_48 T.inf_27 rfl rfl (by decide) rfl rfl rfl rfl (by omega) (by omega) (by omega) (fun b42 => ?_) | refine Loud.makeSlice rfl T.slc_48 T.inf_27 rfl rfl (by decide) rfl rfl (Int.toNat_of_nonneg (by omega)).symm (Int.toNat_of_nonneg (by omega)).symm (by omega) (by omega) (by omega) (fun b42 => ?_))
        | (refine Goal.loud (o := ⟨some 45, _, _, _, _, _⟩) rfl ?_; first | refine Loud.makeSlice rfl T.slc_28 T.inf_3 rfl rfl (by decide) rfl rfl rfl rfl (by omega) (by omega) (by omega) (fun b45 => ?_) | refine Loud.makeSlice rfl T.slc_28 T.inf_3 rfl rfl (by decide) rfl rfl (Int.toNat_of_nonneg (by omega)).symm (Int.toNat_of_nonneg (by omega)).symm (by omega) (by omega) (by omega) (fun b45 => ?_))
        | (apply G.move; exact rfl; exact rfl)
        | (apply G.assign; exact rfl; exact rfl)
        | refine Goal.seq (fun _ _ => ?_)
        | refine Goal.next (by assumption) ?_
        | refine Goal.lnil ?_
        | refine Goal.region ?_
        | refine Goal.skip ?_
        | refine Goal.block ?_
        | refine Goal.exit ?_
        | refine Goal.ret ?_
        | refine Goal.then_exit ?_
        | refine Goal.then_ret ?_
        | refine Goal.inBlock_exit ?_
        | refine Goal.inBlock_normal ?_
        | refine Goal.inBlock_ret ?_
        | refine Goal.inBlock_other rfl ?_
        | (apply Goal.condT; exact rfl)
        | (apply Goal.condF; exact rfl)
        | (refine Goal.condD rfl (fun hc => ?_) (fun hc => ?_) <;> first | (exfalso; omega) | contradiction | skip)
        | refine Goal.condB rfl (fun hc => ?_) (fun hc => ?_)
        | refine Goal.guardT rfl rfl ?_
        | refine Goal.guardF rfl rfl rfl rfl ?_
        | refine Goal.guardU rfl rfl rfl ?_
        | (refine Goal.guardD rfl rfl (fun hc => ?_) (fun hc => ?_) <;> first | (exfalso; omega) | contradiction | skip)
        | refine Goal.guardB rfl rfl (fun hc => ?_) (fun hc => ?_)
        | (apply G.fieldAddr; exact rfl; exact rfl; (first | exact T.fld_27_0 | exact T.fld_32_0 | exact T.fld_32_1))
        | (apply G.load; exact rfl; exact rfl; first | exact LoadOK.one (by first | exact T.one_3 | exact T.one_5) 0 rfl rfl | exact LoadOK.one (by first | exact T.one_3 | exact T.one_5) 1 rfl rfl | exact LoadOK.one (by first | exact T.one_3 | exact T.one_5) 2 rfl rfl | exact LoadOK.one (by first | exact T.one_3 | exact T.one_5) 3 rfl rfl | exact LoadOK.one (by first | exact T.one_3 | exact T.one_5) 4 rfl rfl | exact LoadOK.one (by first | exact T.one_3 | exact T.one_5) 5 rfl rfl | exact LoadOK.one (by first | exact T.one_3 | exact T.one_5) 6 rfl rfl | exact LoadOK.one (by first | exact T.one_3 | exact T.one_5) 7 rfl rfl | exact LoadOK.agg (vs := [_, _]) T.agg_27 0 rfl rfl ⟨rfl, rfl, trivial⟩ | exact LoadOK.agg (vs := [_, _]) T.agg_27 1 rfl rfl ⟨rfl, rfl, trivial⟩ | exact LoadOK.agg (vs := [_, _]) T.agg_27 2 rfl rfl ⟨rfl, rfl, trivial⟩ | exact LoadOK.agg (vs := [_, _]) T.agg_27 3 rfl rfl ⟨rfl, rfl, trivial⟩ | exact LoadOK.agg (vs := [_, _]) T.agg_27 4 rfl rfl ⟨rfl, rfl, trivial⟩ | exact LoadOK.agg (vs := [_, _]) T.agg_27 5 rfl rfl ⟨rfl, rfl, trivial⟩ | exact LoadOK.agg (vs := [_, _]) T.agg_27 6 rfl rfl ⟨rfl, rfl, trivial⟩ | exact LoadOK.agg (vs := [_, _]) T.agg_27 7 rfl rfl ⟨rfl, rfl, trivial⟩ | exact LoadOK.agg (vs := [_, _]) T.agg_32 0 rfl rfl ⟨rfl, rfl, trivial⟩ | exact LoadOK.agg (vs := [_, _]) T.agg_32 1 rfl rfl ⟨rfl, rfl, trivial⟩ | exact LoadOK.agg (vs := [_, _]) T.agg_32 2 rfl rfl ⟨rfl, rfl, trivial⟩ | exact LoadOK.agg (vs := [_, _]) T.agg_32 3 rfl rfl ⟨rfl, rfl, trivial⟩ | exact LoadOK.agg (vs := [_, _]) T.agg_32 4 rfl rfl ⟨rfl, rfl, trivial⟩ | exact LoadOK.agg (vs := [_, _]) T.agg_32 5 rfl rfl ⟨rfl, rfl, trivial⟩ | exact LoadOK.agg (vs := [_, _]) T.agg_32 6 rfl rfl ⟨rfl, rfl, trivial⟩ | exact LoadOK.agg (vs := [_, _]) T.agg_32 7 rfl rfl ⟨rfl, rfl, trivial⟩)
        | (apply G.pickT; exact rfl; exact rfl; exact rfl)
        | (apply G.pickF; exact rfl; exact rfl; exact rfl)
        | (apply G.lss; exact rfl; exact rfl; exact rfl)
        | (apply G.gtr; exact rfl; exact rfl; exact rfl)
        | (apply G.eql; exact rfl; exact rfl; exact rfl)
        | (apply G.neq; exact rfl; exact rfl; exact rfl)
        | (apply G.add; exact rfl; exact rfl; exact rfl; first | exact IntWalk.i64_in _ (by omega) | exact IntWalk.u8_in _ (by omega) | exact IntWalk.u16_in _ (by omega) | exact IntWalk.u32_in _ (by omega) | exact IntWalk.u64_in _ (by omega))
        | (apply G.eqlI2; exact rfl; exact T.i2_27; exact rfl; exact rfl)
        | (apply G.neqI2; exact rfl; exact T.i2_27; exact rfl; exact rfl)
        | (apply G.rem; exact rfl; exact rfl; exact rfl; (first | decide | omega); exact IntWalk.rem_in _ _ (by omega))
        | (apply G.conv; exact rfl; exact rfl; (first | exact T.int_3 | exact T.int_5); (first | exact T.int_3 | exact T.int_5); first | exact IntWalk.i64_in _ (by omega) | exact IntWalk.u8_in _ (by omega) | exact IntWalk.u16_in _ (by omega) | exact IntWalk.u32_in _ (by omega) | exact IntWalk.u64_in _ (by omega))
        | (apply G.notT; exact rfl; exact rfl)
        | (apply G.notF; exact rfl; exact rfl)
        | (refine G.notD rfl rfl ?_)
        | (apply G.notB; exact rfl; exact rfl)
        | (apply G.extract; exact rfl; exact rfl; exact rfl)
        | (apply G.build (cs := [_, _]); exact rfl; exact T.lay_27; exact rfl; exact rfl)
        | (apply G.build (cs := [_, _]); exact rfl; exact T.lay_32; exact rfl; exact rfl)
        | (apply G.len; exact rfl; exact rfl; (first | exact T.slc_47 | exact T.slc_48))
        | (refine Goal.quiet rfl (Run.max2 rfl rfl) ?_)
        | (refine Goal.quiet rfl (Run.min2 rfl rfl) ?_)
        | (refine G.indexAddr1 rfl (by first | exact T.slc_28 | exact T.slc_47 | exact T.slc_48) (by first | exact T.sz_3 | exact T.sz_5) rfl rfl _ rfl (by omega) ?_)
        | (refine G.indexAddr1 rfl (by first | exact T.slc_28 | exact T.slc_47 | exact T.slc_48) (by first | exact T.sz_3 | exact T.sz_5) rfl rfl _ (Int.toNat_of_nonneg (by omega)).symm (by omega) ?_)
        | (refine G.indexAddr rfl (by first | exact T.slc_28 | exact T.slc_47 | exact T.slc_48) (by first | exact T.sz_27 | exact T.sz_49) rfl rfl _ rfl (by omega) ?_)
        | (refine G.indexAddr rfl (by first | exact T.slc_28 | exact T.slc_47 | exact T.slc_48) (by first | exact T.sz_27 | exact T.sz_49) rfl rfl _ (Int.toNat_of_nonneg (by omega)).symm (by omega) ?_)
        | (refine G.indexAddrA rfl T.arr_49 (by first | exact T.sz_3 | exact T.sz_5 | exact T.sz_27 | exact T.sz_49) rfl rfl _ rfl (by omega) ?_)
        | (refine G.indexAddrA rfl T.arr_49 (by first | exact T.sz_3 | exact T.sz_5 | exact T.sz_27 | exact T.sz_49) rfl rfl _ (Int.toNat_of_nonneg (by omega)).symm (by omega) ?_)
        | (refine Goal.loud rfl ?_; refine Loud.store1 rfl rfl T.sz_3 rfl rfl rfl (by rw [List.size_toArray, Els_len hf]; omega) (wr_el (x := (3, 0)) hf (by omega)) ?_)
        | (refine Goal.loud rfl ?_; refine Loud.store1 rfl rfl T.sz_27 rfl rfl rfl (by rw [List.size_toArray, Els_len hf]; omega) (wr_el (x := (3, 0)) hf (by omega)) ?_)
        | (refine Goal.loud rfl ?_; refine Loud.store1 rfl rfl T.sz_32 rfl rfl rfl (by rw [List.size_toArray, Els_len hf]; omega) (wr_el (x := (3, 0)) hf (by omega)) ?_)
        | (refine Goal.loud rfl ?_; refine Loud.store0 rfl rfl (by first | exact T.sz_3 | exact T.sz_27 | exact T.sz_32) rfl rfl rfl (by first | exact Nat.le_refl _ | decide | (simp; omega)) rfl ?_)
        | (refine Goal.loud rfl ?_; refine Loud.store1 rfl rfl (by first | exact T.sz_3 | exact T.sz_27 | exact T.sz_32) rfl rfl rfl (by first | exact Nat.le_refl _ | decide | (simp; omega)) rfl ?_)
        | (refine Goal.loud rfl ?_; refine Loud.store2 rfl rfl (by first | exact T.sz_3 | exact T.sz_27 | exact T.sz_32) rfl rfl rfl (by first | exact Nat.le_refl _ | decide | (simp; omega)) rfl ?_)
        | (refine Goal.loud rfl ?_; refine Loud.store3 rfl rfl (by first | exact T.sz_3 | exact T.sz_27 | exact T.sz_32) rfl rfl rfl (by first | exact Nat.le_refl _ | decide | (simp; omega)) rfl ?_)
        | (refine Goal.loud rfl ?_; refine Loud.store4 rfl rfl (by first | exact T.sz_3 | exact T.sz_27 | exact T.sz_32) rfl rfl rfl (by first | exact Nat.le_refl _ | decide | (simp; omega)) rfl ?_)
        | (refine Goal.loud rfl ?_; refine Loud.store5 rfl rfl (by first | exact T.sz_3 | exact T.sz_27 | exact T.sz_32) rfl rfl rfl (by first | exact Nat.le_refl _ | decide | (simp; omega)) rfl ?_)
        | (refine Goal.loud rfl ?_; refine Loud.store6 rfl rfl (by first | exact T.sz_3 | exact T.sz_27 | exact T.sz_32) rfl rfl rfl (by first | exact Nat.le_refl _ | decide | (simp; omega)) rfl ?_)
        | (refine Goal.loud rfl ?_; refine Loud.store7 rfl rfl (by first | exact T.sz_3 | exact T.sz_27 | exact T.sz_32) rfl rfl rfl (by first | exact Nat.le_refl _ | decide | (simp; omega)) rfl ?_))
      refine Goal.loopP (X := G2) (fun x => [(2, .slice (some ⟨bt, ot, none⟩) ts.length cap), (7, .pointer (some ⟨b7, 0, none⟩)), (8, .int .i64 sp), (9, .slice (some ⟨b42, 0, none⟩) ts.length ts.length), (10, .slice (some ⟨b45, 0, none⟩) ts.length ts.length), (11, .int .i64 x.last), (12, .int .i64 i), (13, .int .i64 x.k)]) (fun x => [(b45, .cells (ints (List.replicate ts.length 0)).toArray 3), (b42, .cells (Els pr (ss.set i.toNat (3, 0))).toArray 27), (b7, .cells #[.int .i64 Ga, .int .i64 Ho] 32)])
        (fun x => (0 ≤ x.k ∧ x.k ≤ 2) ∧ (0 ≤ x.last ∧ x.last < sp)) (fun x => (2 - x.k).toNat) ⟨0, last⟩ ⟨rfl, rfl, rfl, rfl, rfl, rfl, rfl, rfl, trivial⟩ (fun _ h => h)
        ⟨by dsimp only; omega, hl⟩ ?_
      rintro ⟨k, l2⟩ ⟨hk2, hl2⟩
      dsimp only at hk2 hl2 ⊢
      have hDi := hD i
      unfold dd at hDi
      dsimp only at hDi
      rcases (by omega : k = 0 ∨ k = 1 ∨ k = 2) with rfl | rfl | rfl
      · skip
        repeat' (first
          | (refine Goal.loud (o := ⟨some 7, _, _, _, _, _⟩) rfl ?_; refine Loud.allocA rfl T.inf_32 (fun b7 => ?_))
          | (refine Goal.loud (o := ⟨some 42, _, _, _, _, _⟩) rfl ?_; first | refine Loud.makeSlice rfl T.slc_48 T.inf_27 rfl rfl (by decide) rfl rfl rfl rfl (by omega) (by omega) (by omega) (fun b42 => ?_) | refine Loud.makeSlice rfl T.slc_48 T.inf_27 rfl rfl (by decide) rfl rfl (Int.toNat_of_nonneg (by omega)).symm (Int.toNat_of_nonneg (by omega)).symm (by omega) (by omega) (by omega) (fun b42 => ?_))
          | (refine Goal.loud (o := ⟨some 45, _, _, _, _, _⟩) rfl ?_; first | refine Loud.makeSlice rfl T.slc_28 T.inf_3 rfl rfl (by decide) rfl rfl rfl rfl (by omega) (by omega) (by omega) (fun b45 => ?_) | refine Loud.makeSlice rfl T.slc_28 T.inf_3 rfl rfl (by decide) rfl rfl (Int.toNat_of_nonneg (by omega)).symm (Int.toNat_of_nonneg (by omega)).symm (by omega) (by omega) (by omega) (fun b45 => ?_))
          | (apply G.move; exact rfl; exact rfl)
          | (apply G.assign; exact rfl; exact rfl)
          | refine Goal.seq (fun _ _ => ?_)
          | refine Goal.next (by assumption) ?_
          | refine Goal.lnil ?_
          | refine Goal.region ?_
          | refine Goal.skip ?_
          | refine Goal.block ?_
          | refine Goal.exit ?_
          | refine Goal.ret ?_
          | refine Goal.then_exit ?_
          | refine Goal.then_ret ?_
          | refine Goal.inBlock_exit ?_
          | refine Goal.inBlock_normal ?_
          | refine Goal.inBlock_ret ?_
          | refine Goal.inBlock_other rfl ?_
          | (apply Goal.condT; exact rfl)
          | (apply Goal.condF; exact rfl)
          | (refine Goal.condD rfl (fun hc => ?_) (fun hc => ?_) <;> first | (exfalso; omega) | contradiction | skip)
          | refine Goal.condB rfl (fun hc => ?_) (fun hc => ?_)
          | refine Goal.guardT rfl rfl ?_
          | refine Goal.guardF rfl rfl rfl rfl ?_
          | refine Goal.guardU rfl rfl rfl ?_
          | (refine Goal.guardD rfl rfl (fun hc => ?_) (fun hc => ?_) <;> first | (exfalso; omega) | contradiction | skip)
          | refine Goal.guardB rfl rfl (fun hc => ?_) (fun hc => ?_)
          | (apply G.fieldAddr; exact rfl; exact rfl; (first | exact T.fld_27_0 | exact T.fld_32_0 | exact T.fld_32_1))
          | (apply G.load; exact rfl; exact rfl; first | exact LoadOK.old T.one_5 (hk i hi.1 hlt 0 _ rfl) (by simp) | exact LoadOK.one (by first | exact T.one_3 | exact T.one_5) 0 rfl rfl | exact LoadOK.one (by first | exact T.one_3 | exact T.one_5) 1 rfl rfl | exact LoadOK.one (by first | exact T.one_3 | exact T.one_5) 2 rfl rfl | exact LoadOK.one (by first | exact T.one_3 | exact T.one_5) 3 rfl rfl | exact LoadOK.one (by first | exact T.one_3 | exact T.one_5) 4 rfl rfl | exact LoadOK.one (by first | exact T.one_3 | exact T.one_5) 5 rfl rfl | exact LoadOK.one (by first | exact T.one_3 | exact T.one_5) 6 rfl rfl | exact LoadOK.one (by first | exact T.one_3 | exact T.one_5) 7 rfl rfl | exact LoadOK.agg (vs := [_, _]) T.agg_27 0 rfl rfl ⟨rfl, rfl, trivial⟩ | exact LoadOK.agg (vs := [_, _]) T.agg_27 1 rfl rfl ⟨rfl, rfl, trivial⟩ | exact LoadOK.agg (vs := [_, _]) T.agg_27 2 rfl rfl ⟨rfl, rfl, trivial⟩ | exact LoadOK.agg (vs := [_, _]) T.agg_27 3 rfl rfl ⟨rfl, rfl, trivial⟩ | exact LoadOK.agg (vs := [_, _]) T.agg_27 4 rfl rfl ⟨rfl, rfl, trivial⟩ | exact LoadOK.agg (vs := [_, _]) T.agg_27 5 rfl rfl ⟨rfl, rfl, trivial⟩ | exact LoadOK.agg (vs := [_, _]) T.agg_27 6 rfl rfl ⟨rfl, rfl, trivial⟩ | exact LoadOK.agg (vs := [_, _]) T.agg_27 7 rfl rfl ⟨rfl, rfl, trivial⟩ | exact LoadOK.agg (vs := [_, _]) T.agg_32 0 rfl rfl ⟨rfl, rfl, trivial⟩ | exact LoadOK.agg (vs := [_, _]) T.agg_32 1 rfl rfl ⟨rfl, rfl, trivial⟩ | exact LoadOK.agg (vs := [_, _]) T.agg_32 2 rfl rfl ⟨rfl, rfl, trivial⟩ | exact LoadOK.agg (vs := [_, _]) T.agg_32 3 rfl rfl ⟨rfl, rfl, trivial⟩ | exact LoadOK.agg (vs := [_, _]) T.agg_32 4 rfl rfl ⟨rfl, rfl, trivial⟩ | exact LoadOK.agg (vs := [_, _]) T.agg_32 5 rfl rfl ⟨rfl, rfl, trivial⟩ | exact LoadOK.agg (vs := [_, _]) T.agg_32 6 rfl rfl ⟨rfl, rfl, trivial⟩ | exact LoadOK.agg (vs := [_, _]) T.agg_32 7 rfl rfl ⟨rfl, rfl, trivial⟩)
          | (apply G.pickT; exact rfl; exact rfl; exact rfl)
          | (apply G.pickF; exact rfl; exact rfl; exact rfl)
          | (apply G.lss; exact rfl; exact rfl; exact rfl)
          | (apply G.gtr; exact rfl; exact rfl; exact rfl)
          | (apply G.eql; exact rfl; exact rfl; exact rfl)
          | (apply G.neq; exact rfl; exact rfl; exact rfl)
          | (apply G.add; exact rfl; exact rfl; exact rfl; first | exact IntWalk.i64_in _ (by omega) | exact IntWalk.u8_in _ (by omega) | exact IntWalk.u16_in _ (by omega) | exact IntWalk.u32_in _ (by omega) | exact IntWalk.u64_in _ (by omega))
          | (apply G.eqlI2; exact rfl; exact T.i2_27; exact rfl; exact rfl)
          | (apply G.neqI2; exact rfl; exact T.i2_27; exact rfl; exact rfl)
          | (apply G.rem; exact rfl; exact rfl; exact rfl; (first | decide | omega); exact IntWalk.rem_in _ _ (by omega))
          | (apply G.conv; exact rfl; exact rfl; (first | exact T.int_3 | exact T.int_5); (first | exact T.int_3 | exact T.int_5); first | exact IntWalk.i64_in _ (by omega) | exact IntWalk.u8_in _ (by omega) | exact IntWalk.u16_in _ (by omega) | exact IntWalk.u32_in _ (by omega) | exact IntWalk.u64_in _ (by omega))
          | (apply G.notT; exact rfl; exact rfl)
          | (apply G.notF; exact rfl; exact rfl)
          | (refine G.notD rfl rfl ?_)
          | (apply G.notB; exact rfl; exact rfl)
          | (apply G.extract; exact rfl; exact rfl; exact rfl)
          | (apply G.build (cs := [_, _]); exact rfl; exact T.lay_27; exact rfl; exact rfl)
          | (apply G.build (cs := [_, _]); exact rfl; exact T.lay_32; exact rfl; exact rfl)
          | (apply G.len; exact rfl; exact rfl; (first | exact T.slc_47 | exact T.slc_48))
          | (refine Goal.quiet rfl (Run.max2 rfl rfl) ?_)
          | (refine Goal.quiet rfl (Run.min2 rfl rfl) ?_)
          | (refine G.indexAddr1 rfl (by first | exact T.slc_28 | exact T.slc_47 | exact T.slc_48) (by first | exact T.sz_3 | exact T.sz_5) rfl rfl _ rfl (by omega) ?_)
          | (refine G.indexAddr1 rfl (by first | exact T.slc_28 | exact T.slc_47 | exact T.slc_48) (by first | exact T.sz_3 | exact T.sz_5) rfl rfl _ (Int.toNat_of_nonneg (by omega)).symm (by omega) ?_)
          | (refine G.indexAddr rfl (by first | exact T.slc_28 | exact T.slc_47 | exact T.slc_48) (by first | exact T.sz_27 | exact T.sz_49) rfl rfl _ rfl (by omega) ?_)
          | (refine G.indexAddr rfl (by first | exact T.slc_28 | exact T.slc_47 | exact T.slc_48) (by first | exact T.sz_27 | exact T.sz_49) rfl rfl _ (Int.toNat_of_nonneg (by omega)).symm (by omega) ?_)
          | (refine G.indexAddrA rfl T.arr_49 (by first | exact T.sz_3 | exact T.sz_5 | exact T.sz_27 | exact T.sz_49) rfl rfl _ rfl (by omega) ?_)
          | (refine G.indexAddrA rfl T.arr_49 (by first | exact T.sz_3 | exact T.sz_5 | exact T.sz_27 | exact T.sz_49) rfl rfl _ (Int.toNat_of_nonneg (by omega)).symm (by omega) ?_)
          | (refine Goal.loud rfl ?_; refine Loud.store0 rfl rfl (by first | exact T.sz_3 | exact T.sz_27 | exact T.sz_32) rfl rfl rfl (by first | exact Nat.le_refl _ | decide | (simp; omega)) rfl ?_)
          | (refine Goal.loud rfl ?_; refine Loud.store1 rfl rfl (by first | exact T.sz_3 | exact T.sz_27 | exact T.sz_32) rfl rfl rfl (by first | exact Nat.le_refl _ | decide | (simp; omega)) rfl ?_)
          | (refine Goal.loud rfl ?_; refine Loud.store2 rfl rfl (by first | exact T.sz_3 | exact T.sz_27 | exact T.sz_32) rfl rfl rfl (by first | exact Nat.le_refl _ | decide | (simp; omega)) rfl ?_)
          | (refine Goal.loud rfl ?_; refine Loud.store3 rfl rfl (by first | exact T.sz_3 | exact T.sz_27 | exact T.sz_32) rfl rfl rfl (by first | exact Nat.le_refl _ | decide | (simp; omega)) rfl ?_)
          | (refine Goal.loud rfl ?_; refine Loud.store4 rfl rfl (by first | exact T.sz_3 | exact T.sz_27 | exact T.sz_32) rfl rfl rfl (by first | exact Nat.le_refl _ | decide | (simp; omega)) rfl ?_)
          | (refine Goal.loud rfl ?_; refine Loud.store5 rfl rfl (by first | exact T.sz_3 | exact T.sz_27 | exact T.sz_32) rfl rfl rfl (by first | exact Nat.le_refl _ | decide | (simp; omega)) rfl ?_)
          | (refine Goal.loud rfl ?_; refine Loud.store6 rfl rfl (by first | exact T.sz_3 | exact T.sz_27 | exact T.sz_32) rfl rfl rfl (by first | exact Nat.le_refl _ | decide | (simp; omega)) rfl ?_)
          | (refine Goal.loud rfl ?_; refine Loud.store7 rfl rfl (by first | exact T.sz_3 | exact T.sz_27 | exact T.sz_32) rfl rfl rfl (by first | exact Nat.le_refl _ | decide | (simp; omega)) rfl ?_))
        refine Goal.again ⟨1, max l2 ((el ts i).1 % sp)⟩ ⟨by dsimp only; omega, by dsimp only; omega⟩ (by dsimp only; omega) ⟨rfl, rfl, rfl, rfl, rfl, rfl, rfl, rfl, trivial⟩ (fun _ h => h)
      · skip
        repeat' (first
          | (refine Goal.loud (o := ⟨some 7, _, _, _, _, _⟩) rfl ?_; refine Loud.allocA rfl T.inf_32 (fun b7 => ?_))
          | (refine Goal.loud (o := ⟨some 42, _, _, _, _, _⟩) rfl ?_; first | refine Loud.makeSlice rfl T.slc_48 T.inf_27 rfl rfl (by decide) rfl rfl rfl rfl (by omega) (by omega) (by omega) (fun b42 => ?_) | refine Loud.makeSlice rfl T.slc_48 T.inf_27 rfl rfl (by decide) rfl rfl (Int.toNat_of_nonneg (by omega)).symm (Int.toNat_of_nonneg (by omega)).symm (by omega) (by omega) (by omega) (fun b42 => ?_))
          | (refine Goal.loud (o := ⟨some 45, _, _, _, _, _⟩) rfl ?_; first | refine Loud.makeSlice rfl T.slc_28 T.inf_3 rfl rfl (by decide) rfl rfl rfl rfl (by omega) (by omega) (by omega) (fun b45 => ?_) | refine Loud.makeSlice rfl T.slc_28 T.inf_3 rfl rfl (by decide) rfl rfl (Int.toNat_of_nonneg (by omega)).symm (Int.toNat_of_nonneg (by omega)).symm (by omega) (by omega) (by omega) (fun b45 => ?_))
          | (apply G.move; exact rfl; exact rfl)
          | (apply G.assign; exact rfl; exact rfl)
          | refine Goal.seq (fun _ _ => ?_)
          | refine Goal.next (by assumption) ?_
          | refine Goal.lnil ?_
          | refine Goal.region ?_
          | refine Goal.skip ?_
          | refine Goal.block ?_
          | refine Goal.exit ?_
          | refine Goal.ret ?_
          | refine Goal.then_exit ?_
          | refine Goal.then_ret ?_
          | refine Goal.inBlock_exit ?_
          | refine Goal.inBlock_normal ?_
          | refine Goal.inBlock_ret ?_
          | refine Goal.inBlock_other rfl ?_
          | (apply Goal.condT; exact rfl)
          | (apply Goal.condF; exact rfl)
          | (refine Goal.condD rfl (fun hc => ?_) (fun hc => ?_) <;> first | (exfalso; omega) | contradiction | skip)
          | refine Goal.condB rfl (fun hc => ?_) (fun hc => ?_)
          | refine Goal.guardT rfl rfl ?_
          | refine Goal.guardF rfl rfl rfl rfl ?_
          | refine Goal.guardU rfl rfl rfl ?_
          | (refine Goal.guardD rfl rfl (fun hc => ?_) (fun hc => ?_) <;> first | (exfalso; omega) | contradiction | skip)
          | refine Goal.guardB rfl rfl (fun hc => ?_) (fun hc => ?_)
          | (apply G.fieldAddr; exact rfl; exact rfl; (first | exact T.fld_27_0 | exact T.fld_32_0 | exact T.fld_32_1))
          | (apply G.load; exact rfl; exact rfl; first | exact LoadOK.old T.one_5 (hk i hi.1 hlt 1 _ rfl) (by simp) | exact LoadOK.one (by first | exact T.one_3 | exact T.one_5) 0 rfl rfl | exact LoadOK.one (by first | exact T.one_3 | exact T.one_5) 1 rfl rfl | exact LoadOK.one (by first | exact T.one_3 | exact T.one_5) 2 rfl rfl | exact LoadOK.one (by first | exact T.one_3 | exact T.one_5) 3 rfl rfl | exact LoadOK.one (by first | exact T.one_3 | exact T.one_5) 4 rfl rfl | exact LoadOK.one (by first | exact T.one_3 | exact T.one_5) 5 rfl rfl | exact LoadOK.one (by first | exact T.one_3 | exact T.one_5) 6 rfl rfl | exact LoadOK.one (by first | exact T.one_3 | exact T.one_5) 7 rfl rfl | exact LoadOK.agg (vs := [_, _]) T.agg_27 0 rfl rfl ⟨rfl, rfl, trivial⟩ | exact LoadOK.agg (vs := [_, _]) T.agg_27 1 rfl rfl ⟨rfl, rfl, trivial⟩ | exact LoadOK.agg (vs := [_, _]) T.agg_27 2 rfl rfl ⟨rfl, rfl, trivial⟩ | exact LoadOK.agg (vs := [_, _]) T.agg_27 3 rfl rfl ⟨rfl, rfl, trivial⟩ | exact LoadOK.agg (vs := [_, _]) T.agg_27 4 rfl rfl ⟨rfl, rfl, trivial⟩ | exact LoadOK.agg (vs := [_, _]) T.agg_27 5 rfl rfl ⟨rfl, rfl, trivial⟩ | exact LoadOK.agg (vs := [_, _]) T.agg_27 6 rfl rfl ⟨rfl, rfl, trivial⟩ | exact LoadOK.agg (vs := [_, _]) T.agg_27 7 rfl rfl ⟨rfl, rfl, trivial⟩ | exact LoadOK.agg (vs := [_, _]) T.agg_32 0 rfl rfl ⟨rfl, rfl, trivial⟩ | exact LoadOK.agg (vs := [_, _]) T.agg_32 1 rfl rfl ⟨rfl, rfl, trivial⟩ | exact LoadOK.agg (vs := [_, _]) T.agg_32 2 rfl rfl ⟨rfl, rfl, trivial⟩ | exact LoadOK.agg (vs := [_, _]) T.agg_32 3 rfl rfl ⟨rfl, rfl, trivial⟩ | exact LoadOK.agg (vs := [_, _]) T.agg_32 4 rfl rfl ⟨rfl, rfl, trivial⟩ | exact LoadOK.agg (vs := [_, _]) T.agg_32 5 rfl rfl ⟨rfl, rfl, trivial⟩ | exact LoadOK.agg (vs := [_, _]) T.agg_32 6 rfl rfl ⟨rfl, rfl, trivial⟩ | exact LoadOK.agg (vs := [_, _]) T.agg_32 7 rfl rfl ⟨rfl, rfl, trivial⟩)
          | (apply G.pickT; exact rfl; exact rfl; exact rfl)
          | (apply G.pickF; exact rfl; exact rfl; exact rfl)
          | (apply G.lss; exact rfl; exact rfl; exact rfl)
          | (apply G.gtr; exact rfl; exact rfl; exact rfl)
          | (apply G.eql; exact rfl; exact rfl; exact rfl)
          | (apply G.neq; exact rfl; exact rfl; exact rfl)
          | (apply G.add; exact rfl; exact rfl; exact rfl; first | exact IntWalk.i64_in _ (by omega) | exact IntWalk.u8_in _ (by omega) | exact IntWalk.u16_in _ (by omega) | exact IntWalk.u32_in _ (by omega) | exact IntWalk.u64_in _ (by omega))
          | (apply G.eqlI2; exact rfl; exact T.i2_27; exact rfl; exact rfl)
          | (apply G.neqI2; exact rfl; exact T.i2_27; exact rfl; exact rfl)
          | (apply G.rem; exact rfl; exact rfl; exact rfl; (first | decide | omega); exact IntWalk.rem_in _ _ (by omega))
          | (apply G.conv; exact rfl; exact rfl; (first | exact T.int_3 | exact T.int_5); (first | exact T.int_3 | exact T.int_5); first | exact IntWalk.i64_in _ (by omega) | exact IntWalk.u8_in _ (by omega) | exact IntWalk.u16_in _ (by omega) | exact IntWalk.u32_in _ (by omega) | exact IntWalk.u64_in _ (by omega))
          | (apply G.notT; exact rfl; exact rfl)
          | (apply G.notF; exact rfl; exact rfl)
          | (refine G.notD rfl rfl ?_)
          | (apply G.notB; exact rfl; exact rfl)
          | (apply G.extract; exact rfl; exact rfl; exact rfl)
          | (apply G.build (cs := [_, _]); exact rfl; exact T.lay_27; exact rfl; exact rfl)
          | (apply G.build (cs := [_, _]); exact rfl; exact T.lay_32; exact rfl; exact rfl)
          | (apply G.len; exact rfl; exact rfl; (first | exact T.slc_47 | exact T.slc_48))
          | (refine Goal.quiet rfl (Run.max2 rfl rfl) ?_)
          | (refine Goal.quiet rfl (Run.min2 rfl rfl) ?_)
          | (refine G.indexAddr1 rfl (by first | exact T.slc_28 | exact T.slc_47 | exact T.slc_48) (by first | exact T.sz_3 | exact T.sz_5) rfl rfl _ rfl (by omega) ?_)
          | (refine G.indexAddr1 rfl (by first | exact T.slc_28 | exact T.slc_47 | exact T.slc_48) (by first | exact T.sz_3 | exact T.sz_5) rfl rfl _ (Int.toNat_of_nonneg (by omega)).symm (by omega) ?_)
          | (refine G.indexAddr rfl (by first | exact T.slc_28 | exact T.slc_47 | exact T.slc_48) (by first | exact T.sz_27 | exact T.sz_49) rfl rfl _ rfl (by omega) ?_)
          | (refine G.indexAddr rfl (by first | exact T.slc_28 | exact T.slc_47 | exact T.slc_48) (by first | exact T.sz_27 | exact T.sz_49) rfl rfl _ (Int.toNat_of_nonneg (by omega)).symm (by omega) ?_)
          | (refine G.indexAddrA rfl T.arr_49 (by first | exact T.sz_3 | exact T.sz_5 | exact T.sz_27 | exact T.sz_49) rfl rfl _ rfl (by omega) ?_)
          | (refine G.indexAddrA rfl T.arr_49 (by first | exact T.sz_3 | exact T.sz_5 | exact T.sz_27 | exact T.sz_49) rfl rfl _ (Int.toNat_of_nonneg (by omega)).symm (by omega) ?_)
          | (refine Goal.loud rfl ?_; refine Loud.store0 rfl rfl (by first | exact T.sz_3 | exact T.sz_27 | exact T.sz_32) rfl rfl rfl (by first | exact Nat.le_refl _ | decide | (simp; omega)) rfl ?_)
          | (refine Goal.loud rfl ?_; refine Loud.store1 rfl rfl (by first | exact T.sz_3 | exact T.sz_27 | exact T.sz_32) rfl rfl rfl (by first | exact Nat.le_refl _ | decide | (simp; omega)) rfl ?_)
          | (refine Goal.loud rfl ?_; refine Loud.store2 rfl rfl (by first | exact T.sz_3 | exact T.sz_27 | exact T.sz_32) rfl rfl rfl (by first | exact Nat.le_refl _ | decide | (simp; omega)) rfl ?_)
          | (refine Goal.loud rfl ?_; refine Loud.store3 rfl rfl (by first | exact T.sz_3 | exact T.sz_27 | exact T.sz_32) rfl rfl rfl (by first | exact Nat.le_refl _ | decide | (simp; omega)) rfl ?_)
          | (refine Goal.loud rfl ?_; refine Loud.store4 rfl rfl (by first | exact T.sz_3 | exact T.sz_27 | exact T.sz_32) rfl rfl rfl (by first | exact Nat.le_refl _ | decide | (simp; omega)) rfl ?_)
          | (refine Goal.loud rfl ?_; refine Loud.store5 rfl rfl (by first | exact T.sz_3 | exact T.sz_27 | exact T.sz_32) rfl rfl rfl (by first | exact Nat.le_refl _ | decide | (simp; omega)) rfl ?_)
          | (refine Goal.loud rfl ?_; refine Loud.store6 rfl rfl (by first | exact T.sz_3 | exact T.sz_27 | exact T.sz_32) rfl rfl rfl (by first | exact Nat.le_refl _ | decide | (simp; omega)) rfl ?_)
          | (refine Goal.loud rfl ?_; refine Loud.store7 rfl rfl (by first | exact T.sz_3 | exact T.sz_27 | exact T.sz_32) rfl rfl rfl (by first | exact Nat.le_refl _ | decide | (simp; omega)) rfl ?_))
        refine Goal.again ⟨2, max l2 ((el ts i).2 % sp)⟩ ⟨by dsimp only; omega, by dsimp only; omega⟩ (by dsimp only; omega) ⟨rfl, rfl, rfl, rfl, rfl, rfl, rfl, rfl, trivial⟩ (fun _ h => h)
      · skip
        repeat' (first
          | (refine Goal.loud (o := ⟨some 7, _, _, _, _, _⟩) rfl ?_; refine Loud.allocA rfl T.inf_32 (fun b7 => ?_))
          | (refine Goal.loud (o := ⟨some 42, _, _, _, _, _⟩) rfl ?_; first | refine Loud.makeSlice rfl T.slc_48 T.inf_27 rfl rfl (by decide) rfl rfl rfl rfl (by omega) (by omega) (by omega) (fun b42 => ?_) | refine Loud.makeSlice rfl T.slc_48 T.inf_27 rfl rfl (by decide) rfl rfl (Int.toNat_of_nonneg (by omega)).symm (Int.toNat_of_nonneg (by omega)).symm (by omega) (by omega) (by omega) (fun b42 => ?_))
          | (refine Goal.loud (o := ⟨some 45, _, _, _, _, _⟩) rfl ?_; first | refine Loud.makeSlice rfl T.slc_28 T.inf_3 rfl rfl (by decide) rfl rfl rfl rfl (by omega) (by omega) (by omega) (fun b45 => ?_) | refine Loud.makeSlice rfl T.slc_28 T.inf_3 rfl rfl (by decide) rfl rfl (Int.toNat_of_nonneg (by omega)).symm (Int.toNat_of_nonneg (by omega)).symm (by omega) (by omega) (by omega) (fun b45 => ?_))
          | (apply G.move; exact rfl; exact rfl)
          | (apply G.assign; exact rfl; exact rfl)
          | refine Goal.seq (fun _ _ => ?_)
          | refine Goal.next (by assumption) ?_
          | refine Goal.lnil ?_
          | refine Goal.region ?_
          | refine Goal.skip ?_
          | refine Goal.block ?_
          | refine Goal.exit ?_
          | refine Goal.ret ?_
          | refine Goal.then_exit ?_
          | refine Goal.then_ret ?_
          | refine Goal.inBlock_exit ?_
          | refine Goal.inBlock_normal ?_
          | refine Goal.inBlock_ret ?_
          | refine Goal.inBlock_other rfl ?_
          | (apply Goal.condT; exact rfl)
          | (apply Goal.condF; exact rfl)
          | (refine Goal.condD rfl (fun hc => ?_) (fun hc => ?_) <;> first | (exfalso; omega) | contradiction | skip)
          | refine Goal.condB rfl (fun hc => ?_) (fun hc => ?_)
          | refine Goal.guardT rfl rfl ?_
          | refine Goal.guardF rfl rfl rfl rfl ?_
          | refine Goal.guardU rfl rfl rfl ?_
          | (refine Goal.guardD rfl rfl (fun hc => ?_) (fun hc => ?_) <;> first | (exfalso; omega) | contradiction | skip)
          | refine Goal.guardB rfl rfl (fun hc => ?_) (fun hc => ?_)
          | (apply G.fieldAddr; exact rfl; exact rfl; (first | exact T.fld_27_0 | exact T.fld_32_0 | exact T.fld_32_1))
          | (apply G.load; exact rfl; exact rfl; first | exact LoadOK.one (by first | exact T.one_3 | exact T.one_5) 0 rfl rfl | exact LoadOK.one (by first | exact T.one_3 | exact T.one_5) 1 rfl rfl | exact LoadOK.one (by first | exact T.one_3 | exact T.one_5) 2 rfl rfl | exact LoadOK.one (by first | exact T.one_3 | exact T.one_5) 3 rfl rfl | exact LoadOK.one (by first | exact T.one_3 | exact T.one_5) 4 rfl rfl | exact LoadOK.one (by first | exact T.one_3 | exact T.one_5) 5 rfl rfl | exact LoadOK.one (by first | exact T.one_3 | exact T.one_5) 6 rfl rfl | exact LoadOK.one (by first | exact T.one_3 | exact T.one_5) 7 rfl rfl | exact LoadOK.agg (vs := [_, _]) T.agg_27 0 rfl rfl ⟨rfl, rfl, trivial⟩ | exact LoadOK.agg (vs := [_, _]) T.agg_27 1 rfl rfl ⟨rfl, rfl, trivial⟩ | exact LoadOK.agg (vs := [_, _]) T.agg_27 2 rfl rfl ⟨rfl, rfl, trivial⟩ | exact LoadOK.agg (vs := [_, _]) T.agg_27 3 rfl rfl ⟨rfl, rfl, trivial⟩ | exact LoadOK.agg (vs := [_, _]) T.agg_27 4 rfl rfl ⟨rfl, rfl, trivial⟩ | exact LoadOK.agg (vs := [_, _]) T.agg_27 5 rfl rfl ⟨rfl, rfl, trivial⟩ | exact LoadOK.agg (vs := [_, _]) T.agg_27 6 rfl rfl ⟨rfl, rfl, trivial⟩ | exact LoadOK.agg (vs := [_, _]) T.agg_27 7 rfl rfl ⟨rfl, rfl, trivial⟩ | exact LoadOK.agg (vs := [_, _]) T.agg_32 0 rfl rfl ⟨rfl, rfl, trivial⟩ | exact LoadOK.agg (vs := [_, _]) T.agg_32 1 rfl rfl ⟨rfl, rfl, trivial⟩ | exact LoadOK.agg (vs := [_, _]) T.agg_32 2 rfl rfl ⟨rfl, rfl, trivial⟩ | exact LoadOK.agg (vs := [_, _]) T.agg_32 3 rfl rfl ⟨rfl, rfl, trivial⟩ | exact LoadOK.agg (vs := [_, _]) T.agg_32 4 rfl rfl ⟨rfl, rfl, trivial⟩ | exact LoadOK.agg (vs := [_, _]) T.agg_32 5 rfl rfl ⟨rfl, rfl, trivial⟩ | exact LoadOK.agg (vs := [_, _]) T.agg_32 6 rfl rfl ⟨rfl, rfl, trivial⟩ | exact LoadOK.agg (vs := [_, _]) T.agg_32 7 rfl rfl ⟨rfl, rfl, trivial⟩)
          | (apply G.pickT; exact rfl; exact rfl; exact rfl)
          | (apply G.pickF; exact rfl; exact rfl; exact rfl)
          | (apply G.lss; exact rfl; exact rfl; exact rfl)
          | (apply G.gtr; exact rfl; exact rfl; exact rfl)
          | (apply G.eql; exact rfl; exact rfl; exact rfl)
          | (apply G.neq; exact rfl; exact rfl; exact rfl)
          | (apply G.add; exact rfl; exact rfl; exact rfl; first | exact IntWalk.i64_in _ (by omega) | exact IntWalk.u8_in _ (by omega) | exact IntWalk.u16_in _ (by omega) | exact IntWalk.u32_in _ (by omega) | exact IntWalk.u64_in _ (by omega))
          | (apply G.eqlI2; exact rfl; exact T.i2_27; exact rfl; exact rfl)
          | (apply G.neqI2; exact rfl; exact T.i2_27; exact rfl; exact rfl)
          | (apply G.rem; exact rfl; exact rfl; exact rfl; (first | decide | omega); exact IntWalk.rem_in _ _ (by omega))
          | (apply G.conv; exact rfl; exact rfl; (first | exact T.int_3 | exact T.int_5); (first | exact T.int_3 | exact T.int_5); first | exact IntWalk.i64_in _ (by omega) | exact IntWalk.u8_in _ (by omega) | exact IntWalk.u16_in _ (by omega) | exact IntWalk.u32_in _ (by omega) | exact IntWalk.u64_in _ (by omega))
          | (apply G.notT; exact rfl; exact rfl)
          | (apply G.notF; exact rfl; exact rfl)
          | (refine G.notD rfl rfl ?_)
          | (apply G.notB; exact rfl; exact rfl)
          | (apply G.extract; exact rfl; exact rfl; exact rfl)
          | (apply G.build (cs := [_, _]); exact rfl; exact T.lay_27; exact rfl; exact rfl)
          | (apply G.build (cs := [_, _]); exact rfl; exact T.lay_32; exact rfl; exact rfl)
          | (apply G.len; exact rfl; exact rfl; (first | exact T.slc_47 | exact T.slc_48))
          | (refine Goal.quiet rfl (Run.max2 rfl rfl) ?_)
          | (refine Goal.quiet rfl (Run.min2 rfl rfl) ?_)
          | (refine G.indexAddr1 rfl (by first | exact T.slc_28 | exact T.slc_47 | exact T.slc_48) (by first | exact T.sz_3 | exact T.sz_5) rfl rfl _ rfl (by omega) ?_)
          | (refine G.indexAddr1 rfl (by first | exact T.slc_28 | exact T.slc_47 | exact T.slc_48) (by first | exact T.sz_3 | exact T.sz_5) rfl rfl _ (Int.toNat_of_nonneg (by omega)).symm (by omega) ?_)
          | (refine G.indexAddr rfl (by first | exact T.slc_28 | exact T.slc_47 | exact T.slc_48) (by first | exact T.sz_27 | exact T.sz_49) rfl rfl _ rfl (by omega) ?_)
          | (refine G.indexAddr rfl (by first | exact T.slc_28 | exact T.slc_47 | exact T.slc_48) (by first | exact T.sz_27 | exact T.sz_49) rfl rfl _ (Int.toNat_of_nonneg (by omega)).symm (by omega) ?_)
          | (refine G.indexAddrA rfl T.arr_49 (by first | exact T.sz_3 | exact T.sz_5 | exact T.sz_27 | exact T.sz_49) rfl rfl _ rfl (by omega) ?_)
          | (refine G.indexAddrA rfl T.arr_49 (by first | exact T.sz_3 | exact T.sz_5 | exact T.sz_27 | exact T.sz_49) rfl rfl _ (Int.toNat_of_nonneg (by omega)).symm (by omega) ?_)
          | (refine Goal.loud rfl ?_; refine Loud.store0 rfl rfl (by first | exact T.sz_3 | exact T.sz_27 | exact T.sz_32) rfl rfl rfl (by first | exact Nat.le_refl _ | decide | (simp; omega)) rfl ?_)
          | (refine Goal.loud rfl ?_; refine Loud.store1 rfl rfl (by first | exact T.sz_3 | exact T.sz_27 | exact T.sz_32) rfl rfl rfl (by first | exact Nat.le_refl _ | decide | (simp; omega)) rfl ?_)
          | (refine Goal.loud rfl ?_; refine Loud.store2 rfl rfl (by first | exact T.sz_3 | exact T.sz_27 | exact T.sz_32) rfl rfl rfl (by first | exact Nat.le_refl _ | decide | (simp; omega)) rfl ?_)
          | (refine Goal.loud rfl ?_; refine Loud.store3 rfl rfl (by first | exact T.sz_3 | exact T.sz_27 | exact T.sz_32) rfl rfl rfl (by first | exact Nat.le_refl _ | decide | (simp; omega)) rfl ?_)
          | (refine Goal.loud rfl ?_; refine Loud.store4 rfl rfl (by first | exact T.sz_3 | exact T.sz_27 | exact T.sz_32) rfl rfl rfl (by first | exact Nat.le_refl _ | decide | (simp; omega)) rfl ?_)
          | (refine Goal.loud rfl ?_; refine Loud.store5 rfl rfl (by first | exact T.sz_3 | exact T.sz_27 | exact T.sz_32) rfl rfl rfl (by first | exact Nat.le_refl _ | decide | (simp; omega)) rfl ?_)
          | (refine Goal.loud rfl ?_; refine Loud.store6 rfl rfl (by first | exact T.sz_3 | exact T.sz_27 | exact T.sz_32) rfl rfl rfl (by first | exact Nat.le_refl _ | decide | (simp; omega)) rfl ?_)
          | (refine Goal.loud rfl ?_; refine Loud.store7 rfl rfl (by first | exact T.sz_3 | exact T.sz_27 | exact T.sz_32) rfl rfl rfl (by first | exact Nat.le_refl _ | decide | (simp; omega)) rfl ?_))
        refine Goal.again ⟨i + 1, l2, ss.set i.toNat (3, 0)⟩ ⟨by dsimp only; omega, hl2, by simpa using hs, fun j j0 j1 => ?_⟩ (by dsimp only; omega) ⟨rfl, rfl, rfl, rfl, rfl, rfl, rfl, trivial⟩ (fun _ h => h)
        dsimp only at j1 ⊢
        rw [el_set (by omega) (by omega)]
        split
        · rfl
        · exact he j j0 (by omega)
    · skip
      repeat' (first
        | (refine Goal.loud (o := ⟨some 7, _, _, _, _, _⟩) rfl ?_; refine Loud.allocA rfl T.inf_32 (fun b7 => ?_))
        | (refine Goal.loud (o := ⟨some 42, _, _, _, _, _⟩) rfl ?_; first | refine Loud.makeSlice rfl T.slc_48 T.inf_27 rfl rfl (by decide) rfl rfl rfl rfl (by omega) (by omega) (by omega) (fun b42 => ?_) | refine Loud.makeSlice rfl T.slc_48 T.inf_27 rfl rfl (by decide) rfl rfl (Int.toNat_of_nonneg (by omega)).symm (Int.toNat_of_nonneg (by omega)).symm (by omega) (by omega) (by omega) (fun b42 => ?_))
        | (refine Goal.loud (o := ⟨some 45, _, _, _, _, _⟩) rfl ?_; first | refine Loud.makeSlice rfl T.slc_28 T.inf_3 rfl rfl (by decide) rfl rfl rfl rfl (by omega) (by omega) (by omega) (fun b45 => ?_) | refine Loud.makeSlice rfl T.slc_28 T.inf_3 rfl rfl (by decide) rfl rfl (Int.toNat_of_nonneg (by omega)).symm (Int.toNat_of_nonneg (by omega)).symm (by omega) (by omega) (by omega) (fun b45 => ?_))
        | (apply G.move; exact rfl; exact rfl)
        | (apply G.assign; exact rfl; exact rfl)
        | refine Goal.seq (fun _ _ => ?_)
        | refine Goal.next (by assumption) ?_
        | refine Goal.lnil ?_
        | refine Goal.region ?_
        | refine Goal.skip ?_
        | refine Goal.block ?_
        | refine Goal.exit ?_
        | refine Goal.ret ?_
        | refine Goal.then_exit ?_
        | refine Goal.then_ret ?_
        | refine Goal.inBlock_exit ?_
        | refine Goal.inBlock_normal ?_
        | refine Goal.inBlock_ret ?_
        | refine Goal.inBlock_other rfl ?_
        | (apply Goal.condT; exact rfl)
        | (apply Goal.condF; exact rfl)
        | (refine Goal.condD rfl (fun hc => ?_) (fun hc => ?_) <;> first | (exfalso; omega) | contradiction | skip)
        | refine Goal.condB rfl (fun hc => ?_) (fun hc => ?_)
        | refine Goal.guardT rfl rfl ?_
        | refine Goal.guardF rfl rfl rfl rfl ?_
        | refine Goal.guardU rfl rfl rfl ?_
        | (refine Goal.guardD rfl rfl (fun hc => ?_) (fun hc => ?_) <;> first | (exfalso; omega) | contradiction | skip)
        | refine Goal.guardB rfl rfl (fun hc => ?_) (fun hc => ?_)
        | (apply G.fieldAddr; exact rfl; exact rfl; (first | exact T.fld_27_0 | exact T.fld_32_0 | exact T.fld_32_1))
        | (apply G.load; exact rfl; exact rfl; first | exact LoadOK.one (by first | exact T.one_3 | exact T.one_5) 0 rfl rfl | exact LoadOK.one (by first | exact T.one_3 | exact T.one_5) 1 rfl rfl | exact LoadOK.one (by first | exact T.one_3 | exact T.one_5) 2 rfl rfl | exact LoadOK.one (by first | exact T.one_3 | exact T.one_5) 3 rfl rfl | exact LoadOK.one (by first | exact T.one_3 | exact T.one_5) 4 rfl rfl | exact LoadOK.one (by first | exact T.one_3 | exact T.one_5) 5 rfl rfl | exact LoadOK.one (by first | exact T.one_3 | exact T.one_5) 6 rfl rfl | exact LoadOK.one (by first | exact T.one_3 | exact T.one_5) 7 rfl rfl | exact LoadOK.agg (vs := [_, _]) T.agg_27 0 rfl rfl ⟨rfl, rfl, trivial⟩ | exact LoadOK.agg (vs := [_, _]) T.agg_27 1 rfl rfl ⟨rfl, rfl, trivial⟩ | exact LoadOK.agg (vs := [_, _]) T.agg_27 2 rfl rfl ⟨rfl, rfl, trivial⟩ | exact LoadOK.agg (vs := [_, _]) T.agg_27 3 rfl rfl ⟨rfl, rfl, trivial⟩ | exact LoadOK.agg (vs := [_, _]) T.agg_27 4 rfl rfl ⟨rfl, rfl, trivial⟩ | exact LoadOK.agg (vs := [_, _]) T.agg_27 5 rfl rfl ⟨rfl, rfl, trivial⟩ | exact LoadOK.agg (vs := [_, _]) T.agg_27 6 rfl rfl ⟨rfl, rfl, trivial⟩ | exact LoadOK.agg (vs := [_, _]) T.agg_27 7 rfl rfl ⟨rfl, rfl, trivial⟩ | exact LoadOK.agg (vs := [_, _]) T.agg_32 0 rfl rfl ⟨rfl, rfl, trivial⟩ | exact LoadOK.agg (vs := [_, _]) T.agg_32 1 rfl rfl ⟨rfl, rfl, trivial⟩ | exact LoadOK.agg (vs := [_, _]) T.agg_32 2 rfl rfl ⟨rfl, rfl, trivial⟩ | exact LoadOK.agg (vs := [_, _]) T.agg_32 3 rfl rfl ⟨rfl, rfl, trivial⟩ | exact LoadOK.agg (vs := [_, _]) T.agg_32 4 rfl rfl ⟨rfl, rfl, trivial⟩ | exact LoadOK.agg (vs := [_, _]) T.agg_32 5 rfl rfl ⟨rfl, rfl, trivial⟩ | exact LoadOK.agg (vs := [_, _]) T.agg_32 6 rfl rfl ⟨rfl, rfl, trivial⟩ | exact LoadOK.agg (vs := [_, _]) T.agg_32 7 rfl rfl ⟨rfl, rfl, trivial⟩)
        | (apply G.pickT; exact rfl; exact rfl; exact rfl)
        | (apply G.pickF; exact rfl; exact rfl; exact rfl)
        | (apply G.lss; exact rfl; exact rfl; exact rfl)
        | (apply G.gtr; exact rfl; exact rfl; exact rfl)
        | (apply G.eql; exact rfl; exact rfl; exact rfl)
        | (apply G.neq; exact rfl; exact rfl; exact rfl)
        | (apply G.add; exact rfl; exact rfl; exact rfl; first | exact IntWalk.i64_in _ (by omega) | exact IntWalk.u8_in _ (by omega) | exact IntWalk.u16_in _ (by omega) | exact IntWalk.u32_in _ (by omega) | exact IntWalk.u64_in _ (by omega))
        | (apply G.eqlI2; exact rfl; exact T.i2_27; exact rfl; exact rfl)
        | (apply G.neqI2; exact rfl; exact T.i2_27; exact rfl; exact rfl)
        | (apply G.rem; exact rfl; exact rfl; exact rfl; (first | decide | omega); exact IntWalk.rem_in _ _ (by omega))
        | (apply G.conv; exact rfl; exact rfl; (first | exact T.int_3 | exact T.int_5); (first | exact T.int_3 | exact T.int_5); first | exact IntWalk.i64_in _ (by omega) | exact IntWalk.u8_in _ (by omega) | exact IntWalk.u16_in _ (by omega) | exact IntWalk.u32_in _ (by omega) | exact IntWalk.u64_in _ (by omega))
        | (apply G.notT; exact rfl; exact rfl)
        | (apply G.notF; exact rfl; exact rfl)
        | (refine G.notD rfl rfl ?_)
        | (apply G.notB; exact rfl; exact rfl)
        | (apply G.extract; exact rfl; exact rfl; exact rfl)
        | (apply G.build (cs := [_, _]); exact rfl; exact T.lay_27; exact rfl; exact rfl)
        | (apply G.build (cs := [_, _]); exact rfl; exact T.lay_32; exact rfl; exact rfl)
        | (apply G.len; exact rfl; exact rfl; (first | exact T.slc_47 | exact T.slc_48))
        | (refine Goal.quiet rfl (Run.max2 rfl rfl) ?_)
        | (refine Goal.quiet rfl (Run.min2 rfl rfl) ?_)
        | (refine G.indexAddr1 rfl (by first | exact T.slc_28 | exact T.slc_47 | exact T.slc_48) (by first | exact T.sz_3 | exact T.sz_5) rfl rfl _ rfl (by omega) ?_)
        | (refine G.indexAddr1 rfl (by first | exact T.slc_28 | exact T.slc_47 | exact T.slc_48) (by first | exact T.sz_3 | exact T.sz_5) rfl rfl _ (Int.toNat_of_nonneg (by omega)).symm (by omega) ?_)
        | (refine G.indexAddr rfl (by first | exact T.slc_28 | exact T.slc_47 | exact T.slc_48) (by first | exact T.sz_27 | exact T.sz_49) rfl rfl _ rfl (by omega) ?_)
        | (refine G.indexAddr rfl (by first | exact T.slc_28 | exact T.slc_47 | exact T.slc_48) (by first | exact T.sz_27 | exact T.sz_49) rfl rfl _ (Int.toNat_of_nonneg (by omega)).symm (by omega) ?_)
        | (refine G.indexAddrA rfl T.arr_49 (by first | exact T.sz_3 | exact T.sz_5 | exact T.sz_27 | exact T.sz_49) rfl rfl _ rfl (by omega) ?_)
        | (refine G.indexAddrA rfl T.arr_49 (by first | exact T.sz_3 | exact T.sz_5 | exact T.sz_27 | exact T.sz_49) rfl rfl _ (Int.toNat_of_nonneg (by omega)).symm (by omega) ?_)
        | (refine Goal.loud rfl ?_; refine Loud.store0 rfl rfl (by first | exact T.sz_3 | exact T.sz_27 | exact T.sz_32) rfl rfl rfl (by first | exact Nat.le_refl _ | decide | (simp; omega)) rfl ?_)
        | (refine Goal.loud rfl ?_; refine Loud.store1 rfl rfl (by first | exact T.sz_3 | exact T.sz_27 | exact T.sz_32) rfl rfl rfl (by first | exact Nat.le_refl _ | decide | (simp; omega)) rfl ?_)
        | (refine Goal.loud rfl ?_; refine Loud.store2 rfl rfl (by first | exact T.sz_3 | exact T.sz_27 | exact T.sz_32) rfl rfl rfl (by first | exact Nat.le_refl _ | decide | (simp; omega)) rfl ?_)
        | (refine Goal.loud rfl ?_; refine Loud.store3 rfl rfl (by first | exact T.sz_3 | exact T.sz_27 | exact T.sz_32) rfl rfl rfl (by first | exact Nat.le_refl _ | decide | (simp; omega)) rfl ?_)
        | (refine Goal.loud rfl ?_; refine Loud.store4 rfl rfl (by first | exact T.sz_3 | exact T.sz_27 | exact T.sz_32) rfl rfl rfl (by first | exact Nat.le_refl _ | decide | (simp; omega)) rfl ?_)
        | (refine Goal.loud rfl ?_; refine Loud.store5 rfl rfl (by first | exact T.sz_3 | exact T.sz_27 | exact T.sz_32) rfl rfl rfl (by first | exact Nat.le_refl _ | decide | (simp; omega)) rfl ?_)
        | (refine Goal.loud rfl ?_; refine Loud.store6 rfl rfl (by first | exact T.sz_3 | exact T.sz_27 | exact T.sz_32) rfl rfl rfl (by first | exact Nat.le_refl _ | decide | (simp; omega)) rfl ?_)
        | (refine Goal.loud rfl ?_; refine Loud.store7 rfl rfl (by first | exact T.sz_3 | exact T.sz_27 | exact T.sz_32) rfl rfl rfl (by first | exact Nat.le_refl _ | decide | (simp; omega)) rfl ?_))
      have hi2 : i = ts.length := by omega
      subst hi2
      clear hlt hi
      refine Goal.loopP (X := G4) (fun x => [(2, .slice ad ts.length cap), (7, .pointer (some ⟨b7, 0, none⟩)), (8, .int .i64 sp), (9, .slice (some ⟨b42, 0, none⟩) ts.length ts.length), (10, .slice (some ⟨b45, 0, none⟩) ts.length ts.length), (11, .int .i64 last), (14, .int .i64 x.now)]) (fun x => [(b45, .cells (ints x.nt).toArray 3), (b42, .cells (Els pr x.ss).toArray 27), (b7, .cells #[.int .i64 Ga, .int .i64 Ho] 32)])
        (fun x => (0 ≤ x.now ∧ x.now ≤ 100) ∧ x.ss.length = ts.length ∧ x.nt.length = ts.length ∧ ∀ j : Int, 0 ≤ j → j < ts.length → el x.ss j = nst Ga Ho (two (dd ts sp j)) (x.now - 1) ∧ ia x.nt j = cn (dd ts sp j) (x.now - 1)) (fun x => (100 - x.now).toNat) ⟨0, ss, List.replicate ts.length 0⟩ ⟨rfl, rfl, rfl, rfl, rfl, rfl, rfl, trivial⟩ (fun _ h => h)
        ⟨by dsimp only; omega, hs, by simp, fun j j0 j1 => ⟨?_, ?_⟩⟩ ?_
      · have hDj := hD j
        dsimp only
        rw [he j j0 j1]
        unfold nst two
        rw [if_pos (by omega)]
      · have hDj := hD j
        dsimp only
        rw [ia_none]
        unfold cn
        rw [if_neg (by omega), if_neg (by omega)]
        rfl
      clear he hs
      rintro ⟨now, ss, nt⟩ ⟨hn, hs, ht, he⟩
      dsimp only at hn hs ht he ⊢
      by_cases hnl : now < 100
      · skip
        repeat' (first
          | (refine Goal.loud (o := ⟨some 7, _, _, _, _, _⟩) rfl ?_; refine Loud.allocA rfl T.inf_32 (fun b7 => ?_))
          | (refine Goal.loud (o := ⟨some 42, _, _, _, _, _⟩) rfl ?_; first | refine Loud.makeSlice rfl T.slc_48 T.inf_27 rfl rfl (by decide) rfl rfl rfl rfl (by omega) (by omega) (by omega) (fun b42 => ?_) | refine Loud.makeSlice rfl T.slc_48 T.inf_27 rfl rfl (by decide) rfl rfl (Int.toNat_of_nonneg (by omega)).symm (Int.toNat_of_nonneg (by omega)).symm (by omega) (by omega) (by omega) (fun b42 => ?_))
          | (refine Goal.loud (o := ⟨some 45, _, _, _, _, _⟩) rfl ?_; first | refine Loud.makeSlice rfl T.slc_28 T.inf_3 rfl rfl (by decide) rfl rfl rfl rfl (by omega) (by omega) (by omega) (fun b45 => ?_) | refine Loud.makeSlice rfl T.slc_28 T.inf_3 rfl rfl (by decide) rfl rfl (Int.toNat_of_nonneg (by omega)).symm (Int.toNat_of_nonneg (by omega)).symm (by omega) (by omega) (by omega) (fun b45 => ?_))
          | (apply G.move; exact rfl; exact rfl)
          | (apply G.assign; exact rfl; exact rfl)
          | refine Goal.seq (fun _ _ => ?_)
          | refine Goal.next (by assumption) ?_
          | refine Goal.lnil ?_
          | refine Goal.region ?_
          | refine Goal.skip ?_
          | refine Goal.block ?_
          | refine Goal.exit ?_
          | refine Goal.ret ?_
          | refine Goal.then_exit ?_
          | refine Goal.then_ret ?_
          | refine Goal.inBlock_exit ?_
          | refine Goal.inBlock_normal ?_
          | refine Goal.inBlock_ret ?_
          | refine Goal.inBlock_other rfl ?_
          | (apply Goal.condT; exact rfl)
          | (apply Goal.condF; exact rfl)
          | (refine Goal.condD rfl (fun hc => ?_) (fun hc => ?_) <;> first | (exfalso; omega) | contradiction | skip)
          | refine Goal.condB rfl (fun hc => ?_) (fun hc => ?_)
          | refine Goal.guardT rfl rfl ?_
          | refine Goal.guardF rfl rfl rfl rfl ?_
          | refine Goal.guardU rfl rfl rfl ?_
          | (refine Goal.guardD rfl rfl (fun hc => ?_) (fun hc => ?_) <;> first | (exfalso; omega) | contradiction | skip)
          | refine Goal.guardB rfl rfl (fun hc => ?_) (fun hc => ?_)
          | (apply G.fieldAddr; exact rfl; exact rfl; (first | exact T.fld_27_0 | exact T.fld_32_0 | exact T.fld_32_1))
          | (apply G.load; exact rfl; exact rfl; first | exact LoadOK.one (by first | exact T.one_3 | exact T.one_5) 0 rfl rfl | exact LoadOK.one (by first | exact T.one_3 | exact T.one_5) 1 rfl rfl | exact LoadOK.one (by first | exact T.one_3 | exact T.one_5) 2 rfl rfl | exact LoadOK.one (by first | exact T.one_3 | exact T.one_5) 3 rfl rfl | exact LoadOK.one (by first | exact T.one_3 | exact T.one_5) 4 rfl rfl | exact LoadOK.one (by first | exact T.one_3 | exact T.one_5) 5 rfl rfl | exact LoadOK.one (by first | exact T.one_3 | exact T.one_5) 6 rfl rfl | exact LoadOK.one (by first | exact T.one_3 | exact T.one_5) 7 rfl rfl | exact LoadOK.agg (vs := [_, _]) T.agg_27 0 rfl rfl ⟨rfl, rfl, trivial⟩ | exact LoadOK.agg (vs := [_, _]) T.agg_27 1 rfl rfl ⟨rfl, rfl, trivial⟩ | exact LoadOK.agg (vs := [_, _]) T.agg_27 2 rfl rfl ⟨rfl, rfl, trivial⟩ | exact LoadOK.agg (vs := [_, _]) T.agg_27 3 rfl rfl ⟨rfl, rfl, trivial⟩ | exact LoadOK.agg (vs := [_, _]) T.agg_27 4 rfl rfl ⟨rfl, rfl, trivial⟩ | exact LoadOK.agg (vs := [_, _]) T.agg_27 5 rfl rfl ⟨rfl, rfl, trivial⟩ | exact LoadOK.agg (vs := [_, _]) T.agg_27 6 rfl rfl ⟨rfl, rfl, trivial⟩ | exact LoadOK.agg (vs := [_, _]) T.agg_27 7 rfl rfl ⟨rfl, rfl, trivial⟩ | exact LoadOK.agg (vs := [_, _]) T.agg_32 0 rfl rfl ⟨rfl, rfl, trivial⟩ | exact LoadOK.agg (vs := [_, _]) T.agg_32 1 rfl rfl ⟨rfl, rfl, trivial⟩ | exact LoadOK.agg (vs := [_, _]) T.agg_32 2 rfl rfl ⟨rfl, rfl, trivial⟩ | exact LoadOK.agg (vs := [_, _]) T.agg_32 3 rfl rfl ⟨rfl, rfl, trivial⟩ | exact LoadOK.agg (vs := [_, _]) T.agg_32 4 rfl rfl ⟨rfl, rfl, trivial⟩ | exact LoadOK.agg (vs := [_, _]) T.agg_32 5 rfl rfl ⟨rfl, rfl, trivial⟩ | exact LoadOK.agg (vs := [_, _]) T.agg_32 6 rfl rfl ⟨rfl, rfl, trivial⟩ | exact LoadOK.agg (vs := [_, _]) T.agg_32 7 rfl rfl ⟨rfl, rfl, trivial⟩)
          | (apply G.pickT; exact rfl; exact rfl; exact rfl)
          | (apply G.pickF; exact rfl; exact rfl; exact rfl)
          | (apply G.lss; exact rfl; exact rfl; exact rfl)
          | (apply G.gtr; exact rfl; exact rfl; exact rfl)
          | (apply G.eql; exact rfl; exact rfl; exact rfl)
          | (apply G.neq; exact rfl; exact rfl; exact rfl)
          | (apply G.add; exact rfl; exact rfl; exact rfl; first | exact IntWalk.i64_in _ (by omega) | exact IntWalk.u8_in _ (by omega) | exact IntWalk.u16_in _ (by omega) | exact IntWalk.u32_in _ (by omega) | exact IntWalk.u64_in _ (by omega))
          | (apply G.eqlI2; exact rfl; exact T.i2_27; exact rfl; exact rfl)
          | (apply G.neqI2; exact rfl; exact T.i2_27; exact rfl; exact rfl)
          | (apply G.rem; exact rfl; exact rfl; exact rfl; (first | decide | omega); exact IntWalk.rem_in _ _ (by omega))
          | (apply G.conv; exact rfl; exact rfl; (first | exact T.int_3 | exact T.int_5); (first | exact T.int_3 | exact T.int_5); first | exact IntWalk.i64_in _ (by omega) | exact IntWalk.u8_in _ (by omega) | exact IntWalk.u16_in _ (by omega) | exact IntWalk.u32_in _ (by omega) | exact IntWalk.u64_in _ (by omega))
          | (apply G.notT; exact rfl; exact rfl)
          | (apply G.notF; exact rfl; exact rfl)
          | (refine G.notD rfl rfl ?_)
          | (apply G.notB; exact rfl; exact rfl)
          | (apply G.extract; exact rfl; exact rfl; exact rfl)
          | (apply G.build (cs := [_, _]); exact rfl; exact T.lay_27; exact rfl; exact rfl)
          | (apply G.build (cs := [_, _]); exact rfl; exact T.lay_32; exact rfl; exact rfl)
          | (apply G.len; exact rfl; exact rfl; (first | exact T.slc_47 | exact T.slc_48))
          | (refine Goal.quiet rfl (Run.max2 rfl rfl) ?_)
          | (refine Goal.quiet rfl (Run.min2 rfl rfl) ?_)
          | (refine G.indexAddr1 rfl (by first | exact T.slc_28 | exact T.slc_47 | exact T.slc_48) (by first | exact T.sz_3 | exact T.sz_5) rfl rfl _ rfl (by omega) ?_)
          | (refine G.indexAddr1 rfl (by first | exact T.slc_28 | exact T.slc_47 | exact T.slc_48) (by first | exact T.sz_3 | exact T.sz_5) rfl rfl _ (Int.toNat_of_nonneg (by omega)).symm (by omega) ?_)
          | (refine G.indexAddr rfl (by first | exact T.slc_28 | exact T.slc_47 | exact T.slc_48) (by first | exact T.sz_27 | exact T.sz_49) rfl rfl _ rfl (by omega) ?_)
          | (refine G.indexAddr rfl (by first | exact T.slc_28 | exact T.slc_47 | exact T.slc_48) (by first | exact T.sz_27 | exact T.sz_49) rfl rfl _ (Int.toNat_of_nonneg (by omega)).symm (by omega) ?_)
          | (refine G.indexAddrA rfl T.arr_49 (by first | exact T.sz_3 | exact T.sz_5 | exact T.sz_27 | exact T.sz_49) rfl rfl _ rfl (by omega) ?_)
          | (refine G.indexAddrA rfl T.arr_49 (by first | exact T.sz_3 | exact T.sz_5 | exact T.sz_27 | exact T.sz_49) rfl rfl _ (Int.toNat_of_nonneg (by omega)).symm (by omega) ?_)
          | (refine Goal.loud rfl ?_; refine Loud.store0 rfl rfl (by first | exact T.sz_3 | exact T.sz_27 | exact T.sz_32) rfl rfl rfl (by first | exact Nat.le_refl _ | decide | (simp; omega)) rfl ?_)
          | (refine Goal.loud rfl ?_; refine Loud.store1 rfl rfl (by first | exact T.sz_3 | exact T.sz_27 | exact T.sz_32) rfl rfl rfl (by first | exact Nat.le_refl _ | decide | (simp; omega)) rfl ?_)
          | (refine Goal.loud rfl ?_; refine Loud.store2 rfl rfl (by first | exact T.sz_3 | exact T.sz_27 | exact T.sz_32) rfl rfl rfl (by first | exact Nat.le_refl _ | decide | (simp; omega)) rfl ?_)
          | (refine Goal.loud rfl ?_; refine Loud.store3 rfl rfl (by first | exact T.sz_3 | exact T.sz_27 | exact T.sz_32) rfl rfl rfl (by first | exact Nat.le_refl _ | decide | (simp; omega)) rfl ?_)
          | (refine Goal.loud rfl ?_; refine Loud.store4 rfl rfl (by first | exact T.sz_3 | exact T.sz_27 | exact T.sz_32) rfl rfl rfl (by first | exact Nat.le_refl _ | decide | (simp; omega)) rfl ?_)
          | (refine Goal.loud rfl ?_; refine Loud.store5 rfl rfl (by first | exact T.sz_3 | exact T.sz_27 | exact T.sz_32) rfl rfl rfl (by first | exact Nat.le_refl _ | decide | (simp; omega)) rfl ?_)
          | (refine Goal.loud rfl ?_; refine Loud.store6 rfl rfl (by first | exact T.sz_3 | exact T.sz_27 | exact T.sz_32) rfl rfl rfl (by first | exact Nat.le_refl _ | decide | (simp; omega)) rfl ?_)
          | (refine Goal.loud rfl ?_; refine Loud.store7 rfl rfl (by first | exact T.sz_3 | exact T.sz_27 | exact T.sz_32) rfl rfl rfl (by first | exact Nat.le_refl _ | decide | (simp; omega)) rfl ?_))
        refine Goal.loopP (X := G6) (fun x => [(2, .slice ad ts.length cap), (7, .pointer (some ⟨b7, 0, none⟩)), (8, .int .i64 sp), (9, .slice (some ⟨b42, 0, none⟩) ts.length ts.length), (10, .slice (some ⟨b45, 0, none⟩) ts.length ts.length), (11, .int .i64 last), (14, .int .i64 now), (15, .int .i64 x.i)]) (fun x => [(b45, .cells (ints x.nt).toArray 3), (b42, .cells (Els pr x.ss).toArray 27), (b7, .cells #[.int .i64 Ga, .int .i64 Ho] 32)])
          (fun x => (0 ≤ x.i ∧ x.i ≤ ts.length) ∧ x.ss.length = ts.length ∧ x.nt.length = ts.length ∧ (∀ j : Int, x.i ≤ j → j < ts.length → el x.ss j = nst Ga Ho (two (dd ts sp j)) (now - 1) ∧ ia x.nt j = cn (dd ts sp j) (now - 1)) ∧ ∀ j : Int, 0 ≤ j → j < x.i → el x.ss j = nst Ga Ho (two (dd ts sp j)) now ∧ ia x.nt j = cn (dd ts sp j) now) (fun x => (ts.length - x.i).toNat) ⟨0, ss, nt⟩ ⟨rfl, rfl, rfl, rfl, rfl, rfl, rfl, rfl, trivial⟩ (fun _ h => h)
          ⟨by dsimp only; omega, hs, ht, he, fun j j0 j1 => by dsimp only at j1; omega⟩ ?_
        clear he hs ht
        rintro ⟨i, ss, nt⟩ ⟨hi, hs, ht, he, hd⟩
        dsimp only at hi hs ht he hd ⊢
        by_cases hlt : i < ts.length
        · obtain ⟨bt, ot, rfl, hk⟩ := rd_els hr (by omega)
          have hBi := hB i hi.1 hlt
          have hDi := hD i
          obtain ⟨e1, e2⟩ := he i (Int.le_refl _) hlt
          have hv : vld (el ss i).1 (el ss i).2 Ga Ho := by rw [e1]; exact nst_vld hG.1 hH.1 hG.2 hH.2
          repeat' (first
            | (refine Goal.drawAll (id := 25) 13 T.mixed ?_; all_goals ((refine Goal.takeP (listed' := #[true, false, false, false, false, false, false, false, false, false, false, false, false, false, false]) 0 ⟨rfl, by kernel_rfl, by kernel_rfl, by kernel_rfl, by kernel_rfl⟩ rfl (fun _ _ _ _ h => h) (by intro _; exact Run.move rfl) ?_)); all_goals ((refine Goal.takeP (listed' := #[true, true, false, false, false, false, false, false, false, false, false, false, false, false, false]) 1 ⟨rfl, by kernel_rfl, by kernel_rfl, by kernel_rfl, by kernel_rfl⟩ rfl (fun _ _ _ _ h => h) (by intro _; exact Run.move rfl) ?_)); all_goals ((refine Goal.takeP (listed' := #[true, true, true, false, false, false, false, false, false, false, false, false, false, false, false]) 2 ⟨rfl, by kernel_rfl, by kernel_rfl, by kernel_rfl, by kernel_rfl⟩ rfl (fun _ _ _ _ h => h) (by intro _; exact Run.move rfl) ?_)); all_goals ((refine Goal.takeP (listed' := #[true, true, true, true, false, false, false, false, false, false, false, false, false, false, false]) 3 ⟨rfl, by kernel_rfl, by kernel_rfl, by kernel_rfl, by kernel_rfl⟩ rfl (fun _ _ _ _ h => h) (by intro _; exact Run.move rfl) ?_)); all_goals ((refine Goal.takeP (listed' := #[true, true, true, true, true, false, false, false, false, false, false, false, false, false, false]) 4 ⟨rfl, by kernel_rfl, by kernel_rfl, by kernel_rfl, by kernel_rfl⟩ rfl (fun _ _ _ _ h => h) (by intro _; first | exact Run.indexAddr T.slc_48 T.sz_27 rfl rfl rfl (by omega) | exact Run.indexAddr T.slc_48 T.sz_27 rfl rfl (Int.toNat_of_nonneg (by omega)).symm (by omega)) ?_)); all_goals ((refine Goal.take (listed' := #[true, true, true, true, true, true, false, false, false, false, false, false, false, false, false]) 5 ⟨rfl, by kernel_rfl, by kernel_rfl, by kernel_rfl, by kernel_rfl, by kernel_rfl⟩ rfl (by (first | exact fun _ h => h | exact fun _ h => h.sub (.cons _ (.refl _)) | exact fun _ h => h.sub (.cons _ (.cons _ (.refl _))) | exact fun _ h => h.sub (.cons _ (.cons _ (.cons _ (.refl _)))) | exact fun _ h => h.drop | exact fun _ h => h.sub (List.sublist_append_left _ _))) (fun _ _ _ _ h => h) (by (apply Run.load; exact rfl; first | exact LoadOK.el T.agg_27 1 hf rfl (by omega) | exact LoadOK.agg (vs := [_, _]) T.agg_27 0 rfl rfl ⟨rfl, rfl, trivial⟩ | exact LoadOK.agg (vs := [_, _]) T.agg_27 1 rfl rfl ⟨rfl, rfl, trivial⟩ | exact LoadOK.agg (vs := [_, _]) T.agg_27 2 rfl rfl ⟨rfl, rfl, trivial⟩ | exact LoadOK.agg (vs := [_, _]) T.agg_27 3 rfl rfl ⟨rfl, rfl, trivial⟩ | exact LoadOK.agg (vs := [_, _]) T.agg_27 4 rfl rfl ⟨rfl, rfl, trivial⟩ | exact LoadOK.agg (vs := [_, _]) T.agg_27 5 rfl rfl ⟨rfl, rfl, trivial⟩ | exact LoadOK.agg (vs := [_, _]) T.agg_27 6 rfl rfl ⟨rfl, rfl, trivial⟩ | exact LoadOK.agg (vs := [_, _]) T.agg_27 7 rfl rfl ⟨rfl, rfl, trivial⟩)) ?_)); all_goals ((refine Goal.take (listed' := #[true, true, true, true, true, true, true, false, false, false, false, false, false, false, false]) 6 ⟨rfl, by kernel_rfl, by kernel_rfl, by kernel_rfl, by kernel_rfl, by kernel_rfl⟩ rfl (by (first | exact fun _ h => h | exact fun _ h => h.sub (.cons _ (.refl _)) | exact fun _ h => h.sub (.cons _ (.cons _ (.refl _))) | exact fun _ h => h.sub (.cons _ (.cons _ (.cons _ (.refl _)))) | exact fun _ h => h.drop | exact fun _ h => h.sub (List.sublist_append_left _ _))) (fun _ _ _ _ h => h) (by (apply Run.load; exact rfl; first | exact LoadOK.el T.agg_27 1 hf rfl (by omega) | exact LoadOK.agg (vs := [_, _]) T.agg_32 0 rfl rfl ⟨rfl, rfl, trivial⟩ | exact LoadOK.agg (vs := [_, _]) T.agg_32 1 rfl rfl ⟨rfl, rfl, trivial⟩ | exact LoadOK.agg (vs := [_, _]) T.agg_32 2 rfl rfl ⟨rfl, rfl, trivial⟩ | exact LoadOK.agg (vs := [_, _]) T.agg_32 3 rfl rfl ⟨rfl, rfl, trivial⟩ | exact LoadOK.agg (vs := [_, _]) T.agg_32 4 rfl rfl ⟨rfl, rfl, trivial⟩ | exact LoadOK.agg (vs := [_, _]) T.agg_32 5 rfl rfl ⟨rfl, rfl, trivial⟩ | exact LoadOK.agg (vs := [_, _]) T.agg_32 6 rfl rfl ⟨rfl, rfl, trivial⟩ | exact LoadOK.agg (vs := [_, _]) T.agg_32 7 rfl rfl ⟨rfl, rfl, trivial⟩)) ?_)); all_goals (refine Goal.ready1 (i := 7) (by kernel_rfl) ?_); all_goals ((refine Goal.up (i := 7) (listed' := #[true, true, true, true, true, true, true, true, false, false, false, false, false, false, false]) rfl (by kernel_rfl) ?_; (apply Loud.callN; exact rfl; exact rfl; exact rfl; exact rfl; exact T.bod_10; exact (fun w H => tick_z (el ss i).1 (el ss i).2 Ga Ho 1 w (by decide) hv); rintro ⟨vE, AE⟩ hE; dsimp only at hE ⊢); first | refine Goal.tail rfl ?_ | refine Goal.kept (by (first | exact fun _ h => h | exact fun _ h => h.sub (.cons _ (.refl _)) | exact fun _ h => h.sub (.cons _ (.cons _ (.refl _))) | exact fun _ h => h.sub (.cons _ (.cons _ (.cons _ (.refl _)))) | exact fun _ h => h.drop | exact fun _ h => h.sub (List.sublist_append_left _ _))) ?_)); all_goals ((refine Goal.takeP (listed' := #[true, true, true, true, true, true, true, true, true, false, false, false, false, false, false]) 8 ⟨rfl, by kernel_rfl, by kernel_rfl, by kernel_rfl, by kernel_rfl⟩ rfl (fun _ _ _ _ h => h) (by intro _; exact Run.move rfl) ?_)); all_goals ((refine Goal.takeP (listed' := #[true, true, true, true, true, true, true, true, true, true, false, false, false, false, false]) 9 ⟨rfl, by kernel_rfl, by kernel_rfl, by kernel_rfl, by kernel_rfl⟩ rfl (fun _ _ _ _ h => h) (by intro _; exact Run.extract rfl rfl) ?_)); all_goals ((refine Goal.takeP (listed' := #[true, true, true, true, true, true, true, true, true, true, true, false, false, false, false]) 10 ⟨rfl, by kernel_rfl, by kernel_rfl, by kernel_rfl, by kernel_rfl⟩ rfl (fun _ _ _ _ h => h) (by intro _; exact Run.extract rfl rfl) ?_)); all_goals ((refine Goal.takeP (listed' := #[true, true, true, true, true, true, true, true, true, true, true, true, false, false, false]) 11 ⟨rfl, by kernel_rfl, by kernel_rfl, by kernel_rfl, by kernel_rfl⟩ rfl (fun _ _ _ _ h => h) (by intro _; exact Run.extract rfl rfl) ?_)); all_goals ((refine Goal.takeP (listed' := #[true, true, true, true, true, true, true, true, true, true, true, true, true, false, false]) 12 ⟨rfl, by kernel_rfl, by kernel_rfl, by kernel_rfl, by kernel_rfl⟩ rfl (fun _ _ _ _ h => h) (by intro _; first | exact Run.indexAddr T.slc_48 T.sz_27 rfl rfl rfl (by omega) | exact Run.indexAddr T.slc_48 T.sz_27 rfl rfl (Int.toNat_of_nonneg (by omega)).symm (by omega)) ?_)); all_goals (refine Goal.ready1 (i := 13) (by kernel_rfl) ?_); all_goals ((refine Goal.up (i := 13) (listed' := #[true, true, true, true, true, true, true, true, true, true, true, true, true, true, false]) rfl (by kernel_rfl) ?_; (first | refine Loud.store1 rfl rfl T.sz_27 rfl rfl rfl (by rw [List.size_toArray, Els_len hf]; omega) (wr_el (x := ((tk (el ss i).1 (el ss i).2 Ho 1).1, (tk (el ss i).1 (el ss i).2 Ho 1).2.1)) hf (by omega)) ?_ | refine Loud.store0 rfl rfl T.sz_27 rfl rfl rfl (by first | exact Nat.le_refl _ | decide | (simp; omega)) rfl ?_ | refine Loud.store1 rfl rfl T.sz_27 rfl rfl rfl (by first | exact Nat.le_refl _ | decide | (simp; omega)) rfl ?_ | refine Loud.store2 rfl rfl T.sz_27 rfl rfl rfl (by first | exact Nat.le_refl _ | decide | (simp; omega)) rfl ?_ | refine Loud.store3 rfl rfl T.sz_27 rfl rfl rfl (by first | exact Nat.le_refl _ | decide | (simp; omega)) rfl ?_ | refine Loud.store4 rfl rfl T.sz_27 rfl rfl rfl (by first | exact Nat.le_refl _ | decide | (simp; omega)) rfl ?_ | refine Loud.store5 rfl rfl T.sz_27 rfl rfl rfl (by first | exact Nat.le_refl _ | decide | (simp; omega)) rfl ?_ | refine Loud.store6 rfl rfl T.sz_27 rfl rfl rfl (by first | exact Nat.le_refl _ | decide | (simp; omega)) rfl ?_ | refine Loud.store7 rfl rfl T.sz_27 rfl rfl rfl (by first | exact Nat.le_refl _ | decide | (simp; omega)) rfl ?_); first | refine Goal.tail rfl ?_ | refine Goal.kept (by (first | exact fun _ h => h | exact fun _ h => h.sub (.cons _ (.refl _)) | exact fun _ h => h.sub (.cons _ (.cons _ (.refl _))) | exact fun _ h => h.sub (.cons _ (.cons _ (.cons _ (.refl _)))) | exact fun _ h => h.drop | exact fun _ h => h.sub (List.sublist_append_left _ _))) ?_)); all_goals ((refine Goal.takeP (listed' := #[true, true, true, true, true, true, true, true, true, true, true, true, true, true, true]) 14 ⟨rfl, by kernel_rfl, by kernel_rfl, by kernel_rfl, by kernel_rfl⟩ rfl (fun _ _ _ _ h => h) (by intro _; exact Run.assign rfl) ?_)); all_goals (refine Goal.allUp (by kernel_rfl) ?_))
            | (refine Goal.loud (o := ⟨some 89, _, _, _, _, _⟩) rfl ?_; apply Loud.callN; exact rfl; exact rfl; exact rfl; exact rfl; exact T.bod_10; exact (fun w H => tick_z (el ss i).1 (el ss i).2 Ga Ho 1 w (by decide) hv); rintro ⟨vE, AE⟩ hE; dsimp only at hE ⊢)
            | (refine Goal.loud (o := ⟨some 7, _, _, _, _, _⟩) rfl ?_; refine Loud.allocA rfl T.inf_32 (fun b7 => ?_))
            | (refine Goal.loud (o := ⟨some 42, _, _, _, _, _⟩) rfl ?_; first | refine Loud.makeSlice rfl T.slc_48 T.inf_27 rfl rfl (by decide) rfl rfl rfl rfl (by omega) (by omega) (by omega) (fun b42 => ?_) | refine Loud.makeSlice rfl T.slc_48 T.inf_27 rfl rfl (by decide) rfl rfl (Int.toNat_of_nonneg (by omega)).symm (Int.toNat_of_nonneg (by omega)).symm (by omega) (by omega) (by omega) (fun b42 => ?_))
            | (refine Goal.loud (o := ⟨some 45, _, _, _, _, _⟩) rfl ?_; first | refine Loud.makeSlice rfl T.slc_28 T.inf_3 rfl rfl (by decide) rfl rfl rfl rfl (by omega) (by omega) (by omega) (fun b45 => ?_) | refine Loud.makeSlice rfl T.slc_28 T.inf_3 rfl rfl (by decide) rfl rfl (Int.toNat_of_nonneg (by omega)).symm (Int.toNat_of_nonneg (by omega)).symm (by omega) (by omega) (by omega) (fun b45 => ?_))
            | (apply G.move; exact rfl; exact rfl)
            | (apply G.assign; exact rfl; exact rfl)
            | refine Goal.seq (fun _ _ => ?_)
            | refine Goal.next (by assumption) ?_
            | refine Goal.lnil ?_
            | refine Goal.region ?_
            | refine Goal.skip ?_
            | refine Goal.block ?_
            | refine Goal.exit ?_
            | refine Goal.ret ?_
            | refine Goal.then_exit ?_
            | refine Goal.then_ret ?_
            | refine Goal.inBlock_exit ?_
            | refine Goal.inBlock_normal ?_
            | refine Goal.inBlock_ret ?_
            | refine Goal.inBlock_other rfl ?_
            | (apply Goal.condT; exact rfl)
            | (apply Goal.condF; exact rfl)
            | (refine Goal.condD rfl (fun hc => ?_) (fun hc => ?_) <;> first | (exfalso; omega) | contradiction | skip)
            | refine Goal.condB rfl (fun hc => ?_) (fun hc => ?_)
            | refine Goal.guardT rfl rfl ?_
            | refine Goal.guardF rfl rfl rfl rfl ?_
            | refine Goal.guardU rfl rfl rfl ?_
            | (refine Goal.guardD rfl rfl (fun hc => ?_) (fun hc => ?_) <;> first | (exfalso; omega) | contradiction | skip)
            | refine Goal.guardB rfl rfl (fun hc => ?_) (fun hc => ?_)
            | (apply G.fieldAddr; exact rfl; exact rfl; (first | exact T.fld_27_0 | exact T.fld_32_0 | exact T.fld_32_1))
            | (apply G.load; exact rfl; exact rfl; first | exact LoadOK.el T.agg_27 1 hf rfl (by omega) | exact LoadOK.one (by first | exact T.one_3 | exact T.one_5) 0 rfl rfl | exact LoadOK.one (by first | exact T.one_3 | exact T.one_5) 1 rfl rfl | exact LoadOK.one (by first | exact T.one_3 | exact T.one_5) 2 rfl rfl | exact LoadOK.one (by first | exact T.one_3 | exact T.one_5) 3 rfl rfl | exact LoadOK.one (by first | exact T.one_3 | exact T.one_5) 4 rfl rfl | exact LoadOK.one (by first | exact T.one_3 | exact T.one_5) 5 rfl rfl | exact LoadOK.one (by first | exact T.one_3 | exact T.one_5) 6 rfl rfl | exact LoadOK.one (by first | exact T.one_3 | exact T.one_5) 7 rfl rfl | exact LoadOK.agg (vs := [_, _]) T.agg_27 0 rfl rfl ⟨rfl, rfl, trivial⟩ | exact LoadOK.agg (vs := [_, _]) T.agg_27 1 rfl rfl ⟨rfl, rfl, trivial⟩ | exact LoadOK.agg (vs := [_, _]) T.agg_27 2 rfl rfl ⟨rfl, rfl, trivial⟩ | exact LoadOK.agg (vs := [_, _]) T.agg_27 3 rfl rfl ⟨rfl, rfl, trivial⟩ | exact LoadOK.agg (vs := [_, _]) T.agg_27 4 rfl rfl ⟨rfl, rfl, trivial⟩ | exact LoadOK.agg (vs := [_, _]) T.agg_27 5 rfl rfl ⟨rfl, rfl, trivial⟩ | exact LoadOK.agg (vs := [_, _]) T.agg_27 6 rfl rfl ⟨rfl, rfl, trivial⟩ | exact LoadOK.agg (vs := [_, _]) T.agg_27 7 rfl rfl ⟨rfl, rfl, trivial⟩ | exact LoadOK.agg (vs := [_, _]) T.agg_32 0 rfl rfl ⟨rfl, rfl, trivial⟩ | exact LoadOK.agg (vs := [_, _]) T.agg_32 1 rfl rfl ⟨rfl, rfl, trivial⟩ | exact LoadOK.agg (vs := [_, _]) T.agg_32 2 rfl rfl ⟨rfl, rfl, trivial⟩ | exact LoadOK.agg (vs := [_, _]) T.agg_32 3 rfl rfl ⟨rfl, rfl, trivial⟩ | exact LoadOK.agg (vs := [_, _]) T.agg_32 4 rfl rfl ⟨rfl, rfl, trivial⟩ | exact LoadOK.agg (vs := [_, _]) T.agg_32 5 rfl rfl ⟨rfl, rfl, trivial⟩ | exact LoadOK.agg (vs := [_, _]) T.agg_32 6 rfl rfl ⟨rfl, rfl, trivial⟩ | exact LoadOK.agg (vs := [_, _]) T.agg_32 7 rfl rfl ⟨rfl, rfl, trivial⟩)
            | (apply G.pickT; exact rfl; exact rfl; exact rfl)
            | (apply G.pickF; exact rfl; exact rfl; exact rfl)
            | (apply G.lss; exact rfl; exact rfl; exact rfl)
            | (apply G.gtr; exact rfl; exact rfl; exact rfl)
            | (apply G.eql; exact rfl; exact rfl; exact rfl)
            | (apply G.neq; exact rfl; exact rfl; exact rfl)
            | (apply G.add; exact rfl; exact rfl; exact rfl; first | exact IntWalk.i64_in _ (by omega) | exact IntWalk.u8_in _ (by omega) | exact IntWalk.u16_in _ (by omega) | exact IntWalk.u32_in _ (by omega) | exact IntWalk.u64_in _ (by omega))
            | (apply G.eqlI2; exact rfl; exact T.i2_27; exact rfl; exact rfl)
            | (apply G.neqI2; exact rfl; exact T.i2_27; exact rfl; exact rfl)
            | (apply G.rem; exact rfl; exact rfl; exact rfl; (first | decide | omega); exact IntWalk.rem_in _ _ (by omega))
            | (apply G.conv; exact rfl; exact rfl; (first | exact T.int_3 | exact T.int_5); (first | exact T.int_3 | exact T.int_5); first | exact IntWalk.i64_in _ (by omega) | exact IntWalk.u8_in _ (by omega) | exact IntWalk.u16_in _ (by omega) | exact IntWalk.u32_in _ (by omega) | exact IntWalk.u64_in _ (by omega))
            | (apply G.notT; exact rfl; exact rfl)
            | (apply G.notF; exact rfl; exact rfl)
            | (refine G.notD rfl rfl ?_)
            | (apply G.notB; exact rfl; exact rfl)
            | (apply G.extract; exact rfl; exact rfl; exact rfl)
            | (apply G.build (cs := [_, _]); exact rfl; exact T.lay_27; exact rfl; exact rfl)
            | (apply G.build (cs := [_, _]); exact rfl; exact T.lay_32; exact rfl; exact rfl)
            | (apply G.len; exact rfl; exact rfl; (first | exact T.slc_47 | exact T.slc_48))
            | (refine Goal.quiet rfl (Run.max2 rfl rfl) ?_)
            | (refine Goal.quiet rfl (Run.min2 rfl rfl) ?_)
            | (refine G.indexAddr1 rfl (by first | exact T.slc_28 | exact T.slc_47 | exact T.slc_48) (by first | exact T.sz_3 | exact T.sz_5) rfl rfl _ rfl (by omega) ?_)
            | (refine G.indexAddr1 rfl (by first | exact T.slc_28 | exact T.slc_47 | exact T.slc_48) (by first | exact T.sz_3 | exact T.sz_5) rfl rfl _ (Int.toNat_of_nonneg (by omega)).symm (by omega) ?_)
            | (refine G.indexAddr rfl (by first | exact T.slc_28 | exact T.slc_47 | exact T.slc_48) (by first | exact T.sz_27 | exact T.sz_49) rfl rfl _ rfl (by omega) ?_)
            | (refine G.indexAddr rfl (by first | exact T.slc_28 | exact T.slc_47 | exact T.slc_48) (by first | exact T.sz_27 | exact T.sz_49) rfl rfl _ (Int.toNat_of_nonneg (by omega)).symm (by omega) ?_)
            | (refine G.indexAddrA rfl T.arr_49 (by first | exact T.sz_3 | exact T.sz_5 | exact T.sz_27 | exact T.sz_49) rfl rfl _ rfl (by omega) ?_)
            | (refine G.indexAddrA rfl T.arr_49 (by first | exact T.sz_3 | exact T.sz_5 | exact T.sz_27 | exact T.sz_49) rfl rfl _ (Int.toNat_of_nonneg (by omega)).symm (by omega) ?_)
            | (refine Goal.loud rfl ?_; refine Loud.store1 rfl rfl T.sz_3 rfl rfl rfl (by rw [List.size_toArray, Els_len hf]; omega) (wr_el (x := ((tk (el ss i).1 (el ss i).2 Ho 1).1, (tk (el ss i).1 (el ss i).2 Ho 1).2.1)) hf (by omega)) ?_)
            | (refine Goal.loud rfl ?_; refine Loud.store1 rfl rfl T.sz_27 rfl rfl rfl (by rw [List.size_toArray, Els_len hf]; omega) (wr_el (x := ((tk (el ss i).1 (el ss i).2 Ho 1).1, (tk (el ss i).1 (el ss i).2 Ho 1).2.1)) hf (by omega)) ?_)
            | (refine Goal.loud rfl ?_; refine Loud.store1 rfl rfl T.sz_32 rfl rfl rfl (by rw [List.size_toArray, Els_len hf]; omega) (wr_el (x := ((tk (el ss i).1 (el ss i).2 Ho 1).1, (tk (el ss i).1 (el ss i).2 Ho 1).2.1)) hf (by omega)) ?_)
            | (refine Goal.loud rfl ?_; refine Loud.store0 rfl rfl (by first | exact T.sz_3 | exact T.sz_27 | exact T.sz_32) rfl rfl rfl (by first | exact Nat.le_refl _ | decide | (simp; omega)) rfl ?_)
            | (refine Goal.loud rfl ?_; refine Loud.store1 rfl rfl (by first | exact T.sz_3 | exact T.sz_27 | exact T.sz_32) rfl rfl rfl (by first | exact Nat.le_refl _ | decide | (simp; omega)) rfl ?_)
            | (refine Goal.loud rfl ?_; refine Loud.store2 rfl rfl (by first | exact T.sz_3 | exact T.sz_27 | exact T.sz_32) rfl rfl rfl (by first | exact Nat.le_refl _ | decide | (simp; omega)) rfl ?_)
            | (refine Goal.loud rfl ?_; refine Loud.store3 rfl rfl (by first | exact T.sz_3 | exact T.sz_27 | exact T.sz_32) rfl rfl rfl (by first | exact Nat.le_refl _ | decide | (simp; omega)) rfl ?_)
            | (refine Goal.loud rfl ?_; refine Loud.store4 rfl rfl (by first | exact T.sz_3 | exact T.sz_27 | exact T.sz_32) rfl rfl rfl (by first | exact Nat.le_refl _ | decide | (simp; omega)) rfl ?_)
            | (refine Goal.loud rfl ?_; refine Loud.store5 rfl rfl (by first | exact T.sz_3 | exact T.sz_27 | exact T.sz_32) rfl rfl rfl (by first | exact Nat.le_refl _ | decide | (simp; omega)) rfl ?_)
            | (refine Goal.loud rfl ?_; refine Loud.store6 rfl rfl (by first | exact T.sz_3 | exact T.sz_27 | exact T.sz_32) rfl rfl rfl (by first | exact Nat.le_refl _ | decide | (simp; omega)) rfl ?_)
            | (refine Goal.loud rfl ?_; refine Loud.store7 rfl rfl (by first | exact T.sz_3 | exact T.sz_27 | exact T.sz_32) rfl rfl rfl (by first | exact Nat.le_refl _ | decide | (simp; omega)) rfl ?_))
          refine Goal.loopP (X := G6) (fun x => [(2, .slice (some ⟨bt, ot, none⟩) ts.length cap), (7, .pointer (some ⟨b7, 0, none⟩)), (8, .int .i64 sp), (9, .slice (some ⟨b42, 0, none⟩) ts.length ts.length), (10, .slice (some ⟨b45, 0, none⟩) ts.length ts.length), (11, .int .i64 last), (14, .int .i64 now), (15, .int .i64 i), (17, .int .i64 x.i)]) (fun x => [(b45, .cells (ints x.nt).toArray 3), (b42, .cells (Els pr x.ss).toArray 27), (b7, .cells #[.int .i64 Ga, .int .i64 Ho] 32)])
            (fun x => (0 ≤ x.i ∧ x.i ≤ 2) ∧ x.ss.length = ts.length ∧ x.nt.length = ts.length ∧ (∀ j : Int, i + 1 ≤ j → j < ts.length → el x.ss j = nst Ga Ho (two (dd ts sp j)) (now - 1) ∧ ia x.nt j = cn (dd ts sp j) (now - 1)) ∧ (∀ j : Int, 0 ≤ j → j < i → el x.ss j = nst Ga Ho (two (dd ts sp j)) now ∧ ia x.nt j = cn (dd ts sp j) now) ∧ el x.ss i = stg Ga Ho (dd ts sp i) now x.i ∧ ia x.nt i = cnk (dd ts sp i) now x.i) (fun x => (2 - x.i).toNat) ⟨0, ss.set i.toNat ((tk (el ss i).1 (el ss i).2 Ho 1).1, (tk (el ss i).1 (el ss i).2 Ho 1).2.1), nt⟩ ⟨rfl, rfl, rfl, rfl, rfl, rfl, rfl, rfl, rfl, trivial⟩ (fun _ h => h.sub (List.sublist_append_left _ _))
            ⟨by dsimp only; omega, by simpa using hs, ht, fun j j0 j1 => ?_, fun j j0 j1 => ?_, ?_, ?_⟩ ?_
          · dsimp only
            rw [el_set (by omega) (by omega), if_neg (by omega)]
            exact he j (by omega) j1
          · dsimp only
            rw [el_set (by omega) (by omega), if_neg (by omega)]
            exact hd j j0 j1
          · dsimp only
            rw [el_set (by omega) (by omega), if_pos rfl, e1]
            rfl
          · dsimp only
            rw [e2]
            exact cnk_zero.symm
          clear e1 e2 he hd hv hs ht hE
          rintro ⟨k, ss, nt⟩ ⟨hk2, hs, ht, he, hd, e1, e2⟩
          dsimp only at hk2 hs ht he hd e1 e2 ⊢
          unfold dd at hDi
          dsimp only at hDi
          rcases (by omega : k = 0 ∨ k = 1 ∨ k = 2) with rfl | rfl | rfl
          · have hvk : vld (el ss i).1 (el ss i).2 Ga Ho := by rw [e1]; exact stg_vld hG.1 hH.1 hG.2 hH.2
            have hc0 : 0 ≤ ia nt i ∧ ia nt i ≤ 4 := by
              rw [e2]
              have := cn_pos (dd ts sp i) (now - 1)
              unfold cnk
              repeat' split
              all_goals omega
            repeat' (first
              | (refine Goal.drawAll (id := 32) 12 T.mixed ?_; all_goals ((refine Goal.takeP (listed' := #[true, false, false, false, false, false, false, false, false, false, false, false, false, false]) 0 ⟨rfl, by kernel_rfl, by kernel_rfl, by kernel_rfl, by kernel_rfl⟩ rfl (fun _ _ _ _ h => h) (by intro _; exact Run.move rfl) ?_)); all_goals ((refine Goal.takeP (listed' := #[true, true, false, false, false, false, false, false, false, false, false, false, false, false]) 1 ⟨rfl, by kernel_rfl, by kernel_rfl, by kernel_rfl, by kernel_rfl⟩ rfl (fun _ _ _ _ h => h) (by intro _; exact Run.move rfl) ?_)); all_goals ((refine Goal.takeP (listed' := #[true, true, true, false, false, false, false, false, false, false, false, false, false, false]) 2 ⟨rfl, by kernel_rfl, by kernel_rfl, by kernel_rfl, by kernel_rfl⟩ rfl (fun _ _ _ _ h => h) (by intro _; exact Run.move rfl) ?_)); all_goals ((refine Goal.takeP (listed' := #[true, true, true, true, false, false, false, false, false, false, false, false, false, false]) 3 ⟨rfl, by kernel_rfl, by kernel_rfl, by kernel_rfl, by kernel_rfl⟩ rfl (fun _ _ _ _ h => h) (by intro _; exact Run.move rfl) ?_)); all_goals ((refine Goal.takeP (listed' := #[true, true, true, true, true, false, false, false, false, false, false, false, false, false]) 4 ⟨rfl, by kernel_rfl, by kernel_rfl, by kernel_rfl, by kernel_rfl⟩ rfl (fun _ _ _ _ h => h) (by intro _; first | exact Run.indexAddr T.slc_48 T.sz_27 rfl rfl rfl (by omega) | exact Run.indexAddr T.slc_48 T.sz_27 rfl rfl (Int.toNat_of_nonneg (by omega)).symm (by omega)) ?_)); all_goals ((refine Goal.take (listed' := #[true, true, true, true, true, true, false, false, false, false, false, false, false, false]) 5 ⟨rfl, by kernel_rfl, by kernel_rfl, by kernel_rfl, by kernel_rfl, by kernel_rfl⟩ rfl (by (first | exact fun _ h => h | exact fun _ h => h.sub (.cons _ (.refl _)) | exact fun _ h => h.sub (.cons _ (.cons _ (.refl _))) | exact fun _ h => h.sub (.cons _ (.cons _ (.cons _ (.refl _)))) | exact fun _ h => h.drop | exact fun _ h => h.sub (List.sublist_append_left _ _))) (fun _ _ _ _ h => h) (by (apply Run.load; exact rfl; first | exact LoadOK.old T.one_5 (hk i hi.1 hlt 0 _ rfl) (by simp) | exact LoadOK.el T.agg_27 1 hf rfl (by omega) | exact LoadOK.ia T.one_3 0 rfl (by omega) | exact LoadOK.agg (vs := [_, _]) T.agg_27 0 rfl rfl ⟨rfl, rfl, trivial⟩ | exact LoadOK.agg (vs := [_, _]) T.agg_27 1 rfl rfl ⟨rfl, rfl, trivial⟩ | exact LoadOK.agg (vs := [_, _]) T.agg_27 2 rfl rfl ⟨rfl, rfl, trivial⟩ | exact LoadOK.agg (vs := [_, _]) T.agg_27 3 rfl rfl ⟨rfl, rfl, trivial⟩ | exact LoadOK.agg (vs := [_, _]) T.agg_27 4 rfl rfl ⟨rfl, rfl, trivial⟩ | exact LoadOK.agg (vs := [_, _]) T.agg_27 5 rfl rfl ⟨rfl, rfl, trivial⟩ | exact LoadOK.agg (vs := [_, _]) T.agg_27 6 rfl rfl ⟨rfl, rfl, trivial⟩ | exact LoadOK.agg (vs := [_, _]) T.agg_27 7 rfl rfl ⟨rfl, rfl, trivial⟩)) ?_)); all_goals ((refine Goal.take (listed' := #[true, true, true, true, true, true, true, false, false, false, false, false, false, false]) 6 ⟨rfl, by kernel_rfl, by kernel_rfl, by kernel_rfl, by kernel_rfl, by kernel_rfl⟩ rfl (by (first | exact fun _ h => h | exact fun _ h => h.sub (.cons _ (.refl _)) | exact fun _ h => h.sub (.cons _ (.cons _ (.refl _))) | exact fun _ h => h.sub (.cons _ (.cons _ (.cons _ (.refl _)))) | exact fun _ h => h.drop | exact fun _ h => h.sub (List.sublist_append_left _ _))) (fun _ _ _ _ h => h) (by (apply Run.load; exact rfl; first | exact LoadOK.old T.one_5 (hk i hi.1 hlt 0 _ rfl) (by simp) | exact LoadOK.el T.agg_27 1 hf rfl (by omega) | exact LoadOK.ia T.one_3 0 rfl (by omega) | exact LoadOK.agg (vs := [_, _]) T.agg_32 0 rfl rfl ⟨rfl, rfl, trivial⟩ | exact LoadOK.agg (vs := [_, _]) T.agg_32 1 rfl rfl ⟨rfl, rfl, trivial⟩ | exact LoadOK.agg (vs := [_, _]) T.agg_32 2 rfl rfl ⟨rfl, rfl, trivial⟩ | exact LoadOK.agg (vs := [_, _]) T.agg_32 3 rfl rfl ⟨rfl, rfl, trivial⟩ | exact LoadOK.agg (vs := [_, _]) T.agg_32 4 rfl rfl ⟨rfl, rfl, trivial⟩ | exact LoadOK.agg (vs := [_, _]) T.agg_32 5 rfl rfl ⟨rfl, rfl, trivial⟩ | exact LoadOK.agg (vs := [_, _]) T.agg_32 6 rfl rfl ⟨rfl, rfl, trivial⟩ | exact LoadOK.agg (vs := [_, _]) T.agg_32 7 rfl rfl ⟨rfl, rfl, trivial⟩)) ?_)); all_goals (refine Goal.ready1 (i := 7) (by kernel_rfl) ?_); all_goals ((refine Goal.up (i := 7) (listed' := #[true, true, true, true, true, true, true, true, false, false, false, false, false, false]) rfl (by kernel_rfl) ?_; (apply Loud.call0; exact rfl; exact rfl; exact rfl; exact rfl; exact T.bod_14; exact (fun w H => change_e (el ss i).1 (el ss i).2 (chg (el ss i).1 (el ss i).2 Ga Ho).1 (chg (el ss i).1 (el ss i).2 Ga Ho).2 Ga Ho w hvk rfl)); first | refine Goal.tail rfl ?_ | refine Goal.kept (by (first | exact fun _ h => h | exact fun _ h => h.sub (.cons _ (.refl _)) | exact fun _ h => h.sub (.cons _ (.cons _ (.refl _))) | exact fun _ h => h.sub (.cons _ (.cons _ (.cons _ (.refl _)))) | exact fun _ h => h.drop | exact fun _ h => h.sub (List.sublist_append_left _ _))) ?_)); all_goals ((refine Goal.takeP (listed' := #[true, true, true, true, true, true, true, true, true, false, false, false, false, false]) 8 ⟨rfl, by kernel_rfl, by kernel_rfl, by kernel_rfl, by kernel_rfl⟩ rfl (fun _ _ _ _ h => h) (by intro _; exact Run.move rfl) ?_)); all_goals ((refine Goal.takeP (listed' := #[true, true, true, true, true, true, true, true, true, true, false, false, false, false]) 9 ⟨rfl, by kernel_rfl, by kernel_rfl, by kernel_rfl, by kernel_rfl⟩ rfl (fun _ _ _ _ h => h) (by intro _; exact Run.extract rfl rfl) ?_)); all_goals ((refine Goal.takeP (listed' := #[true, true, true, true, true, true, true, true, true, true, true, false, false, false]) 10 ⟨rfl, by kernel_rfl, by kernel_rfl, by kernel_rfl, by kernel_rfl⟩ rfl (fun _ _ _ _ h => h) (by intro _; exact Run.extract rfl rfl) ?_)); all_goals ((refine Goal.takeP (listed' := #[true, true, true, true, true, true, true, true, true, true, true, true, false, false]) 11 ⟨rfl, by kernel_rfl, by kernel_rfl, by kernel_rfl, by kernel_rfl⟩ rfl (fun _ _ _ _ h => h) (by intro _; first | exact Run.indexAddr T.slc_48 T.sz_27 rfl rfl rfl (by omega) | exact Run.indexAddr T.slc_48 T.sz_27 rfl rfl (Int.toNat_of_nonneg (by omega)).symm (by omega)) ?_)); all_goals (refine Goal.ready1 (i := 12) (by kernel_rfl) ?_); all_goals ((refine Goal.up (i := 12) (listed' := #[true, true, true, true, true, true, true, true, true, true, true, true, true, false]) rfl (by kernel_rfl) ?_; (first | refine Loud.store1 rfl rfl T.sz_27 rfl rfl rfl (by rw [List.size_toArray, Els_len hf]; omega) (wr_el (x := (chg (el ss i).1 (el ss i).2 Ga Ho)) hf (by omega)) ?_ | refine Loud.store0 rfl rfl T.sz_27 rfl rfl rfl (by rw [List.size_toArray, ints_len]; omega) (wr_ints (by omega)) ?_ | refine Loud.store0 rfl rfl T.sz_27 rfl rfl rfl (by first | exact Nat.le_refl _ | decide | (simp; omega)) rfl ?_ | refine Loud.store1 rfl rfl T.sz_27 rfl rfl rfl (by first | exact Nat.le_refl _ | decide | (simp; omega)) rfl ?_ | refine Loud.store2 rfl rfl T.sz_27 rfl rfl rfl (by first | exact Nat.le_refl _ | decide | (simp; omega)) rfl ?_ | refine Loud.store3 rfl rfl T.sz_27 rfl rfl rfl (by first | exact Nat.le_refl _ | decide | (simp; omega)) rfl ?_ | refine Loud.store4 rfl rfl T.sz_27 rfl rfl rfl (by first | exact Nat.le_refl _ | decide | (simp; omega)) rfl ?_ | refine Loud.store5 rfl rfl T.sz_27 rfl rfl rfl (by first | exact Nat.le_refl _ | decide | (simp; omega)) rfl ?_ | refine Loud.store6 rfl rfl T.sz_27 rfl rfl rfl (by first | exact Nat.le_refl _ | decide | (simp; omega)) rfl ?_ | refine Loud.store7 rfl rfl T.sz_27 rfl rfl rfl (by first | exact Nat.le_refl _ | decide | (simp; omega)) rfl ?_); first | refine Goal.tail rfl ?_ | refine Goal.kept (by (first | exact fun _ h => h | exact fun _ h => h.sub (.cons _ (.refl _)) | exact fun _ h => h.sub (.cons _ (.cons _ (.refl _))) | exact fun _ h => h.sub (.cons _ (.cons _ (.cons _ (.refl _)))) | exact fun _ h => h.drop | exact fun _ h => h.sub (List.sublist_append_left _ _))) ?_)); all_goals ((refine Goal.takeP (listed' := #[true, true, true, true, true, true, true, true, true, true, true, true, true, true]) 13 ⟨rfl, by kernel_rfl, by kernel_rfl, by kernel_rfl, by kernel_rfl⟩ rfl (fun _ _ _ _ h => h) (by intro _; exact Run.assign rfl) ?_)); all_goals (refine Goal.allUp (by kernel_rfl) ?_))
              | (refine Goal.loud (o := ⟨some 119, _, _, _, _, _⟩) rfl ?_; apply Loud.call0; exact rfl; exact rfl; exact rfl; exact rfl; exact T.bod_14; exact (fun w H => change_e (el ss i).1 (el ss i).2 (chg (el ss i).1 (el ss i).2 Ga Ho).1 (chg (el ss i).1 (el ss i).2 Ga Ho).2 Ga Ho w hvk rfl))
              | (refine Goal.loud (o := ⟨some 7, _, _, _, _, _⟩) rfl ?_; refine Loud.allocA rfl T.inf_32 (fun b7 => ?_))
              | (refine Goal.loud (o := ⟨some 42, _, _, _, _, _⟩) rfl ?_; first | refine Loud.makeSlice rfl T.slc_48 T.inf_27 rfl rfl (by decide) rfl rfl rfl rfl (by omega) (by omega) (by omega) (fun b42 => ?_) | refine Loud.makeSlice rfl T.slc_48 T.inf_27 rfl rfl (by decide) rfl rfl (Int.toNat_of_nonneg (by omega)).symm (Int.toNat_of_nonneg (by omega)).symm (by omega) (by omega) (by omega) (fun b42 => ?_))
              | (refine Goal.loud (o := ⟨some 45, _, _, _, _, _⟩) rfl ?_; first | refine Loud.makeSlice rfl T.slc_28 T.inf_3 rfl rfl (by decide) rfl rfl rfl rfl (by omega) (by omega) (by omega) (fun b45 => ?_) | refine Loud.makeSlice rfl T.slc_28 T.inf_3 rfl rfl (by decide) rfl rfl (Int.toNat_of_nonneg (by omega)).symm (Int.toNat_of_nonneg (by omega)).symm (by omega) (by omega) (by omega) (fun b45 => ?_))
              | (apply G.move; exact rfl; exact rfl)
              | (apply G.assign; exact rfl; exact rfl)
              | refine Goal.seq (fun _ _ => ?_)
              | refine Goal.next (by assumption) ?_
              | refine Goal.lnil ?_
              | refine Goal.region ?_
              | refine Goal.skip ?_
              | refine Goal.block ?_
              | refine Goal.exit ?_
              | refine Goal.ret ?_
              | refine Goal.then_exit ?_
              | refine Goal.then_ret ?_
              | refine Goal.inBlock_exit ?_
              | refine Goal.inBlock_normal ?_
              | refine Goal.inBlock_ret ?_
              | refine Goal.inBlock_other rfl ?_
              | (apply Goal.condT; exact rfl)
              | (apply Goal.condF; exact rfl)
              | (refine Goal.condD rfl (fun hc => ?_) (fun hc => ?_) <;> first | (exfalso; omega) | contradiction | skip)
              | refine Goal.condB rfl (fun hc => ?_) (fun hc => ?_)
              | refine Goal.guardT rfl rfl ?_
              | refine Goal.guardF rfl rfl rfl rfl ?_
              | refine Goal.guardU rfl rfl rfl ?_
              | (refine Goal.guardD rfl rfl (fun hc => ?_) (fun hc => ?_) <;> first | (exfalso; omega) | contradiction | skip)
              | refine Goal.guardB rfl rfl (fun hc => ?_) (fun hc => ?_)
              | (apply G.fieldAddr; exact rfl; exact rfl; (first | exact T.fld_27_0 | exact T.fld_32_0 | exact T.fld_32_1))
              | (apply G.load; exact rfl; exact rfl; first | exact LoadOK.old T.one_5 (hk i hi.1 hlt 0 _ rfl) (by simp) | exact LoadOK.el T.agg_27 1 hf rfl (by omega) | exact LoadOK.ia T.one_3 0 rfl (by omega) | exact LoadOK.one (by first | exact T.one_3 | exact T.one_5) 0 rfl rfl | exact LoadOK.one (by first | exact T.one_3 | exact T.one_5) 1 rfl rfl | exact LoadOK.one (by first | exact T.one_3 | exact T.one_5) 2 rfl rfl | exact LoadOK.one (by first | exact T.one_3 | exact T.one_5) 3 rfl rfl | exact LoadOK.one (by first | exact T.one_3 | exact T.one_5) 4 rfl rfl | exact LoadOK.one (by first | exact T.one_3 | exact T.one_5) 5 rfl rfl | exact LoadOK.one (by first | exact T.one_3 | exact T.one_5) 6 rfl rfl | exact LoadOK.one (by first | exact T.one_3 | exact T.one_5) 7 rfl rfl | exact LoadOK.agg (vs := [_, _]) T.agg_27 0 rfl rfl ⟨rfl, rfl, trivial⟩ | exact LoadOK.agg (vs := [_, _]) T.agg_27 1 rfl rfl ⟨rfl, rfl, trivial⟩ | exact LoadOK.agg (vs := [_, _]) T.agg_27 2 rfl rfl ⟨rfl, rfl, trivial⟩ | exact LoadOK.agg (vs := [_, _]) T.agg_27 3 rfl rfl ⟨rfl, rfl, trivial⟩ | exact LoadOK.agg (vs := [_, _]) T.agg_27 4 rfl rfl ⟨rfl, rfl, trivial⟩ | exact LoadOK.agg (vs := [_, _]) T.agg_27 5 rfl rfl ⟨rfl, rfl, trivial⟩ | exact LoadOK.agg (vs := [_, _]) T.agg_27 6 rfl rfl ⟨rfl, rfl, trivial⟩ | exact LoadOK.agg (vs := [_, _]) T.agg_27 7 rfl rfl ⟨rfl, rfl, trivial⟩ | exact LoadOK.agg (vs := [_, _]) T.agg_32 0 rfl rfl ⟨rfl, rfl, trivial⟩ | exact LoadOK.agg (vs := [_, _]) T.agg_32 1 rfl rfl ⟨rfl, rfl, trivial⟩ | exact LoadOK.agg (vs := [_, _]) T.agg_32 2 rfl rfl ⟨rfl, rfl, trivial⟩ | exact LoadOK.agg (vs := [_, _]) T.agg_32 3 rfl rfl ⟨rfl, rfl, trivial⟩ | exact LoadOK.agg (vs := [_, _]) T.agg_32 4 rfl rfl ⟨rfl, rfl, trivial⟩ | exact LoadOK.agg (vs := [_, _]) T.agg_32 5 rfl rfl ⟨rfl, rfl, trivial⟩ | exact LoadOK.agg (vs := [_, _]) T.agg_32 6 rfl rfl ⟨rfl, rfl, trivial⟩ | exact LoadOK.agg (vs := [_, _]) T.agg_32 7 rfl rfl ⟨rfl, rfl, trivial⟩)
              | (apply G.pickT; exact rfl; exact rfl; exact rfl)
              | (apply G.pickF; exact rfl; exact rfl; exact rfl)
              | (apply G.lss; exact rfl; exact rfl; exact rfl)
              | (apply G.gtr; exact rfl; exact rfl; exact rfl)
              | (apply G.eql; exact rfl; exact rfl; exact rfl)
              | (apply G.neq; exact rfl; exact rfl; exact rfl)
              | (apply G.add; exact rfl; exact rfl; exact rfl; first | exact IntWalk.i64_in _ (by omega) | exact IntWalk.u8_in _ (by omega) | exact IntWalk.u16_in _ (by omega) | exact IntWalk.u32_in _ (by omega) | exact IntWalk.u64_in _ (by omega))
              | (apply G.eqlI2; exact rfl; exact T.i2_27; exact rfl; exact rfl)
              | (apply G.neqI2; exact rfl; exact T.i2_27; exact rfl; exact rfl)
              | (apply G.rem; exact rfl; exact rfl; exact rfl; (first | decide | omega); exact IntWalk.rem_in _ _ (by omega))
              | (apply G.conv; exact rfl; exact rfl; (first | exact T.int_3 | exact T.int_5); (first | exact T.int_3 | exact T.int_5); first | exact IntWalk.i64_in _ (by omega) | exact IntWalk.u8_in _ (by omega) | exact IntWalk.u16_in _ (by omega) | exact IntWalk.u32_in _ (by omega) | exact IntWalk.u64_in _ (by omega))
              | (apply G.notT; exact rfl; exact rfl)
              | (apply G.notF; exact rfl; exact rfl)
              | (refine G.notD rfl rfl ?_)
              | (apply G.notB; exact rfl; exact rfl)
              | (apply G.extract; exact rfl; exact rfl; exact rfl)
              | (apply G.build (cs := [_, _]); exact rfl; exact T.lay_27; exact rfl; exact rfl)
              | (apply G.build (cs := [_, _]); exact rfl; exact T.lay_32; exact rfl; exact rfl)
              | (apply G.len; exact rfl; exact rfl; (first | exact T.slc_47 | exact T.slc_48))
              | (refine Goal.quiet rfl (Run.max2 rfl rfl) ?_)
              | (refine Goal.quiet rfl (Run.min2 rfl rfl) ?_)
              | (refine G.indexAddr1 rfl (by first | exact T.slc_28 | exact T.slc_47 | exact T.slc_48) (by first | exact T.sz_3 | exact T.sz_5) rfl rfl _ rfl (by omega) ?_)
              | (refine G.indexAddr1 rfl (by first | exact T.slc_28 | exact T.slc_47 | exact T.slc_48) (by first | exact T.sz_3 | exact T.sz_5) rfl rfl _ (Int.toNat_of_nonneg (by omega)).symm (by omega) ?_)
              | (refine G.indexAddr rfl (by first | exact T.slc_28 | exact T.slc_47 | exact T.slc_48) (by first | exact T.sz_27 | exact T.sz_49) rfl rfl _ rfl (by omega) ?_)
              | (refine G.indexAddr rfl (by first | exact T.slc_28 | exact T.slc_47 | exact T.slc_48) (by first | exact T.sz_27 | exact T.sz_49) rfl rfl _ (Int.toNat_of_nonneg (by omega)).symm (by omega) ?_)
              | (refine G.indexAddrA rfl T.arr_49 (by first | exact T.sz_3 | exact T.sz_5 | exact T.sz_27 | exact T.sz_49) rfl rfl _ rfl (by omega) ?_)
              | (refine G.indexAddrA rfl T.arr_49 (by first | exact T.sz_3 | exact T.sz_5 | exact T.sz_27 | exact T.sz_49) rfl rfl _ (Int.toNat_of_nonneg (by omega)).symm (by omega) ?_)
              | (refine Goal.loud rfl ?_; refine Loud.store1 rfl rfl T.sz_3 rfl rfl rfl (by rw [List.size_toArray, Els_len hf]; omega) (wr_el (x := (chg (el ss i).1 (el ss i).2 Ga Ho)) hf (by omega)) ?_)
              | (refine Goal.loud rfl ?_; refine Loud.store1 rfl rfl T.sz_27 rfl rfl rfl (by rw [List.size_toArray, Els_len hf]; omega) (wr_el (x := (chg (el ss i).1 (el ss i).2 Ga Ho)) hf (by omega)) ?_)
              | (refine Goal.loud rfl ?_; refine Loud.store1 rfl rfl T.sz_32 rfl rfl rfl (by rw [List.size_toArray, Els_len hf]; omega) (wr_el (x := (chg (el ss i).1 (el ss i).2 Ga Ho)) hf (by omega)) ?_)
              | (refine Goal.loud rfl ?_; refine Loud.store0 rfl rfl T.sz_3 rfl rfl rfl (by rw [List.size_toArray, ints_len]; omega) (wr_ints (by omega)) ?_)
              | (refine Goal.loud rfl ?_; refine Loud.store0 rfl rfl (by first | exact T.sz_3 | exact T.sz_27 | exact T.sz_32) rfl rfl rfl (by first | exact Nat.le_refl _ | decide | (simp; omega)) rfl ?_)
              | (refine Goal.loud rfl ?_; refine Loud.store1 rfl rfl (by first | exact T.sz_3 | exact T.sz_27 | exact T.sz_32) rfl rfl rfl (by first | exact Nat.le_refl _ | decide | (simp; omega)) rfl ?_)
              | (refine Goal.loud rfl ?_; refine Loud.store2 rfl rfl (by first | exact T.sz_3 | exact T.sz_27 | exact T.sz_32) rfl rfl rfl (by first | exact Nat.le_refl _ | decide | (simp; omega)) rfl ?_)
              | (refine Goal.loud rfl ?_; refine Loud.store3 rfl rfl (by first | exact T.sz_3 | exact T.sz_27 | exact T.sz_32) rfl rfl rfl (by first | exact Nat.le_refl _ | decide | (simp; omega)) rfl ?_)
              | (refine Goal.loud rfl ?_; refine Loud.store4 rfl rfl (by first | exact T.sz_3 | exact T.sz_27 | exact T.sz_32) rfl rfl rfl (by first | exact Nat.le_refl _ | decide | (simp; omega)) rfl ?_)
              | (refine Goal.loud rfl ?_; refine Loud.store5 rfl rfl (by first | exact T.sz_3 | exact T.sz_27 | exact T.sz_32) rfl rfl rfl (by first | exact Nat.le_refl _ | decide | (simp; omega)) rfl ?_)
              | (refine Goal.loud rfl ?_; refine Loud.store6 rfl rfl (by first | exact T.sz_3 | exact T.sz_27 | exact T.sz_32) rfl rfl rfl (by first | exact Nat.le_refl _ | decide | (simp; omega)) rfl ?_)
              | (refine Goal.loud rfl ?_; refine Loud.store7 rfl rfl (by first | exact T.sz_3 | exact T.sz_27 | exact T.sz_32) rfl rfl rfl (by first | exact Nat.le_refl _ | decide | (simp; omega)) rfl ?_))
            · refine Goal.again ⟨1, ss.set i.toNat (chg (el ss i).1 (el ss i).2 Ga Ho), nt.set i.toNat (ia nt i + 1)⟩ ⟨by dsimp only; omega, by simpa using hs, by simpa using ht, fun j j0 j1 => ?_, fun j j0 j1 => ?_, ?_, ?_⟩ (by dsimp only; omega) ⟨rfl, rfl, rfl, rfl, rfl, rfl, rfl, rfl, rfl, trivial⟩ (fun _ h => h)
              · dsimp only
                rw [el_set (by omega) (by omega), if_neg (by omega), ia_upd (by omega) (by omega), if_neg (by omega)]
                exact he j j0 j1
              · dsimp only
                rw [el_set (by omega) (by omega), if_neg (by omega), ia_upd (by omega) (by omega), if_neg (by omega)]
                exact hd j j0 j1
              · dsimp only
                rw [el_set (by omega) (by omega), if_pos rfl, e1]
                exact stg_step0 hc
              · dsimp only
                rw [ia_upd (by omega) (by omega), if_pos rfl, e2]
                exact cnk_step0 hc
            · refine Goal.again ⟨1, ss, nt⟩ ⟨by dsimp only; omega, hs, ht, he, hd, ?_, ?_⟩ (by dsimp only; omega) ⟨rfl, rfl, rfl, rfl, rfl, rfl, rfl, rfl, rfl, trivial⟩ (fun _ h => h)
              · dsimp only
                rw [e1]
                exact stg_stay0 hc
              · dsimp only
                rw [e2]
                exact cnk_stay0 hc
          · have hvk : vld (el ss i).1 (el ss i).2 Ga Ho := by rw [e1]; exact stg_vld hG.1 hH.1 hG.2 hH.2
            have hc0 : 0 ≤ ia nt i ∧ ia nt i ≤ 4 := by
              rw [e2]
              have := cn_pos (dd ts sp i) (now - 1)
              unfold cnk
              repeat' split
              all_goals omega
            repeat' (first
              | (refine Goal.drawAll (id := 32) 12 T.mixed ?_; all_goals ((refine Goal.takeP (listed' := #[true, false, false, false, false, false, false, false, false, false, false, false, false, false]) 0 ⟨rfl, by kernel_rfl, by kernel_rfl, by kernel_rfl, by kernel_rfl⟩ rfl (fun _ _ _ _ h => h) (by intro _; exact Run.move rfl) ?_)); all_goals ((refine Goal.takeP (listed' := #[true, true, false, false, false, false, false, false, false, false, false, false, false, false]) 1 ⟨rfl, by kernel_rfl, by kernel_rfl, by kernel_rfl, by kernel_rfl⟩ rfl (fun _ _ _ _ h => h) (by intro _; exact Run.move rfl) ?_)); all_goals ((refine Goal.takeP (listed' := #[true, true, true, false, false, false, false, false, false, false, false, false, false, false]) 2 ⟨rfl, by kernel_rfl, by kernel_rfl, by kernel_rfl, by kernel_rfl⟩ rfl (fun _ _ _ _ h => h) (by intro _; exact Run.move rfl) ?_)); all_goals ((refine Goal.takeP (listed' := #[true, true, true, true, false, false, false, false, false, false, false, false, false, false]) 3 ⟨rfl, by kernel_rfl, by kernel_rfl, by kernel_rfl, by kernel_rfl⟩ rfl (fun _ _ _ _ h => h) (by intro _; exact Run.move rfl) ?_)); all_goals ((refine Goal.takeP (listed' := #[true, true, true, true, true, false, false, false, false, false, false, false, false, false]) 4 ⟨rfl, by kernel_rfl, by kernel_rfl, by kernel_rfl, by kernel_rfl⟩ rfl (fun _ _ _ _ h => h) (by intro _; first | exact Run.indexAddr T.slc_48 T.sz_27 rfl rfl rfl (by omega) | exact Run.indexAddr T.slc_48 T.sz_27 rfl rfl (Int.toNat_of_nonneg (by omega)).symm (by omega)) ?_)); all_goals ((refine Goal.take (listed' := #[true, true, true, true, true, true, false, false, false, false, false, false, false, false]) 5 ⟨rfl, by kernel_rfl, by kernel_rfl, by kernel_rfl, by kernel_rfl, by kernel_rfl⟩ rfl (by (first | exact fun _ h => h | exact fun _ h => h.sub (.cons _ (.refl _)) | exact fun _ h => h.sub (.cons _ (.cons _ (.refl _))) | exact fun _ h => h.sub (.cons _ (.cons _ (.cons _ (.refl _)))) | exact fun _ h => h.drop | exact fun _ h => h.sub (List.sublist_append_left _ _))) (fun _ _ _ _ h => h) (by (apply Run.load; exact rfl; first | exact LoadOK.old T.one_5 (hk i hi.1 hlt 1 _ rfl) (by simp) | exact LoadOK.el T.agg_27 1 hf rfl (by omega) | exact LoadOK.ia T.one_3 0 rfl (by omega) | exact LoadOK.agg (vs := [_, _]) T.agg_27 0 rfl rfl ⟨rfl, rfl, trivial⟩ | exact LoadOK.agg (vs := [_, _]) T.agg_27 1 rfl rfl ⟨rfl, rfl, trivial⟩ | exact LoadOK.agg (vs := [_, _]) T.agg_27 2 rfl rfl ⟨rfl, rfl, trivial⟩ | exact LoadOK.agg (vs := [_, _]) T.agg_27 3 rfl rfl ⟨rfl, rfl, trivial⟩ | exact LoadOK.agg (vs := [_, _]) T.agg_27 4 rfl rfl ⟨rfl, rfl, trivial⟩ | exact LoadOK.agg (vs := [_, _]) T.agg_27 5 rfl rfl ⟨rfl, rfl, trivial⟩ | exact LoadOK.agg (vs := [_, _]) T.agg_27 6 rfl rfl ⟨rfl, rfl, trivial⟩ | exact LoadOK.agg (vs := [_, _]) T.agg_27 7 rfl rfl ⟨rfl, rfl, trivial⟩)) ?_)); all_goals ((refine Goal.take (listed' := #[true, true, true, true, true, true, true, false, false, false, false, false, false, false]) 6 ⟨rfl, by kernel_rfl, by kernel_rfl, by kernel_rfl, by kernel_rfl, by kernel_rfl⟩ rfl (by (first | exact fun _ h => h | exact fun _ h => h.sub (.cons _ (.refl _)) | exact fun _ h => h.sub (.cons _ (.cons _ (.refl _))) | exact fun _ h => h.sub (.cons _ (.cons _ (.cons _ (.refl _)))) | exact fun _ h => h.drop | exact fun _ h => h.sub (List.sublist_append_left _ _))) (fun _ _ _ _ h => h) (by (apply Run.load; exact rfl; first | exact LoadOK.old T.one_5 (hk i hi.1 hlt 1 _ rfl) (by simp) | exact LoadOK.el T.agg_27 1 hf rfl (by omega) | exact LoadOK.ia T.one_3 0 rfl (by omega) | exact LoadOK.agg (vs := [_, _]) T.agg_32 0 rfl rfl ⟨rfl, rfl, trivial⟩ | exact LoadOK.agg (vs := [_, _]) T.agg_32 1 rfl rfl ⟨rfl, rfl, trivial⟩ | exact LoadOK.agg (vs := [_, _]) T.agg_32 2 rfl rfl ⟨rfl, rfl, trivial⟩ | exact LoadOK.agg (vs := [_, _]) T.agg_32 3 rfl rfl ⟨rfl, rfl, trivial⟩ | exact LoadOK.agg (vs := [_, _]) T.agg_32 4 rfl rfl ⟨rfl, rfl, trivial⟩ | exact LoadOK.agg (vs := [_, _]) T.agg_32 5 rfl rfl ⟨rfl, rfl, trivial⟩ | exact LoadOK.agg (vs := [_, _]) T.agg_32 6 rfl rfl ⟨rfl, rfl, trivial⟩ | exact LoadOK.agg (vs := [_, _]) T.agg_32 7 rfl rfl ⟨rfl, rfl, trivial⟩)) ?_)); all_goals (refine Goal.ready1 (i := 7) (by kernel_rfl) ?_); all_goals ((refine Goal.up (i := 7) (listed' := #[true, true, true, true, true, true, true, true, false, false, false, false, false, false]) rfl (by kernel_rfl) ?_; (apply Loud.call0; exact rfl; exact rfl; exact rfl; exact rfl; exact T.bod_14; exact (fun w H => change_e (el ss i).1 (el ss i).2 (chg (el ss i).1 (el ss i).2 Ga Ho).1 (chg (el ss i).1 (el ss i).2 Ga Ho).2 Ga Ho w hvk rfl)); first | refine Goal.tail rfl ?_ | refine Goal.kept (by (first | exact fun _ h => h | exact fun _ h => h.sub (.cons _ (.refl _)) | exact fun _ h => h.sub (.cons _ (.cons _ (.refl _))) | exact fun _ h => h.sub (.cons _ (.cons _ (.cons _ (.refl _)))) | exact fun _ h => h.drop | exact fun _ h => h.sub (List.sublist_append_left _ _))) ?_)); all_goals ((refine Goal.takeP (listed' := #[true, true, true, true, true, true, true, true, true, false, false, false, false, false]) 8 ⟨rfl, by kernel_rfl, by kernel_rfl, by kernel_rfl, by kernel_rfl⟩ rfl (fun _ _ _ _ h => h) (by intro _; exact Run.move rfl) ?_)); all_goals ((refine Goal.takeP (listed' := #[true, true, true, true, true, true, true, true, true, true, false, false, false, false]) 9 ⟨rfl, by kernel_rfl, by kernel_rfl, by kernel_rfl, by kernel_rfl⟩ rfl (fun _ _ _ _ h => h) (by intro _; exact Run.extract rfl rfl) ?_)); all_goals ((refine Goal.takeP (listed' := #[true, true, true, true, true, true, true, true, true, true, true, false, false, false]) 10 ⟨rfl, by kernel_rfl, by kernel_rfl, by kernel_rfl, by kernel_rfl⟩ rfl (fun _ _ _ _ h => h) (by intro _; exact Run.extract rfl rfl) ?_)); all_goals ((refine Goal.takeP (listed' := #[true, true, true, true, true, true, true, true, true, true, true, true, false, false]) 11 ⟨rfl, by kernel_rfl, by kernel_rfl, by kernel_rfl, by kernel_rfl⟩ rfl (fun _ _ _ _ h => h) (by intro _; first | exact Run.indexAddr T.slc_48 T.sz_27 rfl rfl rfl (by omega) | exact Run.indexAddr T.slc_48 T.sz_27 rfl rfl (Int.toNat_of_nonneg (by omega)).symm (by omega)) ?_)); all_goals (refine Goal.ready1 (i := 12) (by kernel_rfl) ?_); all_goals ((refine Goal.up (i := 12) (listed' := #[true, true, true, true, true, true, true, true, true, true, true, true, true, false]) rfl (by kernel_rfl) ?_; (first | refine Loud.store1 rfl rfl T.sz_27 rfl rfl rfl (by rw [List.size_toArray, Els_len hf]; omega) (wr_el (x := (chg (el ss i).1 (el ss i).2 Ga Ho)) hf (by omega)) ?_ | refine Loud.store0 rfl rfl T.sz_27 rfl rfl rfl (by rw [List.size_toArray, ints_len]; omega) (wr_ints (by omega)) ?_ | refine Loud.store0 rfl rfl T.sz_27 rfl rfl rfl (by first | exact Nat.le_refl _ | decide | (simp; omega)) rfl ?_ | refine Loud.store1 rfl rfl T.sz_27 rfl rfl rfl (by first | exact Nat.le_refl _ | decide | (simp; omega)) rfl ?_ | refine Loud.store2 rfl rfl T.sz_27 rfl rfl rfl (by first | exact Nat.le_refl _ | decide | (simp; omega)) rfl ?_ | refine Loud.store3 rfl rfl T.sz_27 rfl rfl rfl (by first | exact Nat.le_refl _ | decide | (simp; omega)) rfl ?_ | refine Loud.store4 rfl rfl T.sz_27 rfl rfl rfl (by first | exact Nat.le_refl _ | decide | (simp; omega)) rfl ?_ | refine Loud.store5 rfl rfl T.sz_27 rfl rfl rfl (by first | exact Nat.le_refl _ | decide | (simp; omega)) rfl ?_ | refine Loud.store6 rfl rfl T.sz_27 rfl rfl rfl (by first | exact Nat.le_refl _ | decide | (simp; omega)) rfl ?_ | refine Loud.store7 rfl rfl T.sz_27 rfl rfl rfl (by first | exact Nat.le_refl _ | decide | (simp; omega)) rfl ?_); first | refine Goal.tail rfl ?_ | refine Goal.kept (by (first | exact fun _ h => h | exact fun _ h => h.sub (.cons _ (.refl _)) | exact fun _ h => h.sub (.cons _ (.cons _ (.refl _))) | exact fun _ h => h.sub (.cons _ (.cons _ (.cons _ (.refl _)))) | exact fun _ h => h.drop | exact fun _ h => h.sub (List.sublist_append_left _ _))) ?_)); all_goals ((refine Goal.takeP (listed' := #[true, true, true, true, true, true, true, true, true, true, true, true, true, true]) 13 ⟨rfl, by kernel_rfl, by kernel_rfl, by kernel_rfl, by kernel_rfl⟩ rfl (fun _ _ _ _ h => h) (by intro _; exact Run.assign rfl) ?_)); all_goals (refine Goal.allUp (by kernel_rfl) ?_))
              | (refine Goal.loud (o := ⟨some 119, _, _, _, _, _⟩) rfl ?_; apply Loud.call0; exact rfl; exact rfl; exact rfl; exact rfl; exact T.bod_14; exact (fun w H => change_e (el ss i).1 (el ss i).2 (chg (el ss i).1 (el ss i).2 Ga Ho).1 (chg (el ss i).1 (el ss i).2 Ga Ho).2 Ga Ho w hvk rfl))
              | (refine Goal.loud (o := ⟨some 7, _, _, _, _, _⟩) rfl ?_; refine Loud.allocA rfl T.inf_32 (fun b7 => ?_))
              | (refine Goal.loud (o := ⟨some 42, _, _, _, _, _⟩) rfl ?_; first | refine Loud.makeSlice rfl T.slc_48 T.inf_27 rfl rfl (by decide) rfl rfl rfl rfl (by omega) (by omega) (by omega) (fun b42 => ?_) | refine Loud.makeSlice rfl T.slc_48 T.inf_27 rfl rfl (by decide) rfl rfl (Int.toNat_of_nonneg (by omega)).symm (Int.toNat_of_nonneg (by omega)).symm (by omega) (by omega) (by omega) (fun b42 => ?_))
              | (refine Goal.loud (o := ⟨some 45, _, _, _, _, _⟩) rfl ?_; first | refine Loud.makeSlice rfl T.slc_28 T.inf_3 rfl rfl (by decide) rfl rfl rfl rfl (by omega) (by omega) (by omega) (fun b45 => ?_) | refine Loud.makeSlice rfl T.slc_28 T.inf_3 rfl rfl (by decide) rfl rfl (Int.toNat_of_nonneg (by omega)).symm (Int.toNat_of_nonneg (by omega)).symm (by omega) (by omega) (by omega) (fun b45 => ?_))
              | (apply G.move; exact rfl; exact rfl)
              | (apply G.assign; exact rfl; exact rfl)
              | refine Goal.seq (fun _ _ => ?_)
              | refine Goal.next (by assumption) ?_
              | refine Goal.lnil ?_
              | refine Goal.region ?_
              | refine Goal.skip ?_
              | refine Goal.block ?_
              | refine Goal.exit ?_
              | refine Goal.ret ?_
              | refine Goal.then_exit ?_
              | refine Goal.then_ret ?_
              | refine Goal.inBlock_exit ?_
              | refine Goal.inBlock_normal ?_
              | refine Goal.inBlock_ret ?_
              | refine Goal.inBlock_other rfl ?_
              | (apply Goal.condT; exact rfl)
              | (apply Goal.condF; exact rfl)
              | (refine Goal.condD rfl (fun hc => ?_) (fun hc => ?_) <;> first | (exfalso; omega) | contradiction | skip)
              | refine Goal.condB rfl (fun hc => ?_) (fun hc => ?_)
              | refine Goal.guardT rfl rfl ?_
              | refine Goal.guardF rfl rfl rfl rfl ?_
              | refine Goal.guardU rfl rfl rfl ?_
              | (refine Goal.guardD rfl rfl (fun hc => ?_) (fun hc => ?_) <;> first | (exfalso; omega) | contradiction | skip)
              | refine Goal.guardB rfl rfl (fun hc => ?_) (fun hc => ?_)
              | (apply G.fieldAddr; exact rfl; exact rfl; (first | exact T.fld_27_0 | exact T.fld_32_0 | exact T.fld_32_1))
              | (apply G.load; exact rfl; exact rfl; first | exact LoadOK.old T.one_5 (hk i hi.1 hlt 1 _ rfl) (by simp) | exact LoadOK.el T.agg_27 1 hf rfl (by omega) | exact LoadOK.ia T.one_3 0 rfl (by omega) | exact LoadOK.one (by first | exact T.one_3 | exact T.one_5) 0 rfl rfl | exact LoadOK.one (by first | exact T.one_3 | exact T.one_5) 1 rfl rfl | exact LoadOK.one (by first | exact T.one_3 | exact T.one_5) 2 rfl rfl | exact LoadOK.one (by first | exact T.one_3 | exact T.one_5) 3 rfl rfl | exact LoadOK.one (by first | exact T.one_3 | exact T.one_5) 4 rfl rfl | exact LoadOK.one (by first | exact T.one_3 | exact T.one_5) 5 rfl rfl | exact LoadOK.one (by first | exact T.one_3 | exact T.one_5) 6 rfl rfl | exact LoadOK.one (by first | exact T.one_3 | exact T.one_5) 7 rfl rfl | exact LoadOK.agg (vs := [_, _]) T.agg_27 0 rfl rfl ⟨rfl, rfl, trivial⟩ | exact LoadOK.agg (vs := [_, _]) T.agg_27 1 rfl rfl ⟨rfl, rfl, trivial⟩ | exact LoadOK.agg (vs := [_, _]) T.agg_27 2 rfl rfl ⟨rfl, rfl, trivial⟩ | exact LoadOK.agg (vs := [_, _]) T.agg_27 3 rfl rfl ⟨rfl, rfl, trivial⟩ | exact LoadOK.agg (vs := [_, _]) T.agg_27 4 rfl rfl ⟨rfl, rfl, trivial⟩ | exact LoadOK.agg (vs := [_, _]) T.agg_27 5 rfl rfl ⟨rfl, rfl, trivial⟩ | exact LoadOK.agg (vs := [_, _]) T.agg_27 6 rfl rfl ⟨rfl, rfl, trivial⟩ | exact LoadOK.agg (vs := [_, _]) T.agg_27 7 rfl rfl ⟨rfl, rfl, trivial⟩ | exact LoadOK.agg (vs := [_, _]) T.agg_32 0 rfl rfl ⟨rfl, rfl, trivial⟩ | exact LoadOK.agg (vs := [_, _]) T.agg_32 1 rfl rfl ⟨rfl, rfl, trivial⟩ | exact LoadOK.agg (vs := [_, _]) T.agg_32 2 rfl rfl ⟨rfl, rfl, trivial⟩ | exact LoadOK.agg (vs := [_, _]) T.agg_32 3 rfl rfl ⟨rfl, rfl, trivial⟩ | exact LoadOK.agg (vs := [_, _]) T.agg_32 4 rfl rfl ⟨rfl, rfl, trivial⟩ | exact LoadOK.agg (vs := [_, _]) T.agg_32 5 rfl rfl ⟨rfl, rfl, trivial⟩ | exact LoadOK.agg (vs := [_, _]) T.agg_32 6 rfl rfl ⟨rfl, rfl, trivial⟩ | exact LoadOK.agg (vs := [_, _]) T.agg_32 7 rfl rfl ⟨rfl, rfl, trivial⟩)
              | (apply G.pickT; exact rfl; exact rfl; exact rfl)
              | (apply G.pickF; exact rfl; exact rfl; exact rfl)
              | (apply G.lss; exact rfl; exact rfl; exact rfl)
              | (apply G.gtr; exact rfl; exact rfl; exact rfl)
              | (apply G.eql; exact rfl; exact rfl; exact rfl)
              | (apply G.neq; exact rfl; exact rfl; exact rfl)
              | (apply G.add; exact rfl; exact rfl; exact rfl; first | exact IntWalk.i64_in _ (by omega) | exact IntWalk.u8_in _ (by omega) | exact IntWalk.u16_in _ (by omega) | exact IntWalk.u32_in _ (by omega) | exact IntWalk.u64_in _ (by omega))
              | (apply G.eqlI2; exact rfl; exact T.i2_27; exact rfl; exact rfl)
              | (apply G.neqI2; exact rfl; exact T.i2_27; exact rfl; exact rfl)
              | (apply G.rem; exact rfl; exact rfl; exact rfl; (first | decide | omega); exact IntWalk.rem_in _ _ (by omega))
              | (apply G.conv; exact rfl; exact rfl; (first | exact T.int_3 | exact T.int_5); (first | exact T.int_3 | exact T.int_5); first | exact IntWalk.i64_in _ (by omega) | exact IntWalk.u8_in _ (by omega) | exact IntWalk.u16_in _ (by omega) | exact IntWalk.u32_in _ (by omega) | exact IntWalk.u64_in _ (by omega))
              | (apply G.notT; exact rfl; exact rfl)
              | (apply G.notF; exact rfl; exact rfl)
              | (refine G.notD rfl rfl ?_)
              | (apply G.notB; exact rfl; exact rfl)
              | (apply G.extract; exact rfl; exact rfl; exact rfl)
              | (apply G.build (cs := [_, _]); exact rfl; exact T.lay_27; exact rfl; exact rfl)
              | (apply G.build (cs := [_, _]); exact rfl; exact T.lay_32; exact rfl; exact rfl)
              | (apply G.len; exact rfl; exact rfl; (first | exact T.slc_47 | exact T.slc_48))
              | (refine Goal.quiet rfl (Run.max2 rfl rfl) ?_)
              | (refine Goal.quiet rfl (Run.min2 rfl rfl) ?_)
              | (refine G.indexAddr1 rfl (by first | exact T.slc_28 | exact T.slc_47 | exact T.slc_48) (by first | exact T.sz_3 | exact T.sz_5) rfl rfl _ rfl (by omega) ?_)
              | (refine G.indexAddr1 rfl (by first | exact T.slc_28 | exact T.slc_47 | exact T.slc_48) (by first | exact T.sz_3 | exact T.sz_5) rfl rfl _ (Int.toNat_of_nonneg (by omega)).symm (by omega) ?_)
              | (refine G.indexAddr rfl (by first | exact T.slc_28 | exact T.slc_47 | exact T.slc_48) (by first | exact T.sz_27 | exact T.sz_49) rfl rfl _ rfl (by omega) ?_)
              | (refine G.indexAddr rfl (by first | exact T.slc_28 | exact T.slc_47 | exact T.slc_48) (by first | exact T.sz_27 | exact T.sz_49) rfl rfl _ (Int.toNat_of_nonneg (by omega)).symm (by omega) ?_)
              | (refine G.indexAddrA rfl T.arr_49 (by first | exact T.sz_3 | exact T.sz_5 | exact T.sz_27 | exact T.sz_49) rfl rfl _ rfl (by omega) ?_)
              | (refine G.indexAddrA rfl T.arr_49 (by first | exact T.sz_3 | exact T.sz_5 | exact T.sz_27 | exact T.sz_49) rfl rfl _ (Int.toNat_of_nonneg (by omega)).symm (by omega) ?_)
              | (refine Goal.loud rfl ?_; refine Loud.store1 rfl rfl T.sz_3 rfl rfl rfl (by rw [List.size_toArray, Els_len hf]; omega) (wr_el (x := (chg (el ss i).1 (el ss i).2 Ga Ho)) hf (by omega)) ?_)
              | (refine Goal.loud rfl ?_; refine Loud.store1 rfl rfl T.sz_27 rfl rfl rfl (by rw [List.size_toArray, Els_len hf]; omega) (wr_el (x := (chg (el ss i).1 (el ss i).2 Ga Ho)) hf (by omega)) ?_)
              | (refine Goal.loud rfl ?_; refine Loud.store1 rfl rfl T.sz_32 rfl rfl rfl (by rw [List.size_toArray, Els_len hf]; omega) (wr_el (x := (chg (el ss i).1 (el ss i).2 Ga Ho)) hf (by omega)) ?_)
              | (refine Goal.loud rfl ?_; refine Loud.store0 rfl rfl T.sz_3 rfl rfl rfl (by rw [List.size_toArray, ints_len]; omega) (wr_ints (by omega)) ?_)
              | (refine Goal.loud rfl ?_; refine Loud.store0 rfl rfl (by first | exact T.sz_3 | exact T.sz_27 | exact T.sz_32) rfl rfl rfl (by first | exact Nat.le_refl _ | decide | (simp; omega)) rfl ?_)
              | (refine Goal.loud rfl ?_; refine Loud.store1 rfl rfl (by first | exact T.sz_3 | exact T.sz_27 | exact T.sz_32) rfl rfl rfl (by first | exact Nat.le_refl _ | decide | (simp; omega)) rfl ?_)
              | (refine Goal.loud rfl ?_; refine Loud.store2 rfl rfl (by first | exact T.sz_3 | exact T.sz_27 | exact T.sz_32) rfl rfl rfl (by first | exact Nat.le_refl _ | decide | (simp; omega)) rfl ?_)
              | (refine Goal.loud rfl ?_; refine Loud.store3 rfl rfl (by first | exact T.sz_3 | exact T.sz_27 | exact T.sz_32) rfl rfl rfl (by first | exact Nat.le_refl _ | decide | (simp; omega)) rfl ?_)
              | (refine Goal.loud rfl ?_; refine Loud.store4 rfl rfl (by first | exact T.sz_3 | exact T.sz_27 | exact T.sz_32) rfl rfl rfl (by first | exact Nat.le_refl _ | decide | (simp; omega)) rfl ?_)
              | (refine Goal.loud rfl ?_; refine Loud.store5 rfl rfl (by first | exact T.sz_3 | exact T.sz_27 | exact T.sz_32) rfl rfl rfl (by first | exact Nat.le_refl _ | decide | (simp; omega)) rfl ?_)
              | (refine Goal.loud rfl ?_; refine Loud.store6 rfl rfl (by first | exact T.sz_3 | exact T.sz_27 | exact T.sz_32) rfl rfl rfl (by first | exact Nat.le_refl _ | decide | (simp; omega)) rfl ?_)
              | (refine Goal.loud rfl ?_; refine Loud.store7 rfl rfl (by first | exact T.sz_3 | exact T.sz_27 | exact T.sz_32) rfl rfl rfl (by first | exact Nat.le_refl _ | decide | (simp; omega)) rfl ?_))
            · refine Goal.again ⟨2, ss.set i.toNat (chg (el ss i).1 (el ss i).2 Ga Ho), nt.set i.toNat (ia nt i + 1)⟩ ⟨by dsimp only; omega, by simpa using hs, by simpa using ht, fun j j0 j1 => ?_, fun j j0 j1 => ?_, ?_, ?_⟩ (by dsimp only; omega) ⟨rfl, rfl, rfl, rfl, rfl, rfl, rfl, rfl, rfl, trivial⟩ (fun _ h => h)
              · dsimp only
                rw [el_set (by omega) (by omega), if_neg (by omega), ia_upd (by omega) (by omega), if_neg (by omega)]
                exact he j j0 j1
              · dsimp only
                rw [el_set (by omega) (by omega), if_neg (by omega), ia_upd (by omega) (by omega), if_neg (by omega)]
                exact hd j j0 j1
              · dsimp only
                rw [el_set (by omega) (by omega), if_pos rfl, e1]
                exact stg_step1 hc
              · dsimp only
                rw [ia_upd (by omega) (by omega), if_pos rfl, e2]
                exact cnk_step1 hc
            · refine Goal.again ⟨2, ss, nt⟩ ⟨by dsimp only; omega, hs, ht, he, hd, ?_, ?_⟩ (by dsimp only; omega) ⟨rfl, rfl, rfl, rfl, rfl, rfl, rfl, rfl, rfl, trivial⟩ (fun _ h => h)
              · dsimp only
                rw [e1]
                exact stg_stay1 hc
              · dsimp only
                rw [e2]
                exact cnk_stay1 hc
          · skip
            repeat' (first
              | (refine Goal.loud (o := ⟨some 7, _, _, _, _, _⟩) rfl ?_; refine Loud.allocA rfl T.inf_32 (fun b7 => ?_))
              | (refine Goal.loud (o := ⟨some 42, _, _, _, _, _⟩) rfl ?_; first | refine Loud.makeSlice rfl T.slc_48 T.inf_27 rfl rfl (by decide) rfl rfl rfl rfl (by omega) (by omega) (by omega) (fun b42 => ?_) | refine Loud.makeSlice rfl T.slc_48 T.inf_27 rfl rfl (by decide) rfl rfl (Int.toNat_of_nonneg (by omega)).symm (Int.toNat_of_nonneg (by omega)).symm (by omega) (by omega) (by omega) (fun b42 => ?_))
              | (refine Goal.loud (o := ⟨some 45, _, _, _, _, _⟩) rfl ?_; first | refine Loud.makeSlice rfl T.slc_28 T.inf_3 rfl rfl (by decide) rfl rfl rfl rfl (by omega) (by omega) (by omega) (fun b45 => ?_) | refine Loud.makeSlice rfl T.slc_28 T.inf_3 rfl rfl (by decide) rfl rfl (Int.toNat_of_nonneg (by omega)).symm (Int.toNat_of_nonneg (by omega)).symm (by omega) (by omega) (by omega) (fun b45 => ?_))
              | (apply G.move; exact rfl; exact rfl)
              | (apply G.assign; exact rfl; exact rfl)
              | refine Goal.seq (fun _ _ => ?_)
              | refine Goal.next (by assumption) ?_
              | refine Goal.lnil ?_
              | refine Goal.region ?_
              | refine Goal.skip ?_
              | refine Goal.block ?_
              | refine Goal.exit ?_
              | refine Goal.ret ?_
              | refine Goal.then_exit ?_
              | refine Goal.then_ret ?_
              | refine Goal.inBlock_exit ?_
              | refine Goal.inBlock_normal ?_
              | refine Goal.inBlock_ret ?_
              | refine Goal.inBlock_other rfl ?_
              | (apply Goal.condT; exact rfl)
              | (apply Goal.condF; exact rfl)
              | (refine Goal.condD rfl (fun hc => ?_) (fun hc => ?_) <;> first | (exfalso; omega) | contradiction | skip)
              | refine Goal.condB rfl (fun hc => ?_) (fun hc => ?_)
              | refine Goal.guardT rfl rfl ?_
              | refine Goal.guardF rfl rfl rfl rfl ?_
              | refine Goal.guardU rfl rfl rfl ?_
              | (refine Goal.guardD rfl rfl (fun hc => ?_) (fun hc => ?_) <;> first | (exfalso; omega) | contradiction | skip)
              | refine Goal.guardB rfl rfl (fun hc => ?_) (fun hc => ?_)
              | (apply G.fieldAddr; exact rfl; exact rfl; (first | exact T.fld_27_0 | exact T.fld_32_0 | exact T.fld_32_1))
              | (apply G.load; exact rfl; exact rfl; first | exact LoadOK.one (by first | exact T.one_3 | exact T.one_5) 0 rfl rfl | exact LoadOK.one (by first | exact T.one_3 | exact T.one_5) 1 rfl rfl | exact LoadOK.one (by first | exact T.one_3 | exact T.one_5) 2 rfl rfl | exact LoadOK.one (by first | exact T.one_3 | exact T.one_5) 3 rfl rfl | exact LoadOK.one (by first | exact T.one_3 | exact T.one_5) 4 rfl rfl | exact LoadOK.one (by first | exact T.one_3 | exact T.one_5) 5 rfl rfl | exact LoadOK.one (by first | exact T.one_3 | exact T.one_5) 6 rfl rfl | exact LoadOK.one (by first | exact T.one_3 | exact T.one_5) 7 rfl rfl | exact LoadOK.agg (vs := [_, _]) T.agg_27 0 rfl rfl ⟨rfl, rfl, trivial⟩ | exact LoadOK.agg (vs := [_, _]) T.agg_27 1 rfl rfl ⟨rfl, rfl, trivial⟩ | exact LoadOK.agg (vs := [_, _]) T.agg_27 2 rfl rfl ⟨rfl, rfl, trivial⟩ | exact LoadOK.agg (vs := [_, _]) T.agg_27 3 rfl rfl ⟨rfl, rfl, trivial⟩ | exact LoadOK.agg (vs := [_, _]) T.agg_27 4 rfl rfl ⟨rfl, rfl, trivial⟩ | exact LoadOK.agg (vs := [_, _]) T.agg_27 5 rfl rfl ⟨rfl, rfl, trivial⟩ | exact LoadOK.agg (vs := [_, _]) T.agg_27 6 rfl rfl ⟨rfl, rfl, trivial⟩ | exact LoadOK.agg (vs := [_, _]) T.agg_27 7 rfl rfl ⟨rfl, rfl, trivial⟩ | exact LoadOK.agg (vs := [_, _]) T.agg_32 0 rfl rfl ⟨rfl, rfl, trivial⟩ | exact LoadOK.agg (vs := [_, _]) T.agg_32 1 rfl rfl ⟨rfl, rfl, trivial⟩ | exact LoadOK.agg (vs := [_, _]) T.agg_32 2 rfl rfl ⟨rfl, rfl, trivial⟩ | exact LoadOK.agg (vs := [_, _]) T.agg_32 3 rfl rfl ⟨rfl, rfl, trivial⟩ | exact LoadOK.agg (vs := [_, _]) T.agg_32 4 rfl rfl ⟨rfl, rfl, trivial⟩ | exact LoadOK.agg (vs := [_, _]) T.agg_32 5 rfl rfl ⟨rfl, rfl, trivial⟩ | exact LoadOK.agg (vs := [_, _]) T.agg_32 6 rfl rfl ⟨rfl, rfl, trivial⟩ | exact LoadOK.agg (vs := [_, _]) T.agg_32 7 rfl rfl ⟨rfl, rfl, trivial⟩)
              | (apply G.pickT; exact rfl; exact rfl; exact rfl)
              | (apply G.pickF; exact rfl; exact rfl; exact rfl)
              | (apply G.lss; exact rfl; exact rfl; exact rfl)
              | (apply G.gtr; exact rfl; exact rfl; exact rfl)
              | (apply G.eql; exact rfl; exact rfl; exact rfl)
              | (apply G.neq; exact rfl; exact rfl; exact rfl)
              | (apply G.add; exact rfl; exact rfl; exact rfl; first | exact IntWalk.i64_in _ (by omega) | exact IntWalk.u8_in _ (by omega) | exact IntWalk.u16_in _ (by omega) | exact IntWalk.u32_in _ (by omega) | exact IntWalk.u64_in _ (by omega))
              | (apply G.eqlI2; exact rfl; exact T.i2_27; exact rfl; exact rfl)
              | (apply G.neqI2; exact rfl; exact T.i2_27; exact rfl; exact rfl)
              | (apply G.rem; exact rfl; exact rfl; exact rfl; (first | decide | omega); exact IntWalk.rem_in _ _ (by omega))
              | (apply G.conv; exact rfl; exact rfl; (first | exact T.int_3 | exact T.int_5); (first | exact T.int_3 | exact T.int_5); first | exact IntWalk.i64_in _ (by omega) | exact IntWalk.u8_in _ (by omega) | exact IntWalk.u16_in _ (by omega) | exact IntWalk.u32_in _ (by omega) | exact IntWalk.u64_in _ (by omega))
              | (apply G.notT; exact rfl; exact rfl)
              | (apply G.notF; exact rfl; exact rfl)
              | (refine G.notD rfl rfl ?_)
              | (apply G.notB; exact rfl; exact rfl)
              | (apply G.extract; exact rfl; exact rfl; exact rfl)
              | (apply G.build (cs := [_, _]); exact rfl; exact T.lay_27; exact rfl; exact rfl)
              | (apply G.build (cs := [_, _]); exact rfl; exact T.lay_32; exact rfl; exact rfl)
              | (apply G.len; exact rfl; exact rfl; (first | exact T.slc_47 | exact T.slc_48))
              | (refine Goal.quiet rfl (Run.max2 rfl rfl) ?_)
              | (refine Goal.quiet rfl (Run.min2 rfl rfl) ?_)
              | (refine G.indexAddr1 rfl (by first | exact T.slc_28 | exact T.slc_47 | exact T.slc_48) (by first | exact T.sz_3 | exact T.sz_5) rfl rfl _ rfl (by omega) ?_)
              | (refine G.indexAddr1 rfl (by first | exact T.slc_28 | exact T.slc_47 | exact T.slc_48) (by first | exact T.sz_3 | exact T.sz_5) rfl rfl _ (Int.toNat_of_nonneg (by omega)).symm (by omega) ?_)
              | (refine G.indexAddr rfl (by first | exact T.slc_28 | exact T.slc_47 | exact T.slc_48) (by first | exact T.sz_27 | exact T.sz_49) rfl rfl _ rfl (by omega) ?_)
              | (refine G.indexAddr rfl (by first | exact T.slc_28 | exact T.slc_47 | exact T.slc_48) (by first | exact T.sz_27 | exact T.sz_49) rfl rfl _ (Int.toNat_of_nonneg (by omega)).symm (by omega) ?_)
              | (refine G.indexAddrA rfl T.arr_49 (by first | exact T.sz_3 | exact T.sz_5 | exact T.sz_27 | exact T.sz_49) rfl rfl _ rfl (by omega) ?_)
              | (refine G.indexAddrA rfl T.arr_49 (by first | exact T.sz_3 | exact T.sz_5 | exact T.sz_27 | exact T.sz_49) rfl rfl _ (Int.toNat_of_nonneg (by omega)).symm (by omega) ?_)
              | (refine Goal.loud rfl ?_; refine Loud.store0 rfl rfl (by first | exact T.sz_3 | exact T.sz_27 | exact T.sz_32) rfl rfl rfl (by first | exact Nat.le_refl _ | decide | (simp; omega)) rfl ?_)
              | (refine Goal.loud rfl ?_; refine Loud.store1 rfl rfl (by first | exact T.sz_3 | exact T.sz_27 | exact T.sz_32) rfl rfl rfl (by first | exact Nat.le_refl _ | decide | (simp; omega)) rfl ?_)
              | (refine Goal.loud rfl ?_; refine Loud.store2 rfl rfl (by first | exact T.sz_3 | exact T.sz_27 | exact T.sz_32) rfl rfl rfl (by first | exact Nat.le_refl _ | decide | (simp; omega)) rfl ?_)
              | (refine Goal.loud rfl ?_; refine Loud.store3 rfl rfl (by first | exact T.sz_3 | exact T.sz_27 | exact T.sz_32) rfl rfl rfl (by first | exact Nat.le_refl _ | decide | (simp; omega)) rfl ?_)
              | (refine Goal.loud rfl ?_; refine Loud.store4 rfl rfl (by first | exact T.sz_3 | exact T.sz_27 | exact T.sz_32) rfl rfl rfl (by first | exact Nat.le_refl _ | decide | (simp; omega)) rfl ?_)
              | (refine Goal.loud rfl ?_; refine Loud.store5 rfl rfl (by first | exact T.sz_3 | exact T.sz_27 | exact T.sz_32) rfl rfl rfl (by first | exact Nat.le_refl _ | decide | (simp; omega)) rfl ?_)
              | (refine Goal.loud rfl ?_; refine Loud.store6 rfl rfl (by first | exact T.sz_3 | exact T.sz_27 | exact T.sz_32) rfl rfl rfl (by first | exact Nat.le_refl _ | decide | (simp; omega)) rfl ?_)
              | (refine Goal.loud rfl ?_; refine Loud.store7 rfl rfl (by first | exact T.sz_3 | exact T.sz_27 | exact T.sz_32) rfl rfl rfl (by first | exact Nat.le_refl _ | decide | (simp; omega)) rfl ?_))
            refine Goal.again ⟨i + 1, ss, nt⟩ ⟨by dsimp only; omega, hs, ht, he, fun j j0 j1 => ?_⟩ (by dsimp only; omega) ⟨rfl, rfl, rfl, rfl, rfl, rfl, rfl, rfl, trivial⟩ (fun _ h => h)
            dsimp only at j1 ⊢
            by_cases e : j = i
            · subst e
              rw [e1, e2, stg_end hG.1 hH.1 (by have := hD j; omega) (by have := hD j; omega), cnk_end]
              exact ⟨rfl, rfl⟩
            · exact hd j j0 (by omega)
        · skip
          repeat' (first
            | (refine Goal.loud (o := ⟨some 7, _, _, _, _, _⟩) rfl ?_; refine Loud.allocA rfl T.inf_32 (fun b7 => ?_))
            | (refine Goal.loud (o := ⟨some 42, _, _, _, _, _⟩) rfl ?_; first | refine Loud.makeSlice rfl T.slc_48 T.inf_27 rfl rfl (by decide) rfl rfl rfl rfl (by omega) (by omega) (by omega) (fun b42 => ?_) | refine Loud.makeSlice rfl T.slc_48 T.inf_27 rfl rfl (by decide) rfl rfl (Int.toNat_of_nonneg (by omega)).symm (Int.toNat_of_nonneg (by omega)).symm (by omega) (by omega) (by omega) (fun b42 => ?_))
            | (refine Goal.loud (o := ⟨some 45, _, _, _, _, _⟩) rfl ?_; first | refine Loud.makeSlice rfl T.slc_28 T.inf_3 rfl rfl (by decide) rfl rfl rfl rfl (by omega) (by omega) (by omega) (fun b45 => ?_) | refine Loud.makeSlice rfl T.slc_28 T.inf_3 rfl rfl (by decide) rfl rfl (Int.toNat_of_nonneg (by omega)).symm (Int.toNat_of_nonneg (by omega)).symm (by omega) (by omega) (by omega) (fun b45 => ?_))
            | (apply G.move; exact rfl; exact rfl)
            | (apply G.assign; exact rfl; exact rfl)
            | refine Goal.seq (fun _ _ => ?_)
            | refine Goal.next (by assumption) ?_
            | refine Goal.lnil ?_
            | refine Goal.region ?_
            | refine Goal.skip ?_
            | refine Goal.block ?_
            | refine Goal.exit ?_
            | refine Goal.ret ?_
            | refine Goal.then_exit ?_
            | refine Goal.then_ret ?_
            | refine Goal.inBlock_exit ?_
            | refine Goal.inBlock_normal ?_
            | refine Goal.inBlock_ret ?_
            | refine Goal.inBlock_other rfl ?_
            | (apply Goal.condT; exact rfl)
            | (apply Goal.condF; exact rfl)
            | (refine Goal.condD rfl (fun hc => ?_) (fun hc => ?_) <;> first | (exfalso; omega) | contradiction | skip)
            | refine Goal.condB rfl (fun hc => ?_) (fun hc => ?_)
            | refine Goal.guardT rfl rfl ?_
            | refine Goal.guardF rfl rfl rfl rfl ?_
            | refine Goal.guardU rfl rfl rfl ?_
            | (refine Goal.guardD rfl rfl (fun hc => ?_) (fun hc => ?_) <;> first | (exfalso; omega) | contradiction | skip)
            | refine Goal.guardB rfl rfl (fun hc => ?_) (fun hc => ?_)
            | (apply G.fieldAddr; exact rfl; exact rfl; (first | exact T.fld_27_0 | exact T.fld_32_0 | exact T.fld_32_1))
            | (apply G.load; exact rfl; exact rfl; first | exact LoadOK.one (by first | exact T.one_3 | exact T.one_5) 0 rfl rfl | exact LoadOK.one (by first | exact T.one_3 | exact T.one_5) 1 rfl rfl | exact LoadOK.one (by first | exact T.one_3 | exact T.one_5) 2 rfl rfl | exact LoadOK.one (by first | exact T.one_3 | exact T.one_5) 3 rfl rfl | exact LoadOK.one (by first | exact T.one_3 | exact T.one_5) 4 rfl rfl | exact LoadOK.one (by first | exact T.one_3 | exact T.one_5) 5 rfl rfl | exact LoadOK.one (by first | exact T.one_3 | exact T.one_5) 6 rfl rfl | exact LoadOK.one (by first | exact T.one_3 | exact T.one_5) 7 rfl rfl | exact LoadOK.agg (vs := [_, _]) T.agg_27 0 rfl rfl ⟨rfl, rfl, trivial⟩ | exact LoadOK.agg (vs := [_, _]) T.agg_27 1 rfl rfl ⟨rfl, rfl, trivial⟩ | exact LoadOK.agg (vs := [_, _]) T.agg_27 2 rfl rfl ⟨rfl, rfl, trivial⟩ | exact LoadOK.agg (vs := [_, _]) T.agg_27 3 rfl rfl ⟨rfl, rfl, trivial⟩ | exact LoadOK.agg (vs := [_, _]) T.agg_27 4 rfl rfl ⟨rfl, rfl, trivial⟩ | exact LoadOK.agg (vs := [_, _]) T.agg_27 5 rfl rfl ⟨rfl, rfl, trivial⟩ | exact LoadOK.agg (vs := [_, _]) T.agg_27 6 rfl rfl ⟨rfl, rfl, trivial⟩ | exact LoadOK.agg (vs := [_, _]) T.agg_27 7 rfl rfl ⟨rfl, rfl, trivial⟩ | exact LoadOK.agg (vs := [_, _]) T.agg_32 0 rfl rfl ⟨rfl, rfl, trivial⟩ | exact LoadOK.agg (vs := [_, _]) T.agg_32 1 rfl rfl ⟨rfl, rfl, trivial⟩ | exact LoadOK.agg (vs := [_, _]) T.agg_32 2 rfl rfl ⟨rfl, rfl, trivial⟩ | exact LoadOK.agg (vs := [_, _]) T.agg_32 3 rfl rfl ⟨rfl, rfl, trivial⟩ | exact LoadOK.agg (vs := [_, _]) T.agg_32 4 rfl rfl ⟨rfl, rfl, trivial⟩ | exact LoadOK.agg (vs := [_, _]) T.agg_32 5 rfl rfl ⟨rfl, rfl, trivial⟩ | exact LoadOK.agg (vs := [_, _]) T.agg_32 6 rfl rfl ⟨rfl, rfl, trivial⟩ | exact LoadOK.agg (vs := [_, _]) T.agg_32 7 rfl rfl ⟨rfl, rfl, trivial⟩)
            | (apply G.pickT; exact rfl; exact rfl; exact rfl)
            | (apply G.pickF; exact rfl; exact rfl; exact rfl)
            | (apply G.lss; exact rfl; exact rfl; exact rfl)
            | (apply G.gtr; exact rfl; exact rfl; exact rfl)
            | (apply G.eql; exact rfl; exact rfl; exact rfl)
            | (apply G.neq; exact rfl; exact rfl; exact rfl)
            | (apply G.add; exact rfl; exact rfl; exact rfl; first | exact IntWalk.i64_in _ (by omega) | exact IntWalk.u8_in _ (by omega) | exact IntWalk.u16_in _ (by omega) | exact IntWalk.u32_in _ (by omega) | exact IntWalk.u64_in _ (by omega))
            | (apply G.eqlI2; exact rfl; exact T.i2_27; exact rfl; exact rfl)
            | (apply G.neqI2; exact rfl; exact T.i2_27; exact rfl; exact rfl)
            | (apply G.rem; exact rfl; exact rfl; exact rfl; (first | decide | omega); exact IntWalk.rem_in _ _ (by omega))
            | (apply G.conv; exact rfl; exact rfl; (first | exact T.int_3 | exact T.int_5); (first | exact T.int_3 | exact T.int_5); first | exact IntWalk.i64_in _ (by omega) | exact IntWalk.u8_in _ (by omega) | exact IntWalk.u16_in _ (by omega) | exact IntWalk.u32_in _ (by omega) | exact IntWalk.u64_in _ (by omega))
            | (apply G.notT; exact rfl; exact rfl)
            | (apply G.notF; exact rfl; exact rfl)
            | (refine G.notD rfl rfl ?_)
            | (apply G.notB; exact rfl; exact rfl)
            | (apply G.extract; exact rfl; exact rfl; exact rfl)
            | (apply G.build (cs := [_, _]); exact rfl; exact T.lay_27; exact rfl; exact rfl)
            | (apply G.build (cs := [_, _]); exact rfl; exact T.lay_32; exact rfl; exact rfl)
            | (apply G.len; exact rfl; exact rfl; (first | exact T.slc_47 | exact T.slc_48))
            | (refine Goal.quiet rfl (Run.max2 rfl rfl) ?_)
            | (refine Goal.quiet rfl (Run.min2 rfl rfl) ?_)
            | (refine G.indexAddr1 rfl (by first | exact T.slc_28 | exact T.slc_47 | exact T.slc_48) (by first | exact T.sz_3 | exact T.sz_5) rfl rfl _ rfl (by omega) ?_)
            | (refine G.indexAddr1 rfl (by first | exact T.slc_28 | exact T.slc_47 | exact T.slc_48) (by first | exact T.sz_3 | exact T.sz_5) rfl rfl _ (Int.toNat_of_nonneg (by omega)).symm (by omega) ?_)
            | (refine G.indexAddr rfl (by first | exact T.slc_28 | exact T.slc_47 | exact T.slc_48) (by first | exact T.sz_27 | exact T.sz_49) rfl rfl _ rfl (by omega) ?_)
            | (refine G.indexAddr rfl (by first | exact T.slc_28 | exact T.slc_47 | exact T.slc_48) (by first | exact T.sz_27 | exact T.sz_49) rfl rfl _ (Int.toNat_of_nonneg (by omega)).symm (by omega) ?_)
            | (refine G.indexAddrA rfl T.arr_49 (by first | exact T.sz_3 | exact T.sz_5 | exact T.sz_27 | exact T.sz_49) rfl rfl _ rfl (by omega) ?_)
            | (refine G.indexAddrA rfl T.arr_49 (by first | exact T.sz_3 | exact T.sz_5 | exact T.sz_27 | exact T.sz_49) rfl rfl _ (Int.toNat_of_nonneg (by omega)).symm (by omega) ?_)
            | (refine Goal.loud rfl ?_; refine Loud.store0 rfl rfl (by first | exact T.sz_3 | exact T.sz_27 | exact T.sz_32) rfl rfl rfl (by first | exact Nat.le_refl _ | decide | (simp; omega)) rfl ?_)
            | (refine Goal.loud rfl ?_; refine Loud.store1 rfl rfl (by first | exact T.sz_3 | exact T.sz_27 | exact T.sz_32) rfl rfl rfl (by first | exact Nat.le_refl _ | decide | (simp; omega)) rfl ?_)
            | (refine Goal.loud rfl ?_; refine Loud.store2 rfl rfl (by first | exact T.sz_3 | exact T.sz_27 | exact T.sz_32) rfl rfl rfl (by first | exact Nat.le_refl _ | decide | (simp; omega)) rfl ?_)
            | (refine Goal.loud rfl ?_; refine Loud.store3 rfl rfl (by first | exact T.sz_3 | exact T.sz_27 | exact T.sz_32) rfl rfl rfl (by first | exact Nat.le_refl _ | decide | (simp; omega)) rfl ?_)
            | (refine Goal.loud rfl ?_; refine Loud.store4 rfl rfl (by first | exact T.sz_3 | exact T.sz_27 | exact T.sz_32) rfl rfl rfl (by first | exact Nat.le_refl _ | decide | (simp; omega)) rfl ?_)
            | (refine Goal.loud rfl ?_; refine Loud.store5 rfl rfl (by first | exact T.sz_3 | exact T.sz_27 | exact T.sz_32) rfl rfl rfl (by first | exact Nat.le_refl _ | decide | (simp; omega)) rfl ?_)
            | (refine Goal.loud rfl ?_; refine Loud.store6 rfl rfl (by first | exact T.sz_3 | exact T.sz_27 | exact T.sz_32) rfl rfl rfl (by first | exact Nat.le_refl _ | decide | (simp; omega)) rfl ?_)
            | (refine Goal.loud rfl ?_; refine Loud.store7 rfl rfl (by first | exact T.sz_3 | exact T.sz_27 | exact T.sz_32) rfl rfl rfl (by first | exact Nat.le_refl _ | decide | (simp; omega)) rfl ?_))
          have hii : i = ts.length := by omega
          subst hii
          clear hlt hi he
          refine Goal.loopP (X := Int) (fun x => [(2, .slice ad ts.length cap), (7, .pointer (some ⟨b7, 0, none⟩)), (8, .int .i64 sp), (9, .slice (some ⟨b42, 0, none⟩) ts.length ts.length), (10, .slice (some ⟨b45, 0, none⟩) ts.length ts.length), (11, .int .i64 last), (14, .int .i64 now), (18, .int .i64 x)]) (fun x => [(b45, .cells (ints nt).toArray 3), (b42, .cells (Els pr ss).toArray 27), (b7, .cells #[.int .i64 Ga, .int .i64 Ho] 32)])
            (fun x => 0 ≤ x ∧ x ≤ ts.length) (fun x => (ts.length - x).toNat) 0 ⟨rfl, rfl, rfl, rfl, rfl, rfl, rfl, rfl, trivial⟩ (fun _ h => h)
            (by omega) ?_
          intro i hi
          by_cases hlt : i < ts.length
          · obtain ⟨e1, e2⟩ := hd i hi.1 hlt
            have hDi := hD i
            have hp := nst_two (g := Ga) (h := Ho) (now := now) (last := last) (d := dd ts sp i) hG.1 hH.1 (by omega) (by omega)
            rw [← e1] at hp
            have hcp := cn_pos (dd ts sp i) now
            rw [← e2] at hcp
            by_cases hz : 0 < ia nt i
            · by_cases h3 : (el ss i).1 = 3
              · have hall : ∀ j : Int, 0 ≤ j → j < ts.length → ¬ ia nt j = 0 ∧ ¬ (el ss j).1 = 0 := fun j j0 j1 => by
                  obtain ⟨f1, f2⟩ := hd j j0 j1
                  have hDj := hD j
                  rw [f1, f2]
                  exact nst_fin (d := dd ts sp i) hG.1 hH.1 (by omega) (by omega) (by omega) (by rw [← e2]; exact hz) (by rw [← e1]; exact h3)
                repeat' (first
                  | (refine Goal.loud (o := ⟨some 7, _, _, _, _, _⟩) rfl ?_; refine Loud.allocA rfl T.inf_32 (fun b7 => ?_))
                  | (refine Goal.loud (o := ⟨some 42, _, _, _, _, _⟩) rfl ?_; first | refine Loud.makeSlice rfl T.slc_48 T.inf_27 rfl rfl (by decide) rfl rfl rfl rfl (by omega) (by omega) (by omega) (fun b42 => ?_) | refine Loud.makeSlice rfl T.slc_48 T.inf_27 rfl rfl (by decide) rfl rfl (Int.toNat_of_nonneg (by omega)).symm (Int.toNat_of_nonneg (by omega)).symm (by omega) (by omega) (by omega) (fun b42 => ?_))
                  | (refine Goal.loud (o := ⟨some 45, _, _, _, _, _⟩) rfl ?_; first | refine Loud.makeSlice rfl T.slc_28 T.inf_3 rfl rfl (by decide) rfl rfl rfl rfl (by omega) (by omega) (by omega) (fun b45 => ?_) | refine Loud.makeSlice rfl T.slc_28 T.inf_3 rfl rfl (by decide) rfl rfl (Int.toNat_of_nonneg (by omega)).symm (Int.toNat_of_nonneg (by omega)).symm (by omega) (by omega) (by omega) (fun b45 => ?_))
                  | (apply G.move; exact rfl; exact rfl)
                  | (apply G.assign; exact rfl; exact rfl)
                  | refine Goal.seq (fun _ _ => ?_)
                  | refine Goal.next (by assumption) ?_
                  | refine Goal.lnil ?_
                  | refine Goal.region ?_
                  | refine Goal.skip ?_
                  | refine Goal.block ?_
                  | refine Goal.exit ?_
                  | refine Goal.ret ?_
                  | refine Goal.then_exit ?_
                  | refine Goal.then_ret ?_
                  | refine Goal.inBlock_exit ?_
                  | refine Goal.inBlock_normal ?_
                  | refine Goal.inBlock_ret ?_
                  | refine Goal.inBlock_other rfl ?_
                  | (apply Goal.condT; exact rfl)
                  | (apply Goal.condF; exact rfl)
                  | (refine Goal.condD rfl (fun hc => ?_) (fun hc => ?_) <;> first | (exfalso; omega) | contradiction | skip)
                  | refine Goal.condB rfl (fun hc => ?_) (fun hc => ?_)
                  | refine Goal.guardT rfl rfl ?_
                  | refine Goal.guardF rfl rfl rfl rfl ?_
                  | refine Goal.guardU rfl rfl rfl ?_
                  | (refine Goal.guardD rfl rfl (fun hc => ?_) (fun hc => ?_) <;> first | (exfalso; omega) | contradiction | skip)
                  | refine Goal.guardB rfl rfl (fun hc => ?_) (fun hc => ?_)
                  | (apply G.fieldAddr; exact rfl; exact rfl; (first | exact T.fld_27_0 | exact T.fld_32_0 | exact T.fld_32_1))
                  | (apply G.load; exact rfl; exact rfl; first | exact LoadOK.elF T.one_3 1 0 hf rfl (by omega) rfl | exact LoadOK.ia T.one_3 0 rfl (by omega) | exact LoadOK.one (by first | exact T.one_3 | exact T.one_5) 0 rfl rfl | exact LoadOK.one (by first | exact T.one_3 | exact T.one_5) 1 rfl rfl | exact LoadOK.one (by first | exact T.one_3 | exact T.one_5) 2 rfl rfl | exact LoadOK.one (by first | exact T.one_3 | exact T.one_5) 3 rfl rfl | exact LoadOK.one (by first | exact T.one_3 | exact T.one_5) 4 rfl rfl | exact LoadOK.one (by first | exact T.one_3 | exact T.one_5) 5 rfl rfl | exact LoadOK.one (by first | exact T.one_3 | exact T.one_5) 6 rfl rfl | exact LoadOK.one (by first | exact T.one_3 | exact T.one_5) 7 rfl rfl | exact LoadOK.agg (vs := [_, _]) T.agg_27 0 rfl rfl ⟨rfl, rfl, trivial⟩ | exact LoadOK.agg (vs := [_, _]) T.agg_27 1 rfl rfl ⟨rfl, rfl, trivial⟩ | exact LoadOK.agg (vs := [_, _]) T.agg_27 2 rfl rfl ⟨rfl, rfl, trivial⟩ | exact LoadOK.agg (vs := [_, _]) T.agg_27 3 rfl rfl ⟨rfl, rfl, trivial⟩ | exact LoadOK.agg (vs := [_, _]) T.agg_27 4 rfl rfl ⟨rfl, rfl, trivial⟩ | exact LoadOK.agg (vs := [_, _]) T.agg_27 5 rfl rfl ⟨rfl, rfl, trivial⟩ | exact LoadOK.agg (vs := [_, _]) T.agg_27 6 rfl rfl ⟨rfl, rfl, trivial⟩ | exact LoadOK.agg (vs := [_, _]) T.agg_27 7 rfl rfl ⟨rfl, rfl, trivial⟩ | exact LoadOK.agg (vs := [_, _]) T.agg_32 0 rfl rfl ⟨rfl, rfl, trivial⟩ | exact LoadOK.agg (vs := [_, _]) T.agg_32 1 rfl rfl ⟨rfl, rfl, trivial⟩ | exact LoadOK.agg (vs := [_, _]) T.agg_32 2 rfl rfl ⟨rfl, rfl, trivial⟩ | exact LoadOK.agg (vs := [_, _]) T.agg_32 3 rfl rfl ⟨rfl, rfl, trivial⟩ | exact LoadOK.agg (vs := [_, _]) T.agg_32 4 rfl rfl ⟨rfl, rfl, trivial⟩ | exact LoadOK.agg (vs := [_, _]) T.agg_32 5 rfl rfl ⟨rfl, rfl, trivial⟩ | exact LoadOK.agg (vs := [_, _]) T.agg_32 6 rfl rfl ⟨rfl, rfl, trivial⟩ | exact LoadOK.agg (vs := [_, _]) T.agg_32 7 rfl rfl ⟨rfl, rfl, trivial⟩)
                  | (apply G.pickT; exact rfl; exact rfl; exact rfl)
                  | (apply G.pickF; exact rfl; exact rfl; exact rfl)
                  | (apply G.lss; exact rfl; exact rfl; exact rfl)
                  | (apply G.gtr; exact rfl; exact rfl; exact rfl)
                  | (apply G.eql; exact rfl; exact rfl; exact rfl)
                  | (apply G.neq; exact rfl; exact rfl; exact rfl)
                  | (apply G.add; exact rfl; exact rfl; exact rfl; first | exact IntWalk.i64_in _ (by omega) | exact IntWalk.u8_in _ (by omega) | exact IntWalk.u16_in _ (by omega) | exact IntWalk.u32_in _ (by omega) | exact IntWalk.u64_in _ (by omega))
                  | (apply G.eqlI2; exact rfl; exact T.i2_27; exact rfl; exact rfl)
                  | (apply G.neqI2; exact rfl; exact T.i2_27; exact rfl; exact rfl)
                  | (apply G.rem; exact rfl; exact rfl; exact rfl; (first | decide | omega); exact IntWalk.rem_in _ _ (by omega))
                  | (apply G.conv; exact rfl; exact rfl; (first | exact T.int_3 | exact T.int_5); (first | exact T.int_3 | exact T.int_5); first | exact IntWalk.i64_in _ (by omega) | exact IntWalk.u8_in _ (by omega) | exact IntWalk.u16_in _ (by omega) | exact IntWalk.u32_in _ (by omega) | exact IntWalk.u64_in _ (by omega))
                  | (apply G.notT; exact rfl; exact rfl)
                  | (apply G.notF; exact rfl; exact rfl)
                  | (refine G.notD rfl rfl ?_)
                  | (apply G.notB; exact rfl; exact rfl)
                  | (apply G.extract; exact rfl; exact rfl; exact rfl)
                  | (apply G.build (cs := [_, _]); exact rfl; exact T.lay_27; exact rfl; exact rfl)
                  | (apply G.build (cs := [_, _]); exact rfl; exact T.lay_32; exact rfl; exact rfl)
                  | (apply G.len; exact rfl; exact rfl; (first | exact T.slc_47 | exact T.slc_48))
                  | (refine Goal.quiet rfl (Run.max2 rfl rfl) ?_)
                  | (refine Goal.quiet rfl (Run.min2 rfl rfl) ?_)
                  | (refine G.indexAddr1 rfl (by first | exact T.slc_28 | exact T.slc_47 | exact T.slc_48) (by first | exact T.sz_3 | exact T.sz_5) rfl rfl _ rfl (by omega) ?_)
                  | (refine G.indexAddr1 rfl (by first | exact T.slc_28 | exact T.slc_47 | exact T.slc_48) (by first | exact T.sz_3 | exact T.sz_5) rfl rfl _ (Int.toNat_of_nonneg (by omega)).symm (by omega) ?_)
                  | (refine G.indexAddr rfl (by first | exact T.slc_28 | exact T.slc_47 | exact T.slc_48) (by first | exact T.sz_27 | exact T.sz_49) rfl rfl _ rfl (by omega) ?_)
                  | (refine G.indexAddr rfl (by first | exact T.slc_28 | exact T.slc_47 | exact T.slc_48) (by first | exact T.sz_27 | exact T.sz_49) rfl rfl _ (Int.toNat_of_nonneg (by omega)).symm (by omega) ?_)
                  | (refine G.indexAddrA rfl T.arr_49 (by first | exact T.sz_3 | exact T.sz_5 | exact T.sz_27 | exact T.sz_49) rfl rfl _ rfl (by omega) ?_)
                  | (refine G.indexAddrA rfl T.arr_49 (by first | exact T.sz_3 | exact T.sz_5 | exact T.sz_27 | exact T.sz_49) rfl rfl _ (Int.toNat_of_nonneg (by omega)).symm (by omega) ?_)
                  | (refine Goal.loud rfl ?_; refine Loud.store0 rfl rfl (by first | exact T.sz_3 | exact T.sz_27 | exact T.sz_32) rfl rfl rfl (by first | exact Nat.le_refl _ | decide | (simp; omega)) rfl ?_)
                  | (refine Goal.loud rfl ?_; refine Loud.store1 rfl rfl (by first | exact T.sz_3 | exact T.sz_27 | exact T.sz_32) rfl rfl rfl (by first | exact Nat.le_refl _ | decide | (simp; omega)) rfl ?_)
                  | (refine Goal.loud rfl ?_; refine Loud.store2 rfl rfl (by first | exact T.sz_3 | exact T.sz_27 | exact T.sz_32) rfl rfl rfl (by first | exact Nat.le_refl _ | decide | (simp; omega)) rfl ?_)
                  | (refine Goal.loud rfl ?_; refine Loud.store3 rfl rfl (by first | exact T.sz_3 | exact T.sz_27 | exact T.sz_32) rfl rfl rfl (by first | exact Nat.le_refl _ | decide | (simp; omega)) rfl ?_)
                  | (refine Goal.loud rfl ?_; refine Loud.store4 rfl rfl (by first | exact T.sz_3 | exact T.sz_27 | exact T.sz_32) rfl rfl rfl (by first | exact Nat.le_refl _ | decide | (simp; omega)) rfl ?_)
                  | (refine Goal.loud rfl ?_; refine Loud.store5 rfl rfl (by first | exact T.sz_3 | exact T.sz_27 | exact T.sz_32) rfl rfl rfl (by first | exact Nat.le_refl _ | decide | (simp; omega)) rfl ?_)
                  | (refine Goal.loud rfl ?_; refine Loud.store6 rfl rfl (by first | exact T.sz_3 | exact T.sz_27 | exact T.sz_32) rfl rfl rfl (by first | exact Nat.le_refl _ | decide | (simp; omega)) rfl ?_)
                  | (refine Goal.loud rfl ?_; refine Loud.store7 rfl rfl (by first | exact T.sz_3 | exact T.sz_27 | exact T.sz_32) rfl rfl rfl (by first | exact Nat.le_refl _ | decide | (simp; omega)) rfl ?_))
                refine Goal.loopP (X := Int) (fun x => [(2, .slice ad ts.length cap), (7, .pointer (some ⟨b7, 0, none⟩)), (8, .int .i64 sp), (9, .slice (some ⟨b42, 0, none⟩) ts.length ts.length), (10, .slice (some ⟨b45, 0, none⟩) ts.length ts.length), (11, .int .i64 last), (14, .int .i64 now), (18, .int .i64 i), (19, .int .i64 x)]) (fun x => [(b45, .cells (ints nt).toArray 3), (b42, .cells (Els pr ss).toArray 27), (b7, .cells #[.int .i64 Ga, .int .i64 Ho] 32)])
                  (fun x => 0 ≤ x ∧ x ≤ ts.length) (fun x => (ts.length - x).toNat) 0 ⟨rfl, rfl, rfl, rfl, rfl, rfl, rfl, rfl, rfl, trivial⟩ (fun _ h => h)
                  (by omega) ?_
                intro k hk
                by_cases hlk : k < ts.length
                · obtain ⟨n1, n2⟩ := hall k hk.1 hlk
                  repeat' (first
                    | (refine Goal.loud (o := ⟨some 7, _, _, _, _, _⟩) rfl ?_; refine Loud.allocA rfl T.inf_32 (fun b7 => ?_))
                    | (refine Goal.loud (o := ⟨some 42, _, _, _, _, _⟩) rfl ?_; first | refine Loud.makeSlice rfl T.slc_48 T.inf_27 rfl rfl (by decide) rfl rfl rfl rfl (by omega) (by omega) (by omega) (fun b42 => ?_) | refine Loud.makeSlice rfl T.slc_48 T.inf_27 rfl rfl (by decide) rfl rfl (Int.toNat_of_nonneg (by omega)).symm (Int.toNat_of_nonneg (by omega)).symm (by omega) (by omega) (by omega) (fun b42 => ?_))
                    | (refine Goal.loud (o := ⟨some 45, _, _, _, _, _⟩) rfl ?_; first | refine Loud.makeSlice rfl T.slc_28 T.inf_3 rfl rfl (by decide) rfl rfl rfl rfl (by omega) (by omega) (by omega) (fun b45 => ?_) | refine Loud.makeSlice rfl T.slc_28 T.inf_3 rfl rfl (by decide) rfl rfl (Int.toNat_of_nonneg (by omega)).symm (Int.toNat_of_nonneg (by omega)).symm (by omega) (by omega) (by omega) (fun b45 => ?_))
                    | (apply G.move; exact rfl; exact rfl)
                    | (apply G.assign; exact rfl; exact rfl)
                    | refine Goal.seq (fun _ _ => ?_)
                    | refine Goal.next (by assumption) ?_
                    | refine Goal.lnil ?_
                    | refine Goal.region ?_
                    | refine Goal.skip ?_
                    | refine Goal.block ?_
                    | refine Goal.exit ?_
                    | refine Goal.ret ?_
                    | refine Goal.then_exit ?_
                    | refine Goal.then_ret ?_
                    | refine Goal.inBlock_exit ?_
                    | refine Goal.inBlock_normal ?_
                    | refine Goal.inBlock_ret ?_
                    | refine Goal.inBlock_other rfl ?_
                    | (apply Goal.condT; exact rfl)
                    | (apply Goal.condF; exact rfl)
                    | (refine Goal.condD rfl (fun hc => ?_) (fun hc => ?_) <;> first | (exfalso; omega) | contradiction | skip)
                    | refine Goal.condB rfl (fun hc => ?_) (fun hc => ?_)
                    | refine Goal.guardT rfl rfl ?_
                    | refine Goal.guardF rfl rfl rfl rfl ?_
                    | refine Goal.guardU rfl rfl rfl ?_
                    | (refine Goal.guardD rfl rfl (fun hc => ?_) (fun hc => ?_) <;> first | (exfalso; omega) | contradiction | skip)
                    | refine Goal.guardB rfl rfl (fun hc => ?_) (fun hc => ?_)
                    | (apply G.fieldAddr; exact rfl; exact rfl; (first | exact T.fld_27_0 | exact T.fld_32_0 | exact T.fld_32_1))
                    | (apply G.load; exact rfl; exact rfl; first | exact LoadOK.elF T.one_3 1 0 hf rfl (by omega) rfl | exact LoadOK.ia T.one_3 0 rfl (by omega) | exact LoadOK.one (by first | exact T.one_3 | exact T.one_5) 0 rfl rfl | exact LoadOK.one (by first | exact T.one_3 | exact T.one_5) 1 rfl rfl | exact LoadOK.one (by first | exact T.one_3 | exact T.one_5) 2 rfl rfl | exact LoadOK.one (by first | exact T.one_3 | exact T.one_5) 3 rfl rfl | exact LoadOK.one (by first | exact T.one_3 | exact T.one_5) 4 rfl rfl | exact LoadOK.one (by first | exact T.one_3 | exact T.one_5) 5 rfl rfl | exact LoadOK.one (by first | exact T.one_3 | exact T.one_5) 6 rfl rfl | exact LoadOK.one (by first | exact T.one_3 | exact T.one_5) 7 rfl rfl | exact LoadOK.agg (vs := [_, _]) T.agg_27 0 rfl rfl ⟨rfl, rfl, trivial⟩ | exact LoadOK.agg (vs := [_, _]) T.agg_27 1 rfl rfl ⟨rfl, rfl, trivial⟩ | exact LoadOK.agg (vs := [_, _]) T.agg_27 2 rfl rfl ⟨rfl, rfl, trivial⟩ | exact LoadOK.agg (vs := [_, _]) T.agg_27 3 rfl rfl ⟨rfl, rfl, trivial⟩ | exact LoadOK.agg (vs := [_, _]) T.agg_27 4 rfl rfl ⟨rfl, rfl, trivial⟩ | exact LoadOK.agg (vs := [_, _]) T.agg_27 5 rfl rfl ⟨rfl, rfl, trivial⟩ | exact LoadOK.agg (vs := [_, _]) T.agg_27 6 rfl rfl ⟨rfl, rfl, trivial⟩ | exact LoadOK.agg (vs := [_, _]) T.agg_27 7 rfl rfl ⟨rfl, rfl, trivial⟩ | exact LoadOK.agg (vs := [_, _]) T.agg_32 0 rfl rfl ⟨rfl, rfl, trivial⟩ | exact LoadOK.agg (vs := [_, _]) T.agg_32 1 rfl rfl ⟨rfl, rfl, trivial⟩ | exact LoadOK.agg (vs := [_, _]) T.agg_32 2 rfl rfl ⟨rfl, rfl, trivial⟩ | exact LoadOK.agg (vs := [_, _]) T.agg_32 3 rfl rfl ⟨rfl, rfl, trivial⟩ | exact LoadOK.agg (vs := [_, _]) T.agg_32 4 rfl rfl ⟨rfl, rfl, trivial⟩ | exact LoadOK.agg (vs := [_, _]) T.agg_32 5 rfl rfl ⟨rfl, rfl, trivial⟩ | exact LoadOK.agg (vs := [_, _]) T.agg_32 6 rfl rfl ⟨rfl, rfl, trivial⟩ | exact LoadOK.agg (vs := [_, _]) T.agg_32 7 rfl rfl ⟨rfl, rfl, trivial⟩)
                    | (apply G.pickT; exact rfl; exact rfl; exact rfl)
                    | (apply G.pickF; exact rfl; exact rfl; exact rfl)
                    | (apply G.lss; exact rfl; exact rfl; exact rfl)
                    | (apply G.gtr; exact rfl; exact rfl; exact rfl)
                    | (apply G.eql; exact rfl; exact rfl; exact rfl)
                    | (apply G.neq; exact rfl; exact rfl; exact rfl)
                    | (apply G.add; exact rfl; exact rfl; exact rfl; first | exact IntWalk.i64_in _ (by omega) | exact IntWalk.u8_in _ (by omega) | exact IntWalk.u16_in _ (by omega) | exact IntWalk.u32_in _ (by omega) | exact IntWalk.u64_in _ (by omega))
                    | (apply G.eqlI2; exact rfl; exact T.i2_27; exact rfl; exact rfl)
                    | (apply G.neqI2; exact rfl; exact T.i2_27; exact rfl; exact rfl)
                    | (apply G.rem; exact rfl; exact rfl; exact rfl; (first | decide | omega); exact IntWalk.rem_in _ _ (by omega))
                    | (apply G.conv; exact rfl; exact rfl; (first | exact T.int_3 | exact T.int_5); (first | exact T.int_3 | exact T.int_5); first | exact IntWalk.i64_in _ (by omega) | exact IntWalk.u8_in _ (by omega) | exact IntWalk.u16_in _ (by omega) | exact IntWalk.u32_in _ (by omega) | exact IntWalk.u64_in _ (by omega))
                    | (apply G.notT; exact rfl; exact rfl)
                    | (apply G.notF; exact rfl; exact rfl)
                    | (refine G.notD rfl rfl ?_)
                    | (apply G.notB; exact rfl; exact rfl)
                    | (apply G.extract; exact rfl; exact rfl; exact rfl)
                    | (apply G.build (cs := [_, _]); exact rfl; exact T.lay_27; exact rfl; exact rfl)
                    | (apply G.build (cs := [_, _]); exact rfl; exact T.lay_32; exact rfl; exact rfl)
                    | (apply G.len; exact rfl; exact rfl; (first | exact T.slc_47 | exact T.slc_48))
                    | (refine Goal.quiet rfl (Run.max2 rfl rfl) ?_)
                    | (refine Goal.quiet rfl (Run.min2 rfl rfl) ?_)
                    | (refine G.indexAddr1 rfl (by first | exact T.slc_28 | exact T.slc_47 | exact T.slc_48) (by first | exact T.sz_3 | exact T.sz_5) rfl rfl _ rfl (by omega) ?_)
                    | (refine G.indexAddr1 rfl (by first | exact T.slc_28 | exact T.slc_47 | exact T.slc_48) (by first | exact T.sz_3 | exact T.sz_5) rfl rfl _ (Int.toNat_of_nonneg (by omega)).symm (by omega) ?_)
                    | (refine G.indexAddr rfl (by first | exact T.slc_28 | exact T.slc_47 | exact T.slc_48) (by first | exact T.sz_27 | exact T.sz_49) rfl rfl _ rfl (by omega) ?_)
                    | (refine G.indexAddr rfl (by first | exact T.slc_28 | exact T.slc_47 | exact T.slc_48) (by first | exact T.sz_27 | exact T.sz_49) rfl rfl _ (Int.toNat_of_nonneg (by omega)).symm (by omega) ?_)
                    | (refine G.indexAddrA rfl T.arr_49 (by first | exact T.sz_3 | exact T.sz_5 | exact T.sz_27 | exact T.sz_49) rfl rfl _ rfl (by omega) ?_)
                    | (refine G.indexAddrA rfl T.arr_49 (by first | exact T.sz_3 | exact T.sz_5 | exact T.sz_27 | exact T.sz_49) rfl rfl _ (Int.toNat_of_nonneg (by omega)).symm (by omega) ?_)
                    | (refine Goal.loud rfl ?_; refine Loud.store0 rfl rfl (by first | exact T.sz_3 | exact T.sz_27 | exact T.sz_32) rfl rfl rfl (by first | exact Nat.le_refl _ | decide | (simp; omega)) rfl ?_)
                    | (refine Goal.loud rfl ?_; refine Loud.store1 rfl rfl (by first | exact T.sz_3 | exact T.sz_27 | exact T.sz_32) rfl rfl rfl (by first | exact Nat.le_refl _ | decide | (simp; omega)) rfl ?_)
                    | (refine Goal.loud rfl ?_; refine Loud.store2 rfl rfl (by first | exact T.sz_3 | exact T.sz_27 | exact T.sz_32) rfl rfl rfl (by first | exact Nat.le_refl _ | decide | (simp; omega)) rfl ?_)
                    | (refine Goal.loud rfl ?_; refine Loud.store3 rfl rfl (by first | exact T.sz_3 | exact T.sz_27 | exact T.sz_32) rfl rfl rfl (by first | exact Nat.le_refl _ | decide | (simp; omega)) rfl ?_)
                    | (refine Goal.loud rfl ?_; refine Loud.store4 rfl rfl (by first | exact T.sz_3 | exact T.sz_27 | exact T.sz_32) rfl rfl rfl (by first | exact Nat.le_refl _ | decide | (simp; omega)) rfl ?_)
                    | (refine Goal.loud rfl ?_; refine Loud.store5 rfl rfl (by first | exact T.sz_3 | exact T.sz_27 | exact T.sz_32) rfl rfl rfl (by first | exact Nat.le_refl _ | decide | (simp; omega)) rfl ?_)
                    | (refine Goal.loud rfl ?_; refine Loud.store6 rfl rfl (by first | exact T.sz_3 | exact T.sz_27 | exact T.sz_32) rfl rfl rfl (by first | exact Nat.le_refl _ | decide | (simp; omega)) rfl ?_)
                    | (refine Goal.loud rfl ?_; refine Loud.store7 rfl rfl (by first | exact T.sz_3 | exact T.sz_27 | exact T.sz_32) rfl rfl rfl (by first | exact Nat.le_refl _ | decide | (simp; omega)) rfl ?_))
                  refine Goal.again (k + 1) (by omega) (by omega) ⟨rfl, rfl, rfl, rfl, rfl, rfl, rfl, rfl, rfl, trivial⟩ (fun _ h => h)
                · skip
                  repeat' (first
                    | (refine Goal.loud (o := ⟨some 7, _, _, _, _, _⟩) rfl ?_; refine Loud.allocA rfl T.inf_32 (fun b7 => ?_))
                    | (refine Goal.loud (o := ⟨some 42, _, _, _, _, _⟩) rfl ?_; first | refine Loud.makeSlice rfl T.slc_48 T.inf_27 rfl rfl (by decide) rfl rfl rfl rfl (by omega) (by omega) (by omega) (fun b42 => ?_) | refine Loud.makeSlice rfl T.slc_48 T.inf_27 rfl rfl (by decide) rfl rfl (Int.toNat_of_nonneg (by omega)).symm (Int.toNat_of_nonneg (by omega)).symm (by omega) (by omega) (by omega) (fun b42 => ?_))
                    | (refine Goal.loud (o := ⟨some 45, _, _, _, _, _⟩) rfl ?_; first | refine Loud.makeSlice rfl T.slc_28 T.inf_3 rfl rfl (by decide) rfl rfl rfl rfl (by omega) (by omega) (by omega) (fun b45 => ?_) | refine Loud.makeSlice rfl T.slc_28 T.inf_3 rfl rfl (by decide) rfl rfl (Int.toNat_of_nonneg (by omega)).symm (Int.toNat_of_nonneg (by omega)).symm (by omega) (by omega) (by omega) (fun b45 => ?_))
                    | (apply G.move; exact rfl; exact rfl)
                    | (apply G.assign; exact rfl; exact rfl)
                    | refine Goal.seq (fun _ _ => ?_)
                    | refine Goal.next (by assumption) ?_
                    | refine Goal.lnil ?_
                    | refine Goal.region ?_
                    | refine Goal.skip ?_
                    | refine Goal.block ?_
                    | refine Goal.exit ?_
                    | refine Goal.ret ?_
                    | refine Goal.then_exit ?_
                    | refine Goal.then_ret ?_
                    | refine Goal.inBlock_exit ?_
                    | refine Goal.inBlock_normal ?_
                    | refine Goal.inBlock_ret ?_
                    | refine Goal.inBlock_other rfl ?_
                    | (apply Goal.condT; exact rfl)
                    | (apply Goal.condF; exact rfl)
                    | (refine Goal.condD rfl (fun hc => ?_) (fun hc => ?_) <;> first | (exfalso; omega) | contradiction | skip)
                    | refine Goal.condB rfl (fun hc => ?_) (fun hc => ?_)
                    | refine Goal.guardT rfl rfl ?_
                    | refine Goal.guardF rfl rfl rfl rfl ?_
                    | refine Goal.guardU rfl rfl rfl ?_
                    | (refine Goal.guardD rfl rfl (fun hc => ?_) (fun hc => ?_) <;> first | (exfalso; omega) | contradiction | skip)
                    | refine Goal.guardB rfl rfl (fun hc => ?_) (fun hc => ?_)
                    | (apply G.fieldAddr; exact rfl; exact rfl; (first | exact T.fld_27_0 | exact T.fld_32_0 | exact T.fld_32_1))
                    | (apply G.load; exact rfl; exact rfl; first | exact LoadOK.one (by first | exact T.one_3 | exact T.one_5) 0 rfl rfl | exact LoadOK.one (by first | exact T.one_3 | exact T.one_5) 1 rfl rfl | exact LoadOK.one (by first | exact T.one_3 | exact T.one_5) 2 rfl rfl | exact LoadOK.one (by first | exact T.one_3 | exact T.one_5) 3 rfl rfl | exact LoadOK.one (by first | exact T.one_3 | exact T.one_5) 4 rfl rfl | exact LoadOK.one (by first | exact T.one_3 | exact T.one_5) 5 rfl rfl | exact LoadOK.one (by first | exact T.one_3 | exact T.one_5) 6 rfl rfl | exact LoadOK.one (by first | exact T.one_3 | exact T.one_5) 7 rfl rfl | exact LoadOK.agg (vs := [_, _]) T.agg_27 0 rfl rfl ⟨rfl, rfl, trivial⟩ | exact LoadOK.agg (vs := [_, _]) T.agg_27 1 rfl rfl ⟨rfl, rfl, trivial⟩ | exact LoadOK.agg (vs := [_, _]) T.agg_27 2 rfl rfl ⟨rfl, rfl, trivial⟩ | exact LoadOK.agg (vs := [_, _]) T.agg_27 3 rfl rfl ⟨rfl, rfl, trivial⟩ | exact LoadOK.agg (vs := [_, _]) T.agg_27 4 rfl rfl ⟨rfl, rfl, trivial⟩ | exact LoadOK.agg (vs := [_, _]) T.agg_27 5 rfl rfl ⟨rfl, rfl, trivial⟩ | exact LoadOK.agg (vs := [_, _]) T.agg_27 6 rfl rfl ⟨rfl, rfl, trivial⟩ | exact LoadOK.agg (vs := [_, _]) T.agg_27 7 rfl rfl ⟨rfl, rfl, trivial⟩ | exact LoadOK.agg (vs := [_, _]) T.agg_32 0 rfl rfl ⟨rfl, rfl, trivial⟩ | exact LoadOK.agg (vs := [_, _]) T.agg_32 1 rfl rfl ⟨rfl, rfl, trivial⟩ | exact LoadOK.agg (vs := [_, _]) T.agg_32 2 rfl rfl ⟨rfl, rfl, trivial⟩ | exact LoadOK.agg (vs := [_, _]) T.agg_32 3 rfl rfl ⟨rfl, rfl, trivial⟩ | exact LoadOK.agg (vs := [_, _]) T.agg_32 4 rfl rfl ⟨rfl, rfl, trivial⟩ | exact LoadOK.agg (vs := [_, _]) T.agg_32 5 rfl rfl ⟨rfl, rfl, trivial⟩ | exact LoadOK.agg (vs := [_, _]) T.agg_32 6 rfl rfl ⟨rfl, rfl, trivial⟩ | exact LoadOK.agg (vs := [_, _]) T.agg_32 7 rfl rfl ⟨rfl, rfl, trivial⟩)
                    | (apply G.pickT; exact rfl; exact rfl; exact rfl)
                    | (apply G.pickF; exact rfl; exact rfl; exact rfl)
                    | (apply G.lss; exact rfl; exact rfl; exact rfl)
                    | (apply G.gtr; exact rfl; exact rfl; exact rfl)
                    | (apply G.eql; exact rfl; exact rfl; exact rfl)
                    | (apply G.neq; exact rfl; exact rfl; exact rfl)
                    | (apply G.add; exact rfl; exact rfl; exact rfl; first | exact IntWalk.i64_in _ (by omega) | exact IntWalk.u8_in _ (by omega) | exact IntWalk.u16_in _ (by omega) | exact IntWalk.u32_in _ (by omega) | exact IntWalk.u64_in _ (by omega))
                    | (apply G.eqlI2; exact rfl; exact T.i2_27; exact rfl; exact rfl)
                    | (apply G.neqI2; exact rfl; exact T.i2_27; exact rfl; exact rfl)
                    | (apply G.rem; exact rfl; exact rfl; exact rfl; (first | decide | omega); exact IntWalk.rem_in _ _ (by omega))
                    | (apply G.conv; exact rfl; exact rfl; (first | exact T.int_3 | exact T.int_5); (first | exact T.int_3 | exact T.int_5); first | exact IntWalk.i64_in _ (by omega) | exact IntWalk.u8_in _ (by omega) | exact IntWalk.u16_in _ (by omega) | exact IntWalk.u32_in _ (by omega) | exact IntWalk.u64_in _ (by omega))
                    | (apply G.notT; exact rfl; exact rfl)
                    | (apply G.notF; exact rfl; exact rfl)
                    | (refine G.notD rfl rfl ?_)
                    | (apply G.notB; exact rfl; exact rfl)
                    | (apply G.extract; exact rfl; exact rfl; exact rfl)
                    | (apply G.build (cs := [_, _]); exact rfl; exact T.lay_27; exact rfl; exact rfl)
                    | (apply G.build (cs := [_, _]); exact rfl; exact T.lay_32; exact rfl; exact rfl)
                    | (apply G.len; exact rfl; exact rfl; (first | exact T.slc_47 | exact T.slc_48))
                    | (refine Goal.quiet rfl (Run.max2 rfl rfl) ?_)
                    | (refine Goal.quiet rfl (Run.min2 rfl rfl) ?_)
                    | (refine G.indexAddr1 rfl (by first | exact T.slc_28 | exact T.slc_47 | exact T.slc_48) (by first | exact T.sz_3 | exact T.sz_5) rfl rfl _ rfl (by omega) ?_)
                    | (refine G.indexAddr1 rfl (by first | exact T.slc_28 | exact T.slc_47 | exact T.slc_48) (by first | exact T.sz_3 | exact T.sz_5) rfl rfl _ (Int.toNat_of_nonneg (by omega)).symm (by omega) ?_)
                    | (refine G.indexAddr rfl (by first | exact T.slc_28 | exact T.slc_47 | exact T.slc_48) (by first | exact T.sz_27 | exact T.sz_49) rfl rfl _ rfl (by omega) ?_)
                    | (refine G.indexAddr rfl (by first | exact T.slc_28 | exact T.slc_47 | exact T.slc_48) (by first | exact T.sz_27 | exact T.sz_49) rfl rfl _ (Int.toNat_of_nonneg (by omega)).symm (by omega) ?_)
                    | (refine G.indexAddrA rfl T.arr_49 (by first | exact T.sz_3 | exact T.sz_5 | exact T.sz_27 | exact T.sz_49) rfl rfl _ rfl (by omega) ?_)
                    | (refine G.indexAddrA rfl T.arr_49 (by first | exact T.sz_3 | exact T.sz_5 | exact T.sz_27 | exact T.sz_49) rfl rfl _ (Int.toNat_of_nonneg (by omega)).symm (by omega) ?_)
                    | (refine Goal.loud rfl ?_; refine Loud.store0 rfl rfl (by first | exact T.sz_3 | exact T.sz_27 | exact T.sz_32) rfl rfl rfl (by first | exact Nat.le_refl _ | decide | (simp; omega)) rfl ?_)
                    | (refine Goal.loud rfl ?_; refine Loud.store1 rfl rfl (by first | exact T.sz_3 | exact T.sz_27 | exact T.sz_32) rfl rfl rfl (by first | exact Nat.le_refl _ | decide | (simp; omega)) rfl ?_)
                    | (refine Goal.loud rfl ?_; refine Loud.store2 rfl rfl (by first | exact T.sz_3 | exact T.sz_27 | exact T.sz_32) rfl rfl rfl (by first | exact Nat.le_refl _ | decide | (simp; omega)) rfl ?_)
                    | (refine Goal.loud rfl ?_; refine Loud.store3 rfl rfl (by first | exact T.sz_3 | exact T.sz_27 | exact T.sz_32) rfl rfl rfl (by first | exact Nat.le_refl _ | decide | (simp; omega)) rfl ?_)
                    | (refine Goal.loud rfl ?_; refine Loud.store4 rfl rfl (by first | exact T.sz_3 | exact T.sz_27 | exact T.sz_32) rfl rfl rfl (by first | exact Nat.le_refl _ | decide | (simp; omega)) rfl ?_)
                    | (refine Goal.loud rfl ?_; refine Loud.store5 rfl rfl (by first | exact T.sz_3 | exact T.sz_27 | exact T.sz_32) rfl rfl rfl (by first | exact Nat.le_refl _ | decide | (simp; omega)) rfl ?_)
                    | (refine Goal.loud rfl ?_; refine Loud.store6 rfl rfl (by first | exact T.sz_3 | exact T.sz_27 | exact T.sz_32) rfl rfl rfl (by first | exact Nat.le_refl _ | decide | (simp; omega)) rfl ?_)
                    | (refine Goal.loud rfl ?_; refine Loud.store7 rfl rfl (by first | exact T.sz_3 | exact T.sz_27 | exact T.sz_32) rfl rfl rfl (by first | exact Nat.le_refl _ | decide | (simp; omega)) rfl ?_))
                  refine Goal.again (i + 1) (by omega) (by omega) ⟨rfl, rfl, rfl, rfl, rfl, rfl, rfl, rfl, trivial⟩ (fun _ h => h)
              · skip
                repeat' (first
                  | (refine Goal.loud (o := ⟨some 7, _, _, _, _, _⟩) rfl ?_; refine Loud.allocA rfl T.inf_32 (fun b7 => ?_))
                  | (refine Goal.loud (o := ⟨some 42, _, _, _, _, _⟩) rfl ?_; first | refine Loud.makeSlice rfl T.slc_48 T.inf_27 rfl rfl (by decide) rfl rfl rfl rfl (by omega) (by omega) (by omega) (fun b42 => ?_) | refine Loud.makeSlice rfl T.slc_48 T.inf_27 rfl rfl (by decide) rfl rfl (Int.toNat_of_nonneg (by omega)).symm (Int.toNat_of_nonneg (by omega)).symm (by omega) (by omega) (by omega) (fun b42 => ?_))
                  | (refine Goal.loud (o := ⟨some 45, _, _, _, _, _⟩) rfl ?_; first | refine Loud.makeSlice rfl T.slc_28 T.inf_3 rfl rfl (by decide) rfl rfl rfl rfl (by omega) (by omega) (by omega) (fun b45 => ?_) | refine Loud.makeSlice rfl T.slc_28 T.inf_3 rfl rfl (by decide) rfl rfl (Int.toNat_of_nonneg (by omega)).symm (Int.toNat_of_nonneg (by omega)).symm (by omega) (by omega) (by omega) (fun b45 => ?_))
                  | (apply G.move; exact rfl; exact rfl)
                  | (apply G.assign; exact rfl; exact rfl)
                  | refine Goal.seq (fun _ _ => ?_)
                  | refine Goal.next (by assumption) ?_
                  | refine Goal.lnil ?_
                  | refine Goal.region ?_
                  | refine Goal.skip ?_
                  | refine Goal.block ?_
                  | refine Goal.exit ?_
                  | refine Goal.ret ?_
                  | refine Goal.then_exit ?_
                  | refine Goal.then_ret ?_
                  | refine Goal.inBlock_exit ?_
                  | refine Goal.inBlock_normal ?_
                  | refine Goal.inBlock_ret ?_
                  | refine Goal.inBlock_other rfl ?_
                  | (apply Goal.condT; exact rfl)
                  | (apply Goal.condF; exact rfl)
                  | (refine Goal.condD rfl (fun hc => ?_) (fun hc => ?_) <;> first | (exfalso; omega) | contradiction | skip)
                  | refine Goal.condB rfl (fun hc => ?_) (fun hc => ?_)
                  | refine Goal.guardT rfl rfl ?_
                  | refine Goal.guardF rfl rfl rfl rfl ?_
                  | refine Goal.guardU rfl rfl rfl ?_
                  | (refine Goal.guardD rfl rfl (fun hc => ?_) (fun hc => ?_) <;> first | (exfalso; omega) | contradiction | skip)
                  | refine Goal.guardB rfl rfl (fun hc => ?_) (fun hc => ?_)
                  | (apply G.fieldAddr; exact rfl; exact rfl; (first | exact T.fld_27_0 | exact T.fld_32_0 | exact T.fld_32_1))
                  | (apply G.load; exact rfl; exact rfl; first | exact LoadOK.elF T.one_3 1 0 hf rfl (by omega) rfl | exact LoadOK.ia T.one_3 0 rfl (by omega) | exact LoadOK.one (by first | exact T.one_3 | exact T.one_5) 0 rfl rfl | exact LoadOK.one (by first | exact T.one_3 | exact T.one_5) 1 rfl rfl | exact LoadOK.one (by first | exact T.one_3 | exact T.one_5) 2 rfl rfl | exact LoadOK.one (by first | exact T.one_3 | exact T.one_5) 3 rfl rfl | exact LoadOK.one (by first | exact T.one_3 | exact T.one_5) 4 rfl rfl | exact LoadOK.one (by first | exact T.one_3 | exact T.one_5) 5 rfl rfl | exact LoadOK.one (by first | exact T.one_3 | exact T.one_5) 6 rfl rfl | exact LoadOK.one (by first | exact T.one_3 | exact T.one_5) 7 rfl rfl | exact LoadOK.agg (vs := [_, _]) T.agg_27 0 rfl rfl ⟨rfl, rfl, trivial⟩ | exact LoadOK.agg (vs := [_, _]) T.agg_27 1 rfl rfl ⟨rfl, rfl, trivial⟩ | exact LoadOK.agg (vs := [_, _]) T.agg_27 2 rfl rfl ⟨rfl, rfl, trivial⟩ | exact LoadOK.agg (vs := [_, _]) T.agg_27 3 rfl rfl ⟨rfl, rfl, trivial⟩ | exact LoadOK.agg (vs := [_, _]) T.agg_27 4 rfl rfl ⟨rfl, rfl, trivial⟩ | exact LoadOK.agg (vs := [_, _]) T.agg_27 5 rfl rfl ⟨rfl, rfl, trivial⟩ | exact LoadOK.agg (vs := [_, _]) T.agg_27 6 rfl rfl ⟨rfl, rfl, trivial⟩ | exact LoadOK.agg (vs := [_, _]) T.agg_27 7 rfl rfl ⟨rfl, rfl, trivial⟩ | exact LoadOK.agg (vs := [_, _]) T.agg_32 0 rfl rfl ⟨rfl, rfl, trivial⟩ | exact LoadOK.agg (vs := [_, _]) T.agg_32 1 rfl rfl ⟨rfl, rfl, trivial⟩ | exact LoadOK.agg (vs := [_, _]) T.agg_32 2 rfl rfl ⟨rfl, rfl, trivial⟩ | exact LoadOK.agg (vs := [_, _]) T.agg_32 3 rfl rfl ⟨rfl, rfl, trivial⟩ | exact LoadOK.agg (vs := [_, _]) T.agg_32 4 rfl rfl ⟨rfl, rfl, trivial⟩ | exact LoadOK.agg (vs := [_, _]) T.agg_32 5 rfl rfl ⟨rfl, rfl, trivial⟩ | exact LoadOK.agg (vs := [_, _]) T.agg_32 6 rfl rfl ⟨rfl, rfl, trivial⟩ | exact LoadOK.agg (vs := [_, _]) T.agg_32 7 rfl rfl ⟨rfl, rfl, trivial⟩)
                  | (apply G.pickT; exact rfl; exact rfl; exact rfl)
                  | (apply G.pickF; exact rfl; exact rfl; exact rfl)
                  | (apply G.lss; exact rfl; exact rfl; exact rfl)
                  | (apply G.gtr; exact rfl; exact rfl; exact rfl)
                  | (apply G.eql; exact rfl; exact rfl; exact rfl)
                  | (apply G.neq; exact rfl; exact rfl; exact rfl)
                  | (apply G.add; exact rfl; exact rfl; exact rfl; first | exact IntWalk.i64_in _ (by omega) | exact IntWalk.u8_in _ (by omega) | exact IntWalk.u16_in _ (by omega) | exact IntWalk.u32_in _ (by omega) | exact IntWalk.u64_in _ (by omega))
                  | (apply G.eqlI2; exact rfl; exact T.i2_27; exact rfl; exact rfl)
                  | (apply G.neqI2; exact rfl; exact T.i2_27; exact rfl; exact rfl)
                  | (apply G.rem; exact rfl; exact rfl; exact rfl; (first | decide | omega); exact IntWalk.rem_in _ _ (by omega))
                  | (apply G.conv; exact rfl; exact rfl; (first | exact T.int_3 | exact T.int_5); (first | exact T.int_3 | exact T.int_5); first | exact IntWalk.i64_in _ (by omega) | exact IntWalk.u8_in _ (by omega) | exact IntWalk.u16_in _ (by omega) | exact IntWalk.u32_in _ (by omega) | exact IntWalk.u64_in _ (by omega))
                  | (apply G.notT; exact rfl; exact rfl)
                  | (apply G.notF; exact rfl; exact rfl)
                  | (refine G.notD rfl rfl ?_)
                  | (apply G.notB; exact rfl; exact rfl)
                  | (apply G.extract; exact rfl; exact rfl; exact rfl)
                  | (apply G.build (cs := [_, _]); exact rfl; exact T.lay_27; exact rfl; exact rfl)
                  | (apply G.build (cs := [_, _]); exact rfl; exact T.lay_32; exact rfl; exact rfl)
                  | (apply G.len; exact rfl; exact rfl; (first | exact T.slc_47 | exact T.slc_48))
                  | (refine Goal.quiet rfl (Run.max2 rfl rfl) ?_)
                  | (refine Goal.quiet rfl (Run.min2 rfl rfl) ?_)
                  | (refine G.indexAddr1 rfl (by first | exact T.slc_28 | exact T.slc_47 | exact T.slc_48) (by first | exact T.sz_3 | exact T.sz_5) rfl rfl _ rfl (by omega) ?_)
                  | (refine G.indexAddr1 rfl (by first | exact T.slc_28 | exact T.slc_47 | exact T.slc_48) (by first | exact T.sz_3 | exact T.sz_5) rfl rfl _ (Int.toNat_of_nonneg (by omega)).symm (by omega) ?_)
                  | (refine G.indexAddr rfl (by first | exact T.slc_28 | exact T.slc_47 | exact T.slc_48) (by first | exact T.sz_27 | exact T.sz_49) rfl rfl _ rfl (by omega) ?_)
                  | (refine G.indexAddr rfl (by first | exact T.slc_28 | exact T.slc_47 | exact T.slc_48) (by first | exact T.sz_27 | exact T.sz_49) rfl rfl _ (Int.toNat_of_nonneg (by omega)).symm (by omega) ?_)
                  | (refine G.indexAddrA rfl T.arr_49 (by first | exact T.sz_3 | exact T.sz_5 | exact T.sz_27 | exact T.sz_49) rfl rfl _ rfl (by omega) ?_)
                  | (refine G.indexAddrA rfl T.arr_49 (by first | exact T.sz_3 | exact T.sz_5 | exact T.sz_27 | exact T.sz_49) rfl rfl _ (Int.toNat_of_nonneg (by omega)).symm (by omega) ?_)
                  | (refine Goal.loud rfl ?_; refine Loud.store0 rfl rfl (by first | exact T.sz_3 | exact T.sz_27 | exact T.sz_32) rfl rfl rfl (by first | exact Nat.le_refl _ | decide | (simp; omega)) rfl ?_)
                  | (refine Goal.loud rfl ?_; refine Loud.store1 rfl rfl (by first | exact T.sz_3 | exact T.sz_27 | exact T.sz_32) rfl rfl rfl (by first | exact Nat.le_refl _ | decide | (simp; omega)) rfl ?_)
                  | (refine Goal.loud rfl ?_; refine Loud.store2 rfl rfl (by first | exact T.sz_3 | exact T.sz_27 | exact T.sz_32) rfl rfl rfl (by first | exact Nat.le_refl _ | decide | (simp; omega)) rfl ?_)
                  | (refine Goal.loud rfl ?_; refine Loud.store3 rfl rfl (by first | exact T.sz_3 | exact T.sz_27 | exact T.sz_32) rfl rfl rfl (by first | exact Nat.le_refl _ | decide | (simp; omega)) rfl ?_)
                  | (refine Goal.loud rfl ?_; refine Loud.store4 rfl rfl (by first | exact T.sz_3 | exact T.sz_27 | exact T.sz_32) rfl rfl rfl (by first | exact Nat.le_refl _ | decide | (simp; omega)) rfl ?_)
                  | (refine Goal.loud rfl ?_; refine Loud.store5 rfl rfl (by first | exact T.sz_3 | exact T.sz_27 | exact T.sz_32) rfl rfl rfl (by first | exact Nat.le_refl _ | decide | (simp; omega)) rfl ?_)
                  | (refine Goal.loud rfl ?_; refine Loud.store6 rfl rfl (by first | exact T.sz_3 | exact T.sz_27 | exact T.sz_32) rfl rfl rfl (by first | exact Nat.le_refl _ | decide | (simp; omega)) rfl ?_)
                  | (refine Goal.loud rfl ?_; refine Loud.store7 rfl rfl (by first | exact T.sz_3 | exact T.sz_27 | exact T.sz_32) rfl rfl rfl (by first | exact Nat.le_refl _ | decide | (simp; omega)) rfl ?_))
                all_goals
                  refine Goal.again (i + 1) (by omega) (by omega) ⟨rfl, rfl, rfl, rfl, rfl, rfl, rfl, rfl, trivial⟩ (fun _ h => h)
            · skip
              repeat' (first
                | (refine Goal.loud (o := ⟨some 7, _, _, _, _, _⟩) rfl ?_; refine Loud.allocA rfl T.inf_32 (fun b7 => ?_))
                | (refine Goal.loud (o := ⟨some 42, _, _, _, _, _⟩) rfl ?_; first | refine Loud.makeSlice rfl T.slc_48 T.inf_27 rfl rfl (by decide) rfl rfl rfl rfl (by omega) (by omega) (by omega) (fun b42 => ?_) | refine Loud.makeSlice rfl T.slc_48 T.inf_27 rfl rfl (by decide) rfl rfl (Int.toNat_of_nonneg (by omega)).symm (Int.toNat_of_nonneg (by omega)).symm (by omega) (by omega) (by omega) (fun b42 => ?_))
                | (refine Goal.loud (o := ⟨some 45, _, _, _, _, _⟩) rfl ?_; first | refine Loud.makeSlice rfl T.slc_28 T.inf_3 rfl rfl (by decide) rfl rfl rfl rfl (by omega) (by omega) (by omega) (fun b45 => ?_) | refine Loud.makeSlice rfl T.slc_28 T.inf_3 rfl rfl (by decide) rfl rfl (Int.toNat_of_nonneg (by omega)).symm (Int.toNat_of_nonneg (by omega)).symm (by omega) (by omega) (by omega) (fun b45 => ?_))
                | (apply G.move; exact rfl; exact rfl)
                | (apply G.assign; exact rfl; exact rfl)
                | refine Goal.seq (fun _ _ => ?_)
                | refine Goal.next (by assumption) ?_
                | refine Goal.lnil ?_
                | refine Goal.region ?_
                | refine Goal.skip ?_
                | refine Goal.block ?_
                | refine Goal.exit ?_
                | refine Goal.ret ?_
                | refine Goal.then_exit ?_
                | refine Goal.then_ret ?_
                | refine Goal.inBlock_exit ?_
                | refine Goal.inBlock_normal ?_
                | refine Goal.inBlock_ret ?_
                | refine Goal.inBlock_other rfl ?_
                | (apply Goal.condT; exact rfl)
                | (apply Goal.condF; exact rfl)
                | (refine Goal.condD rfl (fun hc => ?_) (fun hc => ?_) <;> first | (exfalso; omega) | contradiction | skip)
                | refine Goal.condB rfl (fun hc => ?_) (fun hc => ?_)
                | refine Goal.guardT rfl rfl ?_
                | refine Goal.guardF rfl rfl rfl rfl ?_
                | refine Goal.guardU rfl rfl rfl ?_
                | (refine Goal.guardD rfl rfl (fun hc => ?_) (fun hc => ?_) <;> first | (exfalso; omega) | contradiction | skip)
                | refine Goal.guardB rfl rfl (fun hc => ?_) (fun hc => ?_)
                | (apply G.fieldAddr; exact rfl; exact rfl; (first | exact T.fld_27_0 | exact T.fld_32_0 | exact T.fld_32_1))
                | (apply G.load; exact rfl; exact rfl; first | exact LoadOK.elF T.one_3 1 0 hf rfl (by omega) rfl | exact LoadOK.ia T.one_3 0 rfl (by omega) | exact LoadOK.one (by first | exact T.one_3 | exact T.one_5) 0 rfl rfl | exact LoadOK.one (by first | exact T.one_3 | exact T.one_5) 1 rfl rfl | exact LoadOK.one (by first | exact T.one_3 | exact T.one_5) 2 rfl rfl | exact LoadOK.one (by first | exact T.one_3 | exact T.one_5) 3 rfl rfl | exact LoadOK.one (by first | exact T.one_3 | exact T.one_5) 4 rfl rfl | exact LoadOK.one (by first | exact T.one_3 | exact T.one_5) 5 rfl rfl | exact LoadOK.one (by first | exact T.one_3 | exact T.one_5) 6 rfl rfl | exact LoadOK.one (by first | exact T.one_3 | exact T.one_5) 7 rfl rfl | exact LoadOK.agg (vs := [_, _]) T.agg_27 0 rfl rfl ⟨rfl, rfl, trivial⟩ | exact LoadOK.agg (vs := [_, _]) T.agg_27 1 rfl rfl ⟨rfl, rfl, trivial⟩ | exact LoadOK.agg (vs := [_, _]) T.agg_27 2 rfl rfl ⟨rfl, rfl, trivial⟩ | exact LoadOK.agg (vs := [_, _]) T.agg_27 3 rfl rfl ⟨rfl, rfl, trivial⟩ | exact LoadOK.agg (vs := [_, _]) T.agg_27 4 rfl rfl ⟨rfl, rfl, trivial⟩ | exact LoadOK.agg (vs := [_, _]) T.agg_27 5 rfl rfl ⟨rfl, rfl, trivial⟩ | exact LoadOK.agg (vs := [_, _]) T.agg_27 6 rfl rfl ⟨rfl, rfl, trivial⟩ | exact LoadOK.agg (vs := [_, _]) T.agg_27 7 rfl rfl ⟨rfl, rfl, trivial⟩ | exact LoadOK.agg (vs := [_, _]) T.agg_32 0 rfl rfl ⟨rfl, rfl, trivial⟩ | exact LoadOK.agg (vs := [_, _]) T.agg_32 1 rfl rfl ⟨rfl, rfl, trivial⟩ | exact LoadOK.agg (vs := [_, _]) T.agg_32 2 rfl rfl ⟨rfl, rfl, trivial⟩ | exact LoadOK.agg (vs := [_, _]) T.agg_32 3 rfl rfl ⟨rfl, rfl, trivial⟩ | exact LoadOK.agg (vs := [_, _]) T.agg_32 4 rfl rfl ⟨rfl, rfl, trivial⟩ | exact LoadOK.agg (vs := [_, _]) T.agg_32 5 rfl rfl ⟨rfl, rfl, trivial⟩ | exact LoadOK.agg (vs := [_, _]) T.agg_32 6 rfl rfl ⟨rfl, rfl, trivial⟩ | exact LoadOK.agg (vs := [_, _]) T.agg_32 7 rfl rfl ⟨rfl, rfl, trivial⟩)
                | (apply G.pickT; exact rfl; exact rfl; exact rfl)
                | (apply G.pickF; exact rfl; exact rfl; exact rfl)
                | (apply G.lss; exact rfl; exact rfl; exact rfl)
                | (apply G.gtr; exact rfl; exact rfl; exact rfl)
                | (apply G.eql; exact rfl; exact rfl; exact rfl)
                | (apply G.neq; exact rfl; exact rfl; exact rfl)
                | (apply G.add; exact rfl; exact rfl; exact rfl; first | exact IntWalk.i64_in _ (by omega) | exact IntWalk.u8_in _ (by omega) | exact IntWalk.u16_in _ (by omega) | exact IntWalk.u32_in _ (by omega) | exact IntWalk.u64_in _ (by omega))
                | (apply G.eqlI2; exact rfl; exact T.i2_27; exact rfl; exact rfl)
                | (apply G.neqI2; exact rfl; exact T.i2_27; exact rfl; exact rfl)
                | (apply G.rem; exact rfl; exact rfl; exact rfl; (first | decide | omega); exact IntWalk.rem_in _ _ (by omega))
                | (apply G.conv; exact rfl; exact rfl; (first | exact T.int_3 | exact T.int_5); (first | exact T.int_3 | exact T.int_5); first | exact IntWalk.i64_in _ (by omega) | exact IntWalk.u8_in _ (by omega) | exact IntWalk.u16_in _ (by omega) | exact IntWalk.u32_in _ (by omega) | exact IntWalk.u64_in _ (by omega))
                | (apply G.notT; exact rfl; exact rfl)
                | (apply G.notF; exact rfl; exact rfl)
                | (refine G.notD rfl rfl ?_)
                | (apply G.notB; exact rfl; exact rfl)
                | (apply G.extract; exact rfl; exact rfl; exact rfl)
                | (apply G.build (cs := [_, _]); exact rfl; exact T.lay_27; exact rfl; exact rfl)
                | (apply G.build (cs := [_, _]); exact rfl; exact T.lay_32; exact rfl; exact rfl)
                | (apply G.len; exact rfl; exact rfl; (first | exact T.slc_47 | exact T.slc_48))
                | (refine Goal.quiet rfl (Run.max2 rfl rfl) ?_)
                | (refine Goal.quiet rfl (Run.min2 rfl rfl) ?_)
                | (refine G.indexAddr1 rfl (by first | exact T.slc_28 | exact T.slc_47 | exact T.slc_48) (by first | exact T.sz_3 | exact T.sz_5) rfl rfl _ rfl (by omega) ?_)
                | (refine G.indexAddr1 rfl (by first | exact T.slc_28 | exact T.slc_47 | exact T.slc_48) (by first | exact T.sz_3 | exact T.sz_5) rfl rfl _ (Int.toNat_of_nonneg (by omega)).symm (by omega) ?_)
                | (refine G.indexAddr rfl (by first | exact T.slc_28 | exact T.slc_47 | exact T.slc_48) (by first | exact T.sz_27 | exact T.sz_49) rfl rfl _ rfl (by omega) ?_)
                | (refine G.indexAddr rfl (by first | exact T.slc_28 | exact T.slc_47 | exact T.slc_48) (by first | exact T.sz_27 | exact T.sz_49) rfl rfl _ (Int.toNat_of_nonneg (by omega)).symm (by omega) ?_)
                | (refine G.indexAddrA rfl T.arr_49 (by first | exact T.sz_3 | exact T.sz_5 | exact T.sz_27 | exact T.sz_49) rfl rfl _ rfl (by omega) ?_)
                | (refine G.indexAddrA rfl T.arr_49 (by first | exact T.sz_3 | exact T.sz_5 | exact T.sz_27 | exact T.sz_49) rfl rfl _ (Int.toNat_of_nonneg (by omega)).symm (by omega) ?_)
                | (refine Goal.loud rfl ?_; refine Loud.store0 rfl rfl (by first | exact T.sz_3 | exact T.sz_27 | exact T.sz_32) rfl rfl rfl (by first | exact Nat.le_refl _ | decide | (simp; omega)) rfl ?_)
                | (refine Goal.loud rfl ?_; refine Loud.store1 rfl rfl (by first | exact T.sz_3 | exact T.sz_27 | exact T.sz_32) rfl rfl rfl (by first | exact Nat.le_refl _ | decide | (simp; omega)) rfl ?_)
                | (refine Goal.loud rfl ?_; refine Loud.store2 rfl rfl (by first | exact T.sz_3 | exact T.sz_27 | exact T.sz_32) rfl rfl rfl (by first | exact Nat.le_refl _ | decide | (simp; omega)) rfl ?_)
                | (refine Goal.loud rfl ?_; refine Loud.store3 rfl rfl (by first | exact T.sz_3 | exact T.sz_27 | exact T.sz_32) rfl rfl rfl (by first | exact Nat.le_refl _ | decide | (simp; omega)) rfl ?_)
                | (refine Goal.loud rfl ?_; refine Loud.store4 rfl rfl (by first | exact T.sz_3 | exact T.sz_27 | exact T.sz_32) rfl rfl rfl (by first | exact Nat.le_refl _ | decide | (simp; omega)) rfl ?_)
                | (refine Goal.loud rfl ?_; refine Loud.store5 rfl rfl (by first | exact T.sz_3 | exact T.sz_27 | exact T.sz_32) rfl rfl rfl (by first | exact Nat.le_refl _ | decide | (simp; omega)) rfl ?_)
                | (refine Goal.loud rfl ?_; refine Loud.store6 rfl rfl (by first | exact T.sz_3 | exact T.sz_27 | exact T.sz_32) rfl rfl rfl (by first | exact Nat.le_refl _ | decide | (simp; omega)) rfl ?_)
                | (refine Goal.loud rfl ?_; refine Loud.store7 rfl rfl (by first | exact T.sz_3 | exact T.sz_27 | exact T.sz_32) rfl rfl rfl (by first | exact Nat.le_refl _ | decide | (simp; omega)) rfl ?_))
              all_goals
                refine Goal.again (i + 1) (by omega) (by omega) ⟨rfl, rfl, rfl, rfl, rfl, rfl, rfl, rfl, trivial⟩ (fun _ h => h)
          · skip
            repeat' (first
              | (refine Goal.loud (o := ⟨some 7, _, _, _, _, _⟩) rfl ?_; refine Loud.allocA rfl T.inf_32 (fun b7 => ?_))
              | (refine Goal.loud (o := ⟨some 42, _, _, _, _, _⟩) rfl ?_; first | refine Loud.makeSlice rfl T.slc_48 T.inf_27 rfl rfl (by decide) rfl rfl rfl rfl (by omega) (by omega) (by omega) (fun b42 => ?_) | refine Loud.makeSlice rfl T.slc_48 T.inf_27 rfl rfl (by decide) rfl rfl (Int.toNat_of_nonneg (by omega)).symm (Int.toNat_of_nonneg (by omega)).symm (by omega) (by omega) (by omega) (fun b42 => ?_))
              | (refine Goal.loud (o := ⟨some 45, _, _, _, _, _⟩) rfl ?_; first | refine Loud.makeSlice rfl T.slc_28 T.inf_3 rfl rfl (by decide) rfl rfl rfl rfl (by omega) (by omega) (by omega) (fun b45 => ?_) | refine Loud.makeSlice rfl T.slc_28 T.inf_3 rfl rfl (by decide) rfl rfl (Int.toNat_of_nonneg (by omega)).symm (Int.toNat_of_nonneg (by omega)).symm (by omega) (by omega) (by omega) (fun b45 => ?_))
              | (apply G.move; exact rfl; exact rfl)
              | (apply G.assign; exact rfl; exact rfl)
              | refine Goal.seq (fun _ _ => ?_)
              | refine Goal.next (by assumption) ?_
              | refine Goal.lnil ?_
              | refine Goal.region ?_
              | refine Goal.skip ?_
              | refine Goal.block ?_
              | refine Goal.exit ?_
              | refine Goal.ret ?_
              | refine Goal.then_exit ?_
              | refine Goal.then_ret ?_
              | refine Goal.inBlock_exit ?_
              | refine Goal.inBlock_normal ?_
              | refine Goal.inBlock_ret ?_
              | refine Goal.inBlock_other rfl ?_
              | (apply Goal.condT; exact rfl)
              | (apply Goal.condF; exact rfl)
              | (refine Goal.condD rfl (fun hc => ?_) (fun hc => ?_) <;> first | (exfalso; omega) | contradiction | skip)
              | refine Goal.condB rfl (fun hc => ?_) (fun hc => ?_)
              | refine Goal.guardT rfl rfl ?_
              | refine Goal.guardF rfl rfl rfl rfl ?_
              | refine Goal.guardU rfl rfl rfl ?_
              | (refine Goal.guardD rfl rfl (fun hc => ?_) (fun hc => ?_) <;> first | (exfalso; omega) | contradiction | skip)
              | refine Goal.guardB rfl rfl (fun hc => ?_) (fun hc => ?_)
              | (apply G.fieldAddr; exact rfl; exact rfl; (first | exact T.fld_27_0 | exact T.fld_32_0 | exact T.fld_32_1))
              | (apply G.load; exact rfl; exact rfl; first | exact LoadOK.one (by first | exact T.one_3 | exact T.one_5) 0 rfl rfl | exact LoadOK.one (by first | exact T.one_3 | exact T.one_5) 1 rfl rfl | exact LoadOK.one (by first | exact T.one_3 | exact T.one_5) 2 rfl rfl | exact LoadOK.one (by first | exact T.one_3 | exact T.one_5) 3 rfl rfl | exact LoadOK.one (by first | exact T.one_3 | exact T.one_5) 4 rfl rfl | exact LoadOK.one (by first | exact T.one_3 | exact T.one_5) 5 rfl rfl | exact LoadOK.one (by first | exact T.one_3 | exact T.one_5) 6 rfl rfl | exact LoadOK.one (by first | exact T.one_3 | exact T.one_5) 7 rfl rfl | exact LoadOK.agg (vs := [_, _]) T.agg_27 0 rfl rfl ⟨rfl, rfl, trivial⟩ | exact LoadOK.agg (vs := [_, _]) T.agg_27 1 rfl rfl ⟨rfl, rfl, trivial⟩ | exact LoadOK.agg (vs := [_, _]) T.agg_27 2 rfl rfl ⟨rfl, rfl, trivial⟩ | exact LoadOK.agg (vs := [_, _]) T.agg_27 3 rfl rfl ⟨rfl, rfl, trivial⟩ | exact LoadOK.agg (vs := [_, _]) T.agg_27 4 rfl rfl ⟨rfl, rfl, trivial⟩ | exact LoadOK.agg (vs := [_, _]) T.agg_27 5 rfl rfl ⟨rfl, rfl, trivial⟩ | exact LoadOK.agg (vs := [_, _]) T.agg_27 6 rfl rfl ⟨rfl, rfl, trivial⟩ | exact LoadOK.agg (vs := [_, _]) T.agg_27 7 rfl rfl ⟨rfl, rfl, trivial⟩ | exact LoadOK.agg (vs := [_, _]) T.agg_32 0 rfl rfl ⟨rfl, rfl, trivial⟩ | exact LoadOK.agg (vs := [_, _]) T.agg_32 1 rfl rfl ⟨rfl, rfl, trivial⟩ | exact LoadOK.agg (vs := [_, _]) T.agg_32 2 rfl rfl ⟨rfl, rfl, trivial⟩ | exact LoadOK.agg (vs := [_, _]) T.agg_32 3 rfl rfl ⟨rfl, rfl, trivial⟩ | exact LoadOK.agg (vs := [_, _]) T.agg_32 4 rfl rfl ⟨rfl, rfl, trivial⟩ | exact LoadOK.agg (vs := [_, _]) T.agg_32 5 rfl rfl ⟨rfl, rfl, trivial⟩ | exact LoadOK.agg (vs := [_, _]) T.agg_32 6 rfl rfl ⟨rfl, rfl, trivial⟩ | exact LoadOK.agg (vs := [_, _]) T.agg_32 7 rfl rfl ⟨rfl, rfl, trivial⟩)
              | (apply G.pickT; exact rfl; exact rfl; exact rfl)
              | (apply G.pickF; exact rfl; exact rfl; exact rfl)
              | (apply G.lss; exact rfl; exact rfl; exact rfl)
              | (apply G.gtr; exact rfl; exact rfl; exact rfl)
              | (apply G.eql; exact rfl; exact rfl; exact rfl)
              | (apply G.neq; exact rfl; exact rfl; exact rfl)
              | (apply G.add; exact rfl; exact rfl; exact rfl; first | exact IntWalk.i64_in _ (by omega) | exact IntWalk.u8_in _ (by omega) | exact IntWalk.u16_in _ (by omega) | exact IntWalk.u32_in _ (by omega) | exact IntWalk.u64_in _ (by omega))
              | (apply G.eqlI2; exact rfl; exact T.i2_27; exact rfl; exact rfl)
              | (apply G.neqI2; exact rfl; exact T.i2_27; exact rfl; exact rfl)
              | (apply G.rem; exact rfl; exact rfl; exact rfl; (first | decide | omega); exact IntWalk.rem_in _ _ (by omega))
              | (apply G.conv; exact rfl; exact rfl; (first | exact T.int_3 | exact T.int_5); (first | exact T.int_3 | exact T.int_5); first | exact IntWalk.i64_in _ (by omega) | exact IntWalk.u8_in _ (by omega) | exact IntWalk.u16_in _ (by omega) | exact IntWalk.u32_in _ (by omega) | exact IntWalk.u64_in _ (by omega))
              | (apply G.notT; exact rfl; exact rfl)
              | (apply G.notF; exact rfl; exact rfl)
              | (refine G.notD rfl rfl ?_)
              | (apply G.notB; exact rfl; exact rfl)
              | (apply G.extract; exact rfl; exact rfl; exact rfl)
              | (apply G.build (cs := [_, _]); exact rfl; exact T.lay_27; exact rfl; exact rfl)
              | (apply G.build (cs := [_, _]); exact rfl; exact T.lay_32; exact rfl; exact rfl)
              | (apply G.len; exact rfl; exact rfl; (first | exact T.slc_47 | exact T.slc_48))
              | (refine Goal.quiet rfl (Run.max2 rfl rfl) ?_)
              | (refine Goal.quiet rfl (Run.min2 rfl rfl) ?_)
              | (refine G.indexAddr1 rfl (by first | exact T.slc_28 | exact T.slc_47 | exact T.slc_48) (by first | exact T.sz_3 | exact T.sz_5) rfl rfl _ rfl (by omega) ?_)
              | (refine G.indexAddr1 rfl (by first | exact T.slc_28 | exact T.slc_47 | exact T.slc_48) (by first | exact T.sz_3 | exact T.sz_5) rfl rfl _ (Int.toNat_of_nonneg (by omega)).symm (by omega) ?_)
              | (refine G.indexAddr rfl (by first | exact T.slc_28 | exact T.slc_47 | exact T.slc_48) (by first | exact T.sz_27 | exact T.sz_49) rfl rfl _ rfl (by omega) ?_)
              | (refine G.indexAddr rfl (by first | exact T.slc_28 | exact T.slc_47 | exact T.slc_48) (by first | exact T.sz_27 | exact T.sz_49) rfl rfl _ (Int.toNat_of_nonneg (by omega)).symm (by omega) ?_)
              | (refine G.indexAddrA rfl T.arr_49 (by first | exact T.sz_3 | exact T.sz_5 | exact T.sz_27 | exact T.sz_49) rfl rfl _ rfl (by omega) ?_)
              | (refine G.indexAddrA rfl T.arr_49 (by first | exact T.sz_3 | exact T.sz_5 | exact T.sz_27 | exact T.sz_49) rfl rfl _ (Int.toNat_of_nonneg (by omega)).symm (by omega) ?_)
              | (refine Goal.loud rfl ?_; refine Loud.store0 rfl rfl (by first | exact T.sz_3 | exact T.sz_27 | exact T.sz_32) rfl rfl rfl (by first | exact Nat.le_refl _ | decide | (simp; omega)) rfl ?_)
              | (refine Goal.loud rfl ?_; refine Loud.store1 rfl rfl (by first | exact T.sz_3 | exact T.sz_27 | exact T.sz_32) rfl rfl rfl (by first | exact Nat.le_refl _ | decide | (simp; omega)) rfl ?_)
              | (refine Goal.loud rfl ?_; refine Loud.store2 rfl rfl (by first | exact T.sz_3 | exact T.sz_27 | exact T.sz_32) rfl rfl rfl (by first | exact Nat.le_refl _ | decide | (simp; omega)) rfl ?_)
              | (refine Goal.loud rfl ?_; refine Loud.store3 rfl rfl (by first | exact T.sz_3 | exact T.sz_27 | exact T.sz_32) rfl rfl rfl (by first | exact Nat.le_refl _ | decide | (simp; omega)) rfl ?_)
              | (refine Goal.loud rfl ?_; refine Loud.store4 rfl rfl (by first | exact T.sz_3 | exact T.sz_27 | exact T.sz_32) rfl rfl rfl (by first | exact Nat.le_refl _ | decide | (simp; omega)) rfl ?_)
              | (refine Goal.loud rfl ?_; refine Loud.store5 rfl rfl (by first | exact T.sz_3 | exact T.sz_27 | exact T.sz_32) rfl rfl rfl (by first | exact Nat.le_refl _ | decide | (simp; omega)) rfl ?_)
              | (refine Goal.loud rfl ?_; refine Loud.store6 rfl rfl (by first | exact T.sz_3 | exact T.sz_27 | exact T.sz_32) rfl rfl rfl (by first | exact Nat.le_refl _ | decide | (simp; omega)) rfl ?_)
              | (refine Goal.loud rfl ?_; refine Loud.store7 rfl rfl (by first | exact T.sz_3 | exact T.sz_27 | exact T.sz_32) rfl rfl rfl (by first | exact Nat.le_refl _ | decide | (simp; omega)) rfl ?_))
            refine Goal.again ⟨now + 1, ss, nt⟩ ⟨by dsimp only; omega, hs, ht, fun j j0 j1 => ?_⟩ (by dsimp only; omega) ⟨rfl, rfl, rfl, rfl, rfl, rfl, rfl, trivial⟩ (fun _ h => h)
            dsimp only
            rw [show now + 1 - 1 = now by omega]
            exact hd j j0 j1
      · skip
        repeat' (first
          | (refine Goal.loud (o := ⟨some 7, _, _, _, _, _⟩) rfl ?_; refine Loud.allocA rfl T.inf_32 (fun b7 => ?_))
          | (refine Goal.loud (o := ⟨some 42, _, _, _, _, _⟩) rfl ?_; first | refine Loud.makeSlice rfl T.slc_48 T.inf_27 rfl rfl (by decide) rfl rfl rfl rfl (by omega) (by omega) (by omega) (fun b42 => ?_) | refine Loud.makeSlice rfl T.slc_48 T.inf_27 rfl rfl (by decide) rfl rfl (Int.toNat_of_nonneg (by omega)).symm (Int.toNat_of_nonneg (by omega)).symm (by omega) (by omega) (by omega) (fun b42 => ?_))
          | (refine Goal.loud (o := ⟨some 45, _, _, _, _, _⟩) rfl ?_; first | refine Loud.makeSlice rfl T.slc_28 T.inf_3 rfl rfl (by decide) rfl rfl rfl rfl (by omega) (by omega) (by omega) (fun b45 => ?_) | refine Loud.makeSlice rfl T.slc_28 T.inf_3 rfl rfl (by decide) rfl rfl (Int.toNat_of_nonneg (by omega)).symm (Int.toNat_of_nonneg (by omega)).symm (by omega) (by omega) (by omega) (fun b45 => ?_))
          | (apply G.move; exact rfl; exact rfl)
          | (apply G.assign; exact rfl; exact rfl)
          | refine Goal.seq (fun _ _ => ?_)
          | refine Goal.next (by assumption) ?_
          | refine Goal.lnil ?_
          | refine Goal.region ?_
          | refine Goal.skip ?_
          | refine Goal.block ?_
          | refine Goal.exit ?_
          | refine Goal.ret ?_
          | refine Goal.then_exit ?_
          | refine Goal.then_ret ?_
          | refine Goal.inBlock_exit ?_
          | refine Goal.inBlock_normal ?_
          | refine Goal.inBlock_ret ?_
          | refine Goal.inBlock_other rfl ?_
          | (apply Goal.condT; exact rfl)
          | (apply Goal.condF; exact rfl)
          | (refine Goal.condD rfl (fun hc => ?_) (fun hc => ?_) <;> first | (exfalso; omega) | contradiction | skip)
          | refine Goal.condB rfl (fun hc => ?_) (fun hc => ?_)
          | refine Goal.guardT rfl rfl ?_
          | refine Goal.guardF rfl rfl rfl rfl ?_
          | refine Goal.guardU rfl rfl rfl ?_
          | (refine Goal.guardD rfl rfl (fun hc => ?_) (fun hc => ?_) <;> first | (exfalso; omega) | contradiction | skip)
          | refine Goal.guardB rfl rfl (fun hc => ?_) (fun hc => ?_)
          | (apply G.fieldAddr; exact rfl; exact rfl; (first | exact T.fld_27_0 | exact T.fld_32_0 | exact T.fld_32_1))
          | (apply G.load; exact rfl; exact rfl; first | exact LoadOK.one (by first | exact T.one_3 | exact T.one_5) 0 rfl rfl | exact LoadOK.one (by first | exact T.one_3 | exact T.one_5) 1 rfl rfl | exact LoadOK.one (by first | exact T.one_3 | exact T.one_5) 2 rfl rfl | exact LoadOK.one (by first | exact T.one_3 | exact T.one_5) 3 rfl rfl | exact LoadOK.one (by first | exact T.one_3 | exact T.one_5) 4 rfl rfl | exact LoadOK.one (by first | exact T.one_3 | exact T.one_5) 5 rfl rfl | exact LoadOK.one (by first | exact T.one_3 | exact T.one_5) 6 rfl rfl | exact LoadOK.one (by first | exact T.one_3 | exact T.one_5) 7 rfl rfl | exact LoadOK.agg (vs := [_, _]) T.agg_27 0 rfl rfl ⟨rfl, rfl, trivial⟩ | exact LoadOK.agg (vs := [_, _]) T.agg_27 1 rfl rfl ⟨rfl, rfl, trivial⟩ | exact LoadOK.agg (vs := [_, _]) T.agg_27 2 rfl rfl ⟨rfl, rfl, trivial⟩ | exact LoadOK.agg (vs := [_, _]) T.agg_27 3 rfl rfl ⟨rfl, rfl, trivial⟩ | exact LoadOK.agg (vs := [_, _]) T.agg_27 4 rfl rfl ⟨rfl, rfl, trivial⟩ | exact LoadOK.agg (vs := [_, _]) T.agg_27 5 rfl rfl ⟨rfl, rfl, trivial⟩ | exact LoadOK.agg (vs := [_, _]) T.agg_27 6 rfl rfl ⟨rfl, rfl, trivial⟩ | exact LoadOK.agg (vs := [_, _]) T.agg_27 7 rfl rfl ⟨rfl, rfl, trivial⟩ | exact LoadOK.agg (vs := [_, _]) T.agg_32 0 rfl rfl ⟨rfl, rfl, trivial⟩ | exact LoadOK.agg (vs := [_, _]) T.agg_32 1 rfl rfl ⟨rfl, rfl, trivial⟩ | exact LoadOK.agg (vs := [_, _]) T.agg_32 2 rfl rfl ⟨rfl, rfl, trivial⟩ | exact LoadOK.agg (vs := [_, _]) T.agg_32 3 rfl rfl ⟨rfl, rfl, trivial⟩ | exact LoadOK.agg (vs := [_, _]) T.agg_32 4 rfl rfl ⟨rfl, rfl, trivial⟩ | exact LoadOK.agg (vs := [_, _]) T.agg_32 5 rfl rfl ⟨rfl, rfl, trivial⟩ | exact LoadOK.agg (vs := [_, _]) T.agg_32 6 rfl rfl ⟨rfl, rfl, trivial⟩ | exact LoadOK.agg (vs := [_, _]) T.agg_32 7 rfl rfl ⟨rfl, rfl, trivial⟩)
          | (apply G.pickT; exact rfl; exact rfl; exact rfl)
          | (apply G.pickF; exact rfl; exact rfl; exact rfl)
          | (apply G.lss; exact rfl; exact rfl; exact rfl)
          | (apply G.gtr; exact rfl; exact rfl; exact rfl)
          | (apply G.eql; exact rfl; exact rfl; exact rfl)
          | (apply G.neq; exact rfl; exact rfl; exact rfl)
          | (apply G.add; exact rfl; exact rfl; exact rfl; first | exact IntWalk.i64_in _ (by omega) | exact IntWalk.u8_in _ (by omega) | exact IntWalk.u16_in _ (by omega) | exact IntWalk.u32_in _ (by omega) | exact IntWalk.u64_in _ (by omega))
          | (apply G.eqlI2; exact rfl; exact T.i2_27; exact rfl; exact rfl)
          | (apply G.neqI2; exact rfl; exact T.i2_27; exact rfl; exact rfl)
          | (apply G.rem; exact rfl; exact rfl; exact rfl; (first | decide | omega); exact IntWalk.rem_in _ _ (by omega))
          | (apply G.conv; exact rfl; exact rfl; (first | exact T.int_3 | exact T.int_5); (first | exact T.int_3 | exact T.int_5); first | exact IntWalk.i64_in _ (by omega) | exact IntWalk.u8_in _ (by omega) | exact IntWalk.u16_in _ (by omega) | exact IntWalk.u32_in _ (by omega) | exact IntWalk.u64_in _ (by omega))
          | (apply G.notT; exact rfl; exact rfl)
          | (apply G.notF; exact rfl; exact rfl)
          | (refine G.notD rfl rfl ?_)
          | (apply G.notB; exact rfl; exact rfl)
          | (apply G.extract; exact rfl; exact rfl; exact rfl)
          | (apply G.build (cs := [_, _]); exact rfl; exact T.lay_27; exact rfl; exact rfl)
          | (apply G.build (cs := [_, _]); exact rfl; exact T.lay_32; exact rfl; exact rfl)
          | (apply G.len; exact rfl; exact rfl; (first | exact T.slc_47 | exact T.slc_48))
          | (refine Goal.quiet rfl (Run.max2 rfl rfl) ?_)
          | (refine Goal.quiet rfl (Run.min2 rfl rfl) ?_)
          | (refine G.indexAddr1 rfl (by first | exact T.slc_28 | exact T.slc_47 | exact T.slc_48) (by first | exact T.sz_3 | exact T.sz_5) rfl rfl _ rfl (by omega) ?_)
          | (refine G.indexAddr1 rfl (by first | exact T.slc_28 | exact T.slc_47 | exact T.slc_48) (by first | exact T.sz_3 | exact T.sz_5) rfl rfl _ (Int.toNat_of_nonneg (by omega)).symm (by omega) ?_)
          | (refine G.indexAddr rfl (by first | exact T.slc_28 | exact T.slc_47 | exact T.slc_48) (by first | exact T.sz_27 | exact T.sz_49) rfl rfl _ rfl (by omega) ?_)
          | (refine G.indexAddr rfl (by first | exact T.slc_28 | exact T.slc_47 | exact T.slc_48) (by first | exact T.sz_27 | exact T.sz_49) rfl rfl _ (Int.toNat_of_nonneg (by omega)).symm (by omega) ?_)
          | (refine G.indexAddrA rfl T.arr_49 (by first | exact T.sz_3 | exact T.sz_5 | exact T.sz_27 | exact T.sz_49) rfl rfl _ rfl (by omega) ?_)
          | (refine G.indexAddrA rfl T.arr_49 (by first | exact T.sz_3 | exact T.sz_5 | exact T.sz_27 | exact T.sz_49) rfl rfl _ (Int.toNat_of_nonneg (by omega)).symm (by omega) ?_)
          | (refine Goal.loud rfl ?_; refine Loud.store0 rfl rfl (by first | exact T.sz_3 | exact T.sz_27 | exact T.sz_32) rfl rfl rfl (by first | exact Nat.le_refl _ | decide | (simp; omega)) rfl ?_)
          | (refine Goal.loud rfl ?_; refine Loud.store1 rfl rfl (by first | exact T.sz_3 | exact T.sz_27 | exact T.sz_32) rfl rfl rfl (by first | exact Nat.le_refl _ | decide | (simp; omega)) rfl ?_)
          | (refine Goal.loud rfl ?_; refine Loud.store2 rfl rfl (by first | exact T.sz_3 | exact T.sz_27 | exact T.sz_32) rfl rfl rfl (by first | exact Nat.le_refl _ | decide | (simp; omega)) rfl ?_)
          | (refine Goal.loud rfl ?_; refine Loud.store3 rfl rfl (by first | exact T.sz_3 | exact T.sz_27 | exact T.sz_32) rfl rfl rfl (by first | exact Nat.le_refl _ | decide | (simp; omega)) rfl ?_)
          | (refine Goal.loud rfl ?_; refine Loud.store4 rfl rfl (by first | exact T.sz_3 | exact T.sz_27 | exact T.sz_32) rfl rfl rfl (by first | exact Nat.le_refl _ | decide | (simp; omega)) rfl ?_)
          | (refine Goal.loud rfl ?_; refine Loud.store5 rfl rfl (by first | exact T.sz_3 | exact T.sz_27 | exact T.sz_32) rfl rfl rfl (by first | exact Nat.le_refl _ | decide | (simp; omega)) rfl ?_)
          | (refine Goal.loud rfl ?_; refine Loud.store6 rfl rfl (by first | exact T.sz_3 | exact T.sz_27 | exact T.sz_32) rfl rfl rfl (by first | exact Nat.le_refl _ | decide | (simp; omega)) rfl ?_)
          | (refine Goal.loud rfl ?_; refine Loud.store7 rfl rfl (by first | exact T.sz_3 | exact T.sz_27 | exact T.sz_32) rfl rfl rfl (by first | exact Nat.le_refl _ | decide | (simp; omega)) rfl ?_))
        have hnn : now = 100 := by omega
        subst hnn
        refine Goal.loopP (X := Int) (fun x => [(9, .slice (some ⟨b42, 0, none⟩) ts.length ts.length), (20, .int .i64 x)]) (fun x => [(b45, .cells (ints nt).toArray 3), (b42, .cells (Els pr ss).toArray 27), (b7, .cells #[.int .i64 Ga, .int .i64 Ho] 32)])
          (fun x => 0 ≤ x ∧ x ≤ ts.length) (fun x => (ts.length - x).toNat) 0 ⟨rfl, rfl, trivial⟩ (fun _ h => h)
          (by omega) ?_
        intro i hi
        by_cases hlt : i < ts.length
        · obtain ⟨e1, e2⟩ := he i hi.1 hlt
          have hDi := hD i
          have e3 : el ss i = (3, 0) := by rw [e1]; exact nst_last hG hH (by omega) (by omega)
          have e4 : (el ss i).1 = 3 ∧ (el ss i).2 = 0 := by rw [e3]; exact ⟨rfl, rfl⟩
          repeat' (first
            | (refine Goal.loud (o := ⟨some 7, _, _, _, _, _⟩) rfl ?_; refine Loud.allocA rfl T.inf_32 (fun b7 => ?_))
            | (refine Goal.loud (o := ⟨some 42, _, _, _, _, _⟩) rfl ?_; first | refine Loud.makeSlice rfl T.slc_48 T.inf_27 rfl rfl (by decide) rfl rfl rfl rfl (by omega) (by omega) (by omega) (fun b42 => ?_) | refine Loud.makeSlice rfl T.slc_48 T.inf_27 rfl rfl (by decide) rfl rfl (Int.toNat_of_nonneg (by omega)).symm (Int.toNat_of_nonneg (by omega)).symm (by omega) (by omega) (by omega) (fun b42 => ?_))
            | (refine Goal.loud (o := ⟨some 45, _, _, _, _, _⟩) rfl ?_; first | refine Loud.makeSlice rfl T.slc_28 T.inf_3 rfl rfl (by decide) rfl rfl rfl rfl (by omega) (by omega) (by omega) (fun b45 => ?_) | refine Loud.makeSlice rfl T.slc_28 T.inf_3 rfl rfl (by decide) rfl rfl (Int.toNat_of_nonneg (by omega)).symm (Int.toNat_of_nonneg (by omega)).symm (by omega) (by omega) (by omega) (fun b45 => ?_))
            | (apply G.move; exact rfl; exact rfl)
            | (apply G.assign; exact rfl; exact rfl)
            | refine Goal.seq (fun _ _ => ?_)
            | refine Goal.next (by assumption) ?_
            | refine Goal.lnil ?_
            | refine Goal.region ?_
            | refine Goal.skip ?_
            | refine Goal.block ?_
            | refine Goal.exit ?_
            | refine Goal.ret ?_
            | refine Goal.then_exit ?_
            | refine Goal.then_ret ?_
            | refine Goal.inBlock_exit ?_
            | refine Goal.inBlock_normal ?_
            | refine Goal.inBlock_ret ?_
            | refine Goal.inBlock_other rfl ?_
            | (apply Goal.condT; exact rfl)
            | (apply Goal.condF; exact rfl)
            | (refine Goal.condD rfl (fun hc => ?_) (fun hc => ?_) <;> first | (exfalso; omega) | contradiction | skip)
            | refine Goal.condB rfl (fun hc => ?_) (fun hc => ?_)
            | refine Goal.guardT rfl rfl ?_
            | refine Goal.guardF rfl rfl rfl rfl ?_
            | refine Goal.guardU rfl rfl rfl ?_
            | (refine Goal.guardD rfl rfl (fun hc => ?_) (fun hc => ?_) <;> first | (exfalso; omega) | contradiction | skip)
            | refine Goal.guardB rfl rfl (fun hc => ?_) (fun hc => ?_)
            | (apply G.fieldAddr; exact rfl; exact rfl; (first | exact T.fld_27_0 | exact T.fld_32_0 | exact T.fld_32_1))
            | (apply G.load; exact rfl; exact rfl; first | exact LoadOK.el T.agg_27 1 hf rfl (by omega) | exact LoadOK.one (by first | exact T.one_3 | exact T.one_5) 0 rfl rfl | exact LoadOK.one (by first | exact T.one_3 | exact T.one_5) 1 rfl rfl | exact LoadOK.one (by first | exact T.one_3 | exact T.one_5) 2 rfl rfl | exact LoadOK.one (by first | exact T.one_3 | exact T.one_5) 3 rfl rfl | exact LoadOK.one (by first | exact T.one_3 | exact T.one_5) 4 rfl rfl | exact LoadOK.one (by first | exact T.one_3 | exact T.one_5) 5 rfl rfl | exact LoadOK.one (by first | exact T.one_3 | exact T.one_5) 6 rfl rfl | exact LoadOK.one (by first | exact T.one_3 | exact T.one_5) 7 rfl rfl | exact LoadOK.agg (vs := [_, _]) T.agg_27 0 rfl rfl ⟨rfl, rfl, trivial⟩ | exact LoadOK.agg (vs := [_, _]) T.agg_27 1 rfl rfl ⟨rfl, rfl, trivial⟩ | exact LoadOK.agg (vs := [_, _]) T.agg_27 2 rfl rfl ⟨rfl, rfl, trivial⟩ | exact LoadOK.agg (vs := [_, _]) T.agg_27 3 rfl rfl ⟨rfl, rfl, trivial⟩ | exact LoadOK.agg (vs := [_, _]) T.agg_27 4 rfl rfl ⟨rfl, rfl, trivial⟩ | exact LoadOK.agg (vs := [_, _]) T.agg_27 5 rfl rfl ⟨rfl, rfl, trivial⟩ | exact LoadOK.agg (vs := [_, _]) T.agg_27 6 rfl rfl ⟨rfl, rfl, trivial⟩ | exact LoadOK.agg (vs := [_, _]) T.agg_27 7 rfl rfl ⟨rfl, rfl, trivial⟩ | exact LoadOK.agg (vs := [_, _]) T.agg_32 0 rfl rfl ⟨rfl, rfl, trivial⟩ | exact LoadOK.agg (vs := [_, _]) T.agg_32 1 rfl rfl ⟨rfl, rfl, trivial⟩ | exact LoadOK.agg (vs := [_, _]) T.agg_32 2 rfl rfl ⟨rfl, rfl, trivial⟩ | exact LoadOK.agg (vs := [_, _]) T.agg_32 3 rfl rfl ⟨rfl, rfl, trivial⟩ | exact LoadOK.agg (vs := [_, _]) T.agg_32 4 rfl rfl ⟨rfl, rfl, trivial⟩ | exact LoadOK.agg (vs := [_, _]) T.agg_32 5 rfl rfl ⟨rfl, rfl, trivial⟩ | exact LoadOK.agg (vs := [_, _]) T.agg_32 6 rfl rfl ⟨rfl, rfl, trivial⟩ | exact LoadOK.agg (vs := [_, _]) T.agg_32 7 rfl rfl ⟨rfl, rfl, trivial⟩)
            | (apply G.pickT; exact rfl; exact rfl; exact rfl)
            | (apply G.pickF; exact rfl; exact rfl; exact rfl)
            | (apply G.lss; exact rfl; exact rfl; exact rfl)
            | (apply G.gtr; exact rfl; exact rfl; exact rfl)
            | (apply G.eql; exact rfl; exact rfl; exact rfl)
            | (apply G.neq; exact rfl; exact rfl; exact rfl)
            | (apply G.add; exact rfl; exact rfl; exact rfl; first | exact IntWalk.i64_in _ (by omega) | exact IntWalk.u8_in _ (by omega) | exact IntWalk.u16_in _ (by omega) | exact IntWalk.u32_in _ (by omega) | exact IntWalk.u64_in _ (by omega))
            | (apply G.eqlI2; exact rfl; exact T.i2_27; exact rfl; exact rfl)
            | (apply G.neqI2; exact rfl; exact T.i2_27; exact rfl; exact rfl)
            | (apply G.rem; exact rfl; exact rfl; exact rfl; (first | decide | omega); exact IntWalk.rem_in _ _ (by omega))
            | (apply G.conv; exact rfl; exact rfl; (first | exact T.int_3 | exact T.int_5); (first | exact T.int_3 | exact T.int_5); first | exact IntWalk.i64_in _ (by omega) | exact IntWalk.u8_in _ (by omega) | exact IntWalk.u16_in _ (by omega) | exact IntWalk.u32_in _ (by omega) | exact IntWalk.u64_in _ (by omega))
            | (apply G.notT; exact rfl; exact rfl)
            | (apply G.notF; exact rfl; exact rfl)
            | (refine G.notD rfl rfl ?_)
            | (apply G.notB; exact rfl; exact rfl)
            | (apply G.extract; exact rfl; exact rfl; exact rfl)
            | (apply G.build (cs := [_, _]); exact rfl; exact T.lay_27; exact rfl; exact rfl)
            | (apply G.build (cs := [_, _]); exact rfl; exact T.lay_32; exact rfl; exact rfl)
            | (apply G.len; exact rfl; exact rfl; (first | exact T.slc_47 | exact T.slc_48))
            | (refine Goal.quiet rfl (Run.max2 rfl rfl) ?_)
            | (refine Goal.quiet rfl (Run.min2 rfl rfl) ?_)
            | (refine G.indexAddr1 rfl (by first | exact T.slc_28 | exact T.slc_47 | exact T.slc_48) (by first | exact T.sz_3 | exact T.sz_5) rfl rfl _ rfl (by omega) ?_)
            | (refine G.indexAddr1 rfl (by first | exact T.slc_28 | exact T.slc_47 | exact T.slc_48) (by first | exact T.sz_3 | exact T.sz_5) rfl rfl _ (Int.toNat_of_nonneg (by omega)).symm (by omega) ?_)
            | (refine G.indexAddr rfl (by first | exact T.slc_28 | exact T.slc_47 | exact T.slc_48) (by first | exact T.sz_27 | exact T.sz_49) rfl rfl _ rfl (by omega) ?_)
            | (refine G.indexAddr rfl (by first | exact T.slc_28 | exact T.slc_47 | exact T.slc_48) (by first | exact T.sz_27 | exact T.sz_49) rfl rfl _ (Int.toNat_of_nonneg (by omega)).symm (by omega) ?_)
            | (refine G.indexAddrA rfl T.arr_49 (by first | exact T.sz_3 | exact T.sz_5 | exact T.sz_27 | exact T.sz_49) rfl rfl _ rfl (by omega) ?_)
            | (refine G.indexAddrA rfl T.arr_49 (by first | exact T.sz_3 | exact T.sz_5 | exact T.sz_27 | exact T.sz_49) rfl rfl _ (Int.toNat_of_nonneg (by omega)).symm (by omega) ?_)
            | (refine Goal.loud rfl ?_; refine Loud.store0 rfl rfl (by first | exact T.sz_3 | exact T.sz_27 | exact T.sz_32) rfl rfl rfl (by first | exact Nat.le_refl _ | decide | (simp; omega)) rfl ?_)
            | (refine Goal.loud rfl ?_; refine Loud.store1 rfl rfl (by first | exact T.sz_3 | exact T.sz_27 | exact T.sz_32) rfl rfl rfl (by first | exact Nat.le_refl _ | decide | (simp; omega)) rfl ?_)
            | (refine Goal.loud rfl ?_; refine Loud.store2 rfl rfl (by first | exact T.sz_3 | exact T.sz_27 | exact T.sz_32) rfl rfl rfl (by first | exact Nat.le_refl _ | decide | (simp; omega)) rfl ?_)
            | (refine Goal.loud rfl ?_; refine Loud.store3 rfl rfl (by first | exact T.sz_3 | exact T.sz_27 | exact T.sz_32) rfl rfl rfl (by first | exact Nat.le_refl _ | decide | (simp; omega)) rfl ?_)
            | (refine Goal.loud rfl ?_; refine Loud.store4 rfl rfl (by first | exact T.sz_3 | exact T.sz_27 | exact T.sz_32) rfl rfl rfl (by first | exact Nat.le_refl _ | decide | (simp; omega)) rfl ?_)
            | (refine Goal.loud rfl ?_; refine Loud.store5 rfl rfl (by first | exact T.sz_3 | exact T.sz_27 | exact T.sz_32) rfl rfl rfl (by first | exact Nat.le_refl _ | decide | (simp; omega)) rfl ?_)
            | (refine Goal.loud rfl ?_; refine Loud.store6 rfl rfl (by first | exact T.sz_3 | exact T.sz_27 | exact T.sz_32) rfl rfl rfl (by first | exact Nat.le_refl _ | decide | (simp; omega)) rfl ?_)
            | (refine Goal.loud rfl ?_; refine Loud.store7 rfl rfl (by first | exact T.sz_3 | exact T.sz_27 | exact T.sz_32) rfl rfl rfl (by first | exact Nat.le_refl _ | decide | (simp; omega)) rfl ?_))
          refine Goal.again (i + 1) (by omega) (by omega) ⟨rfl, rfl, trivial⟩ (fun _ h => h)
        · skip
          repeat' (first
            | (refine Goal.loud (o := ⟨some 7, _, _, _, _, _⟩) rfl ?_; refine Loud.allocA rfl T.inf_32 (fun b7 => ?_))
            | (refine Goal.loud (o := ⟨some 42, _, _, _, _, _⟩) rfl ?_; first | refine Loud.makeSlice rfl T.slc_48 T.inf_27 rfl rfl (by decide) rfl rfl rfl rfl (by omega) (by omega) (by omega) (fun b42 => ?_) | refine Loud.makeSlice rfl T.slc_48 T.inf_27 rfl rfl (by decide) rfl rfl (Int.toNat_of_nonneg (by omega)).symm (Int.toNat_of_nonneg (by omega)).symm (by omega) (by omega) (by omega) (fun b42 => ?_))
            | (refine Goal.loud (o := ⟨some 45, _, _, _, _, _⟩) rfl ?_; first | refine Loud.makeSlice rfl T.slc_28 T.inf_3 rfl rfl (by decide) rfl rfl rfl rfl (by omega) (by omega) (by omega) (fun b45 => ?_) | refine Loud.makeSlice rfl T.slc_28 T.inf_3 rfl rfl (by decide) rfl rfl (Int.toNat_of_nonneg (by omega)).symm (Int.toNat_of_nonneg (by omega)).symm (by omega) (by omega) (by omega) (fun b45 => ?_))
            | (apply G.move; exact rfl; exact rfl)
            | (apply G.assign; exact rfl; exact rfl)
            | refine Goal.seq (fun _ _ => ?_)
            | refine Goal.next (by assumption) ?_
            | refine Goal.lnil ?_
            | refine Goal.region ?_
            | refine Goal.skip ?_
            | refine Goal.block ?_
            | refine Goal.exit ?_
            | refine Goal.ret ?_
            | refine Goal.then_exit ?_
            | refine Goal.then_ret ?_
            | refine Goal.inBlock_exit ?_
            | refine Goal.inBlock_normal ?_
            | refine Goal.inBlock_ret ?_
            | refine Goal.inBlock_other rfl ?_
            | (apply Goal.condT; exact rfl)
            | (apply Goal.condF; exact rfl)
            | (refine Goal.condD rfl (fun hc => ?_) (fun hc => ?_) <;> first | (exfalso; omega) | contradiction | skip)
            | refine Goal.condB rfl (fun hc => ?_) (fun hc => ?_)
            | refine Goal.guardT rfl rfl ?_
            | refine Goal.guardF rfl rfl rfl rfl ?_
            | refine Goal.guardU rfl rfl rfl ?_
            | (refine Goal.guardD rfl rfl (fun hc => ?_) (fun hc => ?_) <;> first | (exfalso; omega) | contradiction | skip)
            | refine Goal.guardB rfl rfl (fun hc => ?_) (fun hc => ?_)
            | (apply G.fieldAddr; exact rfl; exact rfl; (first | exact T.fld_27_0 | exact T.fld_32_0 | exact T.fld_32_1))
            | (apply G.load; exact rfl; exact rfl; first | exact LoadOK.one (by first | exact T.one_3 | exact T.one_5) 0 rfl rfl | exact LoadOK.one (by first | exact T.one_3 | exact T.one_5) 1 rfl rfl | exact LoadOK.one (by first | exact T.one_3 | exact T.one_5) 2 rfl rfl | exact LoadOK.one (by first | exact T.one_3 | exact T.one_5) 3 rfl rfl | exact LoadOK.one (by first | exact T.one_3 | exact T.one_5) 4 rfl rfl | exact LoadOK.one (by first | exact T.one_3 | exact T.one_5) 5 rfl rfl | exact LoadOK.one (by first | exact T.one_3 | exact T.one_5) 6 rfl rfl | exact LoadOK.one (by first | exact T.one_3 | exact T.one_5) 7 rfl rfl | exact LoadOK.agg (vs := [_, _]) T.agg_27 0 rfl rfl ⟨rfl, rfl, trivial⟩ | exact LoadOK.agg (vs := [_, _]) T.agg_27 1 rfl rfl ⟨rfl, rfl, trivial⟩ | exact LoadOK.agg (vs := [_, _]) T.agg_27 2 rfl rfl ⟨rfl, rfl, trivial⟩ | exact LoadOK.agg (vs := [_, _]) T.agg_27 3 rfl rfl ⟨rfl, rfl, trivial⟩ | exact LoadOK.agg (vs := [_, _]) T.agg_27 4 rfl rfl ⟨rfl, rfl, trivial⟩ | exact LoadOK.agg (vs := [_, _]) T.agg_27 5 rfl rfl ⟨rfl, rfl, trivial⟩ | exact LoadOK.agg (vs := [_, _]) T.agg_27 6 rfl rfl ⟨rfl, rfl, trivial⟩ | exact LoadOK.agg (vs := [_, _]) T.agg_27 7 rfl rfl ⟨rfl, rfl, trivial⟩ | exact LoadOK.agg (vs := [_, _]) T.agg_32 0 rfl rfl ⟨rfl, rfl, trivial⟩ | exact LoadOK.agg (vs := [_, _]) T.agg_32 1 rfl rfl ⟨rfl, rfl, trivial⟩ | exact LoadOK.agg (vs := [_, _]) T.agg_32 2 rfl rfl ⟨rfl, rfl, trivial⟩ | exact LoadOK.agg (vs := [_, _]) T.agg_32 3 rfl rfl ⟨rfl, rfl, trivial⟩ | exact LoadOK.agg (vs := [_, _]) T.agg_32 4 rfl rfl ⟨rfl, rfl, trivial⟩ | exact LoadOK.agg (vs := [_, _]) T.agg_32 5 rfl rfl ⟨rfl, rfl, trivial⟩ | exact LoadOK.agg (vs := [_, _]) T.agg_32 6 rfl rfl ⟨rfl, rfl, trivial⟩ | exact LoadOK.agg (vs := [_, _]) T.agg_32 7 rfl rfl ⟨rfl, rfl, trivial⟩)
            | (apply G.pickT; exact rfl; exact rfl; exact rfl)
            | (apply G.pickF; exact rfl; exact rfl; exact rfl)
            | (apply G.lss; exact rfl; exact rfl; exact rfl)
            | (apply G.gtr; exact rfl; exact rfl; exact rfl)
            | (apply G.eql; exact rfl; exact rfl; exact rfl)
            | (apply G.neq; exact rfl; exact rfl; exact rfl)
            | (apply G.add; exact rfl; exact rfl; exact rfl; first | exact IntWalk.i64_in _ (by omega) | exact IntWalk.u8_in _ (by omega) | exact IntWalk.u16_in _ (by omega) | exact IntWalk.u32_in _ (by omega) | exact IntWalk.u64_in _ (by omega))
            | (apply G.eqlI2; exact rfl; exact T.i2_27; exact rfl; exact rfl)
            | (apply G.neqI2; exact rfl; exact T.i2_27; exact rfl; exact rfl)
            | (apply G.rem; exact rfl; exact rfl; exact rfl; (first | decide | omega); exact IntWalk.rem_in _ _ (by omega))
            | (apply G.conv; exact rfl; exact rfl; (first | exact T.int_3 | exact T.int_5); (first | exact T.int_3 | exact T.int_5); first | exact IntWalk.i64_in _ (by omega) | exact IntWalk.u8_in _ (by omega) | exact IntWalk.u16_in _ (by omega) | exact IntWalk.u32_in _ (by omega) | exact IntWalk.u64_in _ (by omega))
            | (apply G.notT; exact rfl; exact rfl)
            | (apply G.notF; exact rfl; exact rfl)
            | (refine G.notD rfl rfl ?_)
            | (apply G.notB; exact rfl; exact rfl)
            | (apply G.extract; exact rfl; exact rfl; exact rfl)
            | (apply G.build (cs := [_, _]); exact rfl; exact T.lay_27; exact rfl; exact rfl)
            | (apply G.build (cs := [_, _]); exact rfl; exact T.lay_32; exact rfl; exact rfl)
            | (apply G.len; exact rfl; exact rfl; (first | exact T.slc_47 | exact T.slc_48))
            | (refine Goal.quiet rfl (Run.max2 rfl rfl) ?_)
            | (refine Goal.quiet rfl (Run.min2 rfl rfl) ?_)
            | (refine G.indexAddr1 rfl (by first | exact T.slc_28 | exact T.slc_47 | exact T.slc_48) (by first | exact T.sz_3 | exact T.sz_5) rfl rfl _ rfl (by omega) ?_)
            | (refine G.indexAddr1 rfl (by first | exact T.slc_28 | exact T.slc_47 | exact T.slc_48) (by first | exact T.sz_3 | exact T.sz_5) rfl rfl _ (Int.toNat_of_nonneg (by omega)).symm (by omega) ?_)
            | (refine G.indexAddr rfl (by first | exact T.slc_28 | exact T.slc_47 | exact T.slc_48) (by first | exact T.sz_27 | exact T.sz_49) rfl rfl _ rfl (by omega) ?_)
            | (refine G.indexAddr rfl (by first | exact T.slc_28 | exact T.slc_47 | exact T.slc_48) (by first | exact T.sz_27 | exact T.sz_49) rfl rfl _ (Int.toNat_of_nonneg (by omega)).symm (by omega) ?_)
            | (refine G.indexAddrA rfl T.arr_49 (by first | exact T.sz_3 | exact T.sz_5 | exact T.sz_27 | exact T.sz_49) rfl rfl _ rfl (by omega) ?_)
            | (refine G.indexAddrA rfl T.arr_49 (by first | exact T.sz_3 | exact T.sz_5 | exact T.sz_27 | exact T.sz_49) rfl rfl _ (Int.toNat_of_nonneg (by omega)).symm (by omega) ?_)
            | (refine Goal.loud rfl ?_; refine Loud.store0 rfl rfl (by first | exact T.sz_3 | exact T.sz_27 | exact T.sz_32) rfl rfl rfl (by first | exact Nat.le_refl _ | decide | (simp; omega)) rfl ?_)
            | (refine Goal.loud rfl ?_; refine Loud.store1 rfl rfl (by first | exact T.sz_3 | exact T.sz_27 | exact T.sz_32) rfl rfl rfl (by first | exact Nat.le_refl _ | decide | (simp; omega)) rfl ?_)
            | (refine Goal.loud rfl ?_; refine Loud.store2 rfl rfl (by first | exact T.sz_3 | exact T.sz_27 | exact T.sz_32) rfl rfl rfl (by first | exact Nat.le_refl _ | decide | (simp; omega)) rfl ?_)
            | (refine Goal.loud rfl ?_; refine Loud.store3 rfl rfl (by first | exact T.sz_3 | exact T.sz_27 | exact T.sz_32) rfl rfl rfl (by first | exact Nat.le_refl _ | decide | (simp; omega)) rfl ?_)
            | (refine Goal.loud rfl ?_; refine Loud.store4 rfl rfl (by first | exact T.sz_3 | exact T.sz_27 | exact T.sz_32) rfl rfl rfl (by first | exact Nat.le_refl _ | decide | (simp; omega)) rfl ?_)
            | (refine Goal.loud rfl ?_; refine Loud.store5 rfl rfl (by first | exact T.sz_3 | exact T.sz_27 | exact T.sz_32) rfl rfl rfl (by first | exact Nat.le_refl _ | decide | (simp; omega)) rfl ?_)
            | (refine Goal.loud rfl ?_; refine Loud.store6 rfl rfl (by first | exact T.sz_3 | exact T.sz_27 | exact T.sz_32) rfl rfl rfl (by first | exact Nat.le_refl _ | decide | (simp; omega)) rfl ?_)
            | (refine Goal.loud rfl ?_; refine Loud.store7 rfl rfl (by first | exact T.sz_3 | exact T.sz_27 | exact T.sz_32) rfl rfl rfl (by first | exact Nat.le_refl _ | decide | (simp; omega)) rfl ?_))
          refine Goal.done (vs := [_]) (by first | exact .inl rfl | exact .inr rfl) Try.results6 ⟨rfl, trivial⟩ rfl (fun w' H => ⟨rfl, H.mod⟩)
end Go.Proofs.Ytlnbogggaajfbaa
