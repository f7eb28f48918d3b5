/- Package waypointref09: Valid, Arcs, Tail, Head, Cost, Overloaded, SameInts; package waypointref11: Fits, Up, transit. -/
import Derived.Test.YtldoplehchngfaaSpV
namespace Go.Proofs.Ytldoplehchngfaa
open Go.Wf
set_option linter.unusedVariables false
section
variable {w : World} {tp : Top} {vo vl : Value} {dn : List Bool} {vd : Value}
theorem rwithin_ok (x lo hi : Int) (w : World) : Calls Try.prog 68 #[.int .i64 x, .int .i64 lo, .int .i64 hi] w fun e w' => e = .returned (.bool (decide (lo ≤ x ∧ x ≤ hi))) ∧ Mod [] w w' := by
  refine Goal.enter (args := [.int .i64 x, .int .i64 lo, .int .i64 hi]) Try.func68 rfl Try.ntmps68 rfl (St.nil w) ?_
  repeat' (first
    | (apply G.move; exact rfl; exact rfl)
    | (apply G.assign; exact rfl; exact rfl)
    | refine Goal.seq (fun _ _ => ?_)
    | refine Goal.next (by assumption) ?_
    | refine Goal.lnil ?_
    | refine Goal.region ?_
    | refine Goal.skip ?_
    | refine Goal.block ?_
    | refine Goal.exit ?_
    | refine Goal.ret ?_
    | refine Goal.then_exit ?_
    | refine Goal.then_ret ?_
    | refine Goal.inBlock_exit ?_
    | refine Goal.inBlock_normal ?_
    | refine Goal.inBlock_ret ?_
    | refine Goal.inBlock_other rfl ?_
    | (apply Goal.condT; exact rfl)
    | (apply Goal.condF; exact rfl)
    | (refine Goal.condD rfl (fun hc => ?_) (fun hc => ?_) <;> first | (exfalso; omega) | contradiction | skip)
    | refine Goal.condB rfl (fun hc => ?_) (fun hc => ?_)
    | refine Goal.guardT rfl rfl ?_
    | refine Goal.guardF rfl rfl rfl rfl ?_
    | refine Goal.guardU rfl rfl rfl ?_
    | (refine Goal.guardD rfl rfl (fun hc => ?_) (fun hc => ?_) <;> first | (exfalso; omega) | contradiction | skip)
    | refine Goal.guardB rfl rfl (fun hc => ?_) (fun hc => ?_)
    | (apply G.pickT; exact rfl; exact rfl; exact rfl)
    | (apply G.pickF; exact rfl; exact rfl; exact rfl)
    | (apply G.leq; exact rfl; exact rfl; exact rfl)
    | (apply G.geq; exact rfl; exact rfl; exact rfl))
  all_goals
    refine Goal.done (vs := [_]) (by first | exact .inl rfl | exact .inr rfl) Try.results68 ⟨rfl, trivial⟩ rfl (fun w' H => ⟨ret_bool (by simp; omega), H.mod⟩)
set_option maxHeartbeats 4000000 in
theorem rvalid_ok (hT : TopR w vo vl tp) (hl : tp.ls.length ≤ 1048576) (hov : tp.ov.length ≤ 140737488355328) : Calls Try.prog 40 #[.agg #[.int .i64 tp.n, vo, vl]] w fun e w' => e = .returned (.bool (decide tp.Ok)) ∧ Mod [] w w' := by
  obtain ⟨ao, co, rfl⟩ := shapeB hT.ov
  obtain ⟨al, cl, rfl⟩ := shapeL hT.ls
  refine Goal.enter (args := [.agg #[.int .i64 tp.n, .slice ao tp.ov.length co, .slice al tp.ls.length cl]]) Try.func40 rfl Try.ntmps40 rfl (St.nil w) ?_
  repeat' (first
    | (refine Goal.loud (o := ⟨some 1, _, _, _, _, _⟩) rfl ?_; first | refine Loud.boxA rfl rfl (fun b1 => ?_) | refine Loud.box1 rfl rfl rfl (fun b1 => ?_))
    | (refine Goal.loud (o := ⟨some 4, _, _, _, _, _⟩) rfl ?_; refine Loud.allocA rfl T.inf_50 (fun b4 => ?_))
    | (refine Goal.cut (x := Code.seq (Code.region 1 _ _) _) (X := Unit) (fun _ => [(1, .pointer (some ⟨b1, 0, none⟩))]) (fun _ => [(b1, .cells #[.int .i64 tp.n, .slice ao tp.ov.length co, .slice al tp.ls.length cl] 25)]) (fun _ => (1 ≤ tp.n ∧ tp.n ≤ 64) ∧ (tp.ov.length = 0 ∨ (tp.ov.length : Int) = tp.n) ∧ tp.ls.length ≤ 256) ?_ ?_)
    | (apply G.move; exact rfl; exact rfl)
    | (apply G.assign; exact rfl; exact rfl)
    | refine Goal.seq (fun _ _ => ?_)
    | refine Goal.next (by assumption) ?_
    | refine Goal.lnil ?_
    | refine Goal.region ?_
    | refine Goal.skip ?_
    | refine Goal.block ?_
    | refine Goal.exit ?_
    | refine Goal.ret ?_
    | refine Goal.then_exit ?_
    | refine Goal.then_ret ?_
    | refine Goal.inBlock_exit ?_
    | refine Goal.inBlock_normal ?_
    | refine Goal.inBlock_ret ?_
    | refine Goal.inBlock_other rfl ?_
    | (apply Goal.condT; exact rfl)
    | (apply Goal.condF; exact rfl)
    | (refine Goal.condD rfl (fun hc => ?_) (fun hc => ?_) <;> first | (exfalso; omega) | contradiction | skip)
    | refine Goal.condB rfl (fun hc => ?_) (fun hc => ?_)
    | refine Goal.guardT rfl rfl ?_
    | refine Goal.guardF rfl rfl rfl rfl ?_
    | refine Goal.guardU rfl rfl rfl ?_
    | (refine Goal.guardD rfl rfl (fun hc => ?_) (fun hc => ?_) <;> first | (exfalso; omega) | contradiction | skip)
    | refine Goal.guardB rfl rfl (fun hc => ?_) (fun hc => ?_)
    | (apply G.fieldAddr; exact rfl; exact rfl; (first | exact T.fld_25_0 | exact T.fld_25_1 | exact T.fld_25_2 | exact T.fld_50_0 | exact T.fld_50_1 | exact T.fld_50_2 | exact T.fld_50_3 | exact T.fld_50_4 | exact T.fld_50_5))
    | (apply G.load; exact rfl; exact rfl; first | exact LoadOK.one (by first | exact T.one_3 | exact T.one_22 | exact T.one_23) 0 rfl rfl | exact LoadOK.one (by first | exact T.one_3 | exact T.one_22 | exact T.one_23) 1 rfl rfl | exact LoadOK.one (by first | exact T.one_3 | exact T.one_22 | exact T.one_23) 2 rfl rfl | exact LoadOK.one (by first | exact T.one_3 | exact T.one_22 | exact T.one_23) 3 rfl rfl | exact LoadOK.one (by first | exact T.one_3 | exact T.one_22 | exact T.one_23) 4 rfl rfl | exact LoadOK.agg (vs := [_, _, _, _, _, _, _]) T.agg_50 0 rfl rfl ⟨rfl, rfl, rfl, rfl, rfl, rfl, rfl, trivial⟩ | exact LoadOK.agg (vs := [_, _, _, _, _, _, _]) T.agg_50 1 rfl rfl ⟨rfl, rfl, rfl, rfl, rfl, rfl, rfl, trivial⟩ | exact LoadOK.agg (vs := [_, _, _, _, _, _, _]) T.agg_50 2 rfl rfl ⟨rfl, rfl, rfl, rfl, rfl, rfl, rfl, trivial⟩ | exact LoadOK.agg (vs := [_, _, _, _, _, _, _]) T.agg_50 3 rfl rfl ⟨rfl, rfl, rfl, rfl, rfl, rfl, rfl, trivial⟩ | exact LoadOK.agg (vs := [_, _, _, _, _, _, _]) T.agg_50 4 rfl rfl ⟨rfl, rfl, rfl, rfl, rfl, rfl, rfl, trivial⟩)
    | (apply G.pickT; exact rfl; exact rfl; exact rfl)
    | (apply G.pickF; exact rfl; exact rfl; exact rfl)
    | (apply G.lss; exact rfl; exact rfl; exact rfl)
    | (apply G.gtr; exact rfl; exact rfl; exact rfl)
    | (apply G.eql; exact rfl; exact rfl; exact rfl)
    | (apply G.neq; exact rfl; exact rfl; exact rfl)
    | (apply G.add; exact rfl; exact rfl; exact rfl; exact IntWalk.i64_in _ (by omega))
    | (apply G.sub; exact rfl; exact rfl; exact rfl; exact IntWalk.i64_in _ (by omega))
    | (apply G.notT; exact rfl; exact rfl)
    | (apply G.notF; exact rfl; exact rfl)
    | (refine G.notD rfl rfl ?_)
    | (apply G.notB; exact rfl; exact rfl)
    | (apply G.len; exact rfl; exact rfl; (first | exact T.slc_22 | exact T.slc_23))
    | (refine G.indexAddr1 rfl T.slc_23 T.sz_3 rfl rfl _ rfl (by omega) ?_)
    | (refine G.indexAddr1 rfl T.slc_23 T.sz_3 rfl rfl _ (Int.toNat_of_nonneg (by omega)).symm (by omega) ?_)
    | (refine G.indexAddr rfl T.slc_23 T.sz_50 rfl rfl _ rfl (by omega) ?_)
    | (refine G.indexAddr rfl T.slc_23 T.sz_50 rfl rfl _ (Int.toNat_of_nonneg (by omega)).symm (by omega) ?_)
    | (refine G.indexAddrA rfl T.arr_48 (by first | exact T.sz_3 | exact T.sz_50) rfl rfl _ rfl (by omega) ?_)
    | (refine G.indexAddrA rfl T.arr_48 (by first | exact T.sz_3 | exact T.sz_50) rfl rfl _ (Int.toNat_of_nonneg (by omega)).symm (by omega) ?_)
    | (refine Goal.loud rfl ?_; refine Loud.store0 rfl rfl T.sz_50 rfl rfl rfl (by first | exact Nat.le_of_ble_eq_true rfl | exact Nat.le_refl _ | decide | (simp; omega)) rfl ?_)
    | (refine Goal.loud rfl ?_; refine Loud.store1 rfl rfl T.sz_50 rfl rfl rfl (by first | exact Nat.le_of_ble_eq_true rfl | exact Nat.le_refl _ | decide | (simp; omega)) rfl ?_)
    | (refine Goal.loud rfl ?_; refine Loud.store2 rfl rfl T.sz_50 rfl rfl rfl (by first | exact Nat.le_of_ble_eq_true rfl | exact Nat.le_refl _ | decide | (simp; omega)) rfl ?_)
    | (refine Goal.loud rfl ?_; refine Loud.store3 rfl rfl T.sz_50 rfl rfl rfl (by first | exact Nat.le_of_ble_eq_true rfl | exact Nat.le_refl _ | decide | (simp; omega)) rfl ?_)
    | (refine Goal.loud rfl ?_; refine Loud.store4 rfl rfl T.sz_50 rfl rfl rfl (by first | exact Nat.le_of_ble_eq_true rfl | exact Nat.le_refl _ | decide | (simp; omega)) rfl ?_))
  · intro K hk
    repeat' (first
      | (refine Goal.loud (o := ⟨some 7, _, _, _, _, _⟩) rfl ?_; apply Loud.call0; exact rfl; exact rfl; exact rfl; exact rfl; exact T.bod_68; exact (fun w' H => rwithin_ok tp.n 1 64 w'))
      | (refine Goal.loud (o := ⟨some 1, _, _, _, _, _⟩) rfl ?_; first | refine Loud.boxA rfl rfl (fun b1 => ?_) | refine Loud.box1 rfl rfl rfl (fun b1 => ?_))
      | (refine Goal.loud (o := ⟨some 4, _, _, _, _, _⟩) rfl ?_; refine Loud.allocA rfl T.inf_50 (fun b4 => ?_))
      | (apply G.move; exact rfl; exact rfl)
      | (apply G.assign; exact rfl; exact rfl)
      | refine Goal.seq (fun _ _ => ?_)
      | refine Goal.next (by assumption) ?_
      | refine Goal.lnil ?_
      | refine Goal.region ?_
      | refine Goal.skip ?_
      | refine Goal.block ?_
      | refine Goal.exit ?_
      | refine Goal.ret ?_
      | refine Goal.then_exit ?_
      | refine Goal.then_ret ?_
      | refine Goal.inBlock_exit ?_
      | refine Goal.inBlock_normal ?_
      | refine Goal.inBlock_ret ?_
      | refine Goal.inBlock_other rfl ?_
      | (apply Goal.condT; exact rfl)
      | (apply Goal.condF; exact rfl)
      | (refine Goal.condD rfl (fun hc => ?_) (fun hc => ?_) <;> first | (exfalso; omega) | contradiction | skip)
      | refine Goal.condB rfl (fun hc => ?_) (fun hc => ?_)
      | refine Goal.guardT rfl rfl ?_
      | refine Goal.guardF rfl rfl rfl rfl ?_
      | refine Goal.guardU rfl rfl rfl ?_
      | (refine Goal.guardD rfl rfl (fun hc => ?_) (fun hc => ?_) <;> first | (exfalso; omega) | contradiction | skip)
      | refine Goal.guardB rfl rfl (fun hc => ?_) (fun hc => ?_)
      | (apply G.fieldAddr; exact rfl; exact rfl; (first | exact T.fld_25_0 | exact T.fld_25_1 | exact T.fld_25_2 | exact T.fld_50_0 | exact T.fld_50_1 | exact T.fld_50_2 | exact T.fld_50_3 | exact T.fld_50_4 | exact T.fld_50_5))
      | (apply G.load; exact rfl; exact rfl; first | exact LoadOK.one (by first | exact T.one_3 | exact T.one_22 | exact T.one_23) 0 rfl rfl | exact LoadOK.one (by first | exact T.one_3 | exact T.one_22 | exact T.one_23) 1 rfl rfl | exact LoadOK.one (by first | exact T.one_3 | exact T.one_22 | exact T.one_23) 2 rfl rfl | exact LoadOK.one (by first | exact T.one_3 | exact T.one_22 | exact T.one_23) 3 rfl rfl | exact LoadOK.one (by first | exact T.one_3 | exact T.one_22 | exact T.one_23) 4 rfl rfl | exact LoadOK.agg (vs := [_, _, _, _, _, _, _]) T.agg_50 0 rfl rfl ⟨rfl, rfl, rfl, rfl, rfl, rfl, rfl, trivial⟩ | exact LoadOK.agg (vs := [_, _, _, _, _, _, _]) T.agg_50 1 rfl rfl ⟨rfl, rfl, rfl, rfl, rfl, rfl, rfl, trivial⟩ | exact LoadOK.agg (vs := [_, _, _, _, _, _, _]) T.agg_50 2 rfl rfl ⟨rfl, rfl, rfl, rfl, rfl, rfl, rfl, trivial⟩ | exact LoadOK.agg (vs := [_, _, _, _, _, _, _]) T.agg_50 3 rfl rfl ⟨rfl, rfl, rfl, rfl, rfl, rfl, rfl, trivial⟩ | exact LoadOK.agg (vs := [_, _, _, _, _, _, _]) T.agg_50 4 rfl rfl ⟨rfl, rfl, rfl, rfl, rfl, rfl, rfl, trivial⟩)
      | (apply G.pickT; exact rfl; exact rfl; exact rfl)
      | (apply G.pickF; exact rfl; exact rfl; exact rfl)
      | (apply G.lss; exact rfl; exact rfl; exact rfl)
      | (apply G.gtr; exact rfl; exact rfl; exact rfl)
      | (apply G.eql; exact rfl; exact rfl; exact rfl)
      | (apply G.neq; exact rfl; exact rfl; exact rfl)
      | (apply G.add; exact rfl; exact rfl; exact rfl; exact IntWalk.i64_in _ (by omega))
      | (apply G.sub; exact rfl; exact rfl; exact rfl; exact IntWalk.i64_in _ (by omega))
      | (apply G.notT; exact rfl; exact rfl)
      | (apply G.notF; exact rfl; exact rfl)
      | (refine G.notD rfl rfl ?_)
      | (apply G.notB; exact rfl; exact rfl)
      | (apply G.len; exact rfl; exact rfl; (first | exact T.slc_22 | exact T.slc_23))
      | (refine G.indexAddr1 rfl T.slc_23 T.sz_3 rfl rfl _ rfl (by omega) ?_)
      | (refine G.indexAddr1 rfl T.slc_23 T.sz_3 rfl rfl _ (Int.toNat_of_nonneg (by omega)).symm (by omega) ?_)
      | (refine G.indexAddr rfl T.slc_23 T.sz_50 rfl rfl _ rfl (by omega) ?_)
      | (refine G.indexAddr rfl T.slc_23 T.sz_50 rfl rfl _ (Int.toNat_of_nonneg (by omega)).symm (by omega) ?_)
      | (refine G.indexAddrA rfl T.arr_48 (by first | exact T.sz_3 | exact T.sz_50) rfl rfl _ rfl (by omega) ?_)
      | (refine G.indexAddrA rfl T.arr_48 (by first | exact T.sz_3 | exact T.sz_50) rfl rfl _ (Int.toNat_of_nonneg (by omega)).symm (by omega) ?_)
      | (refine Goal.loud rfl ?_; refine Loud.store0 rfl rfl T.sz_50 rfl rfl rfl (by first | exact Nat.le_of_ble_eq_true rfl | exact Nat.le_refl _ | decide | (simp; omega)) rfl ?_)
      | (refine Goal.loud rfl ?_; refine Loud.store1 rfl rfl T.sz_50 rfl rfl rfl (by first | exact Nat.le_of_ble_eq_true rfl | exact Nat.le_refl _ | decide | (simp; omega)) rfl ?_)
      | (refine Goal.loud rfl ?_; refine Loud.store2 rfl rfl T.sz_50 rfl rfl rfl (by first | exact Nat.le_of_ble_eq_true rfl | exact Nat.le_refl _ | decide | (simp; omega)) rfl ?_)
      | (refine Goal.loud rfl ?_; refine Loud.store3 rfl rfl T.sz_50 rfl rfl rfl (by first | exact Nat.le_of_ble_eq_true rfl | exact Nat.le_refl _ | decide | (simp; omega)) rfl ?_)
      | (refine Goal.loud rfl ?_; refine Loud.store4 rfl rfl T.sz_50 rfl rfl rfl (by first | exact Nat.le_of_ble_eq_true rfl | exact Nat.le_refl _ | decide | (simp; omega)) rfl ?_))
    all_goals first
      | (refine Goal.done (vs := [_]) (by first | exact .inl rfl | exact .inr rfl) Try.results40 ⟨rfl, trivial⟩ rfl (fun w' H => ⟨ret_no fun h => by have := h.n; have := h.ov; have := h.ln; omega, H.mod⟩))
      | exact Goal.meet hk () (by omega) ⟨rfl, trivial⟩ (fun _ h => h)
  · rintro ⟨⟩ ⟨hn0, hovl, hln⟩
    repeat' (first
      | (refine Goal.loud (o := ⟨some 1, _, _, _, _, _⟩) rfl ?_; first | refine Loud.boxA rfl rfl (fun b1 => ?_) | refine Loud.box1 rfl rfl rfl (fun b1 => ?_))
      | (refine Goal.loud (o := ⟨some 4, _, _, _, _, _⟩) rfl ?_; refine Loud.allocA rfl T.inf_50 (fun b4 => ?_))
      | (apply G.move; exact rfl; exact rfl)
      | (apply G.assign; exact rfl; exact rfl)
      | refine Goal.seq (fun _ _ => ?_)
      | refine Goal.next (by assumption) ?_
      | refine Goal.lnil ?_
      | refine Goal.region ?_
      | refine Goal.skip ?_
      | refine Goal.block ?_
      | refine Goal.exit ?_
      | refine Goal.ret ?_
      | refine Goal.then_exit ?_
      | refine Goal.then_ret ?_
      | refine Goal.inBlock_exit ?_
      | refine Goal.inBlock_normal ?_
      | refine Goal.inBlock_ret ?_
      | refine Goal.inBlock_other rfl ?_
      | (apply Goal.condT; exact rfl)
      | (apply Goal.condF; exact rfl)
      | (refine Goal.condD rfl (fun hc => ?_) (fun hc => ?_) <;> first | (exfalso; omega) | contradiction | skip)
      | refine Goal.condB rfl (fun hc => ?_) (fun hc => ?_)
      | refine Goal.guardT rfl rfl ?_
      | refine Goal.guardF rfl rfl rfl rfl ?_
      | refine Goal.guardU rfl rfl rfl ?_
      | (refine Goal.guardD rfl rfl (fun hc => ?_) (fun hc => ?_) <;> first | (exfalso; omega) | contradiction | skip)
      | refine Goal.guardB rfl rfl (fun hc => ?_) (fun hc => ?_)
      | (apply G.fieldAddr; exact rfl; exact rfl; (first | exact T.fld_25_0 | exact T.fld_25_1 | exact T.fld_25_2 | exact T.fld_50_0 | exact T.fld_50_1 | exact T.fld_50_2 | exact T.fld_50_3 | exact T.fld_50_4 | exact T.fld_50_5))
      | (apply G.load; exact rfl; exact rfl; first | exact LoadOK.one (by first | exact T.one_3 | exact T.one_22 | exact T.one_23) 0 rfl rfl | exact LoadOK.one (by first | exact T.one_3 | exact T.one_22 | exact T.one_23) 1 rfl rfl | exact LoadOK.one (by first | exact T.one_3 | exact T.one_22 | exact T.one_23) 2 rfl rfl | exact LoadOK.one (by first | exact T.one_3 | exact T.one_22 | exact T.one_23) 3 rfl rfl | exact LoadOK.one (by first | exact T.one_3 | exact T.one_22 | exact T.one_23) 4 rfl rfl | exact LoadOK.agg (vs := [_, _, _, _, _, _, _]) T.agg_50 0 rfl rfl ⟨rfl, rfl, rfl, rfl, rfl, rfl, rfl, trivial⟩ | exact LoadOK.agg (vs := [_, _, _, _, _, _, _]) T.agg_50 1 rfl rfl ⟨rfl, rfl, rfl, rfl, rfl, rfl, rfl, trivial⟩ | exact LoadOK.agg (vs := [_, _, _, _, _, _, _]) T.agg_50 2 rfl rfl ⟨rfl, rfl, rfl, rfl, rfl, rfl, rfl, trivial⟩ | exact LoadOK.agg (vs := [_, _, _, _, _, _, _]) T.agg_50 3 rfl rfl ⟨rfl, rfl, rfl, rfl, rfl, rfl, rfl, trivial⟩ | exact LoadOK.agg (vs := [_, _, _, _, _, _, _]) T.agg_50 4 rfl rfl ⟨rfl, rfl, rfl, rfl, rfl, rfl, rfl, trivial⟩)
      | (apply G.pickT; exact rfl; exact rfl; exact rfl)
      | (apply G.pickF; exact rfl; exact rfl; exact rfl)
      | (apply G.lss; exact rfl; exact rfl; exact rfl)
      | (apply G.gtr; exact rfl; exact rfl; exact rfl)
      | (apply G.eql; exact rfl; exact rfl; exact rfl)
      | (apply G.neq; exact rfl; exact rfl; exact rfl)
      | (apply G.add; exact rfl; exact rfl; exact rfl; exact IntWalk.i64_in _ (by omega))
      | (apply G.sub; exact rfl; exact rfl; exact rfl; exact IntWalk.i64_in _ (by omega))
      | (apply G.notT; exact rfl; exact rfl)
      | (apply G.notF; exact rfl; exact rfl)
      | (refine G.notD rfl rfl ?_)
      | (apply G.notB; exact rfl; exact rfl)
      | (apply G.len; exact rfl; exact rfl; (first | exact T.slc_22 | exact T.slc_23))
      | (refine G.indexAddr1 rfl T.slc_23 T.sz_3 rfl rfl _ rfl (by omega) ?_)
      | (refine G.indexAddr1 rfl T.slc_23 T.sz_3 rfl rfl _ (Int.toNat_of_nonneg (by omega)).symm (by omega) ?_)
      | (refine G.indexAddr rfl T.slc_23 T.sz_50 rfl rfl _ rfl (by omega) ?_)
      | (refine G.indexAddr rfl T.slc_23 T.sz_50 rfl rfl _ (Int.toNat_of_nonneg (by omega)).symm (by omega) ?_)
      | (refine G.indexAddrA rfl T.arr_48 (by first | exact T.sz_3 | exact T.sz_50) rfl rfl _ rfl (by omega) ?_)
      | (refine G.indexAddrA rfl T.arr_48 (by first | exact T.sz_3 | exact T.sz_50) rfl rfl _ (Int.toNat_of_nonneg (by omega)).symm (by omega) ?_)
      | (refine Goal.loud rfl ?_; refine Loud.store0 rfl rfl T.sz_50 rfl rfl rfl (by first | exact Nat.le_of_ble_eq_true rfl | exact Nat.le_refl _ | decide | (simp; omega)) rfl ?_)
      | (refine Goal.loud rfl ?_; refine Loud.store1 rfl rfl T.sz_50 rfl rfl rfl (by first | exact Nat.le_of_ble_eq_true rfl | exact Nat.le_refl _ | decide | (simp; omega)) rfl ?_)
      | (refine Goal.loud rfl ?_; refine Loud.store2 rfl rfl T.sz_50 rfl rfl rfl (by first | exact Nat.le_of_ble_eq_true rfl | exact Nat.le_refl _ | decide | (simp; omega)) rfl ?_)
      | (refine Goal.loud rfl ?_; refine Loud.store3 rfl rfl T.sz_50 rfl rfl rfl (by first | exact Nat.le_of_ble_eq_true rfl | exact Nat.le_refl _ | decide | (simp; omega)) rfl ?_)
      | (refine Goal.loud rfl ?_; refine Loud.store4 rfl rfl T.sz_50 rfl rfl rfl (by first | exact Nat.le_of_ble_eq_true rfl | exact Nat.le_refl _ | decide | (simp; omega)) rfl ?_))
    refine Goal.loopP (X := Int) (fun x => [(1, .pointer (some ⟨b1, 0, none⟩)), (3, .int .i64 x)]) (fun _ => [(b1, .cells #[.int .i64 tp.n, .slice ao tp.ov.length co, .slice al tp.ls.length cl] 25)])
      (fun x => (0 ≤ x ∧ x ≤ tp.ls.length) ∧ ∀ j : Int, 0 ≤ j → j < x → lkOk tp.n (el tp.ls j)) (fun x => (tp.ls.length - x).toNat) 0 ⟨rfl, rfl, trivial⟩ (fun _ h => h) ⟨by omega, fun j j0 j1 => by omega⟩ ?_
    rintro i ⟨hi, hall⟩
    by_cases h : i < tp.ls.length
    · obtain ⟨b, o, rfl, hk⟩ := rd_els hT.ls (by omega)
      have hki := hk i hi.1 h
      have hno : ¬ lkOk tp.n (el tp.ls i) → ¬ tp.Ok := fun x y => x (y.lk _ (el_mem ⟨hi.1, h⟩))
      have hyes : lkOk tp.n (el tp.ls i) → ∀ j : Int, 0 ≤ j → j < i + 1 → lkOk tp.n (el tp.ls j) := fun x j j0 j1 => by
        by_cases e : j = i
        · rw [e]; exact x
        · exact hall j j0 (by omega)
      unfold lkOk at hno hyes
      clear hall hk
      generalize el tp.ls i = l at hki hno hyes
      repeat' (first
        | (refine Goal.loud (o := ⟨some 46, _, _, _, _, _⟩) rfl ?_; apply Loud.call0; exact rfl; exact rfl; exact rfl; exact rfl; exact T.bod_68; exact (fun w' H => rwithin_ok l.a 0 (tp.n - 1) w'))
        | (refine Goal.loud (o := ⟨some 54, _, _, _, _, _⟩) rfl ?_; apply Loud.call0; exact rfl; exact rfl; exact rfl; exact rfl; exact T.bod_68; exact (fun w' H => rwithin_ok l.b 0 (tp.n - 1) w'))
        | (refine Goal.loud (o := ⟨some 68, _, _, _, _, _⟩) rfl ?_; apply Loud.call0; exact rfl; exact rfl; exact rfl; exact rfl; exact T.bod_68; exact (fun w' H => rwithin_ok l.c0 1 65535 w'))
        | (refine Goal.loud (o := ⟨some 75, _, _, _, _, _⟩) rfl ?_; apply Loud.call0; exact rfl; exact rfl; exact rfl; exact rfl; exact T.bod_68; exact (fun w' H => rwithin_ok l.c1 1 65535 w'))
        | (refine Goal.loud (o := ⟨some 80, _, _, _, _, _⟩) rfl ?_; apply Loud.call0; exact rfl; exact rfl; exact rfl; exact rfl; exact T.bod_68; exact (fun w' H => rwithin_ok l.cap 0 1048576 w'))
        | (refine Goal.loud (o := ⟨some 85, _, _, _, _, _⟩) rfl ?_; apply Loud.call0; exact rfl; exact rfl; exact rfl; exact rfl; exact T.bod_68; exact (fun w' H => rwithin_ok l.dl 1 65536 w'))
        | (refine Goal.loud (o := ⟨some 91, _, _, _, _, _⟩) rfl ?_; apply Loud.call0; exact rfl; exact rfl; exact rfl; exact rfl; exact T.bod_68; exact (fun w' H => rwithin_ok l.gp 0 64 w'))
        | (refine Goal.loud (o := ⟨some 1, _, _, _, _, _⟩) rfl ?_; first | refine Loud.boxA rfl rfl (fun b1 => ?_) | refine Loud.box1 rfl rfl rfl (fun b1 => ?_))
        | (refine Goal.loud (o := ⟨some 4, _, _, _, _, _⟩) rfl ?_; refine Loud.allocA rfl T.inf_50 (fun b4 => ?_))
        | (apply G.move; exact rfl; exact rfl)
        | (apply G.assign; exact rfl; exact rfl)
        | refine Goal.seq (fun _ _ => ?_)
        | refine Goal.next (by assumption) ?_
        | refine Goal.lnil ?_
        | refine Goal.region ?_
        | refine Goal.skip ?_
        | refine Goal.block ?_
        | refine Goal.exit ?_
        | refine Goal.ret ?_
        | refine Goal.then_exit ?_
        | refine Goal.then_ret ?_
        | refine Goal.inBlock_exit ?_
        | refine Goal.inBlock_normal ?_
        | refine Goal.inBlock_ret ?_
        | refine Goal.inBlock_other rfl ?_
        | (apply Goal.condT; exact rfl)
        | (apply Goal.condF; exact rfl)
        | (refine Goal.condD rfl (fun hc => ?_) (fun hc => ?_) <;> first | (exfalso; omega) | contradiction | skip)
        | refine Goal.condB rfl (fun hc => ?_) (fun hc => ?_)
        | refine Goal.guardT rfl rfl ?_
        | refine Goal.guardF rfl rfl rfl rfl ?_
        | refine Goal.guardU rfl rfl rfl ?_
        | (refine Goal.guardD rfl rfl (fun hc => ?_) (fun hc => ?_) <;> first | (exfalso; omega) | contradiction | skip)
        | refine Goal.guardB rfl rfl (fun hc => ?_) (fun hc => ?_)
        | (apply G.fieldAddr; exact rfl; exact rfl; (first | exact T.fld_25_0 | exact T.fld_25_1 | exact T.fld_25_2 | exact T.fld_50_0 | exact T.fld_50_1 | exact T.fld_50_2 | exact T.fld_50_3 | exact T.fld_50_4 | exact T.fld_50_5))
        | (apply G.load; exact rfl; exact rfl; first | exact LoadOK.oldAgg (vs := [.int .i64 l.a, .int .i64 l.b, .int .i64 l.c0, .int .i64 l.c1, .int .i64 l.cap, .int .i64 l.dl, .int .i64 l.gp]) T.agg_50 rfl (fun j v hv => hki j v hv) (by simp) | exact LoadOK.one (by first | exact T.one_3 | exact T.one_22 | exact T.one_23) 0 rfl rfl | exact LoadOK.one (by first | exact T.one_3 | exact T.one_22 | exact T.one_23) 1 rfl rfl | exact LoadOK.one (by first | exact T.one_3 | exact T.one_22 | exact T.one_23) 2 rfl rfl | exact LoadOK.one (by first | exact T.one_3 | exact T.one_22 | exact T.one_23) 3 rfl rfl | exact LoadOK.one (by first | exact T.one_3 | exact T.one_22 | exact T.one_23) 4 rfl rfl | exact LoadOK.agg (vs := [_, _, _, _, _, _, _]) T.agg_50 0 rfl rfl ⟨rfl, rfl, rfl, rfl, rfl, rfl, rfl, trivial⟩ | exact LoadOK.agg (vs := [_, _, _, _, _, _, _]) T.agg_50 1 rfl rfl ⟨rfl, rfl, rfl, rfl, rfl, rfl, rfl, trivial⟩ | exact LoadOK.agg (vs := [_, _, _, _, _, _, _]) T.agg_50 2 rfl rfl ⟨rfl, rfl, rfl, rfl, rfl, rfl, rfl, trivial⟩ | exact LoadOK.agg (vs := [_, _, _, _, _, _, _]) T.agg_50 3 rfl rfl ⟨rfl, rfl, rfl, rfl, rfl, rfl, rfl, trivial⟩ | exact LoadOK.agg (vs := [_, _, _, _, _, _, _]) T.agg_50 4 rfl rfl ⟨rfl, rfl, rfl, rfl, rfl, rfl, rfl, trivial⟩)
        | (apply G.pickT; exact rfl; exact rfl; exact rfl)
        | (apply G.pickF; exact rfl; exact rfl; exact rfl)
        | (apply G.lss; exact rfl; exact rfl; exact rfl)
        | (apply G.gtr; exact rfl; exact rfl; exact rfl)
        | (apply G.eql; exact rfl; exact rfl; exact rfl)
        | (apply G.neq; exact rfl; exact rfl; exact rfl)
        | (apply G.add; exact rfl; exact rfl; exact rfl; exact IntWalk.i64_in _ (by omega))
        | (apply G.sub; exact rfl; exact rfl; exact rfl; exact IntWalk.i64_in _ (by omega))
        | (apply G.notT; exact rfl; exact rfl)
        | (apply G.notF; exact rfl; exact rfl)
        | (refine G.notD rfl rfl ?_)
        | (apply G.notB; exact rfl; exact rfl)
        | (apply G.len; exact rfl; exact rfl; (first | exact T.slc_22 | exact T.slc_23))
        | (refine G.indexAddr1 rfl T.slc_23 T.sz_3 rfl rfl _ rfl (by omega) ?_)
        | (refine G.indexAddr1 rfl T.slc_23 T.sz_3 rfl rfl _ (Int.toNat_of_nonneg (by omega)).symm (by omega) ?_)
        | (refine G.indexAddr rfl T.slc_23 T.sz_50 rfl rfl _ rfl (by omega) ?_)
        | (refine G.indexAddr rfl T.slc_23 T.sz_50 rfl rfl _ (Int.toNat_of_nonneg (by omega)).symm (by omega) ?_)
        | (refine G.indexAddrA rfl T.arr_48 (by first | exact T.sz_3 | exact T.sz_50) rfl rfl _ rfl (by omega) ?_)
        | (refine G.indexAddrA rfl T.arr_48 (by first | exact T.sz_3 | exact T.sz_50) rfl rfl _ (Int.toNat_of_nonneg (by omega)).symm (by omega) ?_)
        | (refine Goal.loud rfl ?_; refine Loud.store0 rfl rfl T.sz_50 rfl rfl rfl (by first | exact Nat.le_of_ble_eq_true rfl | exact Nat.le_refl _ | decide | (simp; omega)) rfl ?_)
        | (refine Goal.loud rfl ?_; refine Loud.store1 rfl rfl T.sz_50 rfl rfl rfl (by first | exact Nat.le_of_ble_eq_true rfl | exact Nat.le_refl _ | decide | (simp; omega)) rfl ?_)
        | (refine Goal.loud rfl ?_; refine Loud.store2 rfl rfl T.sz_50 rfl rfl rfl (by first | exact Nat.le_of_ble_eq_true rfl | exact Nat.le_refl _ | decide | (simp; omega)) rfl ?_)
        | (refine Goal.loud rfl ?_; refine Loud.store3 rfl rfl T.sz_50 rfl rfl rfl (by first | exact Nat.le_of_ble_eq_true rfl | exact Nat.le_refl _ | decide | (simp; omega)) rfl ?_)
        | (refine Goal.loud rfl ?_; refine Loud.store4 rfl rfl T.sz_50 rfl rfl rfl (by first | exact Nat.le_of_ble_eq_true rfl | exact Nat.le_refl _ | decide | (simp; omega)) rfl ?_))
      all_goals first
        | (refine Goal.done (vs := [_]) (by first | exact .inl rfl | exact .inr rfl) Try.results40 ⟨rfl, trivial⟩ rfl (fun w' H => ⟨ret_no (hno fun x => by omega), H.mod⟩))
        | (refine Goal.again (i + 1) ⟨by omega, hyes (by omega)⟩ (by omega) ⟨rfl, rfl, trivial⟩ (fun _ h => h.sub (List.sublist_cons_self _ _)))
    · obtain hil : i = tp.ls.length := by omega
      subst hil
      repeat' (first
        | (refine Goal.loud (o := ⟨some 1, _, _, _, _, _⟩) rfl ?_; first | refine Loud.boxA rfl rfl (fun b1 => ?_) | refine Loud.box1 rfl rfl rfl (fun b1 => ?_))
        | (refine Goal.loud (o := ⟨some 4, _, _, _, _, _⟩) rfl ?_; refine Loud.allocA rfl T.inf_50 (fun b4 => ?_))
        | (apply G.move; exact rfl; exact rfl)
        | (apply G.assign; exact rfl; exact rfl)
        | refine Goal.seq (fun _ _ => ?_)
        | refine Goal.next (by assumption) ?_
        | refine Goal.lnil ?_
        | refine Goal.region ?_
        | refine Goal.skip ?_
        | refine Goal.block ?_
        | refine Goal.exit ?_
        | refine Goal.ret ?_
        | refine Goal.then_exit ?_
        | refine Goal.then_ret ?_
        | refine Goal.inBlock_exit ?_
        | refine Goal.inBlock_normal ?_
        | refine Goal.inBlock_ret ?_
        | refine Goal.inBlock_other rfl ?_
        | (apply Goal.condT; exact rfl)
        | (apply Goal.condF; exact rfl)
        | (refine Goal.condD rfl (fun hc => ?_) (fun hc => ?_) <;> first | (exfalso; omega) | contradiction | skip)
        | refine Goal.condB rfl (fun hc => ?_) (fun hc => ?_)
        | refine Goal.guardT rfl rfl ?_
        | refine Goal.guardF rfl rfl rfl rfl ?_
        | refine Goal.guardU rfl rfl rfl ?_
        | (refine Goal.guardD rfl rfl (fun hc => ?_) (fun hc => ?_) <;> first | (exfalso; omega) | contradiction | skip)
        | refine Goal.guardB rfl rfl (fun hc => ?_) (fun hc => ?_)
        | (apply G.fieldAddr; exact rfl; exact rfl; (first | exact T.fld_25_0 | exact T.fld_25_1 | exact T.fld_25_2 | exact T.fld_50_0 | exact T.fld_50_1 | exact T.fld_50_2 | exact T.fld_50_3 | exact T.fld_50_4 | exact T.fld_50_5))
        | (apply G.load; exact rfl; exact rfl; first | exact LoadOK.one (by first | exact T.one_3 | exact T.one_22 | exact T.one_23) 0 rfl rfl | exact LoadOK.one (by first | exact T.one_3 | exact T.one_22 | exact T.one_23) 1 rfl rfl | exact LoadOK.one (by first | exact T.one_3 | exact T.one_22 | exact T.one_23) 2 rfl rfl | exact LoadOK.one (by first | exact T.one_3 | exact T.one_22 | exact T.one_23) 3 rfl rfl | exact LoadOK.one (by first | exact T.one_3 | exact T.one_22 | exact T.one_23) 4 rfl rfl | exact LoadOK.agg (vs := [_, _, _, _, _, _, _]) T.agg_50 0 rfl rfl ⟨rfl, rfl, rfl, rfl, rfl, rfl, rfl, trivial⟩ | exact LoadOK.agg (vs := [_, _, _, _, _, _, _]) T.agg_50 1 rfl rfl ⟨rfl, rfl, rfl, rfl, rfl, rfl, rfl, trivial⟩ | exact LoadOK.agg (vs := [_, _, _, _, _, _, _]) T.agg_50 2 rfl rfl ⟨rfl, rfl, rfl, rfl, rfl, rfl, rfl, trivial⟩ | exact LoadOK.agg (vs := [_, _, _, _, _, _, _]) T.agg_50 3 rfl rfl ⟨rfl, rfl, rfl, rfl, rfl, rfl, rfl, trivial⟩ | exact LoadOK.agg (vs := [_, _, _, _, _, _, _]) T.agg_50 4 rfl rfl ⟨rfl, rfl, rfl, rfl, rfl, rfl, rfl, trivial⟩)
        | (apply G.pickT; exact rfl; exact rfl; exact rfl)
        | (apply G.pickF; exact rfl; exact rfl; exact rfl)
        | (apply G.lss; exact rfl; exact rfl; exact rfl)
        | (apply G.gtr; exact rfl; exact rfl; exact rfl)
        | (apply G.eql; exact rfl; exact rfl; exact rfl)
        | (apply G.neq; exact rfl; exact rfl; exact rfl)
        | (apply G.add; exact rfl; exact rfl; exact rfl; exact IntWalk.i64_in _ (by omega))
        | (apply G.sub; exact rfl; exact rfl; exact rfl; exact IntWalk.i64_in _ (by omega))
        | (apply G.notT; exact rfl; exact rfl)
        | (apply G.notF; exact rfl; exact rfl)
        | (refine G.notD rfl rfl ?_)
        | (apply G.notB; exact rfl; exact rfl)
        | (apply G.len; exact rfl; exact rfl; (first | exact T.slc_22 | exact T.slc_23))
        | (refine G.indexAddr1 rfl T.slc_23 T.sz_3 rfl rfl _ rfl (by omega) ?_)
        | (refine G.indexAddr1 rfl T.slc_23 T.sz_3 rfl rfl _ (Int.toNat_of_nonneg (by omega)).symm (by omega) ?_)
        | (refine G.indexAddr rfl T.slc_23 T.sz_50 rfl rfl _ rfl (by omega) ?_)
        | (refine G.indexAddr rfl T.slc_23 T.sz_50 rfl rfl _ (Int.toNat_of_nonneg (by omega)).symm (by omega) ?_)
        | (refine G.indexAddrA rfl T.arr_48 (by first | exact T.sz_3 | exact T.sz_50) rfl rfl _ rfl (by omega) ?_)
        | (refine G.indexAddrA rfl T.arr_48 (by first | exact T.sz_3 | exact T.sz_50) rfl rfl _ (Int.toNat_of_nonneg (by omega)).symm (by omega) ?_)
        | (refine Goal.loud rfl ?_; refine Loud.store0 rfl rfl T.sz_50 rfl rfl rfl (by first | exact Nat.le_of_ble_eq_true rfl | exact Nat.le_refl _ | decide | (simp; omega)) rfl ?_)
        | (refine Goal.loud rfl ?_; refine Loud.store1 rfl rfl T.sz_50 rfl rfl rfl (by first | exact Nat.le_of_ble_eq_true rfl | exact Nat.le_refl _ | decide | (simp; omega)) rfl ?_)
        | (refine Goal.loud rfl ?_; refine Loud.store2 rfl rfl T.sz_50 rfl rfl rfl (by first | exact Nat.le_of_ble_eq_true rfl | exact Nat.le_refl _ | decide | (simp; omega)) rfl ?_)
        | (refine Goal.loud rfl ?_; refine Loud.store3 rfl rfl T.sz_50 rfl rfl rfl (by first | exact Nat.le_of_ble_eq_true rfl | exact Nat.le_refl _ | decide | (simp; omega)) rfl ?_)
        | (refine Goal.loud rfl ?_; refine Loud.store4 rfl rfl T.sz_50 rfl rfl rfl (by first | exact Nat.le_of_ble_eq_true rfl | exact Nat.le_refl _ | decide | (simp; omega)) rfl ?_))
      refine Goal.done (vs := [_]) (by first | exact .inl rfl | exact .inr rfl) Try.results40 ⟨rfl, trivial⟩ rfl (fun w' H => ⟨ret_yes ⟨hn0, hovl, by omega, fun l hl => ?_⟩, H.mod⟩)
      obtain ⟨j, hj, rfl⟩ := List.getElem_of_mem hl
      have := hall j (by omega) (by omega)
      rwa [el_get (i := (j : Int)) (by omega)] at this
theorem rarcs_ok (hT : TopR w vo vl tp) (hl : tp.ls.length ≤ 1048576) (hov : tp.ov.length ≤ 140737488355328) : Calls Try.prog 53 #[.agg #[.int .i64 tp.n, vo, vl]] w fun e w' => e = .returned (.int .i64 (if tp.Ok then tp.arcs else 0)) ∧ Mod [] w w' := by
  obtain ⟨ad, c, rfl⟩ := shapeL hT.ls
  by_cases hok : tp.Ok
  · rw [if_pos hok]
    refine Goal.enter (args := [.agg #[.int .i64 tp.n, vo, .slice ad tp.ls.length c]]) Try.func53 rfl Try.ntmps53 rfl (St.nil w) ?_
    repeat' (first
      | (refine Goal.loud (o := ⟨some 4, _, _, _, _, _⟩) rfl ?_; apply Loud.call0; exact rfl; exact rfl; exact rfl; exact rfl; exact T.bod_40; exact (fun w' H => rvalid_ok (hT.keep H.mod) hl hov); rw [decide_eq_true hok])
      | (refine Goal.loud (o := ⟨some 1, _, _, _, _, _⟩) rfl ?_; first | refine Loud.boxA rfl rfl (fun b1 => ?_) | refine Loud.box1 rfl rfl rfl (fun b1 => ?_))
      | (apply G.assign; exact rfl; exact rfl)
      | refine Goal.seq (fun _ _ => ?_)
      | refine Goal.next (by assumption) ?_
      | refine Goal.lnil ?_
      | refine Goal.region ?_
      | refine Goal.skip ?_
      | refine Goal.block ?_
      | refine Goal.exit ?_
      | refine Goal.ret ?_
      | refine Goal.then_exit ?_
      | refine Goal.then_ret ?_
      | refine Goal.inBlock_exit ?_
      | refine Goal.inBlock_normal ?_
      | refine Goal.inBlock_ret ?_
      | refine Goal.inBlock_other rfl ?_
      | (apply Goal.condT; exact rfl)
      | (apply Goal.condF; exact rfl)
      | (refine Goal.condD rfl (fun hc => ?_) (fun hc => ?_) <;> first | (exfalso; omega) | contradiction | skip)
      | refine Goal.condB rfl (fun hc => ?_) (fun hc => ?_)
      | (apply G.fieldAddr; exact rfl; exact rfl; exact T.fld_25_2)
      | (apply G.load; exact rfl; exact rfl; first | exact LoadOK.one T.one_23 0 rfl rfl | exact LoadOK.one T.one_23 1 rfl rfl | exact LoadOK.one T.one_23 2 rfl rfl | exact LoadOK.one T.one_23 3 rfl rfl | exact LoadOK.one T.one_23 4 rfl rfl | exact ag3 T.agg_25 0 rfl rfl rfl rfl | exact ag3 T.agg_25 1 rfl rfl rfl rfl | exact ag3 T.agg_25 2 rfl rfl rfl rfl | exact ag3 T.agg_25 3 rfl rfl rfl rfl | exact ag3 T.agg_25 4 rfl rfl rfl rfl)
      | (apply G.mul; exact rfl; exact rfl; exact rfl; exact IntWalk.i64_in _ (by omega))
      | (apply G.notT; exact rfl; exact rfl)
      | (apply G.notF; exact rfl; exact rfl)
      | (refine G.notD rfl rfl ?_)
      | (apply G.notB; exact rfl; exact rfl)
      | (apply G.len; exact rfl; exact rfl; exact T.slc_23))
    refine Goal.done (vs := [_]) (by first | exact .inl rfl | exact .inr rfl) Try.results53 ⟨rfl, trivial⟩ rfl (fun w' H => ⟨rfl, H.mod⟩)
  · rw [if_neg hok]
    refine Goal.enter (args := [.agg #[.int .i64 tp.n, vo, .slice ad tp.ls.length c]]) Try.func53 rfl Try.ntmps53 rfl (St.nil w) ?_
    repeat' (first
      | (refine Goal.loud (o := ⟨some 4, _, _, _, _, _⟩) rfl ?_; apply Loud.call0; exact rfl; exact rfl; exact rfl; exact rfl; exact T.bod_40; exact (fun w' H => rvalid_ok (hT.keep H.mod) hl hov); rw [decide_eq_false hok])
      | (refine Goal.loud (o := ⟨some 1, _, _, _, _, _⟩) rfl ?_; first | refine Loud.boxA rfl rfl (fun b1 => ?_) | refine Loud.box1 rfl rfl rfl (fun b1 => ?_))
      | (apply G.assign; exact rfl; exact rfl)
      | refine Goal.seq (fun _ _ => ?_)
      | refine Goal.next (by assumption) ?_
      | refine Goal.lnil ?_
      | refine Goal.region ?_
      | refine Goal.skip ?_
      | refine Goal.block ?_
      | refine Goal.exit ?_
      | refine Goal.ret ?_
      | refine Goal.then_exit ?_
      | refine Goal.then_ret ?_
      | refine Goal.inBlock_exit ?_
      | refine Goal.inBlock_normal ?_
      | refine Goal.inBlock_ret ?_
      | refine Goal.inBlock_other rfl ?_
      | (apply Goal.condT; exact rfl)
      | (apply Goal.condF; exact rfl)
      | (refine Goal.condD rfl (fun hc => ?_) (fun hc => ?_) <;> first | (exfalso; omega) | contradiction | skip)
      | refine Goal.condB rfl (fun hc => ?_) (fun hc => ?_)
      | (apply G.fieldAddr; exact rfl; exact rfl; exact T.fld_25_2)
      | (apply G.load; exact rfl; exact rfl; first | exact LoadOK.one T.one_23 0 rfl rfl | exact LoadOK.one T.one_23 1 rfl rfl | exact LoadOK.one T.one_23 2 rfl rfl | exact LoadOK.one T.one_23 3 rfl rfl | exact LoadOK.one T.one_23 4 rfl rfl | exact ag3 T.agg_25 0 rfl rfl rfl rfl | exact ag3 T.agg_25 1 rfl rfl rfl rfl | exact ag3 T.agg_25 2 rfl rfl rfl rfl | exact ag3 T.agg_25 3 rfl rfl rfl rfl | exact ag3 T.agg_25 4 rfl rfl rfl rfl)
      | (apply G.mul; exact rfl; exact rfl; exact rfl; exact IntWalk.i64_in _ (by omega))
      | (apply G.notT; exact rfl; exact rfl)
      | (apply G.notF; exact rfl; exact rfl)
      | (refine G.notD rfl rfl ?_)
      | (apply G.notB; exact rfl; exact rfl)
      | (apply G.len; exact rfl; exact rfl; exact T.slc_23))
    refine Goal.done (vs := [_]) (by first | exact .inl rfl | exact .inr rfl) Try.results53 ⟨rfl, trivial⟩ rfl (fun w' H => ⟨rfl, H.mod⟩)
theorem rtail_ok (hT : TopR w vo vl tp) (ht : tp.Ok) {a : Int} (ha : 0 ≤ a ∧ a < tp.arcs) : Calls Try.prog 25 #[.agg #[.int .i64 tp.n, vo, vl], .int .i64 a] w fun e w' => e = .returned (.int .i64 (tp.tl a)) ∧ Mod [] w w' := by
  obtain ⟨ad, c, rfl⟩ := shapeL hT.ls
  have hl := ht.ln
  have hov : tp.ov.length ≤ 140737488355328 := by have := ht.n; have := ht.ov; omega
  have ha' := ha
  unfold Top.arcs at ha
  obtain ⟨b, o, rfl, hk⟩ := rd_els hT.ls (by omega)
  by_cases h : a % 2 = 0
  · have e : tp.tl a = (el tp.ls (a / 2)).a := by unfold Top.tl; rw [if_pos h]
    rw [e]
    refine Goal.enter (args := [.agg #[.int .i64 tp.n, vo, .slice (some ⟨b, o, none⟩) tp.ls.length c], .int .i64 a]) Try.func25 rfl Try.ntmps25 rfl (St.nil w) ?_
    repeat' (first
      | (refine Goal.loud (o := ⟨some 11, _, _, _, _, _⟩) rfl ?_; apply Loud.call0; exact rfl; exact rfl; exact rfl; exact rfl; exact T.bod_53; exact (fun w' H => rarcs_ok (hT.keep H.mod) (by omega) hov); rw [if_pos ht])
      | (refine Goal.loud (o := ⟨some 2, _, _, _, _, _⟩) rfl ?_; first | refine Loud.boxA rfl rfl (fun b2 => ?_) | refine Loud.box1 rfl rfl rfl (fun b2 => ?_))
      | (apply G.move; exact rfl; exact rfl)
      | (apply G.assign; exact rfl; exact rfl)
      | refine Goal.seq (fun _ _ => ?_)
      | refine Goal.next (by assumption) ?_
      | refine Goal.lnil ?_
      | refine Goal.region ?_
      | refine Goal.skip ?_
      | refine Goal.block ?_
      | refine Goal.exit ?_
      | refine Goal.ret ?_
      | refine Goal.then_exit ?_
      | refine Goal.then_ret ?_
      | refine Goal.inBlock_exit ?_
      | refine Goal.inBlock_normal ?_
      | refine Goal.inBlock_ret ?_
      | refine Goal.inBlock_other rfl ?_
      | (apply Goal.condT; exact rfl)
      | (apply Goal.condF; exact rfl)
      | (refine Goal.condD rfl (fun hc => ?_) (fun hc => ?_) <;> first | (exfalso; omega) | contradiction | skip)
      | refine Goal.condB rfl (fun hc => ?_) (fun hc => ?_)
      | refine Goal.guardT rfl rfl ?_
      | refine Goal.guardF rfl rfl rfl rfl ?_
      | refine Goal.guardU rfl rfl rfl ?_
      | (refine Goal.guardD rfl rfl (fun hc => ?_) (fun hc => ?_) <;> first | (exfalso; omega) | contradiction | skip)
      | refine Goal.guardB rfl rfl (fun hc => ?_) (fun hc => ?_)
      | (apply G.fieldAddr; exact rfl; exact rfl; (first | exact T.fld_25_2 | exact T.fld_50_0 | exact T.fld_50_1))
      | (apply G.load; exact rfl; exact rfl; first | exact LoadOK.old T.one_3 (hk (a / 2) (by omega) (by omega) 0 _ rfl) (by simp) | exact LoadOK.one (by first | exact T.one_3 | exact T.one_23) 0 rfl rfl | exact LoadOK.one (by first | exact T.one_3 | exact T.one_23) 1 rfl rfl | exact LoadOK.one (by first | exact T.one_3 | exact T.one_23) 2 rfl rfl | exact LoadOK.one (by first | exact T.one_3 | exact T.one_23) 3 rfl rfl | exact LoadOK.one (by first | exact T.one_3 | exact T.one_23) 4 rfl rfl | exact ag3 T.agg_25 0 rfl rfl rfl rfl | exact ag3 T.agg_25 1 rfl rfl rfl rfl | exact ag3 T.agg_25 2 rfl rfl rfl rfl | exact ag3 T.agg_25 3 rfl rfl rfl rfl | exact ag3 T.agg_25 4 rfl rfl rfl rfl)
      | (apply G.pickT; exact rfl; exact rfl; exact rfl)
      | (apply G.pickF; exact rfl; exact rfl; exact rfl)
      | (apply G.lss; exact rfl; exact rfl; exact rfl)
      | (apply G.geq; exact rfl; exact rfl; exact rfl)
      | (apply G.eql; exact rfl; exact rfl; exact rfl)
      | (apply G.quo; exact rfl; exact rfl; exact rfl; (first | decide | omega); first | exact IntWalk.i64_quo _ _ (by omega) | exact IntWalk.u8_quo _ _ (by omega))
      | (apply G.rem; exact rfl; exact rfl; exact rfl; (first | decide | omega); exact IntWalk.rem_in _ _ (by omega))
      | (refine G.indexAddr rfl T.slc_23 T.sz_50 rfl rfl _ rfl (by omega) ?_)
      | (refine G.indexAddr rfl T.slc_23 T.sz_50 rfl rfl _ (Int.toNat_of_nonneg (by omega)).symm (by omega) ?_))
    refine Goal.done (vs := [_]) (by first | exact .inl rfl | exact .inr rfl) Try.results25 ⟨rfl, trivial⟩ rfl (fun w' H => ⟨rfl, H.mod⟩)
  · have e : tp.tl a = (el tp.ls (a / 2)).b := by unfold Top.tl; rw [if_neg h]
    rw [e]
    refine Goal.enter (args := [.agg #[.int .i64 tp.n, vo, .slice (some ⟨b, o, none⟩) tp.ls.length c], .int .i64 a]) Try.func25 rfl Try.ntmps25 rfl (St.nil w) ?_
    repeat' (first
      | (refine Goal.loud (o := ⟨some 11, _, _, _, _, _⟩) rfl ?_; apply Loud.call0; exact rfl; exact rfl; exact rfl; exact rfl; exact T.bod_53; exact (fun w' H => rarcs_ok (hT.keep H.mod) (by omega) hov); rw [if_pos ht])
      | (refine Goal.loud (o := ⟨some 2, _, _, _, _, _⟩) rfl ?_; first | refine Loud.boxA rfl rfl (fun b2 => ?_) | refine Loud.box1 rfl rfl rfl (fun b2 => ?_))
      | (apply G.move; exact rfl; exact rfl)
      | (apply G.assign; exact rfl; exact rfl)
      | refine Goal.seq (fun _ _ => ?_)
      | refine Goal.next (by assumption) ?_
      | refine Goal.lnil ?_
      | refine Goal.region ?_
      | refine Goal.skip ?_
      | refine Goal.block ?_
      | refine Goal.exit ?_
      | refine Goal.ret ?_
      | refine Goal.then_exit ?_
      | refine Goal.then_ret ?_
      | refine Goal.inBlock_exit ?_
      | refine Goal.inBlock_normal ?_
      | refine Goal.inBlock_ret ?_
      | refine Goal.inBlock_other rfl ?_
      | (apply Goal.condT; exact rfl)
      | (apply Goal.condF; exact rfl)
      | (refine Goal.condD rfl (fun hc => ?_) (fun hc => ?_) <;> first | (exfalso; omega) | contradiction | skip)
      | refine Goal.condB rfl (fun hc => ?_) (fun hc => ?_)
      | refine Goal.guardT rfl rfl ?_
      | refine Goal.guardF rfl rfl rfl rfl ?_
      | refine Goal.guardU rfl rfl rfl ?_
      | (refine Goal.guardD rfl rfl (fun hc => ?_) (fun hc => ?_) <;> first | (exfalso; omega) | contradiction | skip)
      | refine Goal.guardB rfl rfl (fun hc => ?_) (fun hc => ?_)
      | (apply G.fieldAddr; exact rfl; exact rfl; (first | exact T.fld_25_2 | exact T.fld_50_0 | exact T.fld_50_1))
      | (apply G.load; exact rfl; exact rfl; first | exact LoadOK.old T.one_3 (hk (a / 2) (by omega) (by omega) 1 _ rfl) (by simp) | exact LoadOK.one (by first | exact T.one_3 | exact T.one_23) 0 rfl rfl | exact LoadOK.one (by first | exact T.one_3 | exact T.one_23) 1 rfl rfl | exact LoadOK.one (by first | exact T.one_3 | exact T.one_23) 2 rfl rfl | exact LoadOK.one (by first | exact T.one_3 | exact T.one_23) 3 rfl rfl | exact LoadOK.one (by first | exact T.one_3 | exact T.one_23) 4 rfl rfl | exact ag3 T.agg_25 0 rfl rfl rfl rfl | exact ag3 T.agg_25 1 rfl rfl rfl rfl | exact ag3 T.agg_25 2 rfl rfl rfl rfl | exact ag3 T.agg_25 3 rfl rfl rfl rfl | exact ag3 T.agg_25 4 rfl rfl rfl rfl)
      | (apply G.pickT; exact rfl; exact rfl; exact rfl)
      | (apply G.pickF; exact rfl; exact rfl; exact rfl)
      | (apply G.lss; exact rfl; exact rfl; exact rfl)
      | (apply G.geq; exact rfl; exact rfl; exact rfl)
      | (apply G.eql; exact rfl; exact rfl; exact rfl)
      | (apply G.quo; exact rfl; exact rfl; exact rfl; (first | decide | omega); first | exact IntWalk.i64_quo _ _ (by omega) | exact IntWalk.u8_quo _ _ (by omega))
      | (apply G.rem; exact rfl; exact rfl; exact rfl; (first | decide | omega); exact IntWalk.rem_in _ _ (by omega))
      | (refine G.indexAddr rfl T.slc_23 T.sz_50 rfl rfl _ rfl (by omega) ?_)
      | (refine G.indexAddr rfl T.slc_23 T.sz_50 rfl rfl _ (Int.toNat_of_nonneg (by omega)).symm (by omega) ?_))
    refine Goal.done (vs := [_]) (by first | exact .inl rfl | exact .inr rfl) Try.results25 ⟨rfl, trivial⟩ rfl (fun w' H => ⟨rfl, H.mod⟩)
theorem hd_tl2 {a : Int} (h : 0 ≤ a) : tp.tl (a / 2 * 2 + 1 - a % 2) = tp.hd a := by
  rw [← hd_tl h]
  congr 1
  split <;> omega
theorem rhead_ok (hT : TopR w vo vl tp) (ht : tp.Ok) {a : Int} (ha : 0 ≤ a ∧ a < tp.arcs) : Calls Try.prog 36 #[.agg #[.int .i64 tp.n, vo, vl], .int .i64 a] w fun e w' => e = .returned (.int .i64 (tp.hd a)) ∧ Mod [] w w' := by
  have hl := ht.ln
  have hov : tp.ov.length ≤ 140737488355328 := by have := ht.n; have := ht.ov; omega
  have h2 : 0 ≤ a / 2 * 2 + 1 - a % 2 ∧ a / 2 * 2 + 1 - a % 2 < tp.arcs := by
    unfold Top.arcs at ha ⊢
    omega
  have h3 : a < 4611686018427387904 := by unfold Top.arcs at ha; omega
  refine Goal.enter (args := [.agg #[.int .i64 tp.n, vo, vl], .int .i64 a]) Try.func36 rfl Try.ntmps36 rfl (St.nil w) ?_
  repeat' (first
    | (refine Goal.loud (o := ⟨some 10, _, _, _, _, _⟩) rfl ?_; apply Loud.call0; exact rfl; exact rfl; exact rfl; exact rfl; exact T.bod_53; exact (fun w' H => rarcs_ok (hT.keep H.mod) (by omega) hov); rw [if_pos ht])
    | (refine Goal.loud (o := ⟨some 21, _, _, _, _, _⟩) rfl ?_; apply Loud.call0; exact rfl; exact rfl; exact rfl; exact rfl; exact T.bod_25; exact (fun w' H => rtail_ok (hT.keep H.mod) ht h2))
    | (refine Goal.loud (o := ⟨some 2, _, _, _, _, _⟩) rfl ?_; first | refine Loud.boxA rfl rfl (fun b2 => ?_) | refine Loud.box1 rfl rfl rfl (fun b2 => ?_))
    | (apply G.move; exact rfl; exact rfl)
    | (apply G.assign; exact rfl; exact rfl)
    | refine Goal.seq (fun _ _ => ?_)
    | refine Goal.next (by assumption) ?_
    | refine Goal.lnil ?_
    | refine Goal.region ?_
    | refine Goal.skip ?_
    | refine Goal.block ?_
    | refine Goal.exit ?_
    | refine Goal.ret ?_
    | refine Goal.then_exit ?_
    | refine Goal.then_ret ?_
    | refine Goal.inBlock_exit ?_
    | refine Goal.inBlock_normal ?_
    | refine Goal.inBlock_ret ?_
    | refine Goal.inBlock_other rfl ?_
    | (apply Goal.condT; exact rfl)
    | (apply Goal.condF; exact rfl)
    | (refine Goal.condD rfl (fun hc => ?_) (fun hc => ?_) <;> first | (exfalso; omega) | contradiction | skip)
    | refine Goal.condB rfl (fun hc => ?_) (fun hc => ?_)
    | refine Goal.guardT rfl rfl ?_
    | refine Goal.guardF rfl rfl rfl rfl ?_
    | refine Goal.guardU rfl rfl rfl ?_
    | (refine Goal.guardD rfl rfl (fun hc => ?_) (fun hc => ?_) <;> first | (exfalso; omega) | contradiction | skip)
    | refine Goal.guardB rfl rfl (fun hc => ?_) (fun hc => ?_)
    | (apply G.load; exact rfl; exact rfl; first | exact ag3 T.agg_25 0 rfl rfl rfl rfl | exact ag3 T.agg_25 1 rfl rfl rfl rfl | exact ag3 T.agg_25 2 rfl rfl rfl rfl | exact ag3 T.agg_25 3 rfl rfl rfl rfl | exact ag3 T.agg_25 4 rfl rfl rfl rfl)
    | (apply G.pickT; exact rfl; exact rfl; exact rfl)
    | (apply G.pickF; exact rfl; exact rfl; exact rfl)
    | (apply G.lss; exact rfl; exact rfl; exact rfl)
    | (apply G.geq; exact rfl; exact rfl; exact rfl)
    | (apply G.add; exact rfl; exact rfl; exact rfl; exact IntWalk.i64_in _ (by omega))
    | (apply G.sub; exact rfl; exact rfl; exact rfl; exact IntWalk.i64_in _ (by omega))
    | (apply G.mul; exact rfl; exact rfl; exact rfl; exact IntWalk.i64_in _ (by omega))
    | (apply G.quo; exact rfl; exact rfl; exact rfl; (first | decide | omega); first | exact IntWalk.i64_quo _ _ (by omega) | exact IntWalk.u8_quo _ _ (by omega))
    | (apply G.rem; exact rfl; exact rfl; exact rfl; (first | decide | omega); exact IntWalk.rem_in _ _ (by omega)))
  rw [hd_tl2 ha.1]
  refine Goal.done (vs := [_]) (by first | exact .inl rfl | exact .inr rfl) Try.results36 ⟨rfl, trivial⟩ rfl (fun w' H => ⟨rfl, H.mod⟩)
theorem rcost_ok (hT : TopR w vo vl tp) (ht : tp.Ok) {a : Int} (ha : 0 ≤ a ∧ a < tp.arcs) : Calls Try.prog 37 #[.agg #[.int .i64 tp.n, vo, vl], .int .i64 a] w fun e w' => e = .returned (.int .i64 (tp.co a)) ∧ Mod [] w w' := by
  obtain ⟨ad, c, rfl⟩ := shapeL hT.ls
  have hl := ht.ln
  have hov : tp.ov.length ≤ 140737488355328 := by have := ht.n; have := ht.ov; omega
  have ha' := ha
  unfold Top.arcs at ha
  obtain ⟨b, o, rfl, hk⟩ := rd_els hT.ls (by omega)
  have hco : ∃ j : Nat, (a % 2).toNat = j ∧ (lkc (el tp.ls (a / 2)))[2 + j]? = some (.int .i64 (tp.co a)) := by
    unfold Top.co
    by_cases h : a % 2 = 0
    · exact ⟨0, by omega, by rw [if_pos h]; rfl⟩
    · exact ⟨1, by omega, by rw [if_neg h]; rfl⟩
  obtain ⟨j, hj, hco⟩ := hco
  have hcell := hk (a / 2) (by omega) (by omega) (2 + j) _ hco
  refine Goal.enter (args := [.agg #[.int .i64 tp.n, vo, .slice (some ⟨b, o, none⟩) tp.ls.length c], .int .i64 a]) Try.func37 rfl Try.ntmps37 rfl (St.nil w) ?_
  repeat' (first
    | (refine Goal.loud (o := ⟨some 10, _, _, _, _, _⟩) rfl ?_; apply Loud.call0; exact rfl; exact rfl; exact rfl; exact rfl; exact T.bod_53; exact (fun w' H => rarcs_ok (hT.keep H.mod) (by omega) hov); rw [if_pos ht])
    | (refine Goal.loud (o := ⟨some 2, _, _, _, _, _⟩) rfl ?_; first | refine Loud.boxA rfl rfl (fun b2 => ?_) | refine Loud.box1 rfl rfl rfl (fun b2 => ?_))
    | (apply G.move; exact rfl; exact rfl)
    | (apply G.assign; exact rfl; exact rfl)
    | refine Goal.seq (fun _ _ => ?_)
    | refine Goal.next (by assumption) ?_
    | refine Goal.lnil ?_
    | refine Goal.region ?_
    | refine Goal.skip ?_
    | refine Goal.block ?_
    | refine Goal.exit ?_
    | refine Goal.ret ?_
    | refine Goal.then_exit ?_
    | refine Goal.then_ret ?_
    | refine Goal.inBlock_exit ?_
    | refine Goal.inBlock_normal ?_
    | refine Goal.inBlock_ret ?_
    | refine Goal.inBlock_other rfl ?_
    | (apply Goal.condT; exact rfl)
    | (apply Goal.condF; exact rfl)
    | (refine Goal.condD rfl (fun hc => ?_) (fun hc => ?_) <;> first | (exfalso; omega) | contradiction | skip)
    | refine Goal.condB rfl (fun hc => ?_) (fun hc => ?_)
    | refine Goal.guardT rfl rfl ?_
    | refine Goal.guardF rfl rfl rfl rfl ?_
    | refine Goal.guardU rfl rfl rfl ?_
    | (refine Goal.guardD rfl rfl (fun hc => ?_) (fun hc => ?_) <;> first | (exfalso; omega) | contradiction | skip)
    | refine Goal.guardB rfl rfl (fun hc => ?_) (fun hc => ?_)
    | (apply G.fieldAddr; exact rfl; exact rfl; (first | exact T.fld_25_2 | exact T.fld_50_2))
    | (apply G.load; exact rfl; exact rfl; first | exact LoadOK.old T.one_3 (by rw [hj, Nat.mul_one, Nat.add_assoc]; exact hcell) (by simp) | exact LoadOK.one (by first | exact T.one_3 | exact T.one_23) 0 rfl rfl | exact LoadOK.one (by first | exact T.one_3 | exact T.one_23) 1 rfl rfl | exact LoadOK.one (by first | exact T.one_3 | exact T.one_23) 2 rfl rfl | exact LoadOK.one (by first | exact T.one_3 | exact T.one_23) 3 rfl rfl | exact LoadOK.one (by first | exact T.one_3 | exact T.one_23) 4 rfl rfl | exact ag3 T.agg_25 0 rfl rfl rfl rfl | exact ag3 T.agg_25 1 rfl rfl rfl rfl | exact ag3 T.agg_25 2 rfl rfl rfl rfl | exact ag3 T.agg_25 3 rfl rfl rfl rfl | exact ag3 T.agg_25 4 rfl rfl rfl rfl)
    | (apply G.pickT; exact rfl; exact rfl; exact rfl)
    | (apply G.pickF; exact rfl; exact rfl; exact rfl)
    | (apply G.lss; exact rfl; exact rfl; exact rfl)
    | (apply G.geq; exact rfl; exact rfl; exact rfl)
    | (apply G.quo; exact rfl; exact rfl; exact rfl; (first | decide | omega); first | exact IntWalk.i64_quo _ _ (by omega) | exact IntWalk.u8_quo _ _ (by omega))
    | (apply G.rem; exact rfl; exact rfl; exact rfl; (first | decide | omega); exact IntWalk.rem_in _ _ (by omega))
    | (refine G.indexAddr1 rfl T.slc_23 T.sz_3 rfl rfl _ rfl (by omega) ?_)
    | (refine G.indexAddr1 rfl T.slc_23 T.sz_3 rfl rfl _ (Int.toNat_of_nonneg (by omega)).symm (by omega) ?_)
    | (refine G.indexAddr rfl T.slc_23 T.sz_50 rfl rfl _ rfl (by omega) ?_)
    | (refine G.indexAddr rfl T.slc_23 T.sz_50 rfl rfl _ (Int.toNat_of_nonneg (by omega)).symm (by omega) ?_)
    | (refine G.indexAddrA rfl T.arr_48 (by first | exact T.sz_3 | exact T.sz_50) rfl rfl _ rfl (by omega) ?_)
    | (refine G.indexAddrA rfl T.arr_48 (by first | exact T.sz_3 | exact T.sz_50) rfl rfl _ (Int.toNat_of_nonneg (by omega)).symm (by omega) ?_))
  refine Goal.done (vs := [_]) (by first | exact .inl rfl | exact .inr rfl) Try.results37 ⟨rfl, trivial⟩ rfl (fun w' H => ⟨rfl, H.mod⟩)
theorem rover_ok (hT : TopR w vo vl tp) (ht : tp.Ok) {x : Int} (hx : 0 ≤ x ∧ x < 1048576) : Calls Try.prog 38 #[.agg #[.int .i64 tp.n, vo, vl], .int .i64 x] w fun e w' => e = .returned (.bool (tp.over x)) ∧ Mod [] w w' := by
  obtain ⟨ad, c, rfl⟩ := shapeB hT.ov
  have hl := ht.ln
  have hov : tp.ov.length ≤ 140737488355328 := by have := ht.n; have := ht.ov; omega
  by_cases h : x < tp.ov.length
  · obtain ⟨b, o, rfl, hk⟩ := rd_bools hT.ov (by omega)
    refine Goal.enter (args := [.agg #[.int .i64 tp.n, .slice (some ⟨b, o, none⟩) tp.ov.length c, vl], .int .i64 x]) Try.func38 rfl Try.ntmps38 rfl (St.nil w) ?_
    repeat' (first
      | (refine Goal.loud (o := ⟨some 6, _, _, _, _, _⟩) rfl ?_; apply Loud.call0; exact rfl; exact rfl; exact rfl; exact rfl; exact T.bod_40; exact (fun w' H => rvalid_ok (hT.keep H.mod) (by omega) hov); rw [decide_eq_true ht])
      | (refine Goal.loud (o := ⟨some 2, _, _, _, _, _⟩) rfl ?_; first | refine Loud.boxA rfl rfl (fun b2 => ?_) | refine Loud.box1 rfl rfl rfl (fun b2 => ?_))
      | (apply G.move; exact rfl; exact rfl)
      | (apply G.assign; exact rfl; exact rfl)
      | refine Goal.seq (fun _ _ => ?_)
      | refine Goal.next (by assumption) ?_
      | refine Goal.lnil ?_
      | refine Goal.region ?_
      | refine Goal.skip ?_
      | refine Goal.block ?_
      | refine Goal.exit ?_
      | refine Goal.ret ?_
      | refine Goal.then_exit ?_
      | refine Goal.then_ret ?_
      | refine Goal.inBlock_exit ?_
      | refine Goal.inBlock_normal ?_
      | refine Goal.inBlock_ret ?_
      | refine Goal.inBlock_other rfl ?_
      | (apply Goal.condT; exact rfl)
      | (apply Goal.condF; exact rfl)
      | (refine Goal.condD rfl (fun hc => ?_) (fun hc => ?_) <;> first | (exfalso; omega) | contradiction | skip)
      | refine Goal.condB rfl (fun hc => ?_) (fun hc => ?_)
      | refine Goal.guardT rfl rfl ?_
      | refine Goal.guardF rfl rfl rfl rfl ?_
      | refine Goal.guardU rfl rfl rfl ?_
      | (refine Goal.guardD rfl rfl (fun hc => ?_) (fun hc => ?_) <;> first | (exfalso; omega) | contradiction | skip)
      | refine Goal.guardB rfl rfl (fun hc => ?_) (fun hc => ?_)
      | (apply G.fieldAddr; exact rfl; exact rfl; exact T.fld_25_1)
      | (apply G.load; exact rfl; exact rfl; first | exact LoadOK.old T.one_4 (hk x (by omega) (by omega)) (by simp) | exact LoadOK.one (by first | exact T.one_4 | exact T.one_22) 0 rfl rfl | exact LoadOK.one (by first | exact T.one_4 | exact T.one_22) 1 rfl rfl | exact LoadOK.one (by first | exact T.one_4 | exact T.one_22) 2 rfl rfl | exact LoadOK.one (by first | exact T.one_4 | exact T.one_22) 3 rfl rfl | exact LoadOK.one (by first | exact T.one_4 | exact T.one_22) 4 rfl rfl | exact ag3 T.agg_25 0 rfl rfl rfl rfl | exact ag3 T.agg_25 1 rfl rfl rfl rfl | exact ag3 T.agg_25 2 rfl rfl rfl rfl | exact ag3 T.agg_25 3 rfl rfl rfl rfl | exact ag3 T.agg_25 4 rfl rfl rfl rfl)
      | (apply G.pickT; exact rfl; exact rfl; exact rfl)
      | (apply G.pickF; exact rfl; exact rfl; exact rfl)
      | (apply G.lss; exact rfl; exact rfl; exact rfl)
      | (apply G.geq; exact rfl; exact rfl; exact rfl)
      | (apply G.len; exact rfl; exact rfl; exact T.slc_22)
      | (refine G.indexAddr1 rfl T.slc_22 T.sz_4 rfl rfl _ rfl (by omega) ?_)
      | (refine G.indexAddr1 rfl T.slc_22 T.sz_4 rfl rfl _ (Int.toNat_of_nonneg (by omega)).symm (by omega) ?_))
    refine Goal.done (vs := [_]) (by first | exact .inl rfl | exact .inr rfl) Try.results38 ⟨rfl, trivial⟩ rfl (fun w' H => ⟨rfl, H.mod⟩)
  · have e : tp.over x = false := by
      unfold Top.over ba
      rw [List.getD_eq_getElem?_getD, List.getElem?_eq_none (by omega)]
      rfl
    rw [e]
    refine Goal.enter (args := [.agg #[.int .i64 tp.n, .slice ad tp.ov.length c, vl], .int .i64 x]) Try.func38 rfl Try.ntmps38 rfl (St.nil w) ?_
    repeat' (first
      | (refine Goal.loud (o := ⟨some 6, _, _, _, _, _⟩) rfl ?_; apply Loud.call0; exact rfl; exact rfl; exact rfl; exact rfl; exact T.bod_40; exact (fun w' H => rvalid_ok (hT.keep H.mod) (by omega) hov); rw [decide_eq_true ht])
      | (refine Goal.loud (o := ⟨some 2, _, _, _, _, _⟩) rfl ?_; first | refine Loud.boxA rfl rfl (fun b2 => ?_) | refine Loud.box1 rfl rfl rfl (fun b2 => ?_))
      | (apply G.move; exact rfl; exact rfl)
      | (apply G.assign; exact rfl; exact rfl)
      | refine Goal.seq (fun _ _ => ?_)
      | refine Goal.next (by assumption) ?_
      | refine Goal.lnil ?_
      | refine Goal.region ?_
      | refine Goal.skip ?_
      | refine Goal.block ?_
      | refine Goal.exit ?_
      | refine Goal.ret ?_
      | refine Goal.then_exit ?_
      | refine Goal.then_ret ?_
      | refine Goal.inBlock_exit ?_
      | refine Goal.inBlock_normal ?_
      | refine Goal.inBlock_ret ?_
      | refine Goal.inBlock_other rfl ?_
      | (apply Goal.condT; exact rfl)
      | (apply Goal.condF; exact rfl)
      | (refine Goal.condD rfl (fun hc => ?_) (fun hc => ?_) <;> first | (exfalso; omega) | contradiction | skip)
      | refine Goal.condB rfl (fun hc => ?_) (fun hc => ?_)
      | refine Goal.guardT rfl rfl ?_
      | refine Goal.guardF rfl rfl rfl rfl ?_
      | refine Goal.guardU rfl rfl rfl ?_
      | (refine Goal.guardD rfl rfl (fun hc => ?_) (fun hc => ?_) <;> first | (exfalso; omega) | contradiction | skip)
      | refine Goal.guardB rfl rfl (fun hc => ?_) (fun hc => ?_)
      | (apply G.fieldAddr; exact rfl; exact rfl; exact T.fld_25_1)
      | (apply G.load; exact rfl; exact rfl; first | exact LoadOK.one (by first | exact T.one_4 | exact T.one_22) 0 rfl rfl | exact LoadOK.one (by first | exact T.one_4 | exact T.one_22) 1 rfl rfl | exact LoadOK.one (by first | exact T.one_4 | exact T.one_22) 2 rfl rfl | exact LoadOK.one (by first | exact T.one_4 | exact T.one_22) 3 rfl rfl | exact LoadOK.one (by first | exact T.one_4 | exact T.one_22) 4 rfl rfl | exact ag3 T.agg_25 0 rfl rfl rfl rfl | exact ag3 T.agg_25 1 rfl rfl rfl rfl | exact ag3 T.agg_25 2 rfl rfl rfl rfl | exact ag3 T.agg_25 3 rfl rfl rfl rfl | exact ag3 T.agg_25 4 rfl rfl rfl rfl)
      | (apply G.pickT; exact rfl; exact rfl; exact rfl)
      | (apply G.pickF; exact rfl; exact rfl; exact rfl)
      | (apply G.lss; exact rfl; exact rfl; exact rfl)
      | (apply G.geq; exact rfl; exact rfl; exact rfl)
      | (apply G.len; exact rfl; exact rfl; exact T.slc_22)
      | (refine G.indexAddr1 rfl T.slc_22 T.sz_4 rfl rfl _ rfl (by omega) ?_)
      | (refine G.indexAddr1 rfl T.slc_22 T.sz_4 rfl rfl _ (Int.toNat_of_nonneg (by omega)).symm (by omega) ?_))
    refine Goal.done (vs := [_]) (by first | exact .inl rfl | exact .inr rfl) Try.results38 ⟨rfl, trivial⟩ rfl (fun w' H => ⟨rfl, H.mod⟩)
theorem rtransit_ok (hT : TopR w vo vl tp) (ht : tp.Ok) {x y : Int} (hx : 0 ≤ x ∧ x < 1048576) : Calls Try.prog 79 #[.agg #[.int .i64 tp.n, vo, vl], .int .i64 x, .int .i64 y] w fun e w' => e = .returned (.bool (decide (x = y ∨ tp.over x = false))) ∧ Mod [] w w' := by
  refine Goal.enter (args := [.agg #[.int .i64 tp.n, vo, vl], .int .i64 x, .int .i64 y]) Try.func79 rfl Try.ntmps79 rfl (St.nil w) ?_
  repeat' (first
    | (refine Goal.loud (o := ⟨some 13, _, _, _, _, _⟩) rfl ?_; apply Loud.call0; exact rfl; exact rfl; exact rfl; exact rfl; exact T.bod_38; exact (fun w' H => rover_ok (hT.keep H.mod) ht hx))
    | (refine Goal.loud (o := ⟨some 3, _, _, _, _, _⟩) rfl ?_; first | refine Loud.boxA rfl rfl (fun b3 => ?_) | refine Loud.box1 rfl rfl rfl (fun b3 => ?_))
    | (apply G.move; exact rfl; exact rfl)
    | (apply G.assign; exact rfl; exact rfl)
    | refine Goal.seq (fun _ _ => ?_)
    | refine Goal.next (by assumption) ?_
    | refine Goal.lnil ?_
    | refine Goal.region ?_
    | refine Goal.skip ?_
    | refine Goal.block ?_
    | refine Goal.exit ?_
    | refine Goal.ret ?_
    | refine Goal.then_exit ?_
    | refine Goal.then_ret ?_
    | refine Goal.inBlock_exit ?_
    | refine Goal.inBlock_normal ?_
    | refine Goal.inBlock_ret ?_
    | refine Goal.inBlock_other rfl ?_
    | (apply Goal.condT; exact rfl)
    | (apply Goal.condF; exact rfl)
    | (refine Goal.condD rfl (fun hc => ?_) (fun hc => ?_) <;> first | (exfalso; omega) | contradiction | skip)
    | refine Goal.condB rfl (fun hc => ?_) (fun hc => ?_)
    | refine Goal.guardT rfl rfl ?_
    | refine Goal.guardF rfl rfl rfl rfl ?_
    | refine Goal.guardU rfl rfl rfl ?_
    | (refine Goal.guardD rfl rfl (fun hc => ?_) (fun hc => ?_) <;> first | (exfalso; omega) | contradiction | skip)
    | refine Goal.guardB rfl rfl (fun hc => ?_) (fun hc => ?_)
    | (apply G.load; exact rfl; exact rfl; first | exact ag3 T.agg_25 0 rfl rfl rfl rfl | exact ag3 T.agg_25 1 rfl rfl rfl rfl | exact ag3 T.agg_25 2 rfl rfl rfl rfl | exact ag3 T.agg_25 3 rfl rfl rfl rfl | exact ag3 T.agg_25 4 rfl rfl rfl rfl)
    | (apply G.pickT; exact rfl; exact rfl; exact rfl)
    | (apply G.pickF; exact rfl; exact rfl; exact rfl)
    | (apply G.eql; exact rfl; exact rfl; exact rfl)
    | (apply G.notT; exact rfl; exact rfl)
    | (apply G.notF; exact rfl; exact rfl)
    | (refine G.notD rfl rfl ?_)
    | (apply G.notB; exact rfl; exact rfl))
  all_goals
    refine Goal.done (vs := [_]) (by first | exact .inl rfl | exact .inr rfl) Try.results79 ⟨rfl, trivial⟩ rfl (fun w' H => ⟨ret_bool (by simp [hc]), H.mod⟩)
theorem rup_ok (hd : RdV w vd (bools dn)) {a : Int} (ha : dn.length = 0 ∨ (0 ≤ a ∧ a < dn.length)) (hl : dn.length ≤ 1048576) : Calls Try.prog 26 #[vd, .int .i64 a] w fun e w' => e = .returned (.bool (!ba dn a)) ∧ Mod [] w w' := by
  obtain ⟨ad, c, rfl⟩ := shapeB hd
  by_cases h : dn.length = 0
  · have e : ba dn a = false := by unfold ba; rw [List.length_eq_zero_iff.1 h]; rfl
    rw [e]
    refine Goal.enter (args := [.slice ad dn.length c, .int .i64 a]) Try.func26 rfl Try.ntmps26 rfl (St.nil w) ?_
    repeat' (first
      | (apply G.move; exact rfl; exact rfl)
      | (apply G.assign; exact rfl; exact rfl)
      | refine Goal.seq (fun _ _ => ?_)
      | refine Goal.next (by assumption) ?_
      | refine Goal.lnil ?_
      | refine Goal.region ?_
      | refine Goal.skip ?_
      | refine Goal.block ?_
      | refine Goal.exit ?_
      | refine Goal.ret ?_
      | refine Goal.then_exit ?_
      | refine Goal.then_ret ?_
      | refine Goal.inBlock_exit ?_
      | refine Goal.inBlock_normal ?_
      | refine Goal.inBlock_ret ?_
      | refine Goal.inBlock_other rfl ?_
      | (apply Goal.condT; exact rfl)
      | (apply Goal.condF; exact rfl)
      | (refine Goal.condD rfl (fun hc => ?_) (fun hc => ?_) <;> first | (exfalso; omega) | contradiction | skip)
      | refine Goal.condB rfl (fun hc => ?_) (fun hc => ?_)
      | refine Goal.guardT rfl rfl ?_
      | refine Goal.guardF rfl rfl rfl rfl ?_
      | refine Goal.guardU rfl rfl rfl ?_
      | (refine Goal.guardD rfl rfl (fun hc => ?_) (fun hc => ?_) <;> first | (exfalso; omega) | contradiction | skip)
      | refine Goal.guardB rfl rfl (fun hc => ?_) (fun hc => ?_)
      | (apply G.load; exact rfl; exact rfl; first | exact LoadOK.one T.one_4 0 rfl rfl | exact LoadOK.one T.one_4 1 rfl rfl | exact LoadOK.one T.one_4 2 rfl rfl | exact LoadOK.one T.one_4 3 rfl rfl | exact LoadOK.one T.one_4 4 rfl rfl)
      | (apply G.pickT; exact rfl; exact rfl; exact rfl)
      | (apply G.pickF; exact rfl; exact rfl; exact rfl)
      | (apply G.eql; exact rfl; exact rfl; exact rfl)
      | (apply G.notT; exact rfl; exact rfl)
      | (apply G.notF; exact rfl; exact rfl)
      | (refine G.notD rfl rfl ?_)
      | (apply G.notB; exact rfl; exact rfl)
      | (apply G.len; exact rfl; exact rfl; exact T.slc_22)
      | (refine G.indexAddr1 rfl T.slc_22 T.sz_4 rfl rfl _ rfl (by omega) ?_)
      | (refine G.indexAddr1 rfl T.slc_22 T.sz_4 rfl rfl _ (Int.toNat_of_nonneg (by omega)).symm (by omega) ?_))
    refine Goal.done (vs := [_]) (by first | exact .inl rfl | exact .inr rfl) Try.results26 ⟨rfl, trivial⟩ rfl (fun w' H => ⟨rfl, H.mod⟩)
  · obtain ⟨b, o, rfl, hk⟩ := rd_bools hd (by omega)
    refine Goal.enter (args := [.slice (some ⟨b, o, none⟩) dn.length c, .int .i64 a]) Try.func26 rfl Try.ntmps26 rfl (St.nil w) ?_
    repeat' (first
      | (apply G.move; exact rfl; exact rfl)
      | (apply G.assign; exact rfl; exact rfl)
      | refine Goal.seq (fun _ _ => ?_)
      | refine Goal.next (by assumption) ?_
      | refine Goal.lnil ?_
      | refine Goal.region ?_
      | refine Goal.skip ?_
      | refine Goal.block ?_
      | refine Goal.exit ?_
      | refine Goal.ret ?_
      | refine Goal.then_exit ?_
      | refine Goal.then_ret ?_
      | refine Goal.inBlock_exit ?_
      | refine Goal.inBlock_normal ?_
      | refine Goal.inBlock_ret ?_
      | refine Goal.inBlock_other rfl ?_
      | (apply Goal.condT; exact rfl)
      | (apply Goal.condF; exact rfl)
      | (refine Goal.condD rfl (fun hc => ?_) (fun hc => ?_) <;> first | (exfalso; omega) | contradiction | skip)
      | refine Goal.condB rfl (fun hc => ?_) (fun hc => ?_)
      | refine Goal.guardT rfl rfl ?_
      | refine Goal.guardF rfl rfl rfl rfl ?_
      | refine Goal.guardU rfl rfl rfl ?_
      | (refine Goal.guardD rfl rfl (fun hc => ?_) (fun hc => ?_) <;> first | (exfalso; omega) | contradiction | skip)
      | refine Goal.guardB rfl rfl (fun hc => ?_) (fun hc => ?_)
      | (apply G.load; exact rfl; exact rfl; first | exact LoadOK.old T.one_4 (hk a (by omega) (by omega)) (by simp) | exact LoadOK.one T.one_4 0 rfl rfl | exact LoadOK.one T.one_4 1 rfl rfl | exact LoadOK.one T.one_4 2 rfl rfl | exact LoadOK.one T.one_4 3 rfl rfl | exact LoadOK.one T.one_4 4 rfl rfl)
      | (apply G.pickT; exact rfl; exact rfl; exact rfl)
      | (apply G.pickF; exact rfl; exact rfl; exact rfl)
      | (apply G.eql; exact rfl; exact rfl; exact rfl)
      | (apply G.notT; exact rfl; exact rfl)
      | (apply G.notF; exact rfl; exact rfl)
      | (refine G.notD rfl rfl ?_)
      | (apply G.notB; exact rfl; exact rfl)
      | (apply G.len; exact rfl; exact rfl; exact T.slc_22)
      | (refine G.indexAddr1 rfl T.slc_22 T.sz_4 rfl rfl _ rfl (by omega) ?_)
      | (refine G.indexAddr1 rfl T.slc_22 T.sz_4 rfl rfl _ (Int.toNat_of_nonneg (by omega)).symm (by omega) ?_))
    refine Goal.done (vs := [_]) (by first | exact .inl rfl | exact .inr rfl) Try.results26 ⟨rfl, trivial⟩ rfl (fun w' H => ⟨rfl, H.mod⟩)
theorem rfits_ok (hT : TopR w vo vl tp) (hd : RdV w vd (bools dn)) (hl : tp.ls.length ≤ 1048576) (hov : tp.ov.length ≤ 140737488355328) (hdl : dn.length ≤ 1048576) : Calls Try.prog 22 #[.agg #[.int .i64 tp.n, vo, vl], vd] w fun e w' => e = .returned (.bool (decide (tp.Ok ∧ Fit tp dn))) ∧ Mod [] w w' := by
  obtain ⟨ad, c, rfl⟩ := shapeB hd
  obtain ⟨al, cl, rfl⟩ := shapeL hT.ls
  refine Goal.enter (args := [.agg #[.int .i64 tp.n, vo, .slice al tp.ls.length cl], .slice ad dn.length c]) Try.func22 rfl Try.ntmps22 rfl (St.nil w) ?_
  by_cases hok : tp.Ok
  rotate_left
  · rw [decide_eq_false (fun x => hok x.1)]
    repeat' (first
      | (refine Goal.loud (o := ⟨some 6, _, _, _, _, _⟩) rfl ?_; apply Loud.call0; exact rfl; exact rfl; exact rfl; exact rfl; exact T.bod_40; exact (fun w' H => rvalid_ok (hT.keep H.mod) hl hov); rw [decide_eq_false hok])
      | (refine Goal.loud (o := ⟨some 2, _, _, _, _, _⟩) rfl ?_; first | refine Loud.boxA rfl rfl (fun b2 => ?_) | refine Loud.box1 rfl rfl rfl (fun b2 => ?_))
      | (apply G.move; exact rfl; exact rfl)
      | (apply G.assign; exact rfl; exact rfl)
      | refine Goal.seq (fun _ _ => ?_)
      | refine Goal.next (by assumption) ?_
      | refine Goal.lnil ?_
      | refine Goal.region ?_
      | refine Goal.skip ?_
      | refine Goal.block ?_
      | refine Goal.exit ?_
      | refine Goal.ret ?_
      | refine Goal.then_exit ?_
      | refine Goal.then_ret ?_
      | refine Goal.inBlock_exit ?_
      | refine Goal.inBlock_normal ?_
      | refine Goal.inBlock_ret ?_
      | refine Goal.inBlock_other rfl ?_
      | (apply Goal.condT; exact rfl)
      | (apply Goal.condF; exact rfl)
      | (refine Goal.condD rfl (fun hc => ?_) (fun hc => ?_) <;> first | (exfalso; omega) | contradiction | skip)
      | refine Goal.condB rfl (fun hc => ?_) (fun hc => ?_)
      | refine Goal.guardT rfl rfl ?_
      | refine Goal.guardF rfl rfl rfl rfl ?_
      | refine Goal.guardU rfl rfl rfl ?_
      | (refine Goal.guardD rfl rfl (fun hc => ?_) (fun hc => ?_) <;> first | (exfalso; omega) | contradiction | skip)
      | refine Goal.guardB rfl rfl (fun hc => ?_) (fun hc => ?_)
      | (apply G.fieldAddr; exact rfl; exact rfl; exact T.fld_25_2)
      | (apply G.load; exact rfl; exact rfl; first | exact LoadOK.one T.one_23 0 rfl rfl | exact LoadOK.one T.one_23 1 rfl rfl | exact LoadOK.one T.one_23 2 rfl rfl | exact LoadOK.one T.one_23 3 rfl rfl | exact LoadOK.one T.one_23 4 rfl rfl | exact ag3 T.agg_25 0 rfl rfl rfl rfl | exact ag3 T.agg_25 1 rfl rfl rfl rfl | exact ag3 T.agg_25 2 rfl rfl rfl rfl | exact ag3 T.agg_25 3 rfl rfl rfl rfl | exact ag3 T.agg_25 4 rfl rfl rfl rfl)
      | (apply G.pickT; exact rfl; exact rfl; exact rfl)
      | (apply G.pickF; exact rfl; exact rfl; exact rfl)
      | (apply G.eql; exact rfl; exact rfl; exact rfl)
      | (apply G.mul; exact rfl; exact rfl; exact rfl; exact IntWalk.i64_in _ (by omega))
      | (apply G.len; exact rfl; exact rfl; (first | exact T.slc_22 | exact T.slc_23)))
    refine Goal.done (vs := [_]) (by first | exact .inl rfl | exact .inr rfl) Try.results22 ⟨rfl, trivial⟩ rfl (fun w' H => ⟨rfl, H.mod⟩)
  repeat' (first
    | (refine Goal.loud (o := ⟨some 6, _, _, _, _, _⟩) rfl ?_; apply Loud.call0; exact rfl; exact rfl; exact rfl; exact rfl; exact T.bod_40; exact (fun w' H => rvalid_ok (hT.keep H.mod) hl hov); rw [decide_eq_true hok])
    | (refine Goal.loud (o := ⟨some 2, _, _, _, _, _⟩) rfl ?_; first | refine Loud.boxA rfl rfl (fun b2 => ?_) | refine Loud.box1 rfl rfl rfl (fun b2 => ?_))
    | (apply G.move; exact rfl; exact rfl)
    | (apply G.assign; exact rfl; exact rfl)
    | refine Goal.seq (fun _ _ => ?_)
    | refine Goal.next (by assumption) ?_
    | refine Goal.lnil ?_
    | refine Goal.region ?_
    | refine Goal.skip ?_
    | refine Goal.block ?_
    | refine Goal.exit ?_
    | refine Goal.ret ?_
    | refine Goal.then_exit ?_
    | refine Goal.then_ret ?_
    | refine Goal.inBlock_exit ?_
    | refine Goal.inBlock_normal ?_
    | refine Goal.inBlock_ret ?_
    | refine Goal.inBlock_other rfl ?_
    | (apply Goal.condT; exact rfl)
    | (apply Goal.condF; exact rfl)
    | (refine Goal.condD rfl (fun hc => ?_) (fun hc => ?_) <;> first | (exfalso; omega) | contradiction | skip)
    | refine Goal.condB rfl (fun hc => ?_) (fun hc => ?_)
    | refine Goal.guardT rfl rfl ?_
    | refine Goal.guardF rfl rfl rfl rfl ?_
    | refine Goal.guardU rfl rfl rfl ?_
    | (refine Goal.guardD rfl rfl (fun hc => ?_) (fun hc => ?_) <;> first | (exfalso; omega) | contradiction | skip)
    | refine Goal.guardB rfl rfl (fun hc => ?_) (fun hc => ?_)
    | (apply G.fieldAddr; exact rfl; exact rfl; exact T.fld_25_2)
    | (apply G.load; exact rfl; exact rfl; first | exact LoadOK.one T.one_23 0 rfl rfl | exact LoadOK.one T.one_23 1 rfl rfl | exact LoadOK.one T.one_23 2 rfl rfl | exact LoadOK.one T.one_23 3 rfl rfl | exact LoadOK.one T.one_23 4 rfl rfl | exact ag3 T.agg_25 0 rfl rfl rfl rfl | exact ag3 T.agg_25 1 rfl rfl rfl rfl | exact ag3 T.agg_25 2 rfl rfl rfl rfl | exact ag3 T.agg_25 3 rfl rfl rfl rfl | exact ag3 T.agg_25 4 rfl rfl rfl rfl)
    | (apply G.pickT; exact rfl; exact rfl; exact rfl)
    | (apply G.pickF; exact rfl; exact rfl; exact rfl)
    | (apply G.eql; exact rfl; exact rfl; exact rfl)
    | (apply G.mul; exact rfl; exact rfl; exact rfl; exact IntWalk.i64_in _ (by omega))
    | (apply G.len; exact rfl; exact rfl; (first | exact T.slc_22 | exact T.slc_23)))
  all_goals
    refine Goal.done (vs := [_]) (by first | exact .inl rfl | exact .inr rfl) Try.results22 ⟨rfl, trivial⟩ rfl (fun w' H => ⟨ret_bool (by have e : (tp.Ok ∧ Fit tp dn) ↔ Fit tp dn := ⟨And.right, fun x => ⟨hok, x⟩⟩; simp only [e]; first | exact (decide_eq_true (p := Fit tp dn) (.inl (by omega))).symm | (rw [decide_eq_decide]; unfold Fit Top.arcs; omega)), H.mod⟩)
theorem same_ok {va vb : Value} {la lb : List Int} (ha : RdV w va (ints la)) (hb : RdV w vb (ints lb)) (hal : la.length ≤ 4294967296) (hbl : lb.length ≤ 4294967296) : Calls Try.prog 20 #[va, vb] w fun e w' => e = .returned (.bool (decide (la = lb))) ∧ Mod [] w w' := by
  obtain ⟨aa, ca, rfl, ha'⟩ := id ha
  obtain ⟨ab, cb, rfl, hb'⟩ := id hb
  rw [ints_len] at ha hb
  rw [ints_len, ints_len]
  refine Goal.enter (args := [.slice aa la.length ca, .slice ab lb.length cb]) Try.func20 rfl Try.ntmps20 rfl (St.nil w) ?_
  repeat' (first
    | (apply G.move; exact rfl; exact rfl)
    | (apply G.assign; exact rfl; exact rfl)
    | refine Goal.seq (fun _ _ => ?_)
    | refine Goal.next (by assumption) ?_
    | refine Goal.lnil ?_
    | refine Goal.region ?_
    | refine Goal.skip ?_
    | refine Goal.block ?_
    | refine Goal.exit ?_
    | refine Goal.ret ?_
    | refine Goal.then_exit ?_
    | refine Goal.then_ret ?_
    | refine Goal.inBlock_exit ?_
    | refine Goal.inBlock_normal ?_
    | refine Goal.inBlock_ret ?_
    | refine Goal.inBlock_other rfl ?_
    | (apply Goal.condT; exact rfl)
    | (apply Goal.condF; exact rfl)
    | (refine Goal.condD rfl (fun hc => ?_) (fun hc => ?_) <;> first | (exfalso; omega) | contradiction | skip)
    | refine Goal.condB rfl (fun hc => ?_) (fun hc => ?_)
    | (apply G.load; exact rfl; exact rfl; first | exact LoadOK.one T.one_3 0 rfl rfl | exact LoadOK.one T.one_3 1 rfl rfl | exact LoadOK.one T.one_3 2 rfl rfl | exact LoadOK.one T.one_3 3 rfl rfl | exact LoadOK.one T.one_3 4 rfl rfl)
    | (apply G.lss; exact rfl; exact rfl; exact rfl)
    | (apply G.neq; exact rfl; exact rfl; exact rfl)
    | (apply G.add; exact rfl; exact rfl; exact rfl; exact IntWalk.i64_in _ (by omega))
    | (apply G.len; exact rfl; exact rfl; exact T.slc_30)
    | (refine G.indexAddr1 rfl T.slc_30 T.sz_3 rfl rfl _ rfl (by omega) ?_)
    | (refine G.indexAddr1 rfl T.slc_30 T.sz_3 rfl rfl _ (Int.toNat_of_nonneg (by omega)).symm (by omega) ?_))
  · refine Goal.done (vs := [_]) (by first | exact .inl rfl | exact .inr rfl) Try.results20 ⟨rfl, trivial⟩ rfl (fun w' H => ⟨ret_no fun h => by have := congrArg List.length h; omega, H.mod⟩)
  · refine Goal.loopP (X := Int) (fun x => [(0, .slice aa la.length ca), (1, .slice ab lb.length cb), (5, .int .i64 x)]) (fun _ => [])
      (fun x => (0 ≤ x ∧ x ≤ la.length) ∧ ∀ j : Int, 0 ≤ j → j < x → ia la j = ia lb j) (fun x => (la.length - x).toNat) 0 ⟨rfl, rfl, rfl, trivial⟩ (fun _ h => h) ⟨by omega, fun j j0 j1 => by omega⟩ ?_
    rintro i ⟨hi, hall⟩
    by_cases h : i < la.length
    · obtain ⟨b, o, rfl, hk⟩ := rd_nums ha (by omega)
      obtain ⟨b', o', rfl, hk'⟩ := rd_nums hb (by omega)
      repeat' (first
        | (refine Goal.drawAll (id := 6) 9 T.mixed ?_; all_goals ((refine Goal.takeP (listed' := #[Ya,No,No,No,No,No,No,No,No]) 0 ⟨rfl, by kernel_rfl, by kernel_rfl, by kernel_rfl, by kernel_rfl⟩ rfl (fun _ _ _ _ h => h) (by intro _; exact Run.move rfl) ?_)); all_goals ((refine Goal.takeP (listed' := #[Ya,Ya,No,No,No,No,No,No,No]) 1 ⟨rfl, by kernel_rfl, by kernel_rfl, by kernel_rfl, by kernel_rfl⟩ rfl (fun _ _ _ _ h => h) (by intro _; exact Run.move rfl) ?_)); all_goals ((refine Goal.takeP (listed' := #[Ya,Ya,Ya,No,No,No,No,No,No]) 2 ⟨rfl, by kernel_rfl, by kernel_rfl, by kernel_rfl, by kernel_rfl⟩ rfl (fun _ _ _ _ h => h) (by intro _; first | exact Run.indexAddr1 T.slc_30 T.sz_3 rfl rfl rfl (by omega) | exact Run.indexAddr1 T.slc_30 T.sz_3 rfl rfl (Int.toNat_of_nonneg (by omega)).symm (by omega)) ?_)); all_goals ((refine Goal.takeP (listed' := #[Ya,Ya,Ya,No,Ya,No,No,No,No]) 4 ⟨rfl, by kernel_rfl, by kernel_rfl, by kernel_rfl, by kernel_rfl⟩ rfl (fun _ _ _ _ h => h) (by intro _; exact Run.move rfl) ?_)); all_goals ((refine Goal.takeP (listed' := #[Ya,Ya,Ya,No,Ya,Ya,No,No,No]) 5 ⟨rfl, by kernel_rfl, by kernel_rfl, by kernel_rfl, by kernel_rfl⟩ rfl (fun _ _ _ _ h => h) (by intro _; exact Run.move rfl) ?_)); all_goals ((refine Goal.takeP (listed' := #[Ya,Ya,Ya,No,Ya,Ya,Ya,No,No]) 6 ⟨rfl, by kernel_rfl, by kernel_rfl, by kernel_rfl, by kernel_rfl⟩ rfl (fun _ _ _ _ h => h) (by intro _; first | exact Run.indexAddr1 T.slc_30 T.sz_3 rfl rfl rfl (by omega) | exact Run.indexAddr1 T.slc_30 T.sz_3 rfl rfl (Int.toNat_of_nonneg (by omega)).symm (by omega)) ?_)); all_goals ((refine Goal.take (listed' := #[Ya,Ya,Ya,Ya,Ya,Ya,Ya,No,No]) 3 ⟨rfl, by kernel_rfl, by kernel_rfl, by kernel_rfl, by kernel_rfl, by kernel_rfl⟩ rfl (by (first | exact s0 | exact s1 | exact s2 | exact s3 | exact sd | exact sa | exact sn (by simp))) (fun _ _ _ _ h => h) (by (apply Run.load; exact rfl; first | exact LoadOK.old T.one_3 (hk i (by omega) (by omega)) (by simp) | exact LoadOK.old T.one_3 (hk' i (by omega) (by omega)) (by simp) | exact LoadOK.one T.one_3 0 rfl rfl | exact LoadOK.one T.one_3 1 rfl rfl | exact LoadOK.one T.one_3 2 rfl rfl | exact LoadOK.one T.one_3 3 rfl rfl | exact LoadOK.one T.one_3 4 rfl rfl)) ?_)); all_goals ((refine Goal.take (listed' := #[Ya,Ya,Ya,Ya,Ya,Ya,Ya,Ya,No]) 7 ⟨rfl, by kernel_rfl, by kernel_rfl, by kernel_rfl, by kernel_rfl, by kernel_rfl⟩ rfl (by (first | exact s0 | exact s1 | exact s2 | exact s3 | exact sd | exact sa | exact sn (by simp))) (fun _ _ _ _ h => h) (by (apply Run.load; exact rfl; first | exact LoadOK.old T.one_3 (hk i (by omega) (by omega)) (by simp) | exact LoadOK.old T.one_3 (hk' i (by omega) (by omega)) (by simp) | exact LoadOK.one T.one_3 0 rfl rfl | exact LoadOK.one T.one_3 1 rfl rfl | exact LoadOK.one T.one_3 2 rfl rfl | exact LoadOK.one T.one_3 3 rfl rfl | exact LoadOK.one T.one_3 4 rfl rfl)) ?_)); all_goals ((refine Goal.takeP (listed' := #[Ya,Ya,Ya,Ya,Ya,Ya,Ya,Ya,Ya]) 8 ⟨rfl, by kernel_rfl, by kernel_rfl, by kernel_rfl, by kernel_rfl⟩ rfl (fun _ _ _ _ h => h) (by intro _; first | exact Run.neq rfl rfl) ?_)); all_goals (refine Goal.allUp (by kernel_rfl) ?_))
        | (apply G.move; exact rfl; exact rfl)
        | (apply G.assign; exact rfl; exact rfl)
        | refine Goal.seq (fun _ _ => ?_)
        | refine Goal.next (by assumption) ?_
        | refine Goal.lnil ?_
        | refine Goal.region ?_
        | refine Goal.skip ?_
        | refine Goal.block ?_
        | refine Goal.exit ?_
        | refine Goal.ret ?_
        | refine Goal.then_exit ?_
        | refine Goal.then_ret ?_
        | refine Goal.inBlock_exit ?_
        | refine Goal.inBlock_normal ?_
        | refine Goal.inBlock_ret ?_
        | refine Goal.inBlock_other rfl ?_
        | (apply Goal.condT; exact rfl)
        | (apply Goal.condF; exact rfl)
        | (refine Goal.condD rfl (fun hc => ?_) (fun hc => ?_) <;> first | (exfalso; omega) | contradiction | skip)
        | refine Goal.condB rfl (fun hc => ?_) (fun hc => ?_)
        | (apply G.load; exact rfl; exact rfl; first | exact LoadOK.old T.one_3 (hk i (by omega) (by omega)) (by simp) | exact LoadOK.old T.one_3 (hk' i (by omega) (by omega)) (by simp) | exact LoadOK.one T.one_3 0 rfl rfl | exact LoadOK.one T.one_3 1 rfl rfl | exact LoadOK.one T.one_3 2 rfl rfl | exact LoadOK.one T.one_3 3 rfl rfl | exact LoadOK.one T.one_3 4 rfl rfl)
        | (apply G.lss; exact rfl; exact rfl; exact rfl)
        | (apply G.neq; exact rfl; exact rfl; exact rfl)
        | (apply G.add; exact rfl; exact rfl; exact rfl; exact IntWalk.i64_in _ (by omega))
        | (apply G.len; exact rfl; exact rfl; exact T.slc_30)
        | (refine G.indexAddr1 rfl T.slc_30 T.sz_3 rfl rfl _ rfl (by omega) ?_)
        | (refine G.indexAddr1 rfl T.slc_30 T.sz_3 rfl rfl _ (Int.toNat_of_nonneg (by omega)).symm (by omega) ?_))
      · refine Goal.done (vs := [_]) (by first | exact .inl rfl | exact .inr rfl) Try.results20 ⟨rfl, trivial⟩ rfl (fun w' H => ⟨ret_no fun h => by subst h; exact absurd rfl (by assumption), H.mod⟩)
      · refine Goal.again (i + 1) ⟨by omega, fun j j0 j1 => ?_⟩ (by omega) ⟨rfl, rfl, rfl, trivial⟩ (fun _ h => h)
        by_cases e : j = i
        · subst e; omega
        · exact hall j j0 (by omega)
    · skip
      repeat' (first
        | (apply G.move; exact rfl; exact rfl)
        | (apply G.assign; exact rfl; exact rfl)
        | refine Goal.seq (fun _ _ => ?_)
        | refine Goal.next (by assumption) ?_
        | refine Goal.lnil ?_
        | refine Goal.region ?_
        | refine Goal.skip ?_
        | refine Goal.block ?_
        | refine Goal.exit ?_
        | refine Goal.ret ?_
        | refine Goal.then_exit ?_
        | refine Goal.then_ret ?_
        | refine Goal.inBlock_exit ?_
        | refine Goal.inBlock_normal ?_
        | refine Goal.inBlock_ret ?_
        | refine Goal.inBlock_other rfl ?_
        | (apply Goal.condT; exact rfl)
        | (apply Goal.condF; exact rfl)
        | (refine Goal.condD rfl (fun hc => ?_) (fun hc => ?_) <;> first | (exfalso; omega) | contradiction | skip)
        | refine Goal.condB rfl (fun hc => ?_) (fun hc => ?_)
        | (apply G.load; exact rfl; exact rfl; first | exact LoadOK.one T.one_3 0 rfl rfl | exact LoadOK.one T.one_3 1 rfl rfl | exact LoadOK.one T.one_3 2 rfl rfl | exact LoadOK.one T.one_3 3 rfl rfl | exact LoadOK.one T.one_3 4 rfl rfl)
        | (apply G.lss; exact rfl; exact rfl; exact rfl)
        | (apply G.neq; exact rfl; exact rfl; exact rfl)
        | (apply G.add; exact rfl; exact rfl; exact rfl; exact IntWalk.i64_in _ (by omega))
        | (apply G.len; exact rfl; exact rfl; exact T.slc_30)
        | (refine G.indexAddr1 rfl T.slc_30 T.sz_3 rfl rfl _ rfl (by omega) ?_)
        | (refine G.indexAddr1 rfl T.slc_30 T.sz_3 rfl rfl _ (Int.toNat_of_nonneg (by omega)).symm (by omega) ?_))
      refine Goal.done (vs := [_]) (by first | exact .inl rfl | exact .inr rfl) Try.results20 ⟨rfl, trivial⟩ rfl (fun w' H => ⟨ret_yes (ia_ext (by omega) fun x x0 x1 => hall x x0 (by omega)), H.mod⟩)
end
end Go.Proofs.Ytldoplehchngfaa
