/- Package postconv: Safe; package waypointref27: Safe; package waypointlaw27: square, large, awake. -/
import Derived.Test.YtldoplehchngfaaPcC
namespace Go.Proofs.Ytldoplehchngfaa
open Go.Wf
set_option linter.unusedVariables false
structure SR where
  (r : Bool)
theorem chk_d {tp : Top} {dn : List Bool} {d : Int} (ht : tp.Ok) (hf : Fit tp dn) (h : ¬ (0 ≤ d ∧ d < tp.n)) : chk tp dn [d] = 2 := by
  unfold chk
  rw [if_pos ⟨ht, hf⟩, if_neg (fun h3 => h (h3 d (by simp)))]
section
variable {w : World} {tp : Top} {vo vl vd : Value} {dn : List Bool} {g d : Int}
theorem psafe_bad (hT : TopR w vo vl tp) (hd : RdV w vd (bools dn)) (hl : tp.ls.length ≤ 1048576) (hov : tp.ov.length ≤ 140737488355328) (hdl : dn.length ≤ 1048576) (hc : chk tp dn [d] ≠ 0) : Calls Try.prog 27 #[.agg #[.int .i64 tp.n, vo, vl], vd, .int .i64 g, .int .i64 d] w fun e w' => e = .returned (.bool false) ∧ Mod [] w w' := by
  by_cases ht : tp.Ok
  rotate_left
  · skip
    refine Goal.enter (args := [.agg #[.int .i64 tp.n, vo, vl], vd, .int .i64 g, .int .i64 d]) Try.func27 rfl Try.ntmps27 rfl (St.nil w) ?_
    repeat' (first
      | (refine Goal.loud (o := ⟨some 15, _, _, _, _, _⟩) rfl ?_; apply Loud.call0; exact rfl; exact rfl; exact rfl; exact rfl; exact T.bod_54; exact (fun w' H => valid_ok (hT.keep H.mod) hl hov); rw [decide_eq_false ht])
      | (refine Goal.loud (o := ⟨some 4, _, _, _, _, _⟩) rfl ?_; first | refine Loud.boxA rfl rfl (fun b4 => ?_) | refine Loud.box1 rfl rfl rfl (fun b4 => ?_))
      | (apply G.move; exact rfl; exact rfl)
      | (apply G.assign; exact rfl; exact rfl)
      | refine Goal.seq (fun _ _ => ?_)
      | refine Goal.next (by assumption) ?_
      | refine Goal.lnil ?_
      | refine Goal.region ?_
      | refine Goal.skip ?_
      | refine Goal.block ?_
      | refine Goal.exit ?_
      | refine Goal.ret ?_
      | refine Goal.then_exit ?_
      | refine Goal.then_ret ?_
      | refine Goal.inBlock_exit ?_
      | refine Goal.inBlock_normal ?_
      | refine Goal.inBlock_ret ?_
      | refine Goal.inBlock_other rfl ?_
      | (apply Goal.condT; exact rfl)
      | (apply Goal.condF; exact rfl)
      | (refine Goal.condD rfl (fun hc => ?_) (fun hc => ?_) <;> first | (exfalso; omega) | contradiction | skip)
      | refine Goal.condB rfl (fun hc => ?_) (fun hc => ?_)
      | refine Goal.guardT rfl rfl ?_
      | refine Goal.guardF rfl rfl rfl rfl ?_
      | refine Goal.guardU rfl rfl rfl ?_
      | (refine Goal.guardD rfl rfl (fun hc => ?_) (fun hc => ?_) <;> first | (exfalso; omega) | contradiction | skip)
      | refine Goal.guardB rfl rfl (fun hc => ?_) (fun hc => ?_)
      | (apply G.fieldAddr; exact rfl; exact rfl; exact T.fld_25_0)
      | (apply G.load; exact rfl; exact rfl; first | exact LoadOK.one T.one_3 0 rfl rfl | exact LoadOK.one T.one_3 1 rfl rfl | exact LoadOK.one T.one_3 2 rfl rfl | exact LoadOK.one T.one_3 3 rfl rfl | exact LoadOK.one T.one_3 4 rfl rfl | exact LoadOK.one T.one_3 5 rfl rfl | exact LoadOK.one T.one_3 6 rfl rfl | exact LoadOK.one T.one_3 7 rfl rfl | exact ag3 T.agg_25 0 rfl rfl rfl rfl | exact ag3 T.agg_25 1 rfl rfl rfl rfl | exact ag3 T.agg_25 2 rfl rfl rfl rfl | exact ag3 T.agg_25 3 rfl rfl rfl rfl | exact ag3 T.agg_25 4 rfl rfl rfl rfl | exact ag3 T.agg_25 5 rfl rfl rfl rfl | exact ag3 T.agg_25 6 rfl rfl rfl rfl | exact ag3 T.agg_25 7 rfl rfl rfl rfl)
      | (apply G.pickT; exact rfl; exact rfl; exact rfl)
      | (apply G.pickF; exact rfl; exact rfl; exact rfl)
      | (apply G.lss; exact rfl; exact rfl; exact rfl)
      | (apply G.geq; exact rfl; exact rfl; exact rfl)
      | (apply G.neq; exact rfl; exact rfl; exact rfl)
      | (apply G.add; exact rfl; exact rfl; exact rfl; exact IntWalk.i64_in _ (by omega))
      | (apply G.notT; exact rfl; exact rfl)
      | (apply G.notF; exact rfl; exact rfl)
      | (refine G.notD rfl rfl ?_)
      | (apply G.notB; exact rfl; exact rfl)
      | (apply G.extract; exact rfl; exact rfl; exact rfl)
      | (refine G.indexAddr1 rfl T.slc_30 T.sz_3 rfl rfl _ rfl (by omega) ?_)
      | (refine G.indexAddr1 rfl T.slc_30 T.sz_3 rfl rfl _ (Int.toNat_of_nonneg (by omega)).symm (by omega) ?_))
    refine Goal.done (vs := [_]) (by first | exact .inl rfl | exact .inr rfl) Try.results27 ⟨rfl, trivial⟩ rfl (fun w' H => ⟨rfl, H.mod⟩)
  by_cases hf : Fit tp dn
  rotate_left
  · skip
    refine Goal.enter (args := [.agg #[.int .i64 tp.n, vo, vl], vd, .int .i64 g, .int .i64 d]) Try.func27 rfl Try.ntmps27 rfl (St.nil w) ?_
    repeat' (first
      | (refine Goal.loud (o := ⟨some 15, _, _, _, _, _⟩) rfl ?_; apply Loud.call0; exact rfl; exact rfl; exact rfl; exact rfl; exact T.bod_54; exact (fun w' H => valid_ok (hT.keep H.mod) hl hov); rw [decide_eq_true ht])
      | (refine Goal.loud (o := ⟨some 20, _, _, _, _, _⟩) rfl ?_; apply Loud.call0; exact rfl; exact rfl; exact rfl; exact rfl; exact T.bod_55; exact (fun w' H => fits_ok (hT.keep H.mod) (hd.keep H.mod) hl); rw [decide_eq_false hf])
      | (refine Goal.loud (o := ⟨some 4, _, _, _, _, _⟩) rfl ?_; first | refine Loud.boxA rfl rfl (fun b4 => ?_) | refine Loud.box1 rfl rfl rfl (fun b4 => ?_))
      | (apply G.move; exact rfl; exact rfl)
      | (apply G.assign; exact rfl; exact rfl)
      | refine Goal.seq (fun _ _ => ?_)
      | refine Goal.next (by assumption) ?_
      | refine Goal.lnil ?_
      | refine Goal.region ?_
      | refine Goal.skip ?_
      | refine Goal.block ?_
      | refine Goal.exit ?_
      | refine Goal.ret ?_
      | refine Goal.then_exit ?_
      | refine Goal.then_ret ?_
      | refine Goal.inBlock_exit ?_
      | refine Goal.inBlock_normal ?_
      | refine Goal.inBlock_ret ?_
      | refine Goal.inBlock_other rfl ?_
      | (apply Goal.condT; exact rfl)
      | (apply Goal.condF; exact rfl)
      | (refine Goal.condD rfl (fun hc => ?_) (fun hc => ?_) <;> first | (exfalso; omega) | contradiction | skip)
      | refine Goal.condB rfl (fun hc => ?_) (fun hc => ?_)
      | refine Goal.guardT rfl rfl ?_
      | refine Goal.guardF rfl rfl rfl rfl ?_
      | refine Goal.guardU rfl rfl rfl ?_
      | (refine Goal.guardD rfl rfl (fun hc => ?_) (fun hc => ?_) <;> first | (exfalso; omega) | contradiction | skip)
      | refine Goal.guardB rfl rfl (fun hc => ?_) (fun hc => ?_)
      | (apply G.fieldAddr; exact rfl; exact rfl; exact T.fld_25_0)
      | (apply G.load; exact rfl; exact rfl; first | exact LoadOK.one T.one_3 0 rfl rfl | exact LoadOK.one T.one_3 1 rfl rfl | exact LoadOK.one T.one_3 2 rfl rfl | exact LoadOK.one T.one_3 3 rfl rfl | exact LoadOK.one T.one_3 4 rfl rfl | exact LoadOK.one T.one_3 5 rfl rfl | exact LoadOK.one T.one_3 6 rfl rfl | exact LoadOK.one T.one_3 7 rfl rfl | exact ag3 T.agg_25 0 rfl rfl rfl rfl | exact ag3 T.agg_25 1 rfl rfl rfl rfl | exact ag3 T.agg_25 2 rfl rfl rfl rfl | exact ag3 T.agg_25 3 rfl rfl rfl rfl | exact ag3 T.agg_25 4 rfl rfl rfl rfl | exact ag3 T.agg_25 5 rfl rfl rfl rfl | exact ag3 T.agg_25 6 rfl rfl rfl rfl | exact ag3 T.agg_25 7 rfl rfl rfl rfl)
      | (apply G.pickT; exact rfl; exact rfl; exact rfl)
      | (apply G.pickF; exact rfl; exact rfl; exact rfl)
      | (apply G.lss; exact rfl; exact rfl; exact rfl)
      | (apply G.geq; exact rfl; exact rfl; exact rfl)
      | (apply G.neq; exact rfl; exact rfl; exact rfl)
      | (apply G.add; exact rfl; exact rfl; exact rfl; exact IntWalk.i64_in _ (by omega))
      | (apply G.notT; exact rfl; exact rfl)
      | (apply G.notF; exact rfl; exact rfl)
      | (refine G.notD rfl rfl ?_)
      | (apply G.notB; exact rfl; exact rfl)
      | (apply G.extract; exact rfl; exact rfl; exact rfl)
      | (refine G.indexAddr1 rfl T.slc_30 T.sz_3 rfl rfl _ rfl (by omega) ?_)
      | (refine G.indexAddr1 rfl T.slc_30 T.sz_3 rfl rfl _ (Int.toNat_of_nonneg (by omega)).symm (by omega) ?_))
    refine Goal.done (vs := [_]) (by first | exact .inl rfl | exact .inr rfl) Try.results27 ⟨rfl, trivial⟩ rfl (fun w' H => ⟨rfl, H.mod⟩)
  have hr : ¬ (0 ≤ d ∧ d < tp.n) := fun hr => hc (by unfold chk; rw [if_pos ⟨ht, hf⟩, if_pos (by simpa using hr)])
  refine Goal.enter (args := [.agg #[.int .i64 tp.n, vo, vl], vd, .int .i64 g, .int .i64 d]) Try.func27 rfl Try.ntmps27 rfl (St.nil w) ?_
  repeat' (first
    | (refine Goal.loud (o := ⟨some 15, _, _, _, _, _⟩) rfl ?_; apply Loud.call0; exact rfl; exact rfl; exact rfl; exact rfl; exact T.bod_54; exact (fun w' H => valid_ok (hT.keep H.mod) hl hov); rw [decide_eq_true ht])
    | (refine Goal.loud (o := ⟨some 20, _, _, _, _, _⟩) rfl ?_; apply Loud.call0; exact rfl; exact rfl; exact rfl; exact rfl; exact T.bod_55; exact (fun w' H => fits_ok (hT.keep H.mod) (hd.keep H.mod) hl); rw [decide_eq_true hf])
    | (refine Goal.loud (o := ⟨some 26, _, _, _, _, _⟩) rfl ?_; apply Loud.call0; exact rfl; exact rfl; exact rfl; exact rfl; exact T.bod_56; exact (fun w' H => node_ok d); rw [decide_eq_false hr])
    | (refine Goal.loud (o := ⟨some 4, _, _, _, _, _⟩) rfl ?_; first | refine Loud.boxA rfl rfl (fun b4 => ?_) | refine Loud.box1 rfl rfl rfl (fun b4 => ?_))
    | (apply G.move; exact rfl; exact rfl)
    | (apply G.assign; exact rfl; exact rfl)
    | refine Goal.seq (fun _ _ => ?_)
    | refine Goal.next (by assumption) ?_
    | refine Goal.lnil ?_
    | refine Goal.region ?_
    | refine Goal.skip ?_
    | refine Goal.block ?_
    | refine Goal.exit ?_
    | refine Goal.ret ?_
    | refine Goal.then_exit ?_
    | refine Goal.then_ret ?_
    | refine Goal.inBlock_exit ?_
    | refine Goal.inBlock_normal ?_
    | refine Goal.inBlock_ret ?_
    | refine Goal.inBlock_other rfl ?_
    | (apply Goal.condT; exact rfl)
    | (apply Goal.condF; exact rfl)
    | (refine Goal.condD rfl (fun hc => ?_) (fun hc => ?_) <;> first | (exfalso; omega) | contradiction | skip)
    | refine Goal.condB rfl (fun hc => ?_) (fun hc => ?_)
    | refine Goal.guardT rfl rfl ?_
    | refine Goal.guardF rfl rfl rfl rfl ?_
    | refine Goal.guardU rfl rfl rfl ?_
    | (refine Goal.guardD rfl rfl (fun hc => ?_) (fun hc => ?_) <;> first | (exfalso; omega) | contradiction | skip)
    | refine Goal.guardB rfl rfl (fun hc => ?_) (fun hc => ?_)
    | (apply G.fieldAddr; exact rfl; exact rfl; exact T.fld_25_0)
    | (apply G.load; exact rfl; exact rfl; first | exact LoadOK.one T.one_3 0 rfl rfl | exact LoadOK.one T.one_3 1 rfl rfl | exact LoadOK.one T.one_3 2 rfl rfl | exact LoadOK.one T.one_3 3 rfl rfl | exact LoadOK.one T.one_3 4 rfl rfl | exact LoadOK.one T.one_3 5 rfl rfl | exact LoadOK.one T.one_3 6 rfl rfl | exact LoadOK.one T.one_3 7 rfl rfl | exact ag3 T.agg_25 0 rfl rfl rfl rfl | exact ag3 T.agg_25 1 rfl rfl rfl rfl | exact ag3 T.agg_25 2 rfl rfl rfl rfl | exact ag3 T.agg_25 3 rfl rfl rfl rfl | exact ag3 T.agg_25 4 rfl rfl rfl rfl | exact ag3 T.agg_25 5 rfl rfl rfl rfl | exact ag3 T.agg_25 6 rfl rfl rfl rfl | exact ag3 T.agg_25 7 rfl rfl rfl rfl)
    | (apply G.pickT; exact rfl; exact rfl; exact rfl)
    | (apply G.pickF; exact rfl; exact rfl; exact rfl)
    | (apply G.lss; exact rfl; exact rfl; exact rfl)
    | (apply G.geq; exact rfl; exact rfl; exact rfl)
    | (apply G.neq; exact rfl; exact rfl; exact rfl)
    | (apply G.add; exact rfl; exact rfl; exact rfl; exact IntWalk.i64_in _ (by omega))
    | (apply G.notT; exact rfl; exact rfl)
    | (apply G.notF; exact rfl; exact rfl)
    | (refine G.notD rfl rfl ?_)
    | (apply G.notB; exact rfl; exact rfl)
    | (apply G.extract; exact rfl; exact rfl; exact rfl)
    | (refine G.indexAddr1 rfl T.slc_30 T.sz_3 rfl rfl _ rfl (by omega) ?_)
    | (refine G.indexAddr1 rfl T.slc_30 T.sz_3 rfl rfl _ (Int.toNat_of_nonneg (by omega)).symm (by omega) ?_))
  refine Goal.done (vs := [_]) (by first | exact .inl rfl | exact .inr rfl) Try.results27 ⟨rfl, trivial⟩ rfl (fun w' H => ⟨rfl, H.mod⟩)
theorem rsafe_bad (hT : TopR w vo vl tp) (hd : RdV w vd (bools dn)) (hl : tp.ls.length ≤ 1048576) (hov : tp.ov.length ≤ 140737488355328) (hdl : dn.length ≤ 1048576) (hc : chk tp dn [d] ≠ 0) : Calls Try.prog 28 #[.agg #[.int .i64 tp.n, vo, vl], vd, .int .i64 g, .int .i64 d] w fun e w' => e = .returned (.bool false) ∧ Mod [] w w' := by
  have hbad2 := fun w' (hT : TopR w' vo vl tp) (hd : RdV w' vd (bools dn)) => rdist_bad (d := d) hT hd hl hov hdl hc
  generalize hk2 : chk tp dn [d] = k2 at hbad2 hc
  by_cases h1 : chk tp [] [d] = 0
  · obtain ⟨ht, hf, hr⟩ := chk_zero h1
    replace hr : 0 ≤ d ∧ d < tp.n := hr d (by simp)
    refine Goal.enter (args := [.agg #[.int .i64 tp.n, vo, vl], vd, .int .i64 g, .int .i64 d]) Try.func28 rfl Try.ntmps28 rfl (St.nil w) ?_
    repeat' (first
      | (refine Goal.loud (o := ⟨some 17, _, _, _, _, _⟩) rfl ?_; apply Loud.callN; exact rfl; exact rfl; exact rfl; exact rfl; exact T.bod_24; exact (fun w' H => rdist_ok (dn := []) (hT.keep H.mod) (RdV.nil w') ht hf hr); rintro ⟨bl, l⟩ hl; dsimp only at hl ⊢)
      | (refine Goal.loud (o := ⟨some 24, _, _, _, _, _⟩) rfl ?_; apply Loud.call0; exact rfl; exact rfl; exact rfl; exact rfl; exact T.bod_24; exact (fun w' H => hbad2 w' (hT.keep H.mod) (hd.keep H.mod)))
      | (refine Goal.loud (o := ⟨some 4, _, _, _, _, _⟩) rfl ?_; first | refine Loud.boxA rfl rfl (fun b4 => ?_) | refine Loud.box1 rfl rfl rfl (fun b4 => ?_))
      | (apply G.move; exact rfl; exact rfl)
      | (apply G.assign; exact rfl; exact rfl)
      | refine Goal.seq (fun _ _ => ?_)
      | refine Goal.next (by assumption) ?_
      | refine Goal.lnil ?_
      | refine Goal.region ?_
      | refine Goal.skip ?_
      | refine Goal.block ?_
      | refine Goal.exit ?_
      | refine Goal.ret ?_
      | refine Goal.then_exit ?_
      | refine Goal.then_ret ?_
      | refine Goal.inBlock_exit ?_
      | refine Goal.inBlock_normal ?_
      | refine Goal.inBlock_ret ?_
      | refine Goal.inBlock_other rfl ?_
      | (apply Goal.condT; exact rfl)
      | (apply Goal.condF; exact rfl)
      | (refine Goal.condD rfl (fun hc => ?_) (fun hc => ?_) <;> first | (exfalso; omega) | contradiction | skip)
      | refine Goal.condB rfl (fun hc => ?_) (fun hc => ?_)
      | refine Goal.guardT rfl rfl ?_
      | refine Goal.guardF rfl rfl rfl rfl ?_
      | refine Goal.guardU rfl rfl rfl ?_
      | (refine Goal.guardD rfl rfl (fun hc => ?_) (fun hc => ?_) <;> first | (exfalso; omega) | contradiction | skip)
      | refine Goal.guardB rfl rfl (fun hc => ?_) (fun hc => ?_)
      | (apply G.fieldAddr; exact rfl; exact rfl; exact T.fld_25_0)
      | (apply G.load; exact rfl; exact rfl; first | exact LoadOK.one T.one_3 0 rfl rfl | exact LoadOK.one T.one_3 1 rfl rfl | exact LoadOK.one T.one_3 2 rfl rfl | exact LoadOK.one T.one_3 3 rfl rfl | exact LoadOK.one T.one_3 4 rfl rfl | exact LoadOK.one T.one_3 5 rfl rfl | exact LoadOK.one T.one_3 6 rfl rfl | exact LoadOK.one T.one_3 7 rfl rfl | exact ag3 T.agg_25 0 rfl rfl rfl rfl | exact ag3 T.agg_25 1 rfl rfl rfl rfl | exact ag3 T.agg_25 2 rfl rfl rfl rfl | exact ag3 T.agg_25 3 rfl rfl rfl rfl | exact ag3 T.agg_25 4 rfl rfl rfl rfl | exact ag3 T.agg_25 5 rfl rfl rfl rfl | exact ag3 T.agg_25 6 rfl rfl rfl rfl | exact ag3 T.agg_25 7 rfl rfl rfl rfl)
      | (apply G.pickT; exact rfl; exact rfl; exact rfl)
      | (apply G.pickF; exact rfl; exact rfl; exact rfl)
      | (apply G.lss; exact rfl; exact rfl; exact rfl)
      | (apply G.geq; exact rfl; exact rfl; exact rfl)
      | (apply G.neq; exact rfl; exact rfl; exact rfl)
      | (apply G.add; exact rfl; exact rfl; exact rfl; exact IntWalk.i64_in _ (by omega))
      | (apply G.extract; exact rfl; exact rfl; exact rfl)
      | (refine G.indexAddr1 rfl T.slc_30 T.sz_3 rfl rfl _ rfl (by omega) ?_)
      | (refine G.indexAddr1 rfl T.slc_30 T.sz_3 rfl rfl _ (Int.toNat_of_nonneg (by omega)).symm (by omega) ?_))
    refine Goal.done (vs := [_]) (by first | exact .inl rfl | exact .inr rfl) Try.results28 ⟨rfl, trivial⟩ rfl (fun w' H => ⟨rfl, H.mod⟩)
  · have hbad1 := fun w' (hT : TopR w' vo vl tp) => rdist_bad (dn := []) (d := d) hT (RdV.nil w') hl hov (by decide) h1
    generalize chk tp [] [d] = k1 at hbad1 h1
    refine Goal.enter (args := [.agg #[.int .i64 tp.n, vo, vl], vd, .int .i64 g, .int .i64 d]) Try.func28 rfl Try.ntmps28 rfl (St.nil w) ?_
    repeat' (first
      | (refine Goal.loud (o := ⟨some 17, _, _, _, _, _⟩) rfl ?_; apply Loud.call0; exact rfl; exact rfl; exact rfl; exact rfl; exact T.bod_24; exact (fun w' H => hbad1 w' (hT.keep H.mod)))
      | (refine Goal.loud (o := ⟨some 24, _, _, _, _, _⟩) rfl ?_; apply Loud.call0; exact rfl; exact rfl; exact rfl; exact rfl; exact T.bod_24; exact (fun w' H => hbad2 w' (hT.keep H.mod) (hd.keep H.mod)))
      | (refine Goal.loud (o := ⟨some 4, _, _, _, _, _⟩) rfl ?_; first | refine Loud.boxA rfl rfl (fun b4 => ?_) | refine Loud.box1 rfl rfl rfl (fun b4 => ?_))
      | (apply G.move; exact rfl; exact rfl)
      | (apply G.assign; exact rfl; exact rfl)
      | refine Goal.seq (fun _ _ => ?_)
      | refine Goal.next (by assumption) ?_
      | refine Goal.lnil ?_
      | refine Goal.region ?_
      | refine Goal.skip ?_
      | refine Goal.block ?_
      | refine Goal.exit ?_
      | refine Goal.ret ?_
      | refine Goal.then_exit ?_
      | refine Goal.then_ret ?_
      | refine Goal.inBlock_exit ?_
      | refine Goal.inBlock_normal ?_
      | refine Goal.inBlock_ret ?_
      | refine Goal.inBlock_other rfl ?_
      | (apply Goal.condT; exact rfl)
      | (apply Goal.condF; exact rfl)
      | (refine Goal.condD rfl (fun hc => ?_) (fun hc => ?_) <;> first | (exfalso; omega) | contradiction | skip)
      | refine Goal.condB rfl (fun hc => ?_) (fun hc => ?_)
      | refine Goal.guardT rfl rfl ?_
      | refine Goal.guardF rfl rfl rfl rfl ?_
      | refine Goal.guardU rfl rfl rfl ?_
      | (refine Goal.guardD rfl rfl (fun hc => ?_) (fun hc => ?_) <;> first | (exfalso; omega) | contradiction | skip)
      | refine Goal.guardB rfl rfl (fun hc => ?_) (fun hc => ?_)
      | (apply G.fieldAddr; exact rfl; exact rfl; exact T.fld_25_0)
      | (apply G.load; exact rfl; exact rfl; first | exact LoadOK.one T.one_3 0 rfl rfl | exact LoadOK.one T.one_3 1 rfl rfl | exact LoadOK.one T.one_3 2 rfl rfl | exact LoadOK.one T.one_3 3 rfl rfl | exact LoadOK.one T.one_3 4 rfl rfl | exact LoadOK.one T.one_3 5 rfl rfl | exact LoadOK.one T.one_3 6 rfl rfl | exact LoadOK.one T.one_3 7 rfl rfl | exact ag3 T.agg_25 0 rfl rfl rfl rfl | exact ag3 T.agg_25 1 rfl rfl rfl rfl | exact ag3 T.agg_25 2 rfl rfl rfl rfl | exact ag3 T.agg_25 3 rfl rfl rfl rfl | exact ag3 T.agg_25 4 rfl rfl rfl rfl | exact ag3 T.agg_25 5 rfl rfl rfl rfl | exact ag3 T.agg_25 6 rfl rfl rfl rfl | exact ag3 T.agg_25 7 rfl rfl rfl rfl)
      | (apply G.pickT; exact rfl; exact rfl; exact rfl)
      | (apply G.pickF; exact rfl; exact rfl; exact rfl)
      | (apply G.lss; exact rfl; exact rfl; exact rfl)
      | (apply G.geq; exact rfl; exact rfl; exact rfl)
      | (apply G.neq; exact rfl; exact rfl; exact rfl)
      | (apply G.add; exact rfl; exact rfl; exact rfl; exact IntWalk.i64_in _ (by omega))
      | (apply G.extract; exact rfl; exact rfl; exact rfl)
      | (refine G.indexAddr1 rfl T.slc_30 T.sz_3 rfl rfl _ rfl (by omega) ?_)
      | (refine G.indexAddr1 rfl T.slc_30 T.sz_3 rfl rfl _ (Int.toNat_of_nonneg (by omega)).symm (by omega) ?_))
    refine Goal.done (vs := [_]) (by first | exact .inl rfl | exact .inr rfl) Try.results28 ⟨rfl, trivial⟩ rfl (fun w' H => ⟨rfl, H.mod⟩)
set_option maxHeartbeats 8000000 in
theorem psafe_ok (hT : TopR w vo vl tp) (hd : RdV w vd (bools dn)) (ht : tp.Ok) (hf : Fit tp dn) (hr : 0 ≤ d ∧ d < tp.n) (hdl : dn.length ≤ 1048576) : Calls Try.prog 27 #[.agg #[.int .i64 tp.n, vo, vl], vd, .int .i64 g, .int .i64 d] w fun e w' => ∃ x : SR, SaS tp dn g d x.r ∧ e = .returned (.bool x.r) ∧ St w [] w' [] := by
  have hn := ht.n
  have hln := ht.ln
  have hovl := ht.ov
  refine Goal.enter (args := [.agg #[.int .i64 tp.n, vo, vl], vd, .int .i64 g, .int .i64 d]) Try.func27 rfl Try.ntmps27 rfl (St.nil w) ?_
  repeat' (first
    | (refine Goal.loud (o := ⟨some 15, _, _, _, _, _⟩) rfl ?_; apply Loud.call0; exact rfl; exact rfl; exact rfl; exact rfl; exact T.bod_54; exact (fun w' H => valid_ok (hT.keep H.mod) (by omega) (by omega)); rw [decide_eq_true ht])
    | (refine Goal.loud (o := ⟨some 20, _, _, _, _, _⟩) rfl ?_; apply Loud.call0; exact rfl; exact rfl; exact rfl; exact rfl; exact T.bod_55; exact (fun w' H => fits_ok (hT.keep H.mod) (hd.keep H.mod) (by omega)); rw [decide_eq_true hf])
    | (refine Goal.loud (o := ⟨some 26, _, _, _, _, _⟩) rfl ?_; apply Loud.call0; exact rfl; exact rfl; exact rfl; exact rfl; exact T.bod_56; exact (fun w' H => node_ok d); rw [decide_eq_true hr])
    | (refine Goal.loud (o := ⟨some 32, _, _, _, _, _⟩) rfl ?_; apply Loud.callN; exact rfl; exact rfl; exact rfl; exact rfl; exact T.bod_49; exact (fun w' H => dist_ok (dn := []) (hT.keep H.mod) (RdV.nil w') ht (.inl rfl) hr); rintro ⟨bm, m⟩ hm; dsimp only at hm ⊢)
    | (refine Goal.loud (o := ⟨some 39, _, _, _, _, _⟩) rfl ?_; apply Loud.callN; exact rfl; exact rfl; exact rfl; exact rfl; exact T.bod_49; exact (fun w' H => dist_ok (hT.keep H.mod) (hd.keep H.mod) ht hf hr); rintro ⟨bl, l⟩ hl; dsimp only at hl ⊢)
    | (refine Goal.loud (o := ⟨some 4, _, _, _, _, _⟩) rfl ?_; first | refine Loud.boxA rfl rfl (fun b4 => ?_) | refine Loud.box1 rfl rfl rfl (fun b4 => ?_))
    | (apply G.move; exact rfl; exact rfl)
    | (apply G.assign; exact rfl; exact rfl)
    | refine Goal.seq (fun _ _ => ?_)
    | refine Goal.next (by assumption) ?_
    | refine Goal.lnil ?_
    | refine Goal.region ?_
    | refine Goal.skip ?_
    | refine Goal.block ?_
    | refine Goal.exit ?_
    | refine Goal.ret ?_
    | refine Goal.then_exit ?_
    | refine Goal.then_ret ?_
    | refine Goal.inBlock_exit ?_
    | refine Goal.inBlock_normal ?_
    | refine Goal.inBlock_ret ?_
    | refine Goal.inBlock_other rfl ?_
    | (apply Goal.condT; exact rfl)
    | (apply Goal.condF; exact rfl)
    | (refine Goal.condD rfl (fun hc => ?_) (fun hc => ?_) <;> first | (exfalso; omega) | contradiction | skip)
    | refine Goal.condB rfl (fun hc => ?_) (fun hc => ?_)
    | refine Goal.guardT rfl rfl ?_
    | refine Goal.guardF rfl rfl rfl rfl ?_
    | refine Goal.guardU rfl rfl rfl ?_
    | (refine Goal.guardD rfl rfl (fun hc => ?_) (fun hc => ?_) <;> first | (exfalso; omega) | contradiction | skip)
    | refine Goal.guardB rfl rfl (fun hc => ?_) (fun hc => ?_)
    | (apply G.fieldAddr; exact rfl; exact rfl; exact T.fld_25_0)
    | (apply G.load; exact rfl; exact rfl; first | exact LoadOK.one T.one_3 0 rfl rfl | exact LoadOK.one T.one_3 1 rfl rfl | exact LoadOK.one T.one_3 2 rfl rfl | exact LoadOK.one T.one_3 3 rfl rfl | exact LoadOK.one T.one_3 4 rfl rfl | exact LoadOK.one T.one_3 5 rfl rfl | exact LoadOK.one T.one_3 6 rfl rfl | exact LoadOK.one T.one_3 7 rfl rfl | exact ag3 T.agg_25 0 rfl rfl rfl rfl | exact ag3 T.agg_25 1 rfl rfl rfl rfl | exact ag3 T.agg_25 2 rfl rfl rfl rfl | exact ag3 T.agg_25 3 rfl rfl rfl rfl | exact ag3 T.agg_25 4 rfl rfl rfl rfl | exact ag3 T.agg_25 5 rfl rfl rfl rfl | exact ag3 T.agg_25 6 rfl rfl rfl rfl | exact ag3 T.agg_25 7 rfl rfl rfl rfl)
    | (apply G.pickT; exact rfl; exact rfl; exact rfl)
    | (apply G.pickF; exact rfl; exact rfl; exact rfl)
    | (apply G.lss; exact rfl; exact rfl; exact rfl)
    | (apply G.geq; exact rfl; exact rfl; exact rfl)
    | (apply G.neq; exact rfl; exact rfl; exact rfl)
    | (apply G.add; exact rfl; exact rfl; exact rfl; exact IntWalk.i64_in _ (by omega))
    | (apply G.notT; exact rfl; exact rfl)
    | (apply G.notF; exact rfl; exact rfl)
    | (refine G.notD rfl rfl ?_)
    | (apply G.notB; exact rfl; exact rfl)
    | (apply G.extract; exact rfl; exact rfl; exact rfl)
    | (refine G.indexAddr1 rfl T.slc_30 T.sz_3 rfl rfl _ rfl (by omega) ?_)
    | (refine G.indexAddr1 rfl T.slc_30 T.sz_3 rfl rfl _ (Int.toNat_of_nonneg (by omega)).symm (by omega) ?_))
  have hml := hm.len
  have hll := hl.len
  refine Goal.loopP (X := Int) (fun x => [(2, .int .i64 g), (9, .slice (some ⟨bm, 0, none⟩) m.length m.length), (11, .slice (some ⟨bl, 0, none⟩) l.length l.length), (43, .int .i64 tp.n), (44, .int .i64 x)]) (fun _ => [(bm, .cells (ints m).toArray 3), (bl, .cells (ints l).toArray 3)])
    (fun x => (0 ≤ x ∧ x ≤ tp.n) ∧ ∀ y : Int, 0 ≤ y → y < x → y ≠ g → 0 ≤ ia m y → 0 ≤ ia l y) (fun x => (tp.n - x).toNat) 0 ⟨rfl, rfl, rfl, rfl, rfl, trivial⟩ (fun _ h => h.sub (.cons _ (.refl _))) ⟨by omega, fun y y0 y1 => by omega⟩ ?_
  rintro i ⟨hi, hall⟩
  by_cases h : i < tp.n
  · have hnx : (i ≠ g → 0 ≤ ia m i → 0 ≤ ia l i) → ∀ y : Int, 0 ≤ y → y < i + 1 → y ≠ g → 0 ≤ ia m y → 0 ≤ ia l y := fun hh y y0 y1 => by
      by_cases e : y = i
      · rw [e]; exact hh
      · exact hall y y0 (by omega)
    have hno : ¬ (i ≠ g → 0 ≤ ia m i → 0 ≤ ia l i) → SaS tp dn g d false := fun hh => ⟨m, l, hm, hl, fun h => (by cases h), fun hq => absurd (hq i hi.1 h) hh⟩
    repeat' (first
      | (refine Goal.loud (o := ⟨some 4, _, _, _, _, _⟩) rfl ?_; first | refine Loud.boxA rfl rfl (fun b4 => ?_) | refine Loud.box1 rfl rfl rfl (fun b4 => ?_))
      | (apply G.move; exact rfl; exact rfl)
      | (apply G.assign; exact rfl; exact rfl)
      | refine Goal.seq (fun _ _ => ?_)
      | refine Goal.next (by assumption) ?_
      | refine Goal.lnil ?_
      | refine Goal.region ?_
      | refine Goal.skip ?_
      | refine Goal.block ?_
      | refine Goal.exit ?_
      | refine Goal.ret ?_
      | refine Goal.then_exit ?_
      | refine Goal.then_ret ?_
      | refine Goal.inBlock_exit ?_
      | refine Goal.inBlock_normal ?_
      | refine Goal.inBlock_ret ?_
      | refine Goal.inBlock_other rfl ?_
      | (apply Goal.condT; exact rfl)
      | (apply Goal.condF; exact rfl)
      | (refine Goal.condD rfl (fun hc => ?_) (fun hc => ?_) <;> first | (exfalso; omega) | contradiction | skip)
      | refine Goal.condB rfl (fun hc => ?_) (fun hc => ?_)
      | refine Goal.guardT rfl rfl ?_
      | refine Goal.guardF rfl rfl rfl rfl ?_
      | refine Goal.guardU rfl rfl rfl ?_
      | (refine Goal.guardD rfl rfl (fun hc => ?_) (fun hc => ?_) <;> first | (exfalso; omega) | contradiction | skip)
      | refine Goal.guardB rfl rfl (fun hc => ?_) (fun hc => ?_)
      | (apply G.fieldAddr; exact rfl; exact rfl; exact T.fld_25_0)
      | (apply G.load; exact rfl; exact rfl; first | exact LoadOK.ia (l := m) (i := i) T.one_3 0 rfl (by omega) | exact LoadOK.ia (l := l) (i := i) T.one_3 1 rfl (by omega) | exact LoadOK.one T.one_3 0 rfl rfl | exact LoadOK.one T.one_3 1 rfl rfl | exact LoadOK.one T.one_3 2 rfl rfl | exact LoadOK.one T.one_3 3 rfl rfl | exact LoadOK.one T.one_3 4 rfl rfl | exact LoadOK.one T.one_3 5 rfl rfl | exact LoadOK.one T.one_3 6 rfl rfl | exact LoadOK.one T.one_3 7 rfl rfl | exact ag3 T.agg_25 0 rfl rfl rfl rfl | exact ag3 T.agg_25 1 rfl rfl rfl rfl | exact ag3 T.agg_25 2 rfl rfl rfl rfl | exact ag3 T.agg_25 3 rfl rfl rfl rfl | exact ag3 T.agg_25 4 rfl rfl rfl rfl | exact ag3 T.agg_25 5 rfl rfl rfl rfl | exact ag3 T.agg_25 6 rfl rfl rfl rfl | exact ag3 T.agg_25 7 rfl rfl rfl rfl)
      | (apply G.pickT; exact rfl; exact rfl; exact rfl)
      | (apply G.pickF; exact rfl; exact rfl; exact rfl)
      | (apply G.lss; exact rfl; exact rfl; exact rfl)
      | (apply G.geq; exact rfl; exact rfl; exact rfl)
      | (apply G.neq; exact rfl; exact rfl; exact rfl)
      | (apply G.add; exact rfl; exact rfl; exact rfl; exact IntWalk.i64_in _ (by omega))
      | (apply G.notT; exact rfl; exact rfl)
      | (apply G.notF; exact rfl; exact rfl)
      | (refine G.notD rfl rfl ?_)
      | (apply G.notB; exact rfl; exact rfl)
      | (apply G.extract; exact rfl; exact rfl; exact rfl)
      | (refine G.indexAddr1 rfl T.slc_30 T.sz_3 rfl rfl _ rfl (by omega) ?_)
      | (refine G.indexAddr1 rfl T.slc_30 T.sz_3 rfl rfl _ (Int.toNat_of_nonneg (by omega)).symm (by omega) ?_))
    all_goals first
      | (refine Goal.again (i + 1) ⟨by omega, hnx (by omega)⟩ (by omega) ⟨rfl, rfl, rfl, rfl, rfl, trivial⟩ (fun _ h => h); done)
      | (refine Goal.done (vs := [_]) (by first | exact .inl rfl | exact .inr rfl) Try.results27 ⟨rfl, trivial⟩ rfl (fun w' H => ⟨⟨false⟩, hno (by omega), rfl, ⟨H.mod, trivial, List.nodup_nil, fun _ h => by cases h⟩⟩))
  · obtain rfl : i = tp.n := by omega
    repeat' (first
      | (refine Goal.loud (o := ⟨some 4, _, _, _, _, _⟩) rfl ?_; first | refine Loud.boxA rfl rfl (fun b4 => ?_) | refine Loud.box1 rfl rfl rfl (fun b4 => ?_))
      | (apply G.move; exact rfl; exact rfl)
      | (apply G.assign; exact rfl; exact rfl)
      | refine Goal.seq (fun _ _ => ?_)
      | refine Goal.next (by assumption) ?_
      | refine Goal.lnil ?_
      | refine Goal.region ?_
      | refine Goal.skip ?_
      | refine Goal.block ?_
      | refine Goal.exit ?_
      | refine Goal.ret ?_
      | refine Goal.then_exit ?_
      | refine Goal.then_ret ?_
      | refine Goal.inBlock_exit ?_
      | refine Goal.inBlock_normal ?_
      | refine Goal.inBlock_ret ?_
      | refine Goal.inBlock_other rfl ?_
      | (apply Goal.condT; exact rfl)
      | (apply Goal.condF; exact rfl)
      | (refine Goal.condD rfl (fun hc => ?_) (fun hc => ?_) <;> first | (exfalso; omega) | contradiction | skip)
      | refine Goal.condB rfl (fun hc => ?_) (fun hc => ?_)
      | refine Goal.guardT rfl rfl ?_
      | refine Goal.guardF rfl rfl rfl rfl ?_
      | refine Goal.guardU rfl rfl rfl ?_
      | (refine Goal.guardD rfl rfl (fun hc => ?_) (fun hc => ?_) <;> first | (exfalso; omega) | contradiction | skip)
      | refine Goal.guardB rfl rfl (fun hc => ?_) (fun hc => ?_)
      | (apply G.fieldAddr; exact rfl; exact rfl; exact T.fld_25_0)
      | (apply G.load; exact rfl; exact rfl; first | exact LoadOK.one T.one_3 0 rfl rfl | exact LoadOK.one T.one_3 1 rfl rfl | exact LoadOK.one T.one_3 2 rfl rfl | exact LoadOK.one T.one_3 3 rfl rfl | exact LoadOK.one T.one_3 4 rfl rfl | exact LoadOK.one T.one_3 5 rfl rfl | exact LoadOK.one T.one_3 6 rfl rfl | exact LoadOK.one T.one_3 7 rfl rfl | exact ag3 T.agg_25 0 rfl rfl rfl rfl | exact ag3 T.agg_25 1 rfl rfl rfl rfl | exact ag3 T.agg_25 2 rfl rfl rfl rfl | exact ag3 T.agg_25 3 rfl rfl rfl rfl | exact ag3 T.agg_25 4 rfl rfl rfl rfl | exact ag3 T.agg_25 5 rfl rfl rfl rfl | exact ag3 T.agg_25 6 rfl rfl rfl rfl | exact ag3 T.agg_25 7 rfl rfl rfl rfl)
      | (apply G.pickT; exact rfl; exact rfl; exact rfl)
      | (apply G.pickF; exact rfl; exact rfl; exact rfl)
      | (apply G.lss; exact rfl; exact rfl; exact rfl)
      | (apply G.geq; exact rfl; exact rfl; exact rfl)
      | (apply G.neq; exact rfl; exact rfl; exact rfl)
      | (apply G.add; exact rfl; exact rfl; exact rfl; exact IntWalk.i64_in _ (by omega))
      | (apply G.notT; exact rfl; exact rfl)
      | (apply G.notF; exact rfl; exact rfl)
      | (refine G.notD rfl rfl ?_)
      | (apply G.notB; exact rfl; exact rfl)
      | (apply G.extract; exact rfl; exact rfl; exact rfl)
      | (refine G.indexAddr1 rfl T.slc_30 T.sz_3 rfl rfl _ rfl (by omega) ?_)
      | (refine G.indexAddr1 rfl T.slc_30 T.sz_3 rfl rfl _ (Int.toNat_of_nonneg (by omega)).symm (by omega) ?_))
    refine Goal.done (vs := [_]) (by first | exact .inl rfl | exact .inr rfl) Try.results27 ⟨rfl, trivial⟩ rfl (fun w' H => ⟨⟨true⟩, ⟨m, l, hm, hl, fun _ => hall, fun _ => rfl⟩, rfl, ⟨H.mod, trivial, List.nodup_nil, fun _ h => by cases h⟩⟩)
set_option maxHeartbeats 8000000 in
theorem rsafe_ok (hT : TopR w vo vl tp) (hd : RdV w vd (bools dn)) (ht : tp.Ok) (hf : Fit tp dn) (hr : 0 ≤ d ∧ d < tp.n) : Calls Try.prog 28 #[.agg #[.int .i64 tp.n, vo, vl], vd, .int .i64 g, .int .i64 d] w fun e w' => ∃ x : SR, SaS tp dn g d x.r ∧ e = .returned (.bool x.r) ∧ St w [] w' [] := by
  have hn := ht.n
  have hln := ht.ln
  have hovl := ht.ov
  refine Goal.enter (args := [.agg #[.int .i64 tp.n, vo, vl], vd, .int .i64 g, .int .i64 d]) Try.func28 rfl Try.ntmps28 rfl (St.nil w) ?_
  repeat' (first
    | (refine Goal.loud (o := ⟨some 17, _, _, _, _, _⟩) rfl ?_; apply Loud.callN; exact rfl; exact rfl; exact rfl; exact rfl; exact T.bod_24; exact (fun w' H => rdist_ok (dn := []) (hT.keep H.mod) (RdV.nil w') ht (.inl rfl) hr); rintro ⟨bm, m⟩ hm; dsimp only at hm ⊢)
    | (refine Goal.loud (o := ⟨some 24, _, _, _, _, _⟩) rfl ?_; apply Loud.callN; exact rfl; exact rfl; exact rfl; exact rfl; exact T.bod_24; exact (fun w' H => rdist_ok (hT.keep H.mod) (hd.keep H.mod) ht hf hr); rintro ⟨bl, l⟩ hl; dsimp only at hl ⊢)
    | (refine Goal.loud (o := ⟨some 4, _, _, _, _, _⟩) rfl ?_; first | refine Loud.boxA rfl rfl (fun b4 => ?_) | refine Loud.box1 rfl rfl rfl (fun b4 => ?_))
    | (apply G.move; exact rfl; exact rfl)
    | (apply G.assign; exact rfl; exact rfl)
    | refine Goal.seq (fun _ _ => ?_)
    | refine Goal.next (by assumption) ?_
    | refine Goal.lnil ?_
    | refine Goal.region ?_
    | refine Goal.skip ?_
    | refine Goal.block ?_
    | refine Goal.exit ?_
    | refine Goal.ret ?_
    | refine Goal.then_exit ?_
    | refine Goal.then_ret ?_
    | refine Goal.inBlock_exit ?_
    | refine Goal.inBlock_normal ?_
    | refine Goal.inBlock_ret ?_
    | refine Goal.inBlock_other rfl ?_
    | (apply Goal.condT; exact rfl)
    | (apply Goal.condF; exact rfl)
    | (refine Goal.condD rfl (fun hc => ?_) (fun hc => ?_) <;> first | (exfalso; omega) | contradiction | skip)
    | refine Goal.condB rfl (fun hc => ?_) (fun hc => ?_)
    | refine Goal.guardT rfl rfl ?_
    | refine Goal.guardF rfl rfl rfl rfl ?_
    | refine Goal.guardU rfl rfl rfl ?_
    | (refine Goal.guardD rfl rfl (fun hc => ?_) (fun hc => ?_) <;> first | (exfalso; omega) | contradiction | skip)
    | refine Goal.guardB rfl rfl (fun hc => ?_) (fun hc => ?_)
    | (apply G.fieldAddr; exact rfl; exact rfl; exact T.fld_25_0)
    | (apply G.load; exact rfl; exact rfl; first | exact LoadOK.one T.one_3 0 rfl rfl | exact LoadOK.one T.one_3 1 rfl rfl | exact LoadOK.one T.one_3 2 rfl rfl | exact LoadOK.one T.one_3 3 rfl rfl | exact LoadOK.one T.one_3 4 rfl rfl | exact LoadOK.one T.one_3 5 rfl rfl | exact LoadOK.one T.one_3 6 rfl rfl | exact LoadOK.one T.one_3 7 rfl rfl | exact ag3 T.agg_25 0 rfl rfl rfl rfl | exact ag3 T.agg_25 1 rfl rfl rfl rfl | exact ag3 T.agg_25 2 rfl rfl rfl rfl | exact ag3 T.agg_25 3 rfl rfl rfl rfl | exact ag3 T.agg_25 4 rfl rfl rfl rfl | exact ag3 T.agg_25 5 rfl rfl rfl rfl | exact ag3 T.agg_25 6 rfl rfl rfl rfl | exact ag3 T.agg_25 7 rfl rfl rfl rfl)
    | (apply G.pickT; exact rfl; exact rfl; exact rfl)
    | (apply G.pickF; exact rfl; exact rfl; exact rfl)
    | (apply G.lss; exact rfl; exact rfl; exact rfl)
    | (apply G.geq; exact rfl; exact rfl; exact rfl)
    | (apply G.neq; exact rfl; exact rfl; exact rfl)
    | (apply G.add; exact rfl; exact rfl; exact rfl; exact IntWalk.i64_in _ (by omega))
    | (apply G.extract; exact rfl; exact rfl; exact rfl)
    | (refine G.indexAddr1 rfl T.slc_30 T.sz_3 rfl rfl _ rfl (by omega) ?_)
    | (refine G.indexAddr1 rfl T.slc_30 T.sz_3 rfl rfl _ (Int.toNat_of_nonneg (by omega)).symm (by omega) ?_))
  have hml := hm.len
  have hll := hl.len
  refine Goal.loopP (X := Int) (fun x => [(2, .int .i64 g), (4, .pointer (some ⟨b4, 0, none⟩)), (9, .slice (some ⟨bm, 0, none⟩) m.length m.length), (11, .slice (some ⟨bl, 0, none⟩) l.length l.length), (13, .int .i64 x)]) (fun _ => [(b4, .cells #[.int .i64 tp.n, vo, vl] 25), (bm, .cells (ints m).toArray 3), (bl, .cells (ints l).toArray 3)])
    (fun x => (0 ≤ x ∧ x ≤ tp.n) ∧ ∀ y : Int, 0 ≤ y → y < x → y ≠ g → 0 ≤ ia m y → 0 ≤ ia l y) (fun x => (tp.n - x).toNat) 0 ⟨rfl, rfl, rfl, rfl, rfl, trivial⟩ (fun _ h => h) ⟨by omega, fun y y0 y1 => by omega⟩ ?_
  rintro i ⟨hi, hall⟩
  by_cases h : i < tp.n
  · have hnx : (i ≠ g → 0 ≤ ia m i → 0 ≤ ia l i) → ∀ y : Int, 0 ≤ y → y < i + 1 → y ≠ g → 0 ≤ ia m y → 0 ≤ ia l y := fun hh y y0 y1 => by
      by_cases e : y = i
      · rw [e]; exact hh
      · exact hall y y0 (by omega)
    have hno : ¬ (i ≠ g → 0 ≤ ia m i → 0 ≤ ia l i) → SaS tp dn g d false := fun hh => ⟨m, l, hm, hl, fun h => (by cases h), fun hq => absurd (hq i hi.1 h) hh⟩
    repeat' (first
      | (refine Goal.loud (o := ⟨some 4, _, _, _, _, _⟩) rfl ?_; first | refine Loud.boxA rfl rfl (fun b4 => ?_) | refine Loud.box1 rfl rfl rfl (fun b4 => ?_))
      | (apply G.move; exact rfl; exact rfl)
      | (apply G.assign; exact rfl; exact rfl)
      | refine Goal.seq (fun _ _ => ?_)
      | refine Goal.next (by assumption) ?_
      | refine Goal.lnil ?_
      | refine Goal.region ?_
      | refine Goal.skip ?_
      | refine Goal.block ?_
      | refine Goal.exit ?_
      | refine Goal.ret ?_
      | refine Goal.then_exit ?_
      | refine Goal.then_ret ?_
      | refine Goal.inBlock_exit ?_
      | refine Goal.inBlock_normal ?_
      | refine Goal.inBlock_ret ?_
      | refine Goal.inBlock_other rfl ?_
      | (apply Goal.condT; exact rfl)
      | (apply Goal.condF; exact rfl)
      | (refine Goal.condD rfl (fun hc => ?_) (fun hc => ?_) <;> first | (exfalso; omega) | contradiction | skip)
      | refine Goal.condB rfl (fun hc => ?_) (fun hc => ?_)
      | refine Goal.guardT rfl rfl ?_
      | refine Goal.guardF rfl rfl rfl rfl ?_
      | refine Goal.guardU rfl rfl rfl ?_
      | (refine Goal.guardD rfl rfl (fun hc => ?_) (fun hc => ?_) <;> first | (exfalso; omega) | contradiction | skip)
      | refine Goal.guardB rfl rfl (fun hc => ?_) (fun hc => ?_)
      | (apply G.fieldAddr; exact rfl; exact rfl; exact T.fld_25_0)
      | (apply G.load; exact rfl; exact rfl; first | exact LoadOK.ia (l := m) (i := i) T.one_3 1 rfl (by omega) | exact LoadOK.ia (l := l) (i := i) T.one_3 2 rfl (by omega) | exact LoadOK.one T.one_3 0 rfl rfl | exact LoadOK.one T.one_3 1 rfl rfl | exact LoadOK.one T.one_3 2 rfl rfl | exact LoadOK.one T.one_3 3 rfl rfl | exact LoadOK.one T.one_3 4 rfl rfl | exact LoadOK.one T.one_3 5 rfl rfl | exact LoadOK.one T.one_3 6 rfl rfl | exact LoadOK.one T.one_3 7 rfl rfl | exact ag3 T.agg_25 0 rfl rfl rfl rfl | exact ag3 T.agg_25 1 rfl rfl rfl rfl | exact ag3 T.agg_25 2 rfl rfl rfl rfl | exact ag3 T.agg_25 3 rfl rfl rfl rfl | exact ag3 T.agg_25 4 rfl rfl rfl rfl | exact ag3 T.agg_25 5 rfl rfl rfl rfl | exact ag3 T.agg_25 6 rfl rfl rfl rfl | exact ag3 T.agg_25 7 rfl rfl rfl rfl)
      | (apply G.pickT; exact rfl; exact rfl; exact rfl)
      | (apply G.pickF; exact rfl; exact rfl; exact rfl)
      | (apply G.lss; exact rfl; exact rfl; exact rfl)
      | (apply G.geq; exact rfl; exact rfl; exact rfl)
      | (apply G.neq; exact rfl; exact rfl; exact rfl)
      | (apply G.add; exact rfl; exact rfl; exact rfl; exact IntWalk.i64_in _ (by omega))
      | (apply G.extract; exact rfl; exact rfl; exact rfl)
      | (refine G.indexAddr1 rfl T.slc_30 T.sz_3 rfl rfl _ rfl (by omega) ?_)
      | (refine G.indexAddr1 rfl T.slc_30 T.sz_3 rfl rfl _ (Int.toNat_of_nonneg (by omega)).symm (by omega) ?_))
    all_goals first
      | (refine Goal.again (i + 1) ⟨by omega, hnx (by omega)⟩ (by omega) ⟨rfl, rfl, rfl, rfl, rfl, trivial⟩ (fun _ h => h); done)
      | (refine Goal.done (vs := [_]) (by first | exact .inl rfl | exact .inr rfl) Try.results28 ⟨rfl, trivial⟩ rfl (fun w' H => ⟨⟨false⟩, hno (by omega), rfl, ⟨H.mod, trivial, List.nodup_nil, fun _ h => by cases h⟩⟩))
  · obtain rfl : i = tp.n := by omega
    repeat' (first
      | (refine Goal.loud (o := ⟨some 4, _, _, _, _, _⟩) rfl ?_; first | refine Loud.boxA rfl rfl (fun b4 => ?_) | refine Loud.box1 rfl rfl rfl (fun b4 => ?_))
      | (apply G.move; exact rfl; exact rfl)
      | (apply G.assign; exact rfl; exact rfl)
      | refine Goal.seq (fun _ _ => ?_)
      | refine Goal.next (by assumption) ?_
      | refine Goal.lnil ?_
      | refine Goal.region ?_
      | refine Goal.skip ?_
      | refine Goal.block ?_
      | refine Goal.exit ?_
      | refine Goal.ret ?_
      | refine Goal.then_exit ?_
      | refine Goal.then_ret ?_
      | refine Goal.inBlock_exit ?_
      | refine Goal.inBlock_normal ?_
      | refine Goal.inBlock_ret ?_
      | refine Goal.inBlock_other rfl ?_
      | (apply Goal.condT; exact rfl)
      | (apply Goal.condF; exact rfl)
      | (refine Goal.condD rfl (fun hc => ?_) (fun hc => ?_) <;> first | (exfalso; omega) | contradiction | skip)
      | refine Goal.condB rfl (fun hc => ?_) (fun hc => ?_)
      | refine Goal.guardT rfl rfl ?_
      | refine Goal.guardF rfl rfl rfl rfl ?_
      | refine Goal.guardU rfl rfl rfl ?_
      | (refine Goal.guardD rfl rfl (fun hc => ?_) (fun hc => ?_) <;> first | (exfalso; omega) | contradiction | skip)
      | refine Goal.guardB rfl rfl (fun hc => ?_) (fun hc => ?_)
      | (apply G.fieldAddr; exact rfl; exact rfl; exact T.fld_25_0)
      | (apply G.load; exact rfl; exact rfl; first | exact LoadOK.one T.one_3 0 rfl rfl | exact LoadOK.one T.one_3 1 rfl rfl | exact LoadOK.one T.one_3 2 rfl rfl | exact LoadOK.one T.one_3 3 rfl rfl | exact LoadOK.one T.one_3 4 rfl rfl | exact LoadOK.one T.one_3 5 rfl rfl | exact LoadOK.one T.one_3 6 rfl rfl | exact LoadOK.one T.one_3 7 rfl rfl | exact ag3 T.agg_25 0 rfl rfl rfl rfl | exact ag3 T.agg_25 1 rfl rfl rfl rfl | exact ag3 T.agg_25 2 rfl rfl rfl rfl | exact ag3 T.agg_25 3 rfl rfl rfl rfl | exact ag3 T.agg_25 4 rfl rfl rfl rfl | exact ag3 T.agg_25 5 rfl rfl rfl rfl | exact ag3 T.agg_25 6 rfl rfl rfl rfl | exact ag3 T.agg_25 7 rfl rfl rfl rfl)
      | (apply G.pickT; exact rfl; exact rfl; exact rfl)
      | (apply G.pickF; exact rfl; exact rfl; exact rfl)
      | (apply G.lss; exact rfl; exact rfl; exact rfl)
      | (apply G.geq; exact rfl; exact rfl; exact rfl)
      | (apply G.neq; exact rfl; exact rfl; exact rfl)
      | (apply G.add; exact rfl; exact rfl; exact rfl; exact IntWalk.i64_in _ (by omega))
      | (apply G.extract; exact rfl; exact rfl; exact rfl)
      | (refine G.indexAddr1 rfl T.slc_30 T.sz_3 rfl rfl _ rfl (by omega) ?_)
      | (refine G.indexAddr1 rfl T.slc_30 T.sz_3 rfl rfl _ (Int.toNat_of_nonneg (by omega)).symm (by omega) ?_))
    refine Goal.done (vs := [_]) (by first | exact .inl rfl | exact .inr rfl) Try.results28 ⟨rfl, trivial⟩ rfl (fun w' H => ⟨⟨true⟩, ⟨m, l, hm, hl, fun _ => hall, fun _ => rfl⟩, rfl, ⟨H.mod, trivial, List.nodup_nil, fun _ h => by cases h⟩⟩)
end
end Go.Proofs.Ytldoplehchngfaa
