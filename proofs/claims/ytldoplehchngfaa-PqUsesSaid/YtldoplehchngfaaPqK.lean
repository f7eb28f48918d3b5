/- Package waypointref26: Uses of what is out of range; package waypointlaw26: PqUses. -/
import Derived.Test.YtldoplehchngfaaPqG
import Derived.Test.YtldoplehchngfaaPcU
namespace Go.Proofs.Ytldoplehchngfaa
open Go.Wf
set_option linter.unusedVariables false
section
variable {w : World} {tp : Top} {dn : List Bool} {vo vl vd : Value} {x y : Int}
theorem ruses_bad (hT : TopR w vo vl tp) (hd : RdV w vd (bools dn)) (hl : tp.ls.length ≤ 1048576) (hov : tp.ov.length ≤ 140737488355328) (hdl : dn.length ≤ 1048576) (hc : ¬ ((tp.Ok ∧ Fit tp dn) ∧ (0 ≤ x ∧ x < tp.n) ∧ (0 ≤ y ∧ y < tp.n))) :
    Calls Try.prog 23 #[.agg #[.int .i64 tp.n, vo, vl], vd, .int .i64 x, .int .i64 y] w fun e w' => e = .returned (.bool false) ∧ Mod [] w w' := by
  by_cases hk : tp.Ok ∧ Fit tp dn
  rotate_left
  · skip
    refine Goal.enter (args := [.agg #[.int .i64 tp.n, vo, vl], vd, .int .i64 x, .int .i64 y]) Try.func23 rfl Try.ntmps23 rfl (St.nil w) ?_
    repeat' (first
      | (refine Goal.loud (o := ⟨some 16, _, _, _, _, _⟩) rfl ?_; apply Loud.call0; exact rfl; exact rfl; exact rfl; exact rfl; exact T.bod_22; exact (fun w' H => rfits_ok (hT.keep H.mod) (hd.keep H.mod) hl hov hdl); rw [decide_eq_false hk])
      | (refine Goal.loud (o := ⟨some 4, _, _, _, _, _⟩) rfl ?_; first | refine Loud.boxA rfl rfl (fun b4 => ?_) | refine Loud.box1 rfl rfl rfl (fun b4 => ?_))
      | (apply G.move; exact rfl; exact rfl)
      | (apply G.assign; exact rfl; exact rfl)
      | refine Goal.seq (fun _ _ => ?_)
      | refine Goal.next (by assumption) ?_
      | refine Goal.lnil ?_
      | refine Goal.region ?_
      | refine Goal.skip ?_
      | refine Goal.block ?_
      | refine Goal.exit ?_
      | refine Goal.ret ?_
      | refine Goal.then_exit ?_
      | refine Goal.then_ret ?_
      | refine Goal.inBlock_exit ?_
      | refine Goal.inBlock_normal ?_
      | refine Goal.inBlock_ret ?_
      | refine Goal.inBlock_other rfl ?_
      | (apply Goal.condT; exact rfl)
      | (apply Goal.condF; exact rfl)
      | (refine Goal.condD rfl (fun hc => ?_) (fun hc => ?_) <;> first | (exfalso; omega) | contradiction | skip)
      | refine Goal.condB rfl (fun hc => ?_) (fun hc => ?_)
      | refine Goal.guardT rfl rfl ?_
      | refine Goal.guardF rfl rfl rfl rfl ?_
      | refine Goal.guardU rfl rfl rfl ?_
      | (refine Goal.guardD rfl rfl (fun hc => ?_) (fun hc => ?_) <;> first | (exfalso; omega) | contradiction | skip)
      | refine Goal.guardB rfl rfl (fun hc => ?_) (fun hc => ?_)
      | (apply G.fieldAddr; exact rfl; exact rfl; (first | exact T.fld_25_0 | exact T.fld_25_2))
      | (apply G.load; exact rfl; exact rfl; first | exact LoadOK.one (by first | exact T.one_3 | exact T.one_23) 0 rfl rfl | exact LoadOK.one (by first | exact T.one_3 | exact T.one_23) 1 rfl rfl | exact LoadOK.one (by first | exact T.one_3 | exact T.one_23) 2 rfl rfl | exact LoadOK.one (by first | exact T.one_3 | exact T.one_23) 3 rfl rfl | exact LoadOK.one (by first | exact T.one_3 | exact T.one_23) 4 rfl rfl | exact LoadOK.one (by first | exact T.one_3 | exact T.one_23) 5 rfl rfl | exact LoadOK.one (by first | exact T.one_3 | exact T.one_23) 6 rfl rfl | exact LoadOK.one (by first | exact T.one_3 | exact T.one_23) 7 rfl rfl | exact ag3 T.agg_25 0 rfl rfl rfl rfl | exact ag3 T.agg_25 1 rfl rfl rfl rfl | exact ag3 T.agg_25 2 rfl rfl rfl rfl | exact ag3 T.agg_25 3 rfl rfl rfl rfl | exact ag3 T.agg_25 4 rfl rfl rfl rfl | exact ag3 T.agg_25 5 rfl rfl rfl rfl | exact ag3 T.agg_25 6 rfl rfl rfl rfl | exact ag3 T.agg_25 7 rfl rfl rfl rfl)
      | (apply G.pickT; exact rfl; exact rfl; exact rfl)
      | (apply G.pickF; exact rfl; exact rfl; exact rfl)
      | (apply G.lss; exact rfl; exact rfl; exact rfl)
      | (apply G.geq; exact rfl; exact rfl; exact rfl)
      | (apply G.add; exact rfl; exact rfl; exact rfl; exact IntWalk.i64_in _ (by omega))
      | (apply G.mul; exact rfl; exact rfl; exact rfl; exact IntWalk.i64_in _ (by omega))
      | (apply G.notT; exact rfl; exact rfl)
      | (apply G.notF; exact rfl; exact rfl)
      | (refine G.notD rfl rfl ?_)
      | (apply G.notB; exact rfl; exact rfl)
      | (apply G.extract; exact rfl; exact rfl; exact rfl)
      | (apply G.len; exact rfl; exact rfl; exact T.slc_23))
    refine Goal.done (vs := [_]) (by first | exact .inl rfl | exact .inr rfl) Try.results23 ⟨rfl, trivial⟩ rfl (fun w' H => ⟨rfl, H.mod⟩)
  have hc2 : ¬ ((0 ≤ x ∧ x < tp.n) ∧ (0 ≤ y ∧ y < tp.n)) := fun h => hc ⟨hk, h⟩
  refine Goal.enter (args := [.agg #[.int .i64 tp.n, vo, vl], vd, .int .i64 x, .int .i64 y]) Try.func23 rfl Try.ntmps23 rfl (St.nil w) ?_
  repeat' (first
    | (refine Goal.loud (o := ⟨some 16, _, _, _, _, _⟩) rfl ?_; apply Loud.call0; exact rfl; exact rfl; exact rfl; exact rfl; exact T.bod_22; exact (fun w' H => rfits_ok (hT.keep H.mod) (hd.keep H.mod) hl hov hdl); rw [decide_eq_true hk])
    | (refine Goal.loud (o := ⟨some 4, _, _, _, _, _⟩) rfl ?_; first | refine Loud.boxA rfl rfl (fun b4 => ?_) | refine Loud.box1 rfl rfl rfl (fun b4 => ?_))
    | (apply G.move; exact rfl; exact rfl)
    | (apply G.assign; exact rfl; exact rfl)
    | refine Goal.seq (fun _ _ => ?_)
    | refine Goal.next (by assumption) ?_
    | refine Goal.lnil ?_
    | refine Goal.region ?_
    | refine Goal.skip ?_
    | refine Goal.block ?_
    | refine Goal.exit ?_
    | refine Goal.ret ?_
    | refine Goal.then_exit ?_
    | refine Goal.then_ret ?_
    | refine Goal.inBlock_exit ?_
    | refine Goal.inBlock_normal ?_
    | refine Goal.inBlock_ret ?_
    | refine Goal.inBlock_other rfl ?_
    | (apply Goal.condT; exact rfl)
    | (apply Goal.condF; exact rfl)
    | (refine Goal.condD rfl (fun hc => ?_) (fun hc => ?_) <;> first | (exfalso; omega) | contradiction | skip)
    | refine Goal.condB rfl (fun hc => ?_) (fun hc => ?_)
    | refine Goal.guardT rfl rfl ?_
    | refine Goal.guardF rfl rfl rfl rfl ?_
    | refine Goal.guardU rfl rfl rfl ?_
    | (refine Goal.guardD rfl rfl (fun hc => ?_) (fun hc => ?_) <;> first | (exfalso; omega) | contradiction | skip)
    | refine Goal.guardB rfl rfl (fun hc => ?_) (fun hc => ?_)
    | (apply G.fieldAddr; exact rfl; exact rfl; (first | exact T.fld_25_0 | exact T.fld_25_2))
    | (apply G.load; exact rfl; exact rfl; first | exact LoadOK.one (by first | exact T.one_3 | exact T.one_23) 0 rfl rfl | exact LoadOK.one (by first | exact T.one_3 | exact T.one_23) 1 rfl rfl | exact LoadOK.one (by first | exact T.one_3 | exact T.one_23) 2 rfl rfl | exact LoadOK.one (by first | exact T.one_3 | exact T.one_23) 3 rfl rfl | exact LoadOK.one (by first | exact T.one_3 | exact T.one_23) 4 rfl rfl | exact LoadOK.one (by first | exact T.one_3 | exact T.one_23) 5 rfl rfl | exact LoadOK.one (by first | exact T.one_3 | exact T.one_23) 6 rfl rfl | exact LoadOK.one (by first | exact T.one_3 | exact T.one_23) 7 rfl rfl | exact ag3 T.agg_25 0 rfl rfl rfl rfl | exact ag3 T.agg_25 1 rfl rfl rfl rfl | exact ag3 T.agg_25 2 rfl rfl rfl rfl | exact ag3 T.agg_25 3 rfl rfl rfl rfl | exact ag3 T.agg_25 4 rfl rfl rfl rfl | exact ag3 T.agg_25 5 rfl rfl rfl rfl | exact ag3 T.agg_25 6 rfl rfl rfl rfl | exact ag3 T.agg_25 7 rfl rfl rfl rfl)
    | (apply G.pickT; exact rfl; exact rfl; exact rfl)
    | (apply G.pickF; exact rfl; exact rfl; exact rfl)
    | (apply G.lss; exact rfl; exact rfl; exact rfl)
    | (apply G.geq; exact rfl; exact rfl; exact rfl)
    | (apply G.add; exact rfl; exact rfl; exact rfl; exact IntWalk.i64_in _ (by omega))
    | (apply G.mul; exact rfl; exact rfl; exact rfl; exact IntWalk.i64_in _ (by omega))
    | (apply G.notT; exact rfl; exact rfl)
    | (apply G.notF; exact rfl; exact rfl)
    | (refine G.notD rfl rfl ?_)
    | (apply G.notB; exact rfl; exact rfl)
    | (apply G.extract; exact rfl; exact rfl; exact rfl)
    | (apply G.len; exact rfl; exact rfl; exact T.slc_23))
  all_goals
    refine Goal.done (vs := [_]) (by first | exact .inl rfl | exact .inr rfl) Try.results23 ⟨rfl, trivial⟩ rfl (fun w' H => ⟨rfl, H.mod⟩)
set_option maxHeartbeats 8000000 in
theorem law26_uses (x y : Int) (hT : TopR w vo vl tp) (hd : RdV w vd (bools dn)) (hov : tp.ov.length ≤ 140737488355328) : Calls Try.prog 13 #[.agg #[.int .i64 tp.n, vo, vl, vd, .int .i64 x, .int .i64 y]] w fun e w' => e = .returned (.bool true) ∧ Mod [] w w' := by
  obtain ⟨ao, co, rfl⟩ := shapeB hT.ov
  obtain ⟨al, cl, rfl⟩ := shapeL hT.ls
  obtain ⟨ad, cd, rfl⟩ := shapeB hd
  by_cases hlg : 12 < tp.n ∨ 20 < tp.ls.length ∨ 60 < dn.length
  · skip
    refine Goal.enter (args := [.agg #[.int .i64 tp.n, .slice ao tp.ov.length co, .slice al tp.ls.length cl, .slice ad dn.length cd, .int .i64 x, .int .i64 y]]) Try.func13 rfl Try.ntmps13 rfl (St.nil w) ?_
    repeat' (first
      | (refine Goal.loud (o := ⟨some 3, _, _, _, _, _⟩) rfl ?_; apply Loud.call0; exact rfl; exact rfl; exact rfl; exact rfl; exact T.bod_29; exact (fun w' H => awake26_ok w'))
      | (refine Goal.loud (o := ⟨some 7, _, _, _, _, _⟩) rfl ?_; apply Loud.call0; exact rfl; exact rfl; exact rfl; exact rfl; exact T.bod_30; exact (fun w' H => large26_ok (tp := tp) (dn := dn) ao al ad co cl cd x y w'); rw [decide_eq_true hlg])
      | (refine Goal.loud (o := ⟨some 9, _, _, _, _, _⟩) rfl ?_; apply Loud.call0; exact rfl; exact rfl; exact rfl; exact rfl; exact T.bod_29; exact (fun w' H => awake26_ok w'))
      | (refine Goal.loud (o := ⟨some 1, _, _, _, _, _⟩) rfl ?_; first | refine Loud.boxA rfl rfl (fun b1 => ?_) | refine Loud.box1 rfl rfl rfl (fun b1 => ?_))
      | (apply G.move; exact rfl; exact rfl)
      | (apply G.assign; exact rfl; exact rfl)
      | refine Goal.seq (fun _ _ => ?_)
      | refine Goal.next (by assumption) ?_
      | refine Goal.lnil ?_
      | refine Goal.region ?_
      | refine Goal.skip ?_
      | refine Goal.block ?_
      | refine Goal.exit ?_
      | refine Goal.ret ?_
      | refine Goal.then_exit ?_
      | refine Goal.then_ret ?_
      | refine Goal.inBlock_exit ?_
      | refine Goal.inBlock_normal ?_
      | refine Goal.inBlock_ret ?_
      | refine Goal.inBlock_other rfl ?_
      | (apply Goal.condT; exact rfl)
      | (apply Goal.condF; exact rfl)
      | (refine Goal.condD rfl (fun hc => ?_) (fun hc => ?_) <;> first | (exfalso; omega) | contradiction | skip)
      | refine Goal.condB rfl (fun hc => ?_) (fun hc => ?_)
      | refine Goal.guardT rfl rfl ?_
      | refine Goal.guardF rfl rfl rfl rfl ?_
      | refine Goal.guardU rfl rfl rfl ?_
      | (refine Goal.guardD rfl rfl (fun hc => ?_) (fun hc => ?_) <;> first | (exfalso; omega) | contradiction | skip)
      | refine Goal.guardB rfl rfl (fun hc => ?_) (fun hc => ?_)
      | (apply G.fieldAddr; exact rfl; exact rfl; (first | exact T.fld_43_0 | exact T.fld_43_1 | exact T.fld_43_2 | exact T.fld_43_3))
      | (apply G.load; exact rfl; exact rfl; first | exact LoadOK.one (by first | exact T.one_3 | exact T.one_22) 0 rfl rfl | exact LoadOK.one (by first | exact T.one_3 | exact T.one_22) 1 rfl rfl | exact LoadOK.one (by first | exact T.one_3 | exact T.one_22) 2 rfl rfl | exact LoadOK.one (by first | exact T.one_3 | exact T.one_22) 3 rfl rfl | exact LoadOK.one (by first | exact T.one_3 | exact T.one_22) 4 rfl rfl | exact LoadOK.one (by first | exact T.one_3 | exact T.one_22) 5 rfl rfl | exact LoadOK.one (by first | exact T.one_3 | exact T.one_22) 6 rfl rfl | exact LoadOK.one (by first | exact T.one_3 | exact T.one_22) 7 rfl rfl | exact ag3 T.agg_25 0 rfl rfl rfl rfl | exact ag3 T.agg_25 1 rfl rfl rfl rfl | exact ag3 T.agg_25 2 rfl rfl rfl rfl | exact ag3 T.agg_25 3 rfl rfl rfl rfl | exact ag3 T.agg_25 4 rfl rfl rfl rfl | exact ag3 T.agg_25 5 rfl rfl rfl rfl | exact ag3 T.agg_25 6 rfl rfl rfl rfl | exact ag3 T.agg_25 7 rfl rfl rfl rfl | exact LoadOK.agg (vs := [_, _, _, _, _, _]) T.agg_43 0 rfl rfl ⟨rfl, rfl, rfl, rfl, rfl, rfl, trivial⟩ | exact LoadOK.agg (vs := [_, _, _, _, _, _]) T.agg_43 1 rfl rfl ⟨rfl, rfl, rfl, rfl, rfl, rfl, trivial⟩ | exact LoadOK.agg (vs := [_, _, _, _, _, _]) T.agg_43 2 rfl rfl ⟨rfl, rfl, rfl, rfl, rfl, rfl, trivial⟩ | exact LoadOK.agg (vs := [_, _, _, _, _, _]) T.agg_43 3 rfl rfl ⟨rfl, rfl, rfl, rfl, rfl, rfl, trivial⟩ | exact LoadOK.agg (vs := [_, _, _, _, _, _]) T.agg_43 4 rfl rfl ⟨rfl, rfl, rfl, rfl, rfl, rfl, trivial⟩ | exact LoadOK.agg (vs := [_, _, _, _, _, _]) T.agg_43 5 rfl rfl ⟨rfl, rfl, rfl, rfl, rfl, rfl, trivial⟩ | exact LoadOK.agg (vs := [_, _, _, _, _, _]) T.agg_43 6 rfl rfl ⟨rfl, rfl, rfl, rfl, rfl, rfl, trivial⟩ | exact LoadOK.agg (vs := [_, _, _, _, _, _]) T.agg_43 7 rfl rfl ⟨rfl, rfl, rfl, rfl, rfl, rfl, trivial⟩)
      | (apply G.pickT; exact rfl; exact rfl; exact rfl)
      | (apply G.pickF; exact rfl; exact rfl; exact rfl)
      | (apply G.eql; exact rfl; exact rfl; exact rfl)
      | (apply G.eqlB; exact rfl; exact T.boo_4; exact rfl; exact rfl)
      | (apply G.notT; exact rfl; exact rfl)
      | (apply G.notF; exact rfl; exact rfl)
      | (refine G.notD rfl rfl ?_)
      | (apply G.notB; exact rfl; exact rfl))
    refine Goal.done (vs := [_]) (by first | exact .inl rfl | exact .inr rfl) Try.results13 ⟨rfl, trivial⟩ rfl (fun w' H => ⟨rfl, H.mod⟩)
  by_cases hk : (tp.Ok ∧ Fit tp dn) ∧ (0 ≤ x ∧ x < tp.n) ∧ (0 ≤ y ∧ y < tp.n)
  · obtain ⟨⟨ht, hf⟩, hx, hy⟩ := id hk
    obtain ⟨A, B, hA, hB⟩ := dists ht
    obtain ⟨p, hp⟩ := pred_of (fun _ => UsesP tp dn (A x) (B y) x y)
    replace hp := hp 0
    generalize p 0 = r at hp
    refine Goal.enter (args := [.agg #[.int .i64 tp.n, .slice ao tp.ov.length co, .slice al tp.ls.length cl, .slice ad dn.length cd, .int .i64 x, .int .i64 y]]) Try.func13 rfl Try.ntmps13 rfl (St.nil w) ?_
    repeat' (first
      | (refine Goal.drawAll (id := 3) 19 T.mixed ?_; all_goals ((refine Goal.takeP (listed' := #[Ya,No,No,No,No,No,No,No,No,No,No,No,No,No,No,No,No,No,No,No]) 0 ⟨rfl, by kernel_rfl, by kernel_rfl, by kernel_rfl, by kernel_rfl⟩ rfl (fun _ _ _ _ h => h) (by intro _; exact Run.fieldAddr T.fld_43_0 rfl) ?_)); all_goals ((refine Goal.takeP (listed' := #[Ya,No,Ya,No,No,No,No,No,No,No,No,No,No,No,No,No,No,No,No,No]) 2 ⟨rfl, by kernel_rfl, by kernel_rfl, by kernel_rfl, by kernel_rfl⟩ rfl (fun _ _ _ _ h => h) (by intro _; exact Run.fieldAddr T.fld_43_1 rfl) ?_)); all_goals ((refine Goal.takeP (listed' := #[Ya,No,Ya,No,Ya,No,No,No,No,No,No,No,No,No,No,No,No,No,No,No]) 4 ⟨rfl, by kernel_rfl, by kernel_rfl, by kernel_rfl, by kernel_rfl⟩ rfl (fun _ _ _ _ h => h) (by intro _; exact Run.fieldAddr T.fld_43_2 rfl) ?_)); all_goals ((refine Goal.takeP (listed' := #[Ya,No,Ya,No,Ya,No,Ya,No,No,No,No,No,No,No,No,No,No,No,No,No]) 6 ⟨rfl, by kernel_rfl, by kernel_rfl, by kernel_rfl, by kernel_rfl⟩ rfl (fun _ _ _ _ h => h) (by intro _; exact Run.fieldAddr T.fld_43_3 rfl) ?_)); all_goals ((refine Goal.takeP (listed' := #[Ya,No,Ya,No,Ya,No,Ya,No,No,Ya,No,No,No,No,No,No,No,No,No,No]) 9 ⟨rfl, by kernel_rfl, by kernel_rfl, by kernel_rfl, by kernel_rfl⟩ rfl (fun _ _ _ _ h => h) (by intro _; exact Run.fieldAddr T.fld_43_0 rfl) ?_)); all_goals ((refine Goal.takeP (listed' := #[Ya,No,Ya,No,Ya,No,Ya,No,No,Ya,No,Ya,No,No,No,No,No,No,No,No]) 11 ⟨rfl, by kernel_rfl, by kernel_rfl, by kernel_rfl, by kernel_rfl⟩ rfl (fun _ _ _ _ h => h) (by intro _; exact Run.fieldAddr T.fld_43_1 rfl) ?_)); all_goals ((refine Goal.takeP (listed' := #[Ya,No,Ya,No,Ya,No,Ya,No,No,Ya,No,Ya,No,Ya,No,No,No,No,No,No]) 13 ⟨rfl, by kernel_rfl, by kernel_rfl, by kernel_rfl, by kernel_rfl⟩ rfl (fun _ _ _ _ h => h) (by intro _; exact Run.fieldAddr T.fld_43_2 rfl) ?_)); all_goals ((refine Goal.takeP (listed' := #[Ya,No,Ya,No,Ya,No,Ya,No,No,Ya,No,Ya,No,Ya,No,Ya,No,No,No,No]) 15 ⟨rfl, by kernel_rfl, by kernel_rfl, by kernel_rfl, by kernel_rfl⟩ rfl (fun _ _ _ _ h => h) (by intro _; exact Run.fieldAddr T.fld_43_3 rfl) ?_)); all_goals ((refine Goal.take (listed' := #[Ya,Ya,Ya,No,Ya,No,Ya,No,No,Ya,No,Ya,No,Ya,No,Ya,No,No,No,No]) 1 ⟨rfl, by kernel_rfl, by kernel_rfl, by kernel_rfl, by kernel_rfl, by kernel_rfl⟩ rfl (by (first | exact s0 | exact s1 | exact s2 | exact s3 | exact sd | exact sa | exact sn (by simp))) (fun _ _ _ _ h => h) (by (apply Run.load; exact rfl; first | exact ag3 T.agg_25 0 rfl rfl rfl rfl | exact ag3 T.agg_25 1 rfl rfl rfl rfl | exact ag3 T.agg_25 2 rfl rfl rfl rfl | exact ag3 T.agg_25 3 rfl rfl rfl rfl | exact ag3 T.agg_25 4 rfl rfl rfl rfl | exact ag3 T.agg_25 5 rfl rfl rfl rfl | exact ag3 T.agg_25 6 rfl rfl rfl rfl | exact ag3 T.agg_25 7 rfl rfl rfl rfl)) ?_)); all_goals ((refine Goal.take (listed' := #[Ya,Ya,Ya,Ya,Ya,No,Ya,No,No,Ya,No,Ya,No,Ya,No,Ya,No,No,No,No]) 3 ⟨rfl, by kernel_rfl, by kernel_rfl, by kernel_rfl, by kernel_rfl, by kernel_rfl⟩ rfl (by (first | exact s0 | exact s1 | exact s2 | exact s3 | exact sd | exact sa | exact sn (by simp))) (fun _ _ _ _ h => h) (by (apply Run.load; exact rfl; first | exact LoadOK.one T.one_22 0 rfl rfl | exact LoadOK.one T.one_22 1 rfl rfl | exact LoadOK.one T.one_22 2 rfl rfl | exact LoadOK.one T.one_22 3 rfl rfl | exact LoadOK.one T.one_22 4 rfl rfl | exact LoadOK.one T.one_22 5 rfl rfl | exact LoadOK.one T.one_22 6 rfl rfl | exact LoadOK.one T.one_22 7 rfl rfl)) ?_)); all_goals ((refine Goal.take (listed' := #[Ya,Ya,Ya,Ya,Ya,Ya,Ya,No,No,Ya,No,Ya,No,Ya,No,Ya,No,No,No,No]) 5 ⟨rfl, by kernel_rfl, by kernel_rfl, by kernel_rfl, by kernel_rfl, by kernel_rfl⟩ rfl (by (first | exact s0 | exact s1 | exact s2 | exact s3 | exact sd | exact sa | exact sn (by simp))) (fun _ _ _ _ h => h) (by (apply Run.load; exact rfl; first | exact LoadOK.one T.one_3 0 rfl rfl | exact LoadOK.one T.one_3 1 rfl rfl | exact LoadOK.one T.one_3 2 rfl rfl | exact LoadOK.one T.one_3 3 rfl rfl | exact LoadOK.one T.one_3 4 rfl rfl | exact LoadOK.one T.one_3 5 rfl rfl | exact LoadOK.one T.one_3 6 rfl rfl | exact LoadOK.one T.one_3 7 rfl rfl)) ?_)); all_goals ((refine Goal.take (listed' := #[Ya,Ya,Ya,Ya,Ya,Ya,Ya,Ya,No,Ya,No,Ya,No,Ya,No,Ya,No,No,No,No]) 7 ⟨rfl, by kernel_rfl, by kernel_rfl, by kernel_rfl, by kernel_rfl, by kernel_rfl⟩ rfl (by (first | exact s0 | exact s1 | exact s2 | exact s3 | exact sd | exact sa | exact sn (by simp))) (fun _ _ _ _ h => h) (by (apply Run.load; exact rfl; first | exact LoadOK.one T.one_3 0 rfl rfl | exact LoadOK.one T.one_3 1 rfl rfl | exact LoadOK.one T.one_3 2 rfl rfl | exact LoadOK.one T.one_3 3 rfl rfl | exact LoadOK.one T.one_3 4 rfl rfl | exact LoadOK.one T.one_3 5 rfl rfl | exact LoadOK.one T.one_3 6 rfl rfl | exact LoadOK.one T.one_3 7 rfl rfl)) ?_)); all_goals ((refine Goal.take (listed' := #[Ya,Ya,Ya,Ya,Ya,Ya,Ya,Ya,No,Ya,Ya,Ya,No,Ya,No,Ya,No,No,No,No]) 10 ⟨rfl, by kernel_rfl, by kernel_rfl, by kernel_rfl, by kernel_rfl, by kernel_rfl⟩ rfl (by (first | exact s0 | exact s1 | exact s2 | exact s3 | exact sd | exact sa | exact sn (by simp))) (fun _ _ _ _ h => h) (by (apply Run.load; exact rfl; first | exact ag3 T.agg_25 0 rfl rfl rfl rfl | exact ag3 T.agg_25 1 rfl rfl rfl rfl | exact ag3 T.agg_25 2 rfl rfl rfl rfl | exact ag3 T.agg_25 3 rfl rfl rfl rfl | exact ag3 T.agg_25 4 rfl rfl rfl rfl | exact ag3 T.agg_25 5 rfl rfl rfl rfl | exact ag3 T.agg_25 6 rfl rfl rfl rfl | exact ag3 T.agg_25 7 rfl rfl rfl rfl)) ?_)); all_goals ((refine Goal.take (listed' := #[Ya,Ya,Ya,Ya,Ya,Ya,Ya,Ya,No,Ya,Ya,Ya,Ya,Ya,No,Ya,No,No,No,No]) 12 ⟨rfl, by kernel_rfl, by kernel_rfl, by kernel_rfl, by kernel_rfl, by kernel_rfl⟩ rfl (by (first | exact s0 | exact s1 | exact s2 | exact s3 | exact sd | exact sa | exact sn (by simp))) (fun _ _ _ _ h => h) (by (apply Run.load; exact rfl; first | exact LoadOK.one T.one_22 0 rfl rfl | exact LoadOK.one T.one_22 1 rfl rfl | exact LoadOK.one T.one_22 2 rfl rfl | exact LoadOK.one T.one_22 3 rfl rfl | exact LoadOK.one T.one_22 4 rfl rfl | exact LoadOK.one T.one_22 5 rfl rfl | exact LoadOK.one T.one_22 6 rfl rfl | exact LoadOK.one T.one_22 7 rfl rfl)) ?_)); all_goals ((refine Goal.take (listed' := #[Ya,Ya,Ya,Ya,Ya,Ya,Ya,Ya,No,Ya,Ya,Ya,Ya,Ya,Ya,Ya,No,No,No,No]) 14 ⟨rfl, by kernel_rfl, by kernel_rfl, by kernel_rfl, by kernel_rfl, by kernel_rfl⟩ rfl (by (first | exact s0 | exact s1 | exact s2 | exact s3 | exact sd | exact sa | exact sn (by simp))) (fun _ _ _ _ h => h) (by (apply Run.load; exact rfl; first | exact LoadOK.one T.one_3 0 rfl rfl | exact LoadOK.one T.one_3 1 rfl rfl | exact LoadOK.one T.one_3 2 rfl rfl | exact LoadOK.one T.one_3 3 rfl rfl | exact LoadOK.one T.one_3 4 rfl rfl | exact LoadOK.one T.one_3 5 rfl rfl | exact LoadOK.one T.one_3 6 rfl rfl | exact LoadOK.one T.one_3 7 rfl rfl)) ?_)); all_goals ((refine Goal.take (listed' := #[Ya,Ya,Ya,Ya,Ya,Ya,Ya,Ya,No,Ya,Ya,Ya,Ya,Ya,Ya,Ya,Ya,No,No,No]) 16 ⟨rfl, by kernel_rfl, by kernel_rfl, by kernel_rfl, by kernel_rfl, by kernel_rfl⟩ rfl (by (first | exact s0 | exact s1 | exact s2 | exact s3 | exact sd | exact sa | exact sn (by simp))) (fun _ _ _ _ h => h) (by (apply Run.load; exact rfl; first | exact LoadOK.one T.one_3 0 rfl rfl | exact LoadOK.one T.one_3 1 rfl rfl | exact LoadOK.one T.one_3 2 rfl rfl | exact LoadOK.one T.one_3 3 rfl rfl | exact LoadOK.one T.one_3 4 rfl rfl | exact LoadOK.one T.one_3 5 rfl rfl | exact LoadOK.one T.one_3 6 rfl rfl | exact LoadOK.one T.one_3 7 rfl rfl)) ?_)); all_goals (refine Goal.ready1 (i := 8) (by kernel_rfl) ?_); all_goals ((refine Goal.up (i := 8) (listed' := #[Ya,Ya,Ya,Ya,Ya,Ya,Ya,Ya,Ya,Ya,Ya,Ya,Ya,Ya,Ya,Ya,Ya,No,No,No]) rfl (by kernel_rfl) ?_; (apply Loud.call0; exact rfl; exact rfl; exact rfl; exact rfl; exact T.bod_42; exact (fun w' H => puses_ok (hT.keep H.mod) (hd.keep H.mod) ht hf hx hy (hA x) (hB y) hp)); first | refine Goal.tail rfl ?_ | refine Goal.kept (by (first | exact s0 | exact s1 | exact s2 | exact s3 | exact sd | exact sa | exact sn (by simp))) ?_)); all_goals (refine Goal.ready1 (i := 17) (by kernel_rfl) ?_); all_goals ((refine Goal.up (i := 17) (listed' := #[Ya,Ya,Ya,Ya,Ya,Ya,Ya,Ya,Ya,Ya,Ya,Ya,Ya,Ya,Ya,Ya,Ya,Ya,No,No]) rfl (by kernel_rfl) ?_; (apply Loud.call0; exact rfl; exact rfl; exact rfl; exact rfl; exact T.bod_23; exact (fun w' H => ruses_ok (hT.keep H.mod) (hd.keep H.mod) ht hf hx hy (hA x) (hB y) hp)); first | refine Goal.tail rfl ?_ | refine Goal.kept (by (first | exact s0 | exact s1 | exact s2 | exact s3 | exact sd | exact sa | exact sn (by simp))) ?_)); all_goals ((refine Goal.takeP (listed' := #[Ya,Ya,Ya,Ya,Ya,Ya,Ya,Ya,Ya,Ya,Ya,Ya,Ya,Ya,Ya,Ya,Ya,Ya,Ya,No]) 18 ⟨rfl, by kernel_rfl, by kernel_rfl, by kernel_rfl, by kernel_rfl⟩ rfl (fun _ _ _ _ h => h) (by intro _; first | exact Run.eqlB T.boo_4 rfl rfl) ?_)); all_goals ((refine Goal.takeP (listed' := #[Ya,Ya,Ya,Ya,Ya,Ya,Ya,Ya,Ya,Ya,Ya,Ya,Ya,Ya,Ya,Ya,Ya,Ya,Ya,Ya]) 19 ⟨rfl, by kernel_rfl, by kernel_rfl, by kernel_rfl, by kernel_rfl⟩ rfl (fun _ _ _ _ h => h) (by intro _; exact Run.assign rfl) ?_)); all_goals (refine Goal.allUp (by kernel_rfl) ?_))
      | (refine Goal.loud (o := ⟨some 3, _, _, _, _, _⟩) rfl ?_; apply Loud.call0; exact rfl; exact rfl; exact rfl; exact rfl; exact T.bod_29; exact (fun w' H => awake26_ok w'))
      | (refine Goal.loud (o := ⟨some 7, _, _, _, _, _⟩) rfl ?_; apply Loud.call0; exact rfl; exact rfl; exact rfl; exact rfl; exact T.bod_30; exact (fun w' H => large26_ok (tp := tp) (dn := dn) ao al ad co cl cd x y w'); rw [decide_eq_false hlg])
      | (refine Goal.loud (o := ⟨some 18, _, _, _, _, _⟩) rfl ?_; apply Loud.call0; exact rfl; exact rfl; exact rfl; exact rfl; exact T.bod_42; exact (fun w' H => puses_ok (hT.keep H.mod) (hd.keep H.mod) ht hf hx hy (hA x) (hB y) hp))
      | (refine Goal.loud (o := ⟨some 27, _, _, _, _, _⟩) rfl ?_; apply Loud.call0; exact rfl; exact rfl; exact rfl; exact rfl; exact T.bod_23; exact (fun w' H => ruses_ok (hT.keep H.mod) (hd.keep H.mod) ht hf hx hy (hA x) (hB y) hp))
      | (refine Goal.loud (o := ⟨some 1, _, _, _, _, _⟩) rfl ?_; first | refine Loud.boxA rfl rfl (fun b1 => ?_) | refine Loud.box1 rfl rfl rfl (fun b1 => ?_))
      | (apply G.move; exact rfl; exact rfl)
      | (apply G.assign; exact rfl; exact rfl)
      | refine Goal.seq (fun _ _ => ?_)
      | refine Goal.next (by assumption) ?_
      | refine Goal.lnil ?_
      | refine Goal.region ?_
      | refine Goal.skip ?_
      | refine Goal.block ?_
      | refine Goal.exit ?_
      | refine Goal.ret ?_
      | refine Goal.then_exit ?_
      | refine Goal.then_ret ?_
      | refine Goal.inBlock_exit ?_
      | refine Goal.inBlock_normal ?_
      | refine Goal.inBlock_ret ?_
      | refine Goal.inBlock_other rfl ?_
      | (apply Goal.condT; exact rfl)
      | (apply Goal.condF; exact rfl)
      | (refine Goal.condD rfl (fun hc => ?_) (fun hc => ?_) <;> first | (exfalso; omega) | contradiction | skip)
      | refine Goal.condB rfl (fun hc => ?_) (fun hc => ?_)
      | refine Goal.guardT rfl rfl ?_
      | refine Goal.guardF rfl rfl rfl rfl ?_
      | refine Goal.guardU rfl rfl rfl ?_
      | (refine Goal.guardD rfl rfl (fun hc => ?_) (fun hc => ?_) <;> first | (exfalso; omega) | contradiction | skip)
      | refine Goal.guardB rfl rfl (fun hc => ?_) (fun hc => ?_)
      | (apply G.fieldAddr; exact rfl; exact rfl; (first | exact T.fld_43_0 | exact T.fld_43_1 | exact T.fld_43_2 | exact T.fld_43_3))
      | (apply G.load; exact rfl; exact rfl; first | exact LoadOK.one (by first | exact T.one_3 | exact T.one_22) 0 rfl rfl | exact LoadOK.one (by first | exact T.one_3 | exact T.one_22) 1 rfl rfl | exact LoadOK.one (by first | exact T.one_3 | exact T.one_22) 2 rfl rfl | exact LoadOK.one (by first | exact T.one_3 | exact T.one_22) 3 rfl rfl | exact LoadOK.one (by first | exact T.one_3 | exact T.one_22) 4 rfl rfl | exact LoadOK.one (by first | exact T.one_3 | exact T.one_22) 5 rfl rfl | exact LoadOK.one (by first | exact T.one_3 | exact T.one_22) 6 rfl rfl | exact LoadOK.one (by first | exact T.one_3 | exact T.one_22) 7 rfl rfl | exact ag3 T.agg_25 0 rfl rfl rfl rfl | exact ag3 T.agg_25 1 rfl rfl rfl rfl | exact ag3 T.agg_25 2 rfl rfl rfl rfl | exact ag3 T.agg_25 3 rfl rfl rfl rfl | exact ag3 T.agg_25 4 rfl rfl rfl rfl | exact ag3 T.agg_25 5 rfl rfl rfl rfl | exact ag3 T.agg_25 6 rfl rfl rfl rfl | exact ag3 T.agg_25 7 rfl rfl rfl rfl | exact LoadOK.agg (vs := [_, _, _, _, _, _]) T.agg_43 0 rfl rfl ⟨rfl, rfl, rfl, rfl, rfl, rfl, trivial⟩ | exact LoadOK.agg (vs := [_, _, _, _, _, _]) T.agg_43 1 rfl rfl ⟨rfl, rfl, rfl, rfl, rfl, rfl, trivial⟩ | exact LoadOK.agg (vs := [_, _, _, _, _, _]) T.agg_43 2 rfl rfl ⟨rfl, rfl, rfl, rfl, rfl, rfl, trivial⟩ | exact LoadOK.agg (vs := [_, _, _, _, _, _]) T.agg_43 3 rfl rfl ⟨rfl, rfl, rfl, rfl, rfl, rfl, trivial⟩ | exact LoadOK.agg (vs := [_, _, _, _, _, _]) T.agg_43 4 rfl rfl ⟨rfl, rfl, rfl, rfl, rfl, rfl, trivial⟩ | exact LoadOK.agg (vs := [_, _, _, _, _, _]) T.agg_43 5 rfl rfl ⟨rfl, rfl, rfl, rfl, rfl, rfl, trivial⟩ | exact LoadOK.agg (vs := [_, _, _, _, _, _]) T.agg_43 6 rfl rfl ⟨rfl, rfl, rfl, rfl, rfl, rfl, trivial⟩ | exact LoadOK.agg (vs := [_, _, _, _, _, _]) T.agg_43 7 rfl rfl ⟨rfl, rfl, rfl, rfl, rfl, rfl, trivial⟩)
      | (apply G.pickT; exact rfl; exact rfl; exact rfl)
      | (apply G.pickF; exact rfl; exact rfl; exact rfl)
      | (apply G.eql; exact rfl; exact rfl; exact rfl)
      | (apply G.eqlB; exact rfl; exact T.boo_4; exact rfl; exact rfl)
      | (apply G.notT; exact rfl; exact rfl)
      | (apply G.notF; exact rfl; exact rfl)
      | (refine G.notD rfl rfl ?_)
      | (apply G.notB; exact rfl; exact rfl))
    refine Goal.done (vs := [_]) (by first | exact .inl rfl | exact .inr rfl) Try.results13 ⟨rfl, trivial⟩ rfl (fun w' H => ⟨by simp, H.mod⟩)
  · have hk2 : ¬ (chk tp dn [x] = 0 ∧ chk tp dn [y] = 0) := fun h => by
      obtain ⟨h1, h2, h3⟩ := chk_zero h.1
      obtain ⟨_, _, h4⟩ := chk_zero h.2
      exact hk ⟨⟨h1, h2⟩, h3 x (by simp), h4 y (by simp)⟩
    refine Goal.enter (args := [.agg #[.int .i64 tp.n, .slice ao tp.ov.length co, .slice al tp.ls.length cl, .slice ad dn.length cd, .int .i64 x, .int .i64 y]]) Try.func13 rfl Try.ntmps13 rfl (St.nil w) ?_
    repeat' (first
      | (refine Goal.drawAll (id := 3) 19 T.mixed ?_; all_goals ((refine Goal.takeP (listed' := #[Ya,No,No,No,No,No,No,No,No,No,No,No,No,No,No,No,No,No,No,No]) 0 ⟨rfl, by kernel_rfl, by kernel_rfl, by kernel_rfl, by kernel_rfl⟩ rfl (fun _ _ _ _ h => h) (by intro _; exact Run.fieldAddr T.fld_43_0 rfl) ?_)); all_goals ((refine Goal.takeP (listed' := #[Ya,No,Ya,No,No,No,No,No,No,No,No,No,No,No,No,No,No,No,No,No]) 2 ⟨rfl, by kernel_rfl, by kernel_rfl, by kernel_rfl, by kernel_rfl⟩ rfl (fun _ _ _ _ h => h) (by intro _; exact Run.fieldAddr T.fld_43_1 rfl) ?_)); all_goals ((refine Goal.takeP (listed' := #[Ya,No,Ya,No,Ya,No,No,No,No,No,No,No,No,No,No,No,No,No,No,No]) 4 ⟨rfl, by kernel_rfl, by kernel_rfl, by kernel_rfl, by kernel_rfl⟩ rfl (fun _ _ _ _ h => h) (by intro _; exact Run.fieldAddr T.fld_43_2 rfl) ?_)); all_goals ((refine Goal.takeP (listed' := #[Ya,No,Ya,No,Ya,No,Ya,No,No,No,No,No,No,No,No,No,No,No,No,No]) 6 ⟨rfl, by kernel_rfl, by kernel_rfl, by kernel_rfl, by kernel_rfl⟩ rfl (fun _ _ _ _ h => h) (by intro _; exact Run.fieldAddr T.fld_43_3 rfl) ?_)); all_goals ((refine Goal.takeP (listed' := #[Ya,No,Ya,No,Ya,No,Ya,No,No,Ya,No,No,No,No,No,No,No,No,No,No]) 9 ⟨rfl, by kernel_rfl, by kernel_rfl, by kernel_rfl, by kernel_rfl⟩ rfl (fun _ _ _ _ h => h) (by intro _; exact Run.fieldAddr T.fld_43_0 rfl) ?_)); all_goals ((refine Goal.takeP (listed' := #[Ya,No,Ya,No,Ya,No,Ya,No,No,Ya,No,Ya,No,No,No,No,No,No,No,No]) 11 ⟨rfl, by kernel_rfl, by kernel_rfl, by kernel_rfl, by kernel_rfl⟩ rfl (fun _ _ _ _ h => h) (by intro _; exact Run.fieldAddr T.fld_43_1 rfl) ?_)); all_goals ((refine Goal.takeP (listed' := #[Ya,No,Ya,No,Ya,No,Ya,No,No,Ya,No,Ya,No,Ya,No,No,No,No,No,No]) 13 ⟨rfl, by kernel_rfl, by kernel_rfl, by kernel_rfl, by kernel_rfl⟩ rfl (fun _ _ _ _ h => h) (by intro _; exact Run.fieldAddr T.fld_43_2 rfl) ?_)); all_goals ((refine Goal.takeP (listed' := #[Ya,No,Ya,No,Ya,No,Ya,No,No,Ya,No,Ya,No,Ya,No,Ya,No,No,No,No]) 15 ⟨rfl, by kernel_rfl, by kernel_rfl, by kernel_rfl, by kernel_rfl⟩ rfl (fun _ _ _ _ h => h) (by intro _; exact Run.fieldAddr T.fld_43_3 rfl) ?_)); all_goals ((refine Goal.take (listed' := #[Ya,Ya,Ya,No,Ya,No,Ya,No,No,Ya,No,Ya,No,Ya,No,Ya,No,No,No,No]) 1 ⟨rfl, by kernel_rfl, by kernel_rfl, by kernel_rfl, by kernel_rfl, by kernel_rfl⟩ rfl (by (first | exact s0 | exact s1 | exact s2 | exact s3 | exact sd | exact sa | exact sn (by simp))) (fun _ _ _ _ h => h) (by (apply Run.load; exact rfl; first | exact ag3 T.agg_25 0 rfl rfl rfl rfl | exact ag3 T.agg_25 1 rfl rfl rfl rfl | exact ag3 T.agg_25 2 rfl rfl rfl rfl | exact ag3 T.agg_25 3 rfl rfl rfl rfl | exact ag3 T.agg_25 4 rfl rfl rfl rfl | exact ag3 T.agg_25 5 rfl rfl rfl rfl | exact ag3 T.agg_25 6 rfl rfl rfl rfl | exact ag3 T.agg_25 7 rfl rfl rfl rfl)) ?_)); all_goals ((refine Goal.take (listed' := #[Ya,Ya,Ya,Ya,Ya,No,Ya,No,No,Ya,No,Ya,No,Ya,No,Ya,No,No,No,No]) 3 ⟨rfl, by kernel_rfl, by kernel_rfl, by kernel_rfl, by kernel_rfl, by kernel_rfl⟩ rfl (by (first | exact s0 | exact s1 | exact s2 | exact s3 | exact sd | exact sa | exact sn (by simp))) (fun _ _ _ _ h => h) (by (apply Run.load; exact rfl; first | exact LoadOK.one T.one_22 0 rfl rfl | exact LoadOK.one T.one_22 1 rfl rfl | exact LoadOK.one T.one_22 2 rfl rfl | exact LoadOK.one T.one_22 3 rfl rfl | exact LoadOK.one T.one_22 4 rfl rfl | exact LoadOK.one T.one_22 5 rfl rfl | exact LoadOK.one T.one_22 6 rfl rfl | exact LoadOK.one T.one_22 7 rfl rfl)) ?_)); all_goals ((refine Goal.take (listed' := #[Ya,Ya,Ya,Ya,Ya,Ya,Ya,No,No,Ya,No,Ya,No,Ya,No,Ya,No,No,No,No]) 5 ⟨rfl, by kernel_rfl, by kernel_rfl, by kernel_rfl, by kernel_rfl, by kernel_rfl⟩ rfl (by (first | exact s0 | exact s1 | exact s2 | exact s3 | exact sd | exact sa | exact sn (by simp))) (fun _ _ _ _ h => h) (by (apply Run.load; exact rfl; first | exact LoadOK.one T.one_3 0 rfl rfl | exact LoadOK.one T.one_3 1 rfl rfl | exact LoadOK.one T.one_3 2 rfl rfl | exact LoadOK.one T.one_3 3 rfl rfl | exact LoadOK.one T.one_3 4 rfl rfl | exact LoadOK.one T.one_3 5 rfl rfl | exact LoadOK.one T.one_3 6 rfl rfl | exact LoadOK.one T.one_3 7 rfl rfl)) ?_)); all_goals ((refine Goal.take (listed' := #[Ya,Ya,Ya,Ya,Ya,Ya,Ya,Ya,No,Ya,No,Ya,No,Ya,No,Ya,No,No,No,No]) 7 ⟨rfl, by kernel_rfl, by kernel_rfl, by kernel_rfl, by kernel_rfl, by kernel_rfl⟩ rfl (by (first | exact s0 | exact s1 | exact s2 | exact s3 | exact sd | exact sa | exact sn (by simp))) (fun _ _ _ _ h => h) (by (apply Run.load; exact rfl; first | exact LoadOK.one T.one_3 0 rfl rfl | exact LoadOK.one T.one_3 1 rfl rfl | exact LoadOK.one T.one_3 2 rfl rfl | exact LoadOK.one T.one_3 3 rfl rfl | exact LoadOK.one T.one_3 4 rfl rfl | exact LoadOK.one T.one_3 5 rfl rfl | exact LoadOK.one T.one_3 6 rfl rfl | exact LoadOK.one T.one_3 7 rfl rfl)) ?_)); all_goals ((refine Goal.take (listed' := #[Ya,Ya,Ya,Ya,Ya,Ya,Ya,Ya,No,Ya,Ya,Ya,No,Ya,No,Ya,No,No,No,No]) 10 ⟨rfl, by kernel_rfl, by kernel_rfl, by kernel_rfl, by kernel_rfl, by kernel_rfl⟩ rfl (by (first | exact s0 | exact s1 | exact s2 | exact s3 | exact sd | exact sa | exact sn (by simp))) (fun _ _ _ _ h => h) (by (apply Run.load; exact rfl; first | exact ag3 T.agg_25 0 rfl rfl rfl rfl | exact ag3 T.agg_25 1 rfl rfl rfl rfl | exact ag3 T.agg_25 2 rfl rfl rfl rfl | exact ag3 T.agg_25 3 rfl rfl rfl rfl | exact ag3 T.agg_25 4 rfl rfl rfl rfl | exact ag3 T.agg_25 5 rfl rfl rfl rfl | exact ag3 T.agg_25 6 rfl rfl rfl rfl | exact ag3 T.agg_25 7 rfl rfl rfl rfl)) ?_)); all_goals ((refine Goal.take (listed' := #[Ya,Ya,Ya,Ya,Ya,Ya,Ya,Ya,No,Ya,Ya,Ya,Ya,Ya,No,Ya,No,No,No,No]) 12 ⟨rfl, by kernel_rfl, by kernel_rfl, by kernel_rfl, by kernel_rfl, by kernel_rfl⟩ rfl (by (first | exact s0 | exact s1 | exact s2 | exact s3 | exact sd | exact sa | exact sn (by simp))) (fun _ _ _ _ h => h) (by (apply Run.load; exact rfl; first | exact LoadOK.one T.one_22 0 rfl rfl | exact LoadOK.one T.one_22 1 rfl rfl | exact LoadOK.one T.one_22 2 rfl rfl | exact LoadOK.one T.one_22 3 rfl rfl | exact LoadOK.one T.one_22 4 rfl rfl | exact LoadOK.one T.one_22 5 rfl rfl | exact LoadOK.one T.one_22 6 rfl rfl | exact LoadOK.one T.one_22 7 rfl rfl)) ?_)); all_goals ((refine Goal.take (listed' := #[Ya,Ya,Ya,Ya,Ya,Ya,Ya,Ya,No,Ya,Ya,Ya,Ya,Ya,Ya,Ya,No,No,No,No]) 14 ⟨rfl, by kernel_rfl, by kernel_rfl, by kernel_rfl, by kernel_rfl, by kernel_rfl⟩ rfl (by (first | exact s0 | exact s1 | exact s2 | exact s3 | exact sd | exact sa | exact sn (by simp))) (fun _ _ _ _ h => h) (by (apply Run.load; exact rfl; first | exact LoadOK.one T.one_3 0 rfl rfl | exact LoadOK.one T.one_3 1 rfl rfl | exact LoadOK.one T.one_3 2 rfl rfl | exact LoadOK.one T.one_3 3 rfl rfl | exact LoadOK.one T.one_3 4 rfl rfl | exact LoadOK.one T.one_3 5 rfl rfl | exact LoadOK.one T.one_3 6 rfl rfl | exact LoadOK.one T.one_3 7 rfl rfl)) ?_)); all_goals ((refine Goal.take (listed' := #[Ya,Ya,Ya,Ya,Ya,Ya,Ya,Ya,No,Ya,Ya,Ya,Ya,Ya,Ya,Ya,Ya,No,No,No]) 16 ⟨rfl, by kernel_rfl, by kernel_rfl, by kernel_rfl, by kernel_rfl, by kernel_rfl⟩ rfl (by (first | exact s0 | exact s1 | exact s2 | exact s3 | exact sd | exact sa | exact sn (by simp))) (fun _ _ _ _ h => h) (by (apply Run.load; exact rfl; first | exact LoadOK.one T.one_3 0 rfl rfl | exact LoadOK.one T.one_3 1 rfl rfl | exact LoadOK.one T.one_3 2 rfl rfl | exact LoadOK.one T.one_3 3 rfl rfl | exact LoadOK.one T.one_3 4 rfl rfl | exact LoadOK.one T.one_3 5 rfl rfl | exact LoadOK.one T.one_3 6 rfl rfl | exact LoadOK.one T.one_3 7 rfl rfl)) ?_)); all_goals (refine Goal.ready1 (i := 8) (by kernel_rfl) ?_); all_goals ((refine Goal.up (i := 8) (listed' := #[Ya,Ya,Ya,Ya,Ya,Ya,Ya,Ya,Ya,Ya,Ya,Ya,Ya,Ya,Ya,Ya,Ya,No,No,No]) rfl (by kernel_rfl) ?_; (apply Loud.call0; exact rfl; exact rfl; exact rfl; exact rfl; exact T.bod_42; exact (fun w' H => puses_bad (hT.keep H.mod) (hd.keep H.mod) (by omega) hov hk2)); first | refine Goal.tail rfl ?_ | refine Goal.kept (by (first | exact s0 | exact s1 | exact s2 | exact s3 | exact sd | exact sa | exact sn (by simp))) ?_)); all_goals (refine Goal.ready1 (i := 17) (by kernel_rfl) ?_); all_goals ((refine Goal.up (i := 17) (listed' := #[Ya,Ya,Ya,Ya,Ya,Ya,Ya,Ya,Ya,Ya,Ya,Ya,Ya,Ya,Ya,Ya,Ya,Ya,No,No]) rfl (by kernel_rfl) ?_; (apply Loud.call0; exact rfl; exact rfl; exact rfl; exact rfl; exact T.bod_23; exact (fun w' H => ruses_bad (hT.keep H.mod) (hd.keep H.mod) (by omega) hov (by omega) hk)); first | refine Goal.tail rfl ?_ | refine Goal.kept (by (first | exact s0 | exact s1 | exact s2 | exact s3 | exact sd | exact sa | exact sn (by simp))) ?_)); all_goals ((refine Goal.takeP (listed' := #[Ya,Ya,Ya,Ya,Ya,Ya,Ya,Ya,Ya,Ya,Ya,Ya,Ya,Ya,Ya,Ya,Ya,Ya,Ya,No]) 18 ⟨rfl, by kernel_rfl, by kernel_rfl, by kernel_rfl, by kernel_rfl⟩ rfl (fun _ _ _ _ h => h) (by intro _; first | exact Run.eqlB T.boo_4 rfl rfl) ?_)); all_goals ((refine Goal.takeP (listed' := #[Ya,Ya,Ya,Ya,Ya,Ya,Ya,Ya,Ya,Ya,Ya,Ya,Ya,Ya,Ya,Ya,Ya,Ya,Ya,Ya]) 19 ⟨rfl, by kernel_rfl, by kernel_rfl, by kernel_rfl, by kernel_rfl⟩ rfl (fun _ _ _ _ h => h) (by intro _; exact Run.assign rfl) ?_)); all_goals (refine Goal.allUp (by kernel_rfl) ?_))
      | (refine Goal.loud (o := ⟨some 3, _, _, _, _, _⟩) rfl ?_; apply Loud.call0; exact rfl; exact rfl; exact rfl; exact rfl; exact T.bod_29; exact (fun w' H => awake26_ok w'))
      | (refine Goal.loud (o := ⟨some 7, _, _, _, _, _⟩) rfl ?_; apply Loud.call0; exact rfl; exact rfl; exact rfl; exact rfl; exact T.bod_30; exact (fun w' H => large26_ok (tp := tp) (dn := dn) ao al ad co cl cd x y w'); rw [decide_eq_false hlg])
      | (refine Goal.loud (o := ⟨some 18, _, _, _, _, _⟩) rfl ?_; apply Loud.call0; exact rfl; exact rfl; exact rfl; exact rfl; exact T.bod_42; exact (fun w' H => puses_bad (hT.keep H.mod) (hd.keep H.mod) (by omega) hov hk2))
      | (refine Goal.loud (o := ⟨some 27, _, _, _, _, _⟩) rfl ?_; apply Loud.call0; exact rfl; exact rfl; exact rfl; exact rfl; exact T.bod_23; exact (fun w' H => ruses_bad (hT.keep H.mod) (hd.keep H.mod) (by omega) hov (by omega) hk))
      | (refine Goal.loud (o := ⟨some 1, _, _, _, _, _⟩) rfl ?_; first | refine Loud.boxA rfl rfl (fun b1 => ?_) | refine Loud.box1 rfl rfl rfl (fun b1 => ?_))
      | (apply G.move; exact rfl; exact rfl)
      | (apply G.assign; exact rfl; exact rfl)
      | refine Goal.seq (fun _ _ => ?_)
      | refine Goal.next (by assumption) ?_
      | refine Goal.lnil ?_
      | refine Goal.region ?_
      | refine Goal.skip ?_
      | refine Goal.block ?_
      | refine Goal.exit ?_
      | refine Goal.ret ?_
      | refine Goal.then_exit ?_
      | refine Goal.then_ret ?_
      | refine Goal.inBlock_exit ?_
      | refine Goal.inBlock_normal ?_
      | refine Goal.inBlock_ret ?_
      | refine Goal.inBlock_other rfl ?_
      | (apply Goal.condT; exact rfl)
      | (apply Goal.condF; exact rfl)
      | (refine Goal.condD rfl (fun hc => ?_) (fun hc => ?_) <;> first | (exfalso; omega) | contradiction | skip)
      | refine Goal.condB rfl (fun hc => ?_) (fun hc => ?_)
      | refine Goal.guardT rfl rfl ?_
      | refine Goal.guardF rfl rfl rfl rfl ?_
      | refine Goal.guardU rfl rfl rfl ?_
      | (refine Goal.guardD rfl rfl (fun hc => ?_) (fun hc => ?_) <;> first | (exfalso; omega) | contradiction | skip)
      | refine Goal.guardB rfl rfl (fun hc => ?_) (fun hc => ?_)
      | (apply G.fieldAddr; exact rfl; exact rfl; (first | exact T.fld_43_0 | exact T.fld_43_1 | exact T.fld_43_2 | exact T.fld_43_3))
      | (apply G.load; exact rfl; exact rfl; first | exact LoadOK.one (by first | exact T.one_3 | exact T.one_22) 0 rfl rfl | exact LoadOK.one (by first | exact T.one_3 | exact T.one_22) 1 rfl rfl | exact LoadOK.one (by first | exact T.one_3 | exact T.one_22) 2 rfl rfl | exact LoadOK.one (by first | exact T.one_3 | exact T.one_22) 3 rfl rfl | exact LoadOK.one (by first | exact T.one_3 | exact T.one_22) 4 rfl rfl | exact LoadOK.one (by first | exact T.one_3 | exact T.one_22) 5 rfl rfl | exact LoadOK.one (by first | exact T.one_3 | exact T.one_22) 6 rfl rfl | exact LoadOK.one (by first | exact T.one_3 | exact T.one_22) 7 rfl rfl | exact ag3 T.agg_25 0 rfl rfl rfl rfl | exact ag3 T.agg_25 1 rfl rfl rfl rfl | exact ag3 T.agg_25 2 rfl rfl rfl rfl | exact ag3 T.agg_25 3 rfl rfl rfl rfl | exact ag3 T.agg_25 4 rfl rfl rfl rfl | exact ag3 T.agg_25 5 rfl rfl rfl rfl | exact ag3 T.agg_25 6 rfl rfl rfl rfl | exact ag3 T.agg_25 7 rfl rfl rfl rfl | exact LoadOK.agg (vs := [_, _, _, _, _, _]) T.agg_43 0 rfl rfl ⟨rfl, rfl, rfl, rfl, rfl, rfl, trivial⟩ | exact LoadOK.agg (vs := [_, _, _, _, _, _]) T.agg_43 1 rfl rfl ⟨rfl, rfl, rfl, rfl, rfl, rfl, trivial⟩ | exact LoadOK.agg (vs := [_, _, _, _, _, _]) T.agg_43 2 rfl rfl ⟨rfl, rfl, rfl, rfl, rfl, rfl, trivial⟩ | exact LoadOK.agg (vs := [_, _, _, _, _, _]) T.agg_43 3 rfl rfl ⟨rfl, rfl, rfl, rfl, rfl, rfl, trivial⟩ | exact LoadOK.agg (vs := [_, _, _, _, _, _]) T.agg_43 4 rfl rfl ⟨rfl, rfl, rfl, rfl, rfl, rfl, trivial⟩ | exact LoadOK.agg (vs := [_, _, _, _, _, _]) T.agg_43 5 rfl rfl ⟨rfl, rfl, rfl, rfl, rfl, rfl, trivial⟩ | exact LoadOK.agg (vs := [_, _, _, _, _, _]) T.agg_43 6 rfl rfl ⟨rfl, rfl, rfl, rfl, rfl, rfl, trivial⟩ | exact LoadOK.agg (vs := [_, _, _, _, _, _]) T.agg_43 7 rfl rfl ⟨rfl, rfl, rfl, rfl, rfl, rfl, trivial⟩)
      | (apply G.pickT; exact rfl; exact rfl; exact rfl)
      | (apply G.pickF; exact rfl; exact rfl; exact rfl)
      | (apply G.eql; exact rfl; exact rfl; exact rfl)
      | (apply G.eqlB; exact rfl; exact T.boo_4; exact rfl; exact rfl)
      | (apply G.notT; exact rfl; exact rfl)
      | (apply G.notF; exact rfl; exact rfl)
      | (refine G.notD rfl rfl ?_)
      | (apply G.notB; exact rfl; exact rfl))
    refine Goal.done (vs := [_]) (by first | exact .inl rfl | exact .inr rfl) Try.results13 ⟨rfl, trivial⟩ rfl (fun w' H => ⟨rfl, H.mod⟩)
end
end Go.Proofs.Ytldoplehchngfaa
