/- Package waypointlaw27: PostconvParts. -/
import Derived.Test.YtldoplehchngfaaPcF
namespace Go.Proofs.Ytldoplehchngfaa
open Go.Wf
set_option linter.unusedVariables false
section
variable {w : World} {tp : Top} {dn : List Bool} {vo vl vd : Value}
set_option maxHeartbeats 8000000 in
theorem law27_parts (x y : Int) (hT : TopR w vo vl tp) (hd : RdV w vd (bools dn)) (hov : tp.ov.length ≤ 140737488355328) : Calls Try.prog 5 #[.agg #[.int .i64 tp.n, vo, vl, vd, .int .i64 x, .int .i64 y]] w fun e w' => e = .returned (.bool true) ∧ Mod [] w w' := by
  obtain ⟨ao, co, rfl⟩ := shapeB hT.ov
  obtain ⟨al, cl, rfl⟩ := shapeL hT.ls
  obtain ⟨ad, cd, rfl⟩ := shapeB hd
  by_cases hlg : 12 < tp.n ∨ 20 < tp.ls.length ∨ 60 < dn.length
  · skip
    refine Goal.enter (args := [.agg #[.int .i64 tp.n, .slice ao tp.ov.length co, .slice al tp.ls.length cl, .slice ad dn.length cd, .int .i64 x, .int .i64 y]]) Try.func5 rfl Try.ntmps5 rfl (St.nil w) ?_
    repeat' (first
      | (refine Goal.loud (o := ⟨some 8, _, _, _, _, _⟩) rfl ?_; apply Loud.call0; exact rfl; exact rfl; exact rfl; exact rfl; exact T.bod_14; exact (fun w' H => awake27_ok w'))
      | (refine Goal.loud (o := ⟨some 12, _, _, _, _, _⟩) rfl ?_; apply Loud.call0; exact rfl; exact rfl; exact rfl; exact rfl; exact T.bod_15; exact (fun w' H => large27_ok (tp := tp) (dn := dn) ao al ad co cl cd x y w'); rw [decide_eq_true hlg])
      | (refine Goal.loud (o := ⟨some 14, _, _, _, _, _⟩) rfl ?_; apply Loud.call0; exact rfl; exact rfl; exact rfl; exact rfl; exact T.bod_14; exact (fun w' H => awake27_ok w'))
      | (refine Goal.loud (o := ⟨some 1, _, _, _, _, _⟩) rfl ?_; first | refine Loud.boxA rfl rfl (fun b1 => ?_) | refine Loud.box1 rfl rfl rfl (fun b1 => ?_))
      | (apply G.move; exact rfl; exact rfl)
      | (apply G.assign; exact rfl; exact rfl)
      | refine Goal.seq (fun _ _ => ?_)
      | refine Goal.next (by assumption) ?_
      | refine Goal.lnil ?_
      | refine Goal.region ?_
      | refine Goal.skip ?_
      | refine Goal.block ?_
      | refine Goal.exit ?_
      | refine Goal.ret ?_
      | refine Goal.then_exit ?_
      | refine Goal.then_ret ?_
      | refine Goal.inBlock_exit ?_
      | refine Goal.inBlock_normal ?_
      | refine Goal.inBlock_ret ?_
      | refine Goal.inBlock_other rfl ?_
      | (apply Goal.condT; exact rfl)
      | (apply Goal.condF; exact rfl)
      | (refine Goal.condD rfl (fun hc => ?_) (fun hc => ?_) <;> first | (exfalso; omega) | contradiction | skip)
      | refine Goal.condB rfl (fun hc => ?_) (fun hc => ?_)
      | refine Goal.guardT rfl rfl ?_
      | refine Goal.guardF rfl rfl rfl rfl ?_
      | refine Goal.guardU rfl rfl rfl ?_
      | (refine Goal.guardD rfl rfl (fun hc => ?_) (fun hc => ?_) <;> first | (exfalso; omega) | contradiction | skip)
      | refine Goal.guardB rfl rfl (fun hc => ?_) (fun hc => ?_)
      | (apply G.fieldAddr; exact rfl; exact rfl; (first | exact T.fld_27_0 | exact T.fld_27_1 | exact T.fld_27_2 | exact T.fld_27_3))
      | (apply G.load; exact rfl; exact rfl; first | exact LoadOK.one (by first | exact T.one_3 | exact T.one_22) 0 rfl rfl | exact LoadOK.one (by first | exact T.one_3 | exact T.one_22) 1 rfl rfl | exact LoadOK.one (by first | exact T.one_3 | exact T.one_22) 2 rfl rfl | exact LoadOK.one (by first | exact T.one_3 | exact T.one_22) 3 rfl rfl | exact LoadOK.one (by first | exact T.one_3 | exact T.one_22) 4 rfl rfl | exact LoadOK.one (by first | exact T.one_3 | exact T.one_22) 5 rfl rfl | exact LoadOK.one (by first | exact T.one_3 | exact T.one_22) 6 rfl rfl | exact LoadOK.one (by first | exact T.one_3 | exact T.one_22) 7 rfl rfl | exact ag3 T.agg_25 0 rfl rfl rfl rfl | exact ag3 T.agg_25 1 rfl rfl rfl rfl | exact ag3 T.agg_25 2 rfl rfl rfl rfl | exact ag3 T.agg_25 3 rfl rfl rfl rfl | exact ag3 T.agg_25 4 rfl rfl rfl rfl | exact ag3 T.agg_25 5 rfl rfl rfl rfl | exact ag3 T.agg_25 6 rfl rfl rfl rfl | exact ag3 T.agg_25 7 rfl rfl rfl rfl | exact LoadOK.agg (vs := [_, _, _, _, _, _]) T.agg_27 0 rfl rfl ⟨rfl, rfl, rfl, rfl, rfl, rfl, trivial⟩ | exact LoadOK.agg (vs := [_, _, _, _, _, _]) T.agg_27 1 rfl rfl ⟨rfl, rfl, rfl, rfl, rfl, rfl, trivial⟩ | exact LoadOK.agg (vs := [_, _, _, _, _, _]) T.agg_27 2 rfl rfl ⟨rfl, rfl, rfl, rfl, rfl, rfl, trivial⟩ | exact LoadOK.agg (vs := [_, _, _, _, _, _]) T.agg_27 3 rfl rfl ⟨rfl, rfl, rfl, rfl, rfl, rfl, trivial⟩ | exact LoadOK.agg (vs := [_, _, _, _, _, _]) T.agg_27 4 rfl rfl ⟨rfl, rfl, rfl, rfl, rfl, rfl, trivial⟩ | exact LoadOK.agg (vs := [_, _, _, _, _, _]) T.agg_27 5 rfl rfl ⟨rfl, rfl, rfl, rfl, rfl, rfl, trivial⟩ | exact LoadOK.agg (vs := [_, _, _, _, _, _]) T.agg_27 6 rfl rfl ⟨rfl, rfl, rfl, rfl, rfl, rfl, trivial⟩ | exact LoadOK.agg (vs := [_, _, _, _, _, _]) T.agg_27 7 rfl rfl ⟨rfl, rfl, rfl, rfl, rfl, rfl, trivial⟩)
      | (apply G.pickT; exact rfl; exact rfl; exact rfl)
      | (apply G.pickF; exact rfl; exact rfl; exact rfl)
      | (apply G.lss; exact rfl; exact rfl; exact rfl)
      | (apply G.gtr; exact rfl; exact rfl; exact rfl)
      | (apply G.eql; exact rfl; exact rfl; exact rfl)
      | (apply G.neq; exact rfl; exact rfl; exact rfl)
      | (apply G.add; exact rfl; exact rfl; exact rfl; exact IntWalk.i64_in _ (by omega))
      | (apply G.notT; exact rfl; exact rfl)
      | (apply G.notF; exact rfl; exact rfl)
      | (refine G.notD rfl rfl ?_)
      | (apply G.notB; exact rfl; exact rfl)
      | (apply G.extract; exact rfl; exact rfl; exact rfl)
      | (apply G.len; exact rfl; exact rfl; exact T.slc_30)
      | (refine Goal.quiet rfl (Run.sliceH T.slc_30 T.sz_3 rfl rfl _ rfl (by omega)) ?_)
      | (refine Goal.quiet rfl (Run.sliceH T.slc_30 T.sz_3 rfl rfl _ (Int.toNat_of_nonneg (by omega)).symm (by omega)) ?_)
      | (refine Goal.quiet rfl (Run.sliceL T.slc_30 T.sz_3 rfl rfl 1 rfl (by omega)) ?_)
      | (refine Goal.quiet rfl (Run.sliceL T.slc_30 T.sz_3 rfl rfl _ (Int.toNat_of_nonneg (by omega)).symm (by omega)) ?_)
      | (refine G.indexAddr1 rfl T.slc_30 T.sz_3 rfl rfl _ rfl (by omega) ?_)
      | (refine G.indexAddr1 rfl T.slc_30 T.sz_3 rfl rfl _ (Int.toNat_of_nonneg (by omega)).symm (by omega) ?_))
    refine Goal.done (vs := [_]) (by first | exact .inl rfl | exact .inr rfl) Try.results5 ⟨rfl, trivial⟩ rfl (fun w' H => ⟨rfl, H.mod⟩)
  by_cases hk : chk tp dn [x, y] = 0
  rotate_left
  · have hb1 := fun w' (hT : TopR w' (.slice ao tp.ov.length co) (.slice al tp.ls.length cl) tp) (hd : RdV w' (.slice ad dn.length cd) (bools dn)) => ppath_bad (s := x) (d := y) hT hd (by omega) hov hk
    generalize chk tp dn [x, y] = k at hb1 hk
    refine Goal.enter (args := [.agg #[.int .i64 tp.n, .slice ao tp.ov.length co, .slice al tp.ls.length cl, .slice ad dn.length cd, .int .i64 x, .int .i64 y]]) Try.func5 rfl Try.ntmps5 rfl (St.nil w) ?_
    repeat' (first
      | (refine Goal.loud (o := ⟨some 8, _, _, _, _, _⟩) rfl ?_; apply Loud.call0; exact rfl; exact rfl; exact rfl; exact rfl; exact T.bod_14; exact (fun w' H => awake27_ok w'))
      | (refine Goal.loud (o := ⟨some 12, _, _, _, _, _⟩) rfl ?_; apply Loud.call0; exact rfl; exact rfl; exact rfl; exact rfl; exact T.bod_15; exact (fun w' H => large27_ok (tp := tp) (dn := dn) ao al ad co cl cd x y w'); rw [decide_eq_false hlg])
      | (refine Goal.loud (o := ⟨some 24, _, _, _, _, _⟩) rfl ?_; apply Loud.call0; exact rfl; exact rfl; exact rfl; exact rfl; exact T.bod_16; exact (fun w' H => hb1 w' (hT.keep H.mod) (hd.keep H.mod)))
      | (refine Goal.loud (o := ⟨some 1, _, _, _, _, _⟩) rfl ?_; first | refine Loud.boxA rfl rfl (fun b1 => ?_) | refine Loud.box1 rfl rfl rfl (fun b1 => ?_))
      | (apply G.move; exact rfl; exact rfl)
      | (apply G.assign; exact rfl; exact rfl)
      | refine Goal.seq (fun _ _ => ?_)
      | refine Goal.next (by assumption) ?_
      | refine Goal.lnil ?_
      | refine Goal.region ?_
      | refine Goal.skip ?_
      | refine Goal.block ?_
      | refine Goal.exit ?_
      | refine Goal.ret ?_
      | refine Goal.then_exit ?_
      | refine Goal.then_ret ?_
      | refine Goal.inBlock_exit ?_
      | refine Goal.inBlock_normal ?_
      | refine Goal.inBlock_ret ?_
      | refine Goal.inBlock_other rfl ?_
      | (apply Goal.condT; exact rfl)
      | (apply Goal.condF; exact rfl)
      | (refine Goal.condD rfl (fun hc => ?_) (fun hc => ?_) <;> first | (exfalso; omega) | contradiction | skip)
      | refine Goal.condB rfl (fun hc => ?_) (fun hc => ?_)
      | refine Goal.guardT rfl rfl ?_
      | refine Goal.guardF rfl rfl rfl rfl ?_
      | refine Goal.guardU rfl rfl rfl ?_
      | (refine Goal.guardD rfl rfl (fun hc => ?_) (fun hc => ?_) <;> first | (exfalso; omega) | contradiction | skip)
      | refine Goal.guardB rfl rfl (fun hc => ?_) (fun hc => ?_)
      | (apply G.fieldAddr; exact rfl; exact rfl; (first | exact T.fld_27_0 | exact T.fld_27_1 | exact T.fld_27_2 | exact T.fld_27_3))
      | (apply G.load; exact rfl; exact rfl; first | exact LoadOK.one (by first | exact T.one_3 | exact T.one_22) 0 rfl rfl | exact LoadOK.one (by first | exact T.one_3 | exact T.one_22) 1 rfl rfl | exact LoadOK.one (by first | exact T.one_3 | exact T.one_22) 2 rfl rfl | exact LoadOK.one (by first | exact T.one_3 | exact T.one_22) 3 rfl rfl | exact LoadOK.one (by first | exact T.one_3 | exact T.one_22) 4 rfl rfl | exact LoadOK.one (by first | exact T.one_3 | exact T.one_22) 5 rfl rfl | exact LoadOK.one (by first | exact T.one_3 | exact T.one_22) 6 rfl rfl | exact LoadOK.one (by first | exact T.one_3 | exact T.one_22) 7 rfl rfl | exact ag3 T.agg_25 0 rfl rfl rfl rfl | exact ag3 T.agg_25 1 rfl rfl rfl rfl | exact ag3 T.agg_25 2 rfl rfl rfl rfl | exact ag3 T.agg_25 3 rfl rfl rfl rfl | exact ag3 T.agg_25 4 rfl rfl rfl rfl | exact ag3 T.agg_25 5 rfl rfl rfl rfl | exact ag3 T.agg_25 6 rfl rfl rfl rfl | exact ag3 T.agg_25 7 rfl rfl rfl rfl | exact LoadOK.agg (vs := [_, _, _, _, _, _]) T.agg_27 0 rfl rfl ⟨rfl, rfl, rfl, rfl, rfl, rfl, trivial⟩ | exact LoadOK.agg (vs := [_, _, _, _, _, _]) T.agg_27 1 rfl rfl ⟨rfl, rfl, rfl, rfl, rfl, rfl, trivial⟩ | exact LoadOK.agg (vs := [_, _, _, _, _, _]) T.agg_27 2 rfl rfl ⟨rfl, rfl, rfl, rfl, rfl, rfl, trivial⟩ | exact LoadOK.agg (vs := [_, _, _, _, _, _]) T.agg_27 3 rfl rfl ⟨rfl, rfl, rfl, rfl, rfl, rfl, trivial⟩ | exact LoadOK.agg (vs := [_, _, _, _, _, _]) T.agg_27 4 rfl rfl ⟨rfl, rfl, rfl, rfl, rfl, rfl, trivial⟩ | exact LoadOK.agg (vs := [_, _, _, _, _, _]) T.agg_27 5 rfl rfl ⟨rfl, rfl, rfl, rfl, rfl, rfl, trivial⟩ | exact LoadOK.agg (vs := [_, _, _, _, _, _]) T.agg_27 6 rfl rfl ⟨rfl, rfl, rfl, rfl, rfl, rfl, trivial⟩ | exact LoadOK.agg (vs := [_, _, _, _, _, _]) T.agg_27 7 rfl rfl ⟨rfl, rfl, rfl, rfl, rfl, rfl, trivial⟩)
      | (apply G.pickT; exact rfl; exact rfl; exact rfl)
      | (apply G.pickF; exact rfl; exact rfl; exact rfl)
      | (apply G.lss; exact rfl; exact rfl; exact rfl)
      | (apply G.gtr; exact rfl; exact rfl; exact rfl)
      | (apply G.eql; exact rfl; exact rfl; exact rfl)
      | (apply G.neq; exact rfl; exact rfl; exact rfl)
      | (apply G.add; exact rfl; exact rfl; exact rfl; exact IntWalk.i64_in _ (by omega))
      | (apply G.notT; exact rfl; exact rfl)
      | (apply G.notF; exact rfl; exact rfl)
      | (refine G.notD rfl rfl ?_)
      | (apply G.notB; exact rfl; exact rfl)
      | (apply G.extract; exact rfl; exact rfl; exact rfl)
      | (apply G.len; exact rfl; exact rfl; exact T.slc_30)
      | (refine Goal.quiet rfl (Run.sliceH T.slc_30 T.sz_3 rfl rfl _ rfl (by omega)) ?_)
      | (refine Goal.quiet rfl (Run.sliceH T.slc_30 T.sz_3 rfl rfl _ (Int.toNat_of_nonneg (by omega)).symm (by omega)) ?_)
      | (refine Goal.quiet rfl (Run.sliceL T.slc_30 T.sz_3 rfl rfl 1 rfl (by omega)) ?_)
      | (refine Goal.quiet rfl (Run.sliceL T.slc_30 T.sz_3 rfl rfl _ (Int.toNat_of_nonneg (by omega)).symm (by omega)) ?_)
      | (refine G.indexAddr1 rfl T.slc_30 T.sz_3 rfl rfl _ rfl (by omega) ?_)
      | (refine G.indexAddr1 rfl T.slc_30 T.sz_3 rfl rfl _ (Int.toNat_of_nonneg (by omega)).symm (by omega) ?_))
    refine Goal.done (vs := [_]) (by first | exact .inl rfl | exact .inr rfl) Try.results5 ⟨rfl, trivial⟩ rfl (fun w' H => ⟨rfl, H.mod⟩)
  obtain ⟨ht, hf, hs, hr⟩ := chk_all hk
  have hn := ht.n
  have har0 : tp.arcs = 2 * (tp.ls.length : Int) := rfl
  refine Goal.enter (args := [.agg #[.int .i64 tp.n, .slice ao tp.ov.length co, .slice al tp.ls.length cl, .slice ad dn.length cd, .int .i64 x, .int .i64 y]]) Try.func5 rfl Try.ntmps5 rfl (St.nil w) ?_
  repeat' (first
    | (refine Goal.loud (o := ⟨some 8, _, _, _, _, _⟩) rfl ?_; apply Loud.call0; exact rfl; exact rfl; exact rfl; exact rfl; exact T.bod_14; exact (fun w' H => awake27_ok w'))
    | (refine Goal.loud (o := ⟨some 12, _, _, _, _, _⟩) rfl ?_; apply Loud.call0; exact rfl; exact rfl; exact rfl; exact rfl; exact T.bod_15; exact (fun w' H => large27_ok (tp := tp) (dn := dn) ao al ad co cl cd x y w'); rw [decide_eq_false hlg])
    | (refine Goal.loud (o := ⟨some 24, _, _, _, _, _⟩) rfl ?_; apply Loud.callN; exact rfl; exact rfl; exact rfl; exact rfl; exact T.bod_16; exact (fun w' H => ppath_ok (hT.keep H.mod) (hd.keep H.mod) ht hf hs hr); rintro ⟨l, p, v, er, A⟩ ⟨hl, hP⟩; dsimp only at hl hP ⊢; have hpl := PathS.len ht hl hs hP; obtain ⟨av, cv, rfl⟩ := hP.shape)
    | (refine Goal.loud (o := ⟨some 1, _, _, _, _, _⟩) rfl ?_; first | refine Loud.boxA rfl rfl (fun b1 => ?_) | refine Loud.box1 rfl rfl rfl (fun b1 => ?_))
    | (apply G.move; exact rfl; exact rfl)
    | (apply G.assign; exact rfl; exact rfl)
    | refine Goal.seq (fun _ _ => ?_)
    | refine Goal.next (by assumption) ?_
    | refine Goal.lnil ?_
    | refine Goal.region ?_
    | refine Goal.skip ?_
    | refine Goal.block ?_
    | refine Goal.exit ?_
    | refine Goal.ret ?_
    | refine Goal.then_exit ?_
    | refine Goal.then_ret ?_
    | refine Goal.inBlock_exit ?_
    | refine Goal.inBlock_normal ?_
    | refine Goal.inBlock_ret ?_
    | refine Goal.inBlock_other rfl ?_
    | (apply Goal.condT; exact rfl)
    | (apply Goal.condF; exact rfl)
    | (refine Goal.condD rfl (fun hc => ?_) (fun hc => ?_) <;> first | (exfalso; omega) | contradiction | skip)
    | refine Goal.condB rfl (fun hc => ?_) (fun hc => ?_)
    | refine Goal.guardT rfl rfl ?_
    | refine Goal.guardF rfl rfl rfl rfl ?_
    | refine Goal.guardU rfl rfl rfl ?_
    | (refine Goal.guardD rfl rfl (fun hc => ?_) (fun hc => ?_) <;> first | (exfalso; omega) | contradiction | skip)
    | refine Goal.guardB rfl rfl (fun hc => ?_) (fun hc => ?_)
    | (apply G.fieldAddr; exact rfl; exact rfl; (first | exact T.fld_27_0 | exact T.fld_27_1 | exact T.fld_27_2 | exact T.fld_27_3))
    | (apply G.load; exact rfl; exact rfl; first | exact LoadOK.one (by first | exact T.one_3 | exact T.one_22) 0 rfl rfl | exact LoadOK.one (by first | exact T.one_3 | exact T.one_22) 1 rfl rfl | exact LoadOK.one (by first | exact T.one_3 | exact T.one_22) 2 rfl rfl | exact LoadOK.one (by first | exact T.one_3 | exact T.one_22) 3 rfl rfl | exact LoadOK.one (by first | exact T.one_3 | exact T.one_22) 4 rfl rfl | exact LoadOK.one (by first | exact T.one_3 | exact T.one_22) 5 rfl rfl | exact LoadOK.one (by first | exact T.one_3 | exact T.one_22) 6 rfl rfl | exact LoadOK.one (by first | exact T.one_3 | exact T.one_22) 7 rfl rfl | exact ag3 T.agg_25 0 rfl rfl rfl rfl | exact ag3 T.agg_25 1 rfl rfl rfl rfl | exact ag3 T.agg_25 2 rfl rfl rfl rfl | exact ag3 T.agg_25 3 rfl rfl rfl rfl | exact ag3 T.agg_25 4 rfl rfl rfl rfl | exact ag3 T.agg_25 5 rfl rfl rfl rfl | exact ag3 T.agg_25 6 rfl rfl rfl rfl | exact ag3 T.agg_25 7 rfl rfl rfl rfl | exact LoadOK.agg (vs := [_, _, _, _, _, _]) T.agg_27 0 rfl rfl ⟨rfl, rfl, rfl, rfl, rfl, rfl, trivial⟩ | exact LoadOK.agg (vs := [_, _, _, _, _, _]) T.agg_27 1 rfl rfl ⟨rfl, rfl, rfl, rfl, rfl, rfl, trivial⟩ | exact LoadOK.agg (vs := [_, _, _, _, _, _]) T.agg_27 2 rfl rfl ⟨rfl, rfl, rfl, rfl, rfl, rfl, trivial⟩ | exact LoadOK.agg (vs := [_, _, _, _, _, _]) T.agg_27 3 rfl rfl ⟨rfl, rfl, rfl, rfl, rfl, rfl, trivial⟩ | exact LoadOK.agg (vs := [_, _, _, _, _, _]) T.agg_27 4 rfl rfl ⟨rfl, rfl, rfl, rfl, rfl, rfl, trivial⟩ | exact LoadOK.agg (vs := [_, _, _, _, _, _]) T.agg_27 5 rfl rfl ⟨rfl, rfl, rfl, rfl, rfl, rfl, trivial⟩ | exact LoadOK.agg (vs := [_, _, _, _, _, _]) T.agg_27 6 rfl rfl ⟨rfl, rfl, rfl, rfl, rfl, rfl, trivial⟩ | exact LoadOK.agg (vs := [_, _, _, _, _, _]) T.agg_27 7 rfl rfl ⟨rfl, rfl, rfl, rfl, rfl, rfl, trivial⟩)
    | (apply G.pickT; exact rfl; exact rfl; exact rfl)
    | (apply G.pickF; exact rfl; exact rfl; exact rfl)
    | (apply G.lss; exact rfl; exact rfl; exact rfl)
    | (apply G.gtr; exact rfl; exact rfl; exact rfl)
    | (apply G.eql; exact rfl; exact rfl; exact rfl)
    | (apply G.neq; exact rfl; exact rfl; exact rfl)
    | (apply G.add; exact rfl; exact rfl; exact rfl; exact IntWalk.i64_in _ (by omega))
    | (apply G.notT; exact rfl; exact rfl)
    | (apply G.notF; exact rfl; exact rfl)
    | (refine G.notD rfl rfl ?_)
    | (apply G.notB; exact rfl; exact rfl)
    | (apply G.extract; exact rfl; exact rfl; exact rfl)
    | (apply G.len; exact rfl; exact rfl; exact T.slc_30)
    | (refine Goal.quiet rfl (Run.sliceH T.slc_30 T.sz_3 rfl rfl _ rfl (by omega)) ?_)
    | (refine Goal.quiet rfl (Run.sliceH T.slc_30 T.sz_3 rfl rfl _ (Int.toNat_of_nonneg (by omega)).symm (by omega)) ?_)
    | (refine Goal.quiet rfl (Run.sliceL T.slc_30 T.sz_3 rfl rfl 1 rfl (by omega)) ?_)
    | (refine Goal.quiet rfl (Run.sliceL T.slc_30 T.sz_3 rfl rfl _ (Int.toNat_of_nonneg (by omega)).symm (by omega)) ?_)
    | (refine G.indexAddr1 rfl T.slc_30 T.sz_3 rfl rfl _ rfl (by omega) ?_)
    | (refine G.indexAddr1 rfl T.slc_30 T.sz_3 rfl rfl _ (Int.toNat_of_nonneg (by omega)).symm (by omega) ?_))
  · have hpe : p = [] := by
      rcases hP with ⟨_, rfl, _⟩ | ⟨_, he, _⟩
      · rfl
      · exact absurd he hc
    subst hpe
    refine Goal.done (vs := [_]) (by first | exact .inl rfl | exact .inr rfl) Try.results5 ⟨rfl, trivial⟩ rfl (fun w' H => ⟨rfl, H.mod⟩)
  obtain ⟨hD0, hfp, hS⟩ : 0 ≤ ia l x ∧ FP tp dn y (ia l) x p ∧ Sl (.slice av p.length cv) 3 1 p.length (ints p) A := by
    rcases hP with ⟨_, _, _, he, _⟩ | ⟨h0, _, hfp, hS⟩
    · omega
    · exact ⟨h0, hfp, hS⟩
  refine Goal.loopP (X := Int) (fun i => [(1, .pointer (some ⟨b1, 0, none⟩)), (3, .slice av p.length cv), (32, .slice av p.length cv), (33, .int .i64 p.length), (34, .int .i64 i)])
    (fun _ => (b1, .cells #[.int .i64 tp.n, .slice ao tp.ov.length co, .slice al tp.ls.length cl, .slice ad dn.length cd, .int .i64 x, .int .i64 y] 27) :: A)
    (fun i => 0 ≤ i ∧ i ≤ p.length) (fun i => (p.length - i).toNat) 0 ⟨rfl, rfl, rfl, rfl, rfl, trivial⟩ (fun _ h => h) ⟨by omega, by omega⟩ ?_
  rintro i hi
  by_cases h : i < p.length
  · obtain ⟨bp, restp, capp, e, rfl, _, hcap1, hcap2⟩ := hS.pos (by omega)
    injection e with e1 e2 e3
    subst e1 e3
    have hpi := ia_some hi.1 h
    obtain ⟨hfd, har, hup⟩ := FP.drop hfp hpi
    have hon : OnA tp dn y (ia l) (ia p i) := by
      have hd' : p.drop i.toNat = ia p i :: p.drop (i.toNat + 1) := by
        rw [List.drop_eq_getElem_cons (by omega)]
        rw [List.getElem?_eq_getElem (by omega)] at hpi
        injection hpi with hpi
        rw [hpi]
      rw [hd'] at hfd
      exact FP.on hfd
    have hlt := OnA.less ht har hon
    obtain ⟨htl, _⟩ := ht.arc har
    have hdm : dn.length = 0 ∨ (0 ≤ ia p i ∧ ia p i < dn.length) := by
      rcases hf with e | e
      · exact .inl e
      · exact .inr (by omega)
    repeat' (first
      | (refine Goal.drawAll (id := 9) 19 T.mixed ?_; all_goals ((refine Goal.takeP (listed' := #[Ya,No,No,No,No,No,No,No,No,No,No,No,No,No,No,No,No,No,No]) 0 ⟨rfl, by kernel_rfl, by kernel_rfl, by kernel_rfl, by kernel_rfl⟩ rfl (fun _ _ _ _ h => h) (by intro _; exact Run.fieldAddr T.fld_27_0 rfl) ?_)); all_goals ((refine Goal.takeP (listed' := #[Ya,No,Ya,No,No,No,No,No,No,No,No,No,No,No,No,No,No,No,No]) 2 ⟨rfl, by kernel_rfl, by kernel_rfl, by kernel_rfl, by kernel_rfl⟩ rfl (fun _ _ _ _ h => h) (by intro _; exact Run.fieldAddr T.fld_27_1 rfl) ?_)); all_goals ((refine Goal.takeP (listed' := #[Ya,No,Ya,No,Ya,No,No,No,No,No,No,No,No,No,No,No,No,No,No]) 4 ⟨rfl, by kernel_rfl, by kernel_rfl, by kernel_rfl, by kernel_rfl⟩ rfl (fun _ _ _ _ h => h) (by intro _; exact Run.fieldAddr T.fld_27_0 rfl) ?_)); all_goals ((refine Goal.takeP (listed' := #[Ya,No,Ya,No,Ya,No,Ya,No,No,No,No,No,No,No,No,No,No,No,No]) 6 ⟨rfl, by kernel_rfl, by kernel_rfl, by kernel_rfl, by kernel_rfl⟩ rfl (fun _ _ _ _ h => h) (by intro _; exact Run.move rfl) ?_)); all_goals ((refine Goal.takeP (listed' := #[Ya,No,Ya,No,Ya,No,Ya,Ya,No,No,No,No,No,No,No,No,No,No,No]) 7 ⟨rfl, by kernel_rfl, by kernel_rfl, by kernel_rfl, by kernel_rfl⟩ rfl (fun _ _ _ _ h => h) (by intro _; exact Run.move rfl) ?_)); all_goals ((refine Goal.takeP (listed' := #[Ya,No,Ya,No,Ya,No,Ya,Ya,Ya,No,No,No,No,No,No,No,No,No,No]) 8 ⟨rfl, by kernel_rfl, by kernel_rfl, by kernel_rfl, by kernel_rfl⟩ rfl (fun _ _ _ _ h => h) (by intro _; first | exact Run.indexAddr1 T.slc_30 T.sz_3 rfl rfl rfl (by omega) | exact Run.indexAddr1 T.slc_30 T.sz_3 rfl rfl (Int.toNat_of_nonneg (by omega)).symm (by omega)) ?_)); all_goals ((refine Goal.takeP (listed' := #[Ya,No,Ya,No,Ya,No,Ya,Ya,Ya,No,No,Ya,No,No,No,No,No,No,No]) 11 ⟨rfl, by kernel_rfl, by kernel_rfl, by kernel_rfl, by kernel_rfl⟩ rfl (fun _ _ _ _ h => h) (by intro _; exact Run.fieldAddr T.fld_27_3 rfl) ?_)); all_goals ((refine Goal.take (listed' := #[Ya,Ya,Ya,No,Ya,No,Ya,Ya,Ya,No,No,Ya,No,No,No,No,No,No,No]) 1 ⟨rfl, by kernel_rfl, by kernel_rfl, by kernel_rfl, by kernel_rfl, by kernel_rfl⟩ rfl (by (first | exact s0 | exact s1 | exact s2 | exact s3 | exact sd | exact sa | exact sn (by simp))) (fun _ _ _ _ h => h) (by (apply Run.load; exact rfl; first | exact LoadOK.iaMe (b := bp) (l := p) (rest := restp) (E := 3) (i := i) (x := ia p i) T.one_3 (by simp) (by omega) rfl | exact ag3 T.agg_25 0 rfl rfl rfl rfl | exact ag3 T.agg_25 1 rfl rfl rfl rfl | exact ag3 T.agg_25 2 rfl rfl rfl rfl | exact ag3 T.agg_25 3 rfl rfl rfl rfl | exact ag3 T.agg_25 4 rfl rfl rfl rfl | exact ag3 T.agg_25 5 rfl rfl rfl rfl | exact ag3 T.agg_25 6 rfl rfl rfl rfl | exact ag3 T.agg_25 7 rfl rfl rfl rfl)) ?_)); all_goals ((refine Goal.take (listed' := #[Ya,Ya,Ya,Ya,Ya,No,Ya,Ya,Ya,No,No,Ya,No,No,No,No,No,No,No]) 3 ⟨rfl, by kernel_rfl, by kernel_rfl, by kernel_rfl, by kernel_rfl, by kernel_rfl⟩ rfl (by (first | exact s0 | exact s1 | exact s2 | exact s3 | exact sd | exact sa | exact sn (by simp))) (fun _ _ _ _ h => h) (by (apply Run.load; exact rfl; first | exact LoadOK.iaMe (b := bp) (l := p) (rest := restp) (E := 3) (i := i) (x := ia p i) T.one_3 (by simp) (by omega) rfl | exact LoadOK.one T.one_22 0 rfl rfl | exact LoadOK.one T.one_22 1 rfl rfl | exact LoadOK.one T.one_22 2 rfl rfl | exact LoadOK.one T.one_22 3 rfl rfl | exact LoadOK.one T.one_22 4 rfl rfl | exact LoadOK.one T.one_22 5 rfl rfl | exact LoadOK.one T.one_22 6 rfl rfl | exact LoadOK.one T.one_22 7 rfl rfl)) ?_)); all_goals ((refine Goal.take (listed' := #[Ya,Ya,Ya,Ya,Ya,Ya,Ya,Ya,Ya,No,No,Ya,No,No,No,No,No,No,No]) 5 ⟨rfl, by kernel_rfl, by kernel_rfl, by kernel_rfl, by kernel_rfl, by kernel_rfl⟩ rfl (by (first | exact s0 | exact s1 | exact s2 | exact s3 | exact sd | exact sa | exact sn (by simp))) (fun _ _ _ _ h => h) (by (apply Run.load; exact rfl; first | exact LoadOK.iaMe (b := bp) (l := p) (rest := restp) (E := 3) (i := i) (x := ia p i) T.one_3 (by simp) (by omega) rfl | exact ag3 T.agg_25 0 rfl rfl rfl rfl | exact ag3 T.agg_25 1 rfl rfl rfl rfl | exact ag3 T.agg_25 2 rfl rfl rfl rfl | exact ag3 T.agg_25 3 rfl rfl rfl rfl | exact ag3 T.agg_25 4 rfl rfl rfl rfl | exact ag3 T.agg_25 5 rfl rfl rfl rfl | exact ag3 T.agg_25 6 rfl rfl rfl rfl | exact ag3 T.agg_25 7 rfl rfl rfl rfl)) ?_)); all_goals ((refine Goal.take (listed' := #[Ya,Ya,Ya,Ya,Ya,Ya,Ya,Ya,Ya,Ya,No,Ya,No,No,No,No,No,No,No]) 9 ⟨rfl, by kernel_rfl, by kernel_rfl, by kernel_rfl, by kernel_rfl, by kernel_rfl⟩ rfl (by (first | exact s0 | exact s1 | exact s2 | exact s3 | exact sd | exact sa | exact sn (by simp))) (fun _ _ _ _ h => h) (by (apply Run.load; exact rfl; first | exact LoadOK.iaMe (b := bp) (l := p) (rest := restp) (E := 3) (i := i) (x := ia p i) T.one_3 (by simp) (by omega) rfl | exact LoadOK.one T.one_3 0 rfl rfl | exact LoadOK.one T.one_3 1 rfl rfl | exact LoadOK.one T.one_3 2 rfl rfl | exact LoadOK.one T.one_3 3 rfl rfl | exact LoadOK.one T.one_3 4 rfl rfl | exact LoadOK.one T.one_3 5 rfl rfl | exact LoadOK.one T.one_3 6 rfl rfl | exact LoadOK.one T.one_3 7 rfl rfl)) ?_)); all_goals ((refine Goal.take (listed' := #[Ya,Ya,Ya,Ya,Ya,Ya,Ya,Ya,Ya,Ya,No,Ya,Ya,No,No,No,No,No,No]) 12 ⟨rfl, by kernel_rfl, by kernel_rfl, by kernel_rfl, by kernel_rfl, by kernel_rfl⟩ rfl (by (first | exact s0 | exact s1 | exact s2 | exact s3 | exact sd | exact sa | exact sn (by simp))) (fun _ _ _ _ h => h) (by (apply Run.load; exact rfl; first | exact LoadOK.iaMe (b := bp) (l := p) (rest := restp) (E := 3) (i := i) (x := ia p i) T.one_3 (by simp) (by omega) rfl | exact LoadOK.one T.one_3 0 rfl rfl | exact LoadOK.one T.one_3 1 rfl rfl | exact LoadOK.one T.one_3 2 rfl rfl | exact LoadOK.one T.one_3 3 rfl rfl | exact LoadOK.one T.one_3 4 rfl rfl | exact LoadOK.one T.one_3 5 rfl rfl | exact LoadOK.one T.one_3 6 rfl rfl | exact LoadOK.one T.one_3 7 rfl rfl)) ?_)); all_goals (refine Goal.ready1 (i := 10) (by kernel_rfl) ?_); all_goals ((refine Goal.up (i := 10) (listed' := #[Ya,Ya,Ya,Ya,Ya,Ya,Ya,Ya,Ya,Ya,Ya,Ya,Ya,No,No,No,No,No,No]) rfl (by kernel_rfl) ?_; (apply Loud.call0; exact rfl; exact rfl; exact rfl; exact rfl; exact T.bod_25; exact (fun w' H => rtail_ok (hT.keep H.mod) ht har)); first | refine Goal.tail rfl ?_ | refine Goal.kept (by (first | exact s0 | exact s1 | exact s2 | exact s3 | exact sd | exact sa | exact sn (by simp))) ?_)); all_goals (refine Goal.ready1 (i := 13) (by kernel_rfl) ?_); all_goals ((refine Goal.up (i := 13) (listed' := #[Ya,Ya,Ya,Ya,Ya,Ya,Ya,Ya,Ya,Ya,Ya,Ya,Ya,Ya,No,No,No,No,No]) rfl (by kernel_rfl) ?_; (apply Loud.callN; exact rfl; exact rfl; exact rfl; exact rfl; exact T.bod_16; exact (fun w' H => ppath_ok (hT.keep H.mod) (hd.keep H.mod) ht hf htl hr); rintro ⟨l2, q, v2, er2, A2⟩ ⟨hl2, hP2⟩; dsimp only at hl2 hP2 ⊢; obtain rfl := DL.one (GD.ok ht) hl hl2; obtain ⟨rfl, rfl⟩ : p.drop i.toNat = q ∧ 0 = er2 := PathS.same hP2 hfd hlt); first | refine Goal.tail rfl ?_ | refine Goal.kept (by (first | exact s0 | exact s1 | exact s2 | exact s3 | exact sd | exact sa | exact sn (by simp))) ?_)); all_goals ((refine Goal.takeP (listed' := #[Ya,Ya,Ya,Ya,Ya,Ya,Ya,Ya,Ya,Ya,Ya,Ya,Ya,Ya,Ya,No,No,No,No]) 14 ⟨rfl, by kernel_rfl, by kernel_rfl, by kernel_rfl, by kernel_rfl⟩ rfl (fun _ _ _ _ h => h) (by intro _; exact Run.move rfl) ?_)); all_goals ((refine Goal.takeP (listed' := #[Ya,Ya,Ya,Ya,Ya,Ya,Ya,Ya,Ya,Ya,Ya,Ya,Ya,Ya,Ya,Ya,No,No,No]) 15 ⟨rfl, by kernel_rfl, by kernel_rfl, by kernel_rfl, by kernel_rfl⟩ rfl (fun _ _ _ _ h => h) (by intro _; exact Run.extract rfl rfl) ?_)); all_goals ((refine Goal.takeP (listed' := #[Ya,Ya,Ya,Ya,Ya,Ya,Ya,Ya,Ya,Ya,Ya,Ya,Ya,Ya,Ya,Ya,Ya,No,No]) 16 ⟨rfl, by kernel_rfl, by kernel_rfl, by kernel_rfl, by kernel_rfl⟩ rfl (fun _ _ _ _ h => h) (by intro _; exact Run.extract rfl rfl) ?_)); all_goals ((refine Goal.takeP (listed' := #[Ya,Ya,Ya,Ya,Ya,Ya,Ya,Ya,Ya,Ya,Ya,Ya,Ya,Ya,Ya,Ya,Ya,Ya,No]) 17 ⟨rfl, by kernel_rfl, by kernel_rfl, by kernel_rfl, by kernel_rfl⟩ rfl (fun _ _ _ _ h => h) (by intro _; exact Run.assign rfl) ?_)); all_goals ((refine Goal.takeP (listed' := #[Ya,Ya,Ya,Ya,Ya,Ya,Ya,Ya,Ya,Ya,Ya,Ya,Ya,Ya,Ya,Ya,Ya,Ya,Ya]) 18 ⟨rfl, by kernel_rfl, by kernel_rfl, by kernel_rfl, by kernel_rfl⟩ rfl (fun _ _ _ _ h => h) (by intro _; exact Run.assign rfl) ?_)); all_goals (refine Goal.allUp (by kernel_rfl) ?_))
      | (refine Goal.drawAll (id := 10) 7 T.mixed ?_; all_goals ((refine Goal.takeP (listed' := #[Ya,No,No,No,No,No,No,No,No,No,No,No,No,No,No,No,No,No,No,No]) 0 ⟨rfl, by kernel_rfl, by kernel_rfl, by kernel_rfl, by kernel_rfl⟩ rfl (fun _ _ _ _ h => h) (by intro _; exact Run.move rfl) ?_)); all_goals ((refine Goal.takeP (listed' := #[Ya,Ya,No,No,No,No,No,No,No,No,No,No,No,No,No,No,No,No,No,No]) 1 ⟨rfl, by kernel_rfl, by kernel_rfl, by kernel_rfl, by kernel_rfl⟩ rfl (fun _ _ _ _ h => h) (by intro _; first | exact Run.neq rfl rfl) ?_)); all_goals ((refine Goal.takeP (listed' := #[Ya,Ya,Ya,No,No,No,No,No,No,No,No,No,No,No,No,No,No,No,No,No]) 2 ⟨rfl, by kernel_rfl, by kernel_rfl, by kernel_rfl, by kernel_rfl⟩ rfl (fun _ _ _ _ h => h) (by intro _; exact Run.move rfl) ?_)); all_goals (first | (refine Goal.bdec 56 rfl (fun hc => ?_) (fun hc => ?_) <;> first | (exfalso; omega) | contradiction | skip) | skip); all_goals (first | (refine Goal.takePT (listed' := #[Ya,Ya,Ya,Ya,No,No,No,No,No,No,No,No,No,No,No,No,No,No,No,No]) 3 ⟨rfl, by kernel_rfl, by kernel_rfl, by kernel_rfl, by kernel_rfl⟩ rfl rfl rfl (fun _ _ _ _ h => h) (by intro _; exact Run.move rfl) ?_) | (refine Goal.takePF (listed' := #[Ya,Ya,Ya,Ya,No,No,No,No,No,No,No,No,No,No,No,No,No,No,No,No]) 3 ⟨rfl, by kernel_rfl, by kernel_rfl, by kernel_rfl, by kernel_rfl⟩ rfl rfl rfl rfl (fun _ _ _ _ h => h) ?_) | (refine Goal.takePU (listed' := #[Ya,Ya,Ya,Ya,No,No,No,No,No,No,No,No,No,No,No,No,No,No,No,No]) 3 ⟨rfl, by kernel_rfl, by kernel_rfl, by kernel_rfl, by kernel_rfl⟩ rfl rfl rfl (fun _ _ _ _ h => h) ?_)); all_goals (first | (refine Goal.takePT (listed' := #[Ya,Ya,Ya,Ya,Ya,No,No,No,No,No,No,No,No,No,No,No,No,No,No,No]) 4 ⟨rfl, by kernel_rfl, by kernel_rfl, by kernel_rfl, by kernel_rfl⟩ rfl rfl rfl (fun _ _ _ _ h => h) (by intro _; exact Run.move rfl) ?_) | (refine Goal.takePF (listed' := #[Ya,Ya,Ya,Ya,Ya,No,No,No,No,No,No,No,No,No,No,No,No,No,No,No]) 4 ⟨rfl, by kernel_rfl, by kernel_rfl, by kernel_rfl, by kernel_rfl⟩ rfl rfl rfl rfl (fun _ _ _ _ h => h) ?_) | (refine Goal.takePU (listed' := #[Ya,Ya,Ya,Ya,Ya,No,No,No,No,No,No,No,No,No,No,No,No,No,No,No]) 4 ⟨rfl, by kernel_rfl, by kernel_rfl, by kernel_rfl, by kernel_rfl⟩ rfl rfl rfl (fun _ _ _ _ h => h) ?_)); all_goals (first | (refine Goal.takePT (listed' := #[Ya,Ya,Ya,Ya,Ya,Ya,No,No,No,No,No,No,No,No,No,No,No,No,No,No]) 5 ⟨rfl, by kernel_rfl, by kernel_rfl, by kernel_rfl, by kernel_rfl⟩ rfl rfl rfl (fun _ _ _ _ h => h) (by intro _; exact Run.move rfl) ?_) | (refine Goal.takePF (listed' := #[Ya,Ya,Ya,Ya,Ya,Ya,No,No,No,No,No,No,No,No,No,No,No,No,No,No]) 5 ⟨rfl, by kernel_rfl, by kernel_rfl, by kernel_rfl, by kernel_rfl⟩ rfl rfl rfl rfl (fun _ _ _ _ h => h) ?_) | (refine Goal.takePU (listed' := #[Ya,Ya,Ya,Ya,Ya,Ya,No,No,No,No,No,No,No,No,No,No,No,No,No,No]) 5 ⟨rfl, by kernel_rfl, by kernel_rfl, by kernel_rfl, by kernel_rfl⟩ rfl rfl rfl (fun _ _ _ _ h => h) ?_)); all_goals (first | (refine Goal.takePT (listed' := #[Ya,Ya,Ya,Ya,Ya,Ya,Ya,No,No,No,No,No,No,No,No,No,No,No,No,No]) 6 ⟨rfl, by kernel_rfl, by kernel_rfl, by kernel_rfl, by kernel_rfl⟩ rfl rfl rfl (fun _ _ _ _ h => h) (by intro _; first | exact Run.sliceL T.slc_30 T.sz_3 rfl rfl 1 rfl (by omega) | exact Run.sliceL T.slc_30 T.sz_3 rfl rfl _ (Int.toNat_of_nonneg (by omega)).symm (by omega)) ?_) | (refine Goal.takePF (listed' := #[Ya,Ya,Ya,Ya,Ya,Ya,Ya,No,No,No,No,No,No,No,No,No,No,No,No,No]) 6 ⟨rfl, by kernel_rfl, by kernel_rfl, by kernel_rfl, by kernel_rfl⟩ rfl rfl rfl rfl (fun _ _ _ _ h => h) ?_) | (refine Goal.takePU (listed' := #[Ya,Ya,Ya,Ya,Ya,Ya,Ya,No,No,No,No,No,No,No,No,No,No,No,No,No]) 6 ⟨rfl, by kernel_rfl, by kernel_rfl, by kernel_rfl, by kernel_rfl⟩ rfl rfl rfl (fun _ _ _ _ h => h) ?_)); all_goals (refine Goal.ready1 (i := 7) (by kernel_rfl) ?_); all_goals ((first | (refine Goal.upT (i := 7) (listed' := #[Ya,Ya,Ya,Ya,Ya,Ya,Ya,Ya,No,No,No,No,No,No,No,No,No,No,No,No]) rfl (by kernel_rfl) rfl rfl ?_; (apply Loud.call0; exact rfl; exact rfl; exact rfl; exact rfl; exact T.bod_20; exact (fun w' H => same_yes (l := p.drop i.toNat) (hP2.read H (fun q hq => by simp [hq])) (rd_drop (rds H hS (fun q hq => by simp at hq; simp [hq])) i.toNat (by omega) (by omega)) (by rw [List.length_drop]; omega))); first | refine Goal.tail rfl ?_ | refine Goal.kept (by (first | exact s0 | exact s1 | exact s2 | exact s3 | exact sd | exact sa | exact sn (by simp))) ?_) | (refine Goal.upF (i := 7) (listed' := #[Ya,Ya,Ya,Ya,Ya,Ya,Ya,Ya,No,No,No,No,No,No,No,No,No,No,No,No]) rfl (by kernel_rfl) rfl rfl rfl rfl ?_; first | refine Goal.tail rfl ?_ | refine Goal.kept (by (first | exact s0 | exact s1 | exact s2 | exact s3 | exact sd | exact sa | exact sn (by simp))) ?_) | (refine Goal.upU (i := 7) (listed' := #[Ya,Ya,Ya,Ya,Ya,Ya,Ya,Ya,No,No,No,No,No,No,No,No,No,No,No,No]) rfl (by kernel_rfl) rfl rfl rfl ?_; first | refine Goal.tail rfl ?_ | refine Goal.kept (by (first | exact s0 | exact s1 | exact s2 | exact s3 | exact sd | exact sa | exact sn (by simp))) ?_))); all_goals (first | (refine Goal.takePT (listed' := #[Ya,Ya,Ya,Ya,Ya,Ya,Ya,Ya,Ya,No,No,No,No,No,No,No,No,No,No,No]) 8 ⟨rfl, by kernel_rfl, by kernel_rfl, by kernel_rfl, by kernel_rfl⟩ rfl rfl rfl (fun _ _ _ _ h => h) (by intro _; first | exact Run.notT rfl | exact Run.notF rfl | exact Run.notD rfl | exact Run.notB rfl) ?_) | (refine Goal.takePF (listed' := #[Ya,Ya,Ya,Ya,Ya,Ya,Ya,Ya,Ya,No,No,No,No,No,No,No,No,No,No,No]) 8 ⟨rfl, by kernel_rfl, by kernel_rfl, by kernel_rfl, by kernel_rfl⟩ rfl rfl rfl rfl (fun _ _ _ _ h => h) ?_) | (refine Goal.takePU (listed' := #[Ya,Ya,Ya,Ya,Ya,Ya,Ya,Ya,Ya,No,No,No,No,No,No,No,No,No,No,No]) 8 ⟨rfl, by kernel_rfl, by kernel_rfl, by kernel_rfl, by kernel_rfl⟩ rfl rfl rfl (fun _ _ _ _ h => h) ?_)); all_goals ((refine Goal.takeP (listed' := #[Ya,Ya,Ya,Ya,Ya,Ya,Ya,Ya,Ya,Ya,No,No,No,No,No,No,No,No,No,No]) 9 ⟨rfl, by kernel_rfl, by kernel_rfl, by kernel_rfl, by kernel_rfl⟩ rfl (fun _ _ _ _ h => h) (by intro _; first | exact Run.pickT rfl rfl | exact Run.pickF rfl rfl) ?_)); all_goals ((refine Goal.takeP (listed' := #[Ya,Ya,Ya,Ya,Ya,Ya,Ya,Ya,Ya,Ya,Ya,No,No,No,No,No,No,No,No,No]) 10 ⟨rfl, by kernel_rfl, by kernel_rfl, by kernel_rfl, by kernel_rfl⟩ rfl (fun _ _ _ _ h => h) (by intro _; exact Run.move rfl) ?_)); all_goals (first | (refine Goal.bdec 64 rfl (fun hc => ?_) (fun hc => ?_) <;> first | (exfalso; omega) | contradiction | skip) | skip); all_goals (first | (refine Goal.takePT (listed' := #[Ya,Ya,Ya,Ya,Ya,Ya,Ya,Ya,Ya,Ya,Ya,Ya,No,No,No,No,No,No,No,No]) 11 ⟨rfl, by kernel_rfl, by kernel_rfl, by kernel_rfl, by kernel_rfl⟩ rfl rfl rfl (fun _ _ _ _ h => h) (by intro _; exact Run.fieldAddr T.fld_27_1 rfl) ?_) | (refine Goal.takePF (listed' := #[Ya,Ya,Ya,Ya,Ya,Ya,Ya,Ya,Ya,Ya,Ya,Ya,No,No,No,No,No,No,No,No]) 11 ⟨rfl, by kernel_rfl, by kernel_rfl, by kernel_rfl, by kernel_rfl⟩ rfl rfl rfl rfl (fun _ _ _ _ h => h) ?_) | (refine Goal.takePU (listed' := #[Ya,Ya,Ya,Ya,Ya,Ya,Ya,Ya,Ya,Ya,Ya,Ya,No,No,No,No,No,No,No,No]) 11 ⟨rfl, by kernel_rfl, by kernel_rfl, by kernel_rfl, by kernel_rfl⟩ rfl rfl rfl (fun _ _ _ _ h => h) ?_)); all_goals (first | (refine Goal.takePT (listed' := #[Ya,Ya,Ya,Ya,Ya,Ya,Ya,Ya,Ya,Ya,Ya,Ya,No,Ya,No,No,No,No,No,No]) 13 ⟨rfl, by kernel_rfl, by kernel_rfl, by kernel_rfl, by kernel_rfl⟩ rfl rfl rfl (fun _ _ _ _ h => h) (by intro _; exact Run.move rfl) ?_) | (refine Goal.takePF (listed' := #[Ya,Ya,Ya,Ya,Ya,Ya,Ya,Ya,Ya,Ya,Ya,Ya,No,Ya,No,No,No,No,No,No]) 13 ⟨rfl, by kernel_rfl, by kernel_rfl, by kernel_rfl, by kernel_rfl⟩ rfl rfl rfl rfl (fun _ _ _ _ h => h) ?_) | (refine Goal.takePU (listed' := #[Ya,Ya,Ya,Ya,Ya,Ya,Ya,Ya,Ya,Ya,Ya,Ya,No,Ya,No,No,No,No,No,No]) 13 ⟨rfl, by kernel_rfl, by kernel_rfl, by kernel_rfl, by kernel_rfl⟩ rfl rfl rfl (fun _ _ _ _ h => h) ?_)); all_goals (first | (refine Goal.takePT (listed' := #[Ya,Ya,Ya,Ya,Ya,Ya,Ya,Ya,Ya,Ya,Ya,Ya,No,Ya,Ya,No,No,No,No,No]) 14 ⟨rfl, by kernel_rfl, by kernel_rfl, by kernel_rfl, by kernel_rfl⟩ rfl rfl rfl (fun _ _ _ _ h => h) (by intro _; exact Run.move rfl) ?_) | (refine Goal.takePF (listed' := #[Ya,Ya,Ya,Ya,Ya,Ya,Ya,Ya,Ya,Ya,Ya,Ya,No,Ya,Ya,No,No,No,No,No]) 14 ⟨rfl, by kernel_rfl, by kernel_rfl, by kernel_rfl, by kernel_rfl⟩ rfl rfl rfl rfl (fun _ _ _ _ h => h) ?_) | (refine Goal.takePU (listed' := #[Ya,Ya,Ya,Ya,Ya,Ya,Ya,Ya,Ya,Ya,Ya,Ya,No,Ya,Ya,No,No,No,No,No]) 14 ⟨rfl, by kernel_rfl, by kernel_rfl, by kernel_rfl, by kernel_rfl⟩ rfl rfl rfl (fun _ _ _ _ h => h) ?_)); all_goals (first | (refine Goal.takePT (listed' := #[Ya,Ya,Ya,Ya,Ya,Ya,Ya,Ya,Ya,Ya,Ya,Ya,No,Ya,Ya,Ya,No,No,No,No]) 15 ⟨rfl, by kernel_rfl, by kernel_rfl, by kernel_rfl, by kernel_rfl⟩ rfl rfl rfl (fun _ _ _ _ h => h) (by intro _; first | exact Run.indexAddr1 T.slc_30 T.sz_3 rfl rfl rfl (by omega) | exact Run.indexAddr1 T.slc_30 T.sz_3 rfl rfl (Int.toNat_of_nonneg (by omega)).symm (by omega)) ?_) | (refine Goal.takePF (listed' := #[Ya,Ya,Ya,Ya,Ya,Ya,Ya,Ya,Ya,Ya,Ya,Ya,No,Ya,Ya,Ya,No,No,No,No]) 15 ⟨rfl, by kernel_rfl, by kernel_rfl, by kernel_rfl, by kernel_rfl⟩ rfl rfl rfl rfl (fun _ _ _ _ h => h) ?_) | (refine Goal.takePU (listed' := #[Ya,Ya,Ya,Ya,Ya,Ya,Ya,Ya,Ya,Ya,Ya,Ya,No,Ya,Ya,Ya,No,No,No,No]) 15 ⟨rfl, by kernel_rfl, by kernel_rfl, by kernel_rfl, by kernel_rfl⟩ rfl rfl rfl (fun _ _ _ _ h => h) ?_)); all_goals (refine Goal.ready2 (i := 12) (j := 16) (by kernel_rfl) ?_ ?_); all_goals (first | ((first | (refine Goal.upT (i := 12) (listed' := #[Ya,Ya,Ya,Ya,Ya,Ya,Ya,Ya,Ya,Ya,Ya,Ya,Ya,Ya,Ya,Ya,No,No,No,No]) rfl (by kernel_rfl) rfl rfl ?_; (refine Loud.quiet rfl (by (apply Run.load; exact rfl; first | exact LoadOK.iaMe (b := bp) (l := p) (rest := restp) (E := 3) (i := i) (x := ia p i) T.one_3 (by simp) (by omega) rfl | exact LoadOK.one T.one_22 0 rfl rfl | exact LoadOK.one T.one_22 1 rfl rfl | exact LoadOK.one T.one_22 2 rfl rfl | exact LoadOK.one T.one_22 3 rfl rfl | exact LoadOK.one T.one_22 4 rfl rfl | exact LoadOK.one T.one_22 5 rfl rfl | exact LoadOK.one T.one_22 6 rfl rfl | exact LoadOK.one T.one_22 7 rfl rfl)) ?_); first | refine Goal.tail rfl ?_ | refine Goal.kept (by (first | exact s0 | exact s1 | exact s2 | exact s3 | exact sd | exact sa | exact sn (by simp))) ?_) | (refine Goal.upF (i := 12) (listed' := #[Ya,Ya,Ya,Ya,Ya,Ya,Ya,Ya,Ya,Ya,Ya,Ya,Ya,Ya,Ya,Ya,No,No,No,No]) rfl (by kernel_rfl) rfl rfl rfl rfl ?_; first | refine Goal.tail rfl ?_ | refine Goal.kept (by (first | exact s0 | exact s1 | exact s2 | exact s3 | exact sd | exact sa | exact sn (by simp))) ?_) | (refine Goal.upU (i := 12) (listed' := #[Ya,Ya,Ya,Ya,Ya,Ya,Ya,Ya,Ya,Ya,Ya,Ya,Ya,Ya,Ya,Ya,No,No,No,No]) rfl (by kernel_rfl) rfl rfl rfl ?_; first | refine Goal.tail rfl ?_ | refine Goal.kept (by (first | exact s0 | exact s1 | exact s2 | exact s3 | exact sd | exact sa | exact sn (by simp))) ?_)); all_goals (refine Goal.ready1 (i := 16) (by kernel_rfl) ?_); all_goals ((first | (refine Goal.upT (i := 16) (listed' := #[Ya,Ya,Ya,Ya,Ya,Ya,Ya,Ya,Ya,Ya,Ya,Ya,Ya,Ya,Ya,Ya,Ya,No,No,No]) rfl (by kernel_rfl) rfl rfl ?_; (refine Loud.quiet rfl (by (apply Run.load; exact rfl; first | exact LoadOK.iaMe (b := bp) (l := p) (rest := restp) (E := 3) (i := i) (x := ia p i) T.one_3 (by simp) (by omega) rfl | exact LoadOK.one T.one_3 0 rfl rfl | exact LoadOK.one T.one_3 1 rfl rfl | exact LoadOK.one T.one_3 2 rfl rfl | exact LoadOK.one T.one_3 3 rfl rfl | exact LoadOK.one T.one_3 4 rfl rfl | exact LoadOK.one T.one_3 5 rfl rfl | exact LoadOK.one T.one_3 6 rfl rfl | exact LoadOK.one T.one_3 7 rfl rfl)) ?_); first | refine Goal.tail rfl ?_ | refine Goal.kept (by (first | exact s0 | exact s1 | exact s2 | exact s3 | exact sd | exact sa | exact sn (by simp))) ?_) | (refine Goal.upF (i := 16) (listed' := #[Ya,Ya,Ya,Ya,Ya,Ya,Ya,Ya,Ya,Ya,Ya,Ya,Ya,Ya,Ya,Ya,Ya,No,No,No]) rfl (by kernel_rfl) rfl rfl rfl rfl ?_; first | refine Goal.tail rfl ?_ | refine Goal.kept (by (first | exact s0 | exact s1 | exact s2 | exact s3 | exact sd | exact sa | exact sn (by simp))) ?_) | (refine Goal.upU (i := 16) (listed' := #[Ya,Ya,Ya,Ya,Ya,Ya,Ya,Ya,Ya,Ya,Ya,Ya,Ya,Ya,Ya,Ya,Ya,No,No,No]) rfl (by kernel_rfl) rfl rfl rfl ?_; first | refine Goal.tail rfl ?_ | refine Goal.kept (by (first | exact s0 | exact s1 | exact s2 | exact s3 | exact sd | exact sa | exact sn (by simp))) ?_))); all_goals (refine Goal.ready1 (i := 17) (by kernel_rfl) ?_); all_goals ((first | (refine Goal.upT (i := 17) (listed' := #[Ya,Ya,Ya,Ya,Ya,Ya,Ya,Ya,Ya,Ya,Ya,Ya,Ya,Ya,Ya,Ya,Ya,Ya,No,No]) rfl (by kernel_rfl) rfl rfl ?_; (apply Loud.call0; exact rfl; exact rfl; exact rfl; exact rfl; exact T.bod_26; exact (fun w' H => rup_ok (hd.keep H.mod) hdm (by omega)); rw [hup]); first | refine Goal.tail rfl ?_ | refine Goal.kept (by (first | exact s0 | exact s1 | exact s2 | exact s3 | exact sd | exact sa | exact sn (by simp))) ?_) | (refine Goal.upF (i := 17) (listed' := #[Ya,Ya,Ya,Ya,Ya,Ya,Ya,Ya,Ya,Ya,Ya,Ya,Ya,Ya,Ya,Ya,Ya,Ya,No,No]) rfl (by kernel_rfl) rfl rfl rfl rfl ?_; first | refine Goal.tail rfl ?_ | refine Goal.kept (by (first | exact s0 | exact s1 | exact s2 | exact s3 | exact sd | exact sa | exact sn (by simp))) ?_) | (refine Goal.upU (i := 17) (listed' := #[Ya,Ya,Ya,Ya,Ya,Ya,Ya,Ya,Ya,Ya,Ya,Ya,Ya,Ya,Ya,Ya,Ya,Ya,No,No]) rfl (by kernel_rfl) rfl rfl rfl ?_; first | refine Goal.tail rfl ?_ | refine Goal.kept (by (first | exact s0 | exact s1 | exact s2 | exact s3 | exact sd | exact sa | exact sn (by simp))) ?_))); all_goals (first | (refine Goal.takePT (listed' := #[Ya,Ya,Ya,Ya,Ya,Ya,Ya,Ya,Ya,Ya,Ya,Ya,Ya,Ya,Ya,Ya,Ya,Ya,Ya,No]) 18 ⟨rfl, by kernel_rfl, by kernel_rfl, by kernel_rfl, by kernel_rfl⟩ rfl rfl rfl (fun _ _ _ _ h => h) (by intro _; first | exact Run.notT rfl | exact Run.notF rfl | exact Run.notD rfl | exact Run.notB rfl) ?_) | (refine Goal.takePF (listed' := #[Ya,Ya,Ya,Ya,Ya,Ya,Ya,Ya,Ya,Ya,Ya,Ya,Ya,Ya,Ya,Ya,Ya,Ya,Ya,No]) 18 ⟨rfl, by kernel_rfl, by kernel_rfl, by kernel_rfl, by kernel_rfl⟩ rfl rfl rfl rfl (fun _ _ _ _ h => h) ?_) | (refine Goal.takePU (listed' := #[Ya,Ya,Ya,Ya,Ya,Ya,Ya,Ya,Ya,Ya,Ya,Ya,Ya,Ya,Ya,Ya,Ya,Ya,Ya,No]) 18 ⟨rfl, by kernel_rfl, by kernel_rfl, by kernel_rfl, by kernel_rfl⟩ rfl rfl rfl (fun _ _ _ _ h => h) ?_)); all_goals ((refine Goal.takeP (listed' := #[Ya,Ya,Ya,Ya,Ya,Ya,Ya,Ya,Ya,Ya,Ya,Ya,Ya,Ya,Ya,Ya,Ya,Ya,Ya,Ya]) 19 ⟨rfl, by kernel_rfl, by kernel_rfl, by kernel_rfl, by kernel_rfl⟩ rfl (fun _ _ _ _ h => h) (by intro _; first | exact Run.pickT rfl rfl | exact Run.pickF rfl rfl) ?_)); all_goals (refine Goal.allUp (by kernel_rfl) ?_)) | ((first | (refine Goal.upT (i := 16) (listed' := #[Ya,Ya,Ya,Ya,Ya,Ya,Ya,Ya,Ya,Ya,Ya,Ya,No,Ya,Ya,Ya,Ya,No,No,No]) rfl (by kernel_rfl) rfl rfl ?_; (refine Loud.quiet rfl (by (apply Run.load; exact rfl; first | exact LoadOK.iaMe (b := bp) (l := p) (rest := restp) (E := 3) (i := i) (x := ia p i) T.one_3 (by simp) (by omega) rfl | exact LoadOK.one T.one_3 0 rfl rfl | exact LoadOK.one T.one_3 1 rfl rfl | exact LoadOK.one T.one_3 2 rfl rfl | exact LoadOK.one T.one_3 3 rfl rfl | exact LoadOK.one T.one_3 4 rfl rfl | exact LoadOK.one T.one_3 5 rfl rfl | exact LoadOK.one T.one_3 6 rfl rfl | exact LoadOK.one T.one_3 7 rfl rfl)) ?_); first | refine Goal.tail rfl ?_ | refine Goal.kept (by (first | exact s0 | exact s1 | exact s2 | exact s3 | exact sd | exact sa | exact sn (by simp))) ?_) | (refine Goal.upF (i := 16) (listed' := #[Ya,Ya,Ya,Ya,Ya,Ya,Ya,Ya,Ya,Ya,Ya,Ya,No,Ya,Ya,Ya,Ya,No,No,No]) rfl (by kernel_rfl) rfl rfl rfl rfl ?_; first | refine Goal.tail rfl ?_ | refine Goal.kept (by (first | exact s0 | exact s1 | exact s2 | exact s3 | exact sd | exact sa | exact sn (by simp))) ?_) | (refine Goal.upU (i := 16) (listed' := #[Ya,Ya,Ya,Ya,Ya,Ya,Ya,Ya,Ya,Ya,Ya,Ya,No,Ya,Ya,Ya,Ya,No,No,No]) rfl (by kernel_rfl) rfl rfl rfl ?_; first | refine Goal.tail rfl ?_ | refine Goal.kept (by (first | exact s0 | exact s1 | exact s2 | exact s3 | exact sd | exact sa | exact sn (by simp))) ?_)); all_goals (refine Goal.ready1 (i := 12) (by kernel_rfl) ?_); all_goals ((first | (refine Goal.upT (i := 12) (listed' := #[Ya,Ya,Ya,Ya,Ya,Ya,Ya,Ya,Ya,Ya,Ya,Ya,Ya,Ya,Ya,Ya,Ya,No,No,No]) rfl (by kernel_rfl) rfl rfl ?_; (refine Loud.quiet rfl (by (apply Run.load; exact rfl; first | exact LoadOK.iaMe (b := bp) (l := p) (rest := restp) (E := 3) (i := i) (x := ia p i) T.one_3 (by simp) (by omega) rfl | exact LoadOK.one T.one_22 0 rfl rfl | exact LoadOK.one T.one_22 1 rfl rfl | exact LoadOK.one T.one_22 2 rfl rfl | exact LoadOK.one T.one_22 3 rfl rfl | exact LoadOK.one T.one_22 4 rfl rfl | exact LoadOK.one T.one_22 5 rfl rfl | exact LoadOK.one T.one_22 6 rfl rfl | exact LoadOK.one T.one_22 7 rfl rfl)) ?_); first | refine Goal.tail rfl ?_ | refine Goal.kept (by (first | exact s0 | exact s1 | exact s2 | exact s3 | exact sd | exact sa | exact sn (by simp))) ?_) | (refine Goal.upF (i := 12) (listed' := #[Ya,Ya,Ya,Ya,Ya,Ya,Ya,Ya,Ya,Ya,Ya,Ya,Ya,Ya,Ya,Ya,Ya,No,No,No]) rfl (by kernel_rfl) rfl rfl rfl rfl ?_; first | refine Goal.tail rfl ?_ | refine Goal.kept (by (first | exact s0 | exact s1 | exact s2 | exact s3 | exact sd | exact sa | exact sn (by simp))) ?_) | (refine Goal.upU (i := 12) (listed' := #[Ya,Ya,Ya,Ya,Ya,Ya,Ya,Ya,Ya,Ya,Ya,Ya,Ya,Ya,Ya,Ya,Ya,No,No,No]) rfl (by kernel_rfl) rfl rfl rfl ?_; first | refine Goal.tail rfl ?_ | refine Goal.kept (by (first | exact s0 | exact s1 | exact s2 | exact s3 | exact sd | exact sa | exact sn (by simp))) ?_))); all_goals (refine Goal.ready1 (i := 17) (by kernel_rfl) ?_); all_goals ((first | (refine Goal.upT (i := 17) (listed' := #[Ya,Ya,Ya,Ya,Ya,Ya,Ya,Ya,Ya,Ya,Ya,Ya,Ya,Ya,Ya,Ya,Ya,Ya,No,No]) rfl (by kernel_rfl) rfl rfl ?_; (apply Loud.call0; exact rfl; exact rfl; exact rfl; exact rfl; exact T.bod_26; exact (fun w' H => rup_ok (hd.keep H.mod) hdm (by omega)); rw [hup]); first | refine Goal.tail rfl ?_ | refine Goal.kept (by (first | exact s0 | exact s1 | exact s2 | exact s3 | exact sd | exact sa | exact sn (by simp))) ?_) | (refine Goal.upF (i := 17) (listed' := #[Ya,Ya,Ya,Ya,Ya,Ya,Ya,Ya,Ya,Ya,Ya,Ya,Ya,Ya,Ya,Ya,Ya,Ya,No,No]) rfl (by kernel_rfl) rfl rfl rfl rfl ?_; first | refine Goal.tail rfl ?_ | refine Goal.kept (by (first | exact s0 | exact s1 | exact s2 | exact s3 | exact sd | exact sa | exact sn (by simp))) ?_) | (refine Goal.upU (i := 17) (listed' := #[Ya,Ya,Ya,Ya,Ya,Ya,Ya,Ya,Ya,Ya,Ya,Ya,Ya,Ya,Ya,Ya,Ya,Ya,No,No]) rfl (by kernel_rfl) rfl rfl rfl ?_; first | refine Goal.tail rfl ?_ | refine Goal.kept (by (first | exact s0 | exact s1 | exact s2 | exact s3 | exact sd | exact sa | exact sn (by simp))) ?_))); all_goals (first | (refine Goal.takePT (listed' := #[Ya,Ya,Ya,Ya,Ya,Ya,Ya,Ya,Ya,Ya,Ya,Ya,Ya,Ya,Ya,Ya,Ya,Ya,Ya,No]) 18 ⟨rfl, by kernel_rfl, by kernel_rfl, by kernel_rfl, by kernel_rfl⟩ rfl rfl rfl (fun _ _ _ _ h => h) (by intro _; first | exact Run.notT rfl | exact Run.notF rfl | exact Run.notD rfl | exact Run.notB rfl) ?_) | (refine Goal.takePF (listed' := #[Ya,Ya,Ya,Ya,Ya,Ya,Ya,Ya,Ya,Ya,Ya,Ya,Ya,Ya,Ya,Ya,Ya,Ya,Ya,No]) 18 ⟨rfl, by kernel_rfl, by kernel_rfl, by kernel_rfl, by kernel_rfl⟩ rfl rfl rfl rfl (fun _ _ _ _ h => h) ?_) | (refine Goal.takePU (listed' := #[Ya,Ya,Ya,Ya,Ya,Ya,Ya,Ya,Ya,Ya,Ya,Ya,Ya,Ya,Ya,Ya,Ya,Ya,Ya,No]) 18 ⟨rfl, by kernel_rfl, by kernel_rfl, by kernel_rfl, by kernel_rfl⟩ rfl rfl rfl (fun _ _ _ _ h => h) ?_)); all_goals ((refine Goal.takeP (listed' := #[Ya,Ya,Ya,Ya,Ya,Ya,Ya,Ya,Ya,Ya,Ya,Ya,Ya,Ya,Ya,Ya,Ya,Ya,Ya,Ya]) 19 ⟨rfl, by kernel_rfl, by kernel_rfl, by kernel_rfl, by kernel_rfl⟩ rfl (fun _ _ _ _ h => h) (by intro _; first | exact Run.pickT rfl rfl | exact Run.pickF rfl rfl) ?_)); all_goals (refine Goal.allUp (by kernel_rfl) ?_))))
      | (refine Goal.loud (o := ⟨some 48, _, _, _, _, _⟩) rfl ?_; apply Loud.call0; exact rfl; exact rfl; exact rfl; exact rfl; exact T.bod_25; exact (fun w' H => rtail_ok (hT.keep H.mod) ht har))
      | (refine Goal.loud (o := ⟨some 51, _, _, _, _, _⟩) rfl ?_; apply Loud.callN; exact rfl; exact rfl; exact rfl; exact rfl; exact T.bod_16; exact (fun w' H => ppath_ok (hT.keep H.mod) (hd.keep H.mod) ht hf htl hr); rintro ⟨l2, q, v2, er2, A2⟩ ⟨hl2, hP2⟩; dsimp only at hl2 hP2 ⊢; obtain rfl := DL.one (GD.ok ht) hl hl2; obtain ⟨rfl, rfl⟩ : p.drop i.toNat = q ∧ 0 = er2 := PathS.same hP2 hfd hlt)
      | (refine Goal.loud (o := ⟨some 61, _, _, _, _, _⟩) rfl ?_; apply Loud.call0; exact rfl; exact rfl; exact rfl; exact rfl; exact T.bod_20; exact (fun w' H => same_yes (l := p.drop i.toNat) (hP2.read H (fun q hq => by simp [hq])) (rd_drop (rds H hS (fun q hq => by simp at hq; simp [hq])) i.toNat (by omega) (by omega)) (by rw [List.length_drop]; omega)))
      | (refine Goal.loud (o := ⟨some 71, _, _, _, _, _⟩) rfl ?_; apply Loud.call0; exact rfl; exact rfl; exact rfl; exact rfl; exact T.bod_26; exact (fun w' H => rup_ok (hd.keep H.mod) hdm (by omega)); rw [hup])
      | (refine Goal.loud (o := ⟨some 1, _, _, _, _, _⟩) rfl ?_; first | refine Loud.boxA rfl rfl (fun b1 => ?_) | refine Loud.box1 rfl rfl rfl (fun b1 => ?_))
      | (apply G.move; exact rfl; exact rfl)
      | (apply G.assign; exact rfl; exact rfl)
      | refine Goal.seq (fun _ _ => ?_)
      | refine Goal.next (by assumption) ?_
      | refine Goal.lnil ?_
      | refine Goal.region ?_
      | refine Goal.skip ?_
      | refine Goal.block ?_
      | refine Goal.exit ?_
      | refine Goal.ret ?_
      | refine Goal.then_exit ?_
      | refine Goal.then_ret ?_
      | refine Goal.inBlock_exit ?_
      | refine Goal.inBlock_normal ?_
      | refine Goal.inBlock_ret ?_
      | refine Goal.inBlock_other rfl ?_
      | (apply Goal.condT; exact rfl)
      | (apply Goal.condF; exact rfl)
      | (refine Goal.condD rfl (fun hc => ?_) (fun hc => ?_) <;> first | (exfalso; omega) | contradiction | skip)
      | refine Goal.condB rfl (fun hc => ?_) (fun hc => ?_)
      | refine Goal.guardT rfl rfl ?_
      | refine Goal.guardF rfl rfl rfl rfl ?_
      | refine Goal.guardU rfl rfl rfl ?_
      | (refine Goal.guardD rfl rfl (fun hc => ?_) (fun hc => ?_) <;> first | (exfalso; omega) | contradiction | skip)
      | refine Goal.guardB rfl rfl (fun hc => ?_) (fun hc => ?_)
      | (apply G.fieldAddr; exact rfl; exact rfl; (first | exact T.fld_27_0 | exact T.fld_27_1 | exact T.fld_27_2 | exact T.fld_27_3))
      | (apply G.load; exact rfl; exact rfl; first | exact LoadOK.iaMe (b := bp) (l := p) (rest := restp) (E := 3) (i := i) (x := ia p i) T.one_3 (by simp) (by omega) rfl | exact LoadOK.one (by first | exact T.one_3 | exact T.one_22) 0 rfl rfl | exact LoadOK.one (by first | exact T.one_3 | exact T.one_22) 1 rfl rfl | exact LoadOK.one (by first | exact T.one_3 | exact T.one_22) 2 rfl rfl | exact LoadOK.one (by first | exact T.one_3 | exact T.one_22) 3 rfl rfl | exact LoadOK.one (by first | exact T.one_3 | exact T.one_22) 4 rfl rfl | exact LoadOK.one (by first | exact T.one_3 | exact T.one_22) 5 rfl rfl | exact LoadOK.one (by first | exact T.one_3 | exact T.one_22) 6 rfl rfl | exact LoadOK.one (by first | exact T.one_3 | exact T.one_22) 7 rfl rfl | exact ag3 T.agg_25 0 rfl rfl rfl rfl | exact ag3 T.agg_25 1 rfl rfl rfl rfl | exact ag3 T.agg_25 2 rfl rfl rfl rfl | exact ag3 T.agg_25 3 rfl rfl rfl rfl | exact ag3 T.agg_25 4 rfl rfl rfl rfl | exact ag3 T.agg_25 5 rfl rfl rfl rfl | exact ag3 T.agg_25 6 rfl rfl rfl rfl | exact ag3 T.agg_25 7 rfl rfl rfl rfl | exact LoadOK.agg (vs := [_, _, _, _, _, _]) T.agg_27 0 rfl rfl ⟨rfl, rfl, rfl, rfl, rfl, rfl, trivial⟩ | exact LoadOK.agg (vs := [_, _, _, _, _, _]) T.agg_27 1 rfl rfl ⟨rfl, rfl, rfl, rfl, rfl, rfl, trivial⟩ | exact LoadOK.agg (vs := [_, _, _, _, _, _]) T.agg_27 2 rfl rfl ⟨rfl, rfl, rfl, rfl, rfl, rfl, trivial⟩ | exact LoadOK.agg (vs := [_, _, _, _, _, _]) T.agg_27 3 rfl rfl ⟨rfl, rfl, rfl, rfl, rfl, rfl, trivial⟩ | exact LoadOK.agg (vs := [_, _, _, _, _, _]) T.agg_27 4 rfl rfl ⟨rfl, rfl, rfl, rfl, rfl, rfl, trivial⟩ | exact LoadOK.agg (vs := [_, _, _, _, _, _]) T.agg_27 5 rfl rfl ⟨rfl, rfl, rfl, rfl, rfl, rfl, trivial⟩ | exact LoadOK.agg (vs := [_, _, _, _, _, _]) T.agg_27 6 rfl rfl ⟨rfl, rfl, rfl, rfl, rfl, rfl, trivial⟩ | exact LoadOK.agg (vs := [_, _, _, _, _, _]) T.agg_27 7 rfl rfl ⟨rfl, rfl, rfl, rfl, rfl, rfl, trivial⟩)
      | (apply G.pickT; exact rfl; exact rfl; exact rfl)
      | (apply G.pickF; exact rfl; exact rfl; exact rfl)
      | (apply G.lss; exact rfl; exact rfl; exact rfl)
      | (apply G.gtr; exact rfl; exact rfl; exact rfl)
      | (apply G.eql; exact rfl; exact rfl; exact rfl)
      | (apply G.neq; exact rfl; exact rfl; exact rfl)
      | (apply G.add; exact rfl; exact rfl; exact rfl; exact IntWalk.i64_in _ (by omega))
      | (apply G.notT; exact rfl; exact rfl)
      | (apply G.notF; exact rfl; exact rfl)
      | (refine G.notD rfl rfl ?_)
      | (apply G.notB; exact rfl; exact rfl)
      | (apply G.extract; exact rfl; exact rfl; exact rfl)
      | (apply G.len; exact rfl; exact rfl; exact T.slc_30)
      | (refine Goal.quiet rfl (Run.sliceH T.slc_30 T.sz_3 rfl rfl _ rfl (by omega)) ?_)
      | (refine Goal.quiet rfl (Run.sliceH T.slc_30 T.sz_3 rfl rfl _ (Int.toNat_of_nonneg (by omega)).symm (by omega)) ?_)
      | (refine Goal.quiet rfl (Run.sliceL T.slc_30 T.sz_3 rfl rfl 1 rfl (by omega)) ?_)
      | (refine Goal.quiet rfl (Run.sliceL T.slc_30 T.sz_3 rfl rfl _ (Int.toNat_of_nonneg (by omega)).symm (by omega)) ?_)
      | (refine G.indexAddr1 rfl T.slc_30 T.sz_3 rfl rfl _ rfl (by omega) ?_)
      | (refine G.indexAddr1 rfl T.slc_30 T.sz_3 rfl rfl _ (Int.toNat_of_nonneg (by omega)).symm (by omega) ?_))
    all_goals
      refine Goal.again (i + 1) ⟨by omega, by omega⟩ (by omega) ⟨rfl, rfl, rfl, rfl, rfl, trivial⟩ (fun _ h => h.sub (.cons_cons _ (List.sublist_append_left _ _)))
  · have hpx : p.length = 0 → x = y := fun e => by
      rw [List.length_eq_zero_iff.1 e] at hfp
      exact hfp
    repeat' (first
      | (refine Goal.loud (o := ⟨some 1, _, _, _, _, _⟩) rfl ?_; first | refine Loud.boxA rfl rfl (fun b1 => ?_) | refine Loud.box1 rfl rfl rfl (fun b1 => ?_))
      | (apply G.move; exact rfl; exact rfl)
      | (apply G.assign; exact rfl; exact rfl)
      | refine Goal.seq (fun _ _ => ?_)
      | refine Goal.next (by assumption) ?_
      | refine Goal.lnil ?_
      | refine Goal.region ?_
      | refine Goal.skip ?_
      | refine Goal.block ?_
      | refine Goal.exit ?_
      | refine Goal.ret ?_
      | refine Goal.then_exit ?_
      | refine Goal.then_ret ?_
      | refine Goal.inBlock_exit ?_
      | refine Goal.inBlock_normal ?_
      | refine Goal.inBlock_ret ?_
      | refine Goal.inBlock_other rfl ?_
      | (apply Goal.condT; exact rfl)
      | (apply Goal.condF; exact rfl)
      | (refine Goal.condD rfl (fun hc => ?_) (fun hc => ?_) <;> first | (exfalso; omega) | contradiction | skip)
      | refine Goal.condB rfl (fun hc => ?_) (fun hc => ?_)
      | refine Goal.guardT rfl rfl ?_
      | refine Goal.guardF rfl rfl rfl rfl ?_
      | refine Goal.guardU rfl rfl rfl ?_
      | (refine Goal.guardD rfl rfl (fun hc => ?_) (fun hc => ?_) <;> first | (exfalso; omega) | contradiction | skip)
      | refine Goal.guardB rfl rfl (fun hc => ?_) (fun hc => ?_)
      | (apply G.fieldAddr; exact rfl; exact rfl; (first | exact T.fld_27_0 | exact T.fld_27_1 | exact T.fld_27_2 | exact T.fld_27_3))
      | (apply G.load; exact rfl; exact rfl; first | exact LoadOK.one (by first | exact T.one_3 | exact T.one_22) 0 rfl rfl | exact LoadOK.one (by first | exact T.one_3 | exact T.one_22) 1 rfl rfl | exact LoadOK.one (by first | exact T.one_3 | exact T.one_22) 2 rfl rfl | exact LoadOK.one (by first | exact T.one_3 | exact T.one_22) 3 rfl rfl | exact LoadOK.one (by first | exact T.one_3 | exact T.one_22) 4 rfl rfl | exact LoadOK.one (by first | exact T.one_3 | exact T.one_22) 5 rfl rfl | exact LoadOK.one (by first | exact T.one_3 | exact T.one_22) 6 rfl rfl | exact LoadOK.one (by first | exact T.one_3 | exact T.one_22) 7 rfl rfl | exact ag3 T.agg_25 0 rfl rfl rfl rfl | exact ag3 T.agg_25 1 rfl rfl rfl rfl | exact ag3 T.agg_25 2 rfl rfl rfl rfl | exact ag3 T.agg_25 3 rfl rfl rfl rfl | exact ag3 T.agg_25 4 rfl rfl rfl rfl | exact ag3 T.agg_25 5 rfl rfl rfl rfl | exact ag3 T.agg_25 6 rfl rfl rfl rfl | exact ag3 T.agg_25 7 rfl rfl rfl rfl | exact LoadOK.agg (vs := [_, _, _, _, _, _]) T.agg_27 0 rfl rfl ⟨rfl, rfl, rfl, rfl, rfl, rfl, trivial⟩ | exact LoadOK.agg (vs := [_, _, _, _, _, _]) T.agg_27 1 rfl rfl ⟨rfl, rfl, rfl, rfl, rfl, rfl, trivial⟩ | exact LoadOK.agg (vs := [_, _, _, _, _, _]) T.agg_27 2 rfl rfl ⟨rfl, rfl, rfl, rfl, rfl, rfl, trivial⟩ | exact LoadOK.agg (vs := [_, _, _, _, _, _]) T.agg_27 3 rfl rfl ⟨rfl, rfl, rfl, rfl, rfl, rfl, trivial⟩ | exact LoadOK.agg (vs := [_, _, _, _, _, _]) T.agg_27 4 rfl rfl ⟨rfl, rfl, rfl, rfl, rfl, rfl, trivial⟩ | exact LoadOK.agg (vs := [_, _, _, _, _, _]) T.agg_27 5 rfl rfl ⟨rfl, rfl, rfl, rfl, rfl, rfl, trivial⟩ | exact LoadOK.agg (vs := [_, _, _, _, _, _]) T.agg_27 6 rfl rfl ⟨rfl, rfl, rfl, rfl, rfl, rfl, trivial⟩ | exact LoadOK.agg (vs := [_, _, _, _, _, _]) T.agg_27 7 rfl rfl ⟨rfl, rfl, rfl, rfl, rfl, rfl, trivial⟩)
      | (apply G.pickT; exact rfl; exact rfl; exact rfl)
      | (apply G.pickF; exact rfl; exact rfl; exact rfl)
      | (apply G.lss; exact rfl; exact rfl; exact rfl)
      | (apply G.gtr; exact rfl; exact rfl; exact rfl)
      | (apply G.eql; exact rfl; exact rfl; exact rfl)
      | (apply G.neq; exact rfl; exact rfl; exact rfl)
      | (apply G.add; exact rfl; exact rfl; exact rfl; exact IntWalk.i64_in _ (by omega))
      | (apply G.notT; exact rfl; exact rfl)
      | (apply G.notF; exact rfl; exact rfl)
      | (refine G.notD rfl rfl ?_)
      | (apply G.notB; exact rfl; exact rfl)
      | (apply G.extract; exact rfl; exact rfl; exact rfl)
      | (apply G.len; exact rfl; exact rfl; exact T.slc_30)
      | (refine Goal.quiet rfl (Run.sliceH T.slc_30 T.sz_3 rfl rfl _ rfl (by omega)) ?_)
      | (refine Goal.quiet rfl (Run.sliceH T.slc_30 T.sz_3 rfl rfl _ (Int.toNat_of_nonneg (by omega)).symm (by omega)) ?_)
      | (refine Goal.quiet rfl (Run.sliceL T.slc_30 T.sz_3 rfl rfl 1 rfl (by omega)) ?_)
      | (refine Goal.quiet rfl (Run.sliceL T.slc_30 T.sz_3 rfl rfl _ (Int.toNat_of_nonneg (by omega)).symm (by omega)) ?_)
      | (refine G.indexAddr1 rfl T.slc_30 T.sz_3 rfl rfl _ rfl (by omega) ?_)
      | (refine G.indexAddr1 rfl T.slc_30 T.sz_3 rfl rfl _ (Int.toNat_of_nonneg (by omega)).symm (by omega) ?_))
    all_goals
      refine Goal.done (vs := [_]) (by first | exact .inl rfl | exact .inr rfl) Try.results5 ⟨rfl, trivial⟩ rfl (fun w' H => ⟨by first | rfl | (simp; done) | (simp; omega), H.mod⟩)
end
end Go.Proofs.Ytldoplehchngfaa
