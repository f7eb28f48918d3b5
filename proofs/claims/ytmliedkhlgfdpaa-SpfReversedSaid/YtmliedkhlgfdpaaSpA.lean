/- Package waypointlaw11: SpfPath, SpfBoth. -/
import Derived.Test.YtmliedkhlgfdpaaSpH
import Derived.Test.YtmliedkhlgfdpaaSpS
namespace Go.Proofs.Ytmliedkhlgfdpaa
open Go.Wf
set_option linter.unusedVariables false
set_option maxHeartbeats 4000000 in
theorem law_path {w : World} {tp : Top} {dn : List Bool} {vo vl vd : Value} (s d : Int) (hT : TopR w vo vl tp) (hd : RdV w vd (bools dn)) : Calls Try.prog 4 #[.agg #[.int .i64 tp.n, vo, vl], vd, .agg #[.int .i64 s, .int .i64 d]] w fun e w' => e = .returned (.bool true) ∧ Mod [] w w' := by
  obtain ⟨ao, co, rfl⟩ := shapeB hT.ov
  obtain ⟨al, cl, rfl⟩ := shapeL hT.ls
  obtain ⟨ad, cd, rfl⟩ := shapeB hd
  by_cases hlg : 100 < tp.ov.length ∨ 40 < tp.ls.length ∨ 100 < dn.length
  · skip
    refine Goal.enter (args := [.agg #[.int .i64 tp.n, .slice ao tp.ov.length co, .slice al tp.ls.length cl], .slice ad dn.length cd, .agg #[.int .i64 s, .int .i64 d]]) Try.func4 rfl Try.ntmps4 rfl (St.nil w) ?_
    repeat' (first
      | (refine Goal.loud (o := ⟨some 11, _, _, _, _, _⟩) rfl ?_; apply Loud.call0; exact rfl; exact rfl; exact rfl; exact rfl; exact T.bod_11; exact (fun w' H => awake_ok w'))
      | (refine Goal.loud (o := ⟨some 15, _, _, _, _, _⟩) rfl ?_; apply Loud.call0; exact rfl; exact rfl; exact rfl; exact rfl; exact T.bod_12; exact (fun w' H => large_ok (tp := tp) (dn := dn) ao al ad co cl cd w'); rw [decide_eq_true hlg])
      | (refine Goal.loud (o := ⟨some 3, _, _, _, _, _⟩) rfl ?_; first | refine Loud.boxA rfl rfl (fun b3 => ?_) | refine Loud.box1 rfl rfl rfl (fun b3 => ?_))
      | (refine Goal.loud (o := ⟨some 5, _, _, _, _, _⟩) rfl ?_; first | refine Loud.boxA rfl rfl (fun b5 => ?_) | refine Loud.box1 rfl rfl rfl (fun b5 => ?_))
      | (apply G.move; exact rfl; exact rfl)
      | (apply G.assign; exact rfl; exact rfl)
      | refine Goal.seq (fun _ _ => ?_)
      | refine Goal.next (by assumption) ?_
      | refine Goal.lnil ?_
      | refine Goal.region ?_
      | refine Goal.skip ?_
      | refine Goal.block ?_
      | refine Goal.exit ?_
      | refine Goal.ret ?_
      | refine Goal.then_exit ?_
      | refine Goal.then_ret ?_
      | refine Goal.inBlock_exit ?_
      | refine Goal.inBlock_normal ?_
      | refine Goal.inBlock_ret ?_
      | refine Goal.inBlock_other rfl ?_
      | (apply Goal.condT; exact rfl)
      | (apply Goal.condF; exact rfl)
      | (refine Goal.condD rfl (fun hc => ?_) (fun hc => ?_) <;> first | (exfalso; omega) | contradiction | skip)
      | refine Goal.condB rfl (fun hc => ?_) (fun hc => ?_)
      | refine Goal.guardT rfl rfl ?_
      | refine Goal.guardF rfl rfl rfl rfl ?_
      | refine Goal.guardU rfl rfl rfl ?_
      | (refine Goal.guardD rfl rfl (fun hc => ?_) (fun hc => ?_) <;> first | (exfalso; omega) | contradiction | skip)
      | refine Goal.guardB rfl rfl (fun hc => ?_) (fun hc => ?_)
      | (apply G.load; exact rfl; exact rfl; first | exact LoadOK.one T.one_3 0 rfl rfl | exact LoadOK.one T.one_3 1 rfl rfl | exact LoadOK.one T.one_3 2 rfl rfl | exact LoadOK.one T.one_3 3 rfl rfl | exact LoadOK.one T.one_3 4 rfl rfl | exact LoadOK.one T.one_3 5 rfl rfl | exact LoadOK.one T.one_3 6 rfl rfl | exact LoadOK.one T.one_3 7 rfl rfl | exact ag3 T.agg_25 0 rfl rfl rfl rfl | exact ag3 T.agg_25 1 rfl rfl rfl rfl | exact ag3 T.agg_25 2 rfl rfl rfl rfl | exact ag3 T.agg_25 3 rfl rfl rfl rfl | exact ag3 T.agg_25 4 rfl rfl rfl rfl | exact ag3 T.agg_25 5 rfl rfl rfl rfl | exact ag3 T.agg_25 6 rfl rfl rfl rfl | exact ag3 T.agg_25 7 rfl rfl rfl rfl)
      | (apply G.pickT; exact rfl; exact rfl; exact rfl)
      | (apply G.pickF; exact rfl; exact rfl; exact rfl)
      | (apply G.eql; exact rfl; exact rfl; exact rfl)
      | (apply G.notT; exact rfl; exact rfl)
      | (apply G.notF; exact rfl; exact rfl)
      | (refine G.notD rfl rfl ?_)
      | (apply G.notB; exact rfl; exact rfl)
      | (apply G.extract; exact rfl; exact rfl; exact rfl)
      | (refine G.indexAddrA rfl T.arr_34 T.sz_3 rfl rfl _ rfl (by omega) ?_)
      | (refine G.indexAddrA rfl T.arr_34 T.sz_3 rfl rfl _ (Int.toNat_of_nonneg (by omega)).symm (by omega) ?_))
    refine Goal.done (vs := [_]) (by first | exact .inl rfl | exact .inr rfl) Try.results4 ⟨rfl, trivial⟩ rfl (fun w' H => ⟨rfl, H.mod⟩)
  · by_cases hk : chk tp dn [s, d] = 0
    · obtain ⟨ht, hf, hs, hr⟩ := chk_all hk
      refine Goal.enter (args := [.agg #[.int .i64 tp.n, .slice ao tp.ov.length co, .slice al tp.ls.length cl], .slice ad dn.length cd, .agg #[.int .i64 s, .int .i64 d]]) Try.func4 rfl Try.ntmps4 rfl (St.nil w) ?_
      repeat' (first
        | (refine Goal.loud (o := ⟨some 11, _, _, _, _, _⟩) rfl ?_; apply Loud.call0; exact rfl; exact rfl; exact rfl; exact rfl; exact T.bod_11; exact (fun w' H => awake_ok w'))
        | (refine Goal.loud (o := ⟨some 15, _, _, _, _, _⟩) rfl ?_; apply Loud.call0; exact rfl; exact rfl; exact rfl; exact rfl; exact T.bod_12; exact (fun w' H => large_ok (tp := tp) (dn := dn) ao al ad co cl cd w'); rw [decide_eq_false hlg])
        | (refine Goal.loud (o := ⟨some 23, _, _, _, _, _⟩) rfl ?_; apply Loud.callN; exact rfl; exact rfl; exact rfl; exact rfl; exact T.bod_16; exact (fun w' H => path_ok (hT.keep H.mod) (hd.keep H.mod) ht hf hs hr); rintro ⟨l, p, v, er, A⟩ ⟨hl, hP⟩; dsimp only at hl hP ⊢)
        | (refine Goal.loud (o := ⟨some 33, _, _, _, _, _⟩) rfl ?_; apply Loud.callN; exact rfl; exact rfl; exact rfl; exact rfl; exact T.bod_17; exact (fun w' H => rpath_ok (hT.keep H.mod) (hd.keep H.mod) ht hf hs hr); rintro ⟨l', p', v', er', A'⟩ ⟨hl', hP'⟩; dsimp only at hl' hP' ⊢; obtain rfl := DL.one (GD.ok ht) hl hl'; obtain ⟨rfl, rfl⟩ := PathS.one hP hP'; have hpl := PathS.len ht hl hs hP)
        | (refine Goal.loud (o := ⟨some 42, _, _, _, _, _⟩) rfl ?_; apply Loud.call0; exact rfl; exact rfl; exact rfl; exact rfl; exact T.bod_15; exact (fun w' H => same_yes (l := p) (hP.read H (fun q hq => by simp [hq])) (hP'.read H (fun q hq => by simp [hq])) (by omega)))
        | (refine Goal.loud (o := ⟨some 3, _, _, _, _, _⟩) rfl ?_; first | refine Loud.boxA rfl rfl (fun b3 => ?_) | refine Loud.box1 rfl rfl rfl (fun b3 => ?_))
        | (refine Goal.loud (o := ⟨some 5, _, _, _, _, _⟩) rfl ?_; first | refine Loud.boxA rfl rfl (fun b5 => ?_) | refine Loud.box1 rfl rfl rfl (fun b5 => ?_))
        | (apply G.move; exact rfl; exact rfl)
        | (apply G.assign; exact rfl; exact rfl)
        | refine Goal.seq (fun _ _ => ?_)
        | refine Goal.next (by assumption) ?_
        | refine Goal.lnil ?_
        | refine Goal.region ?_
        | refine Goal.skip ?_
        | refine Goal.block ?_
        | refine Goal.exit ?_
        | refine Goal.ret ?_
        | refine Goal.then_exit ?_
        | refine Goal.then_ret ?_
        | refine Goal.inBlock_exit ?_
        | refine Goal.inBlock_normal ?_
        | refine Goal.inBlock_ret ?_
        | refine Goal.inBlock_other rfl ?_
        | (apply Goal.condT; exact rfl)
        | (apply Goal.condF; exact rfl)
        | (refine Goal.condD rfl (fun hc => ?_) (fun hc => ?_) <;> first | (exfalso; omega) | contradiction | skip)
        | refine Goal.condB rfl (fun hc => ?_) (fun hc => ?_)
        | refine Goal.guardT rfl rfl ?_
        | refine Goal.guardF rfl rfl rfl rfl ?_
        | refine Goal.guardU rfl rfl rfl ?_
        | (refine Goal.guardD rfl rfl (fun hc => ?_) (fun hc => ?_) <;> first | (exfalso; omega) | contradiction | skip)
        | refine Goal.guardB rfl rfl (fun hc => ?_) (fun hc => ?_)
        | (apply G.load; exact rfl; exact rfl; first | exact LoadOK.one T.one_3 0 rfl rfl | exact LoadOK.one T.one_3 1 rfl rfl | exact LoadOK.one T.one_3 2 rfl rfl | exact LoadOK.one T.one_3 3 rfl rfl | exact LoadOK.one T.one_3 4 rfl rfl | exact LoadOK.one T.one_3 5 rfl rfl | exact LoadOK.one T.one_3 6 rfl rfl | exact LoadOK.one T.one_3 7 rfl rfl | exact ag3 T.agg_25 0 rfl rfl rfl rfl | exact ag3 T.agg_25 1 rfl rfl rfl rfl | exact ag3 T.agg_25 2 rfl rfl rfl rfl | exact ag3 T.agg_25 3 rfl rfl rfl rfl | exact ag3 T.agg_25 4 rfl rfl rfl rfl | exact ag3 T.agg_25 5 rfl rfl rfl rfl | exact ag3 T.agg_25 6 rfl rfl rfl rfl | exact ag3 T.agg_25 7 rfl rfl rfl rfl)
        | (apply G.pickT; exact rfl; exact rfl; exact rfl)
        | (apply G.pickF; exact rfl; exact rfl; exact rfl)
        | (apply G.eql; exact rfl; exact rfl; exact rfl)
        | (apply G.notT; exact rfl; exact rfl)
        | (apply G.notF; exact rfl; exact rfl)
        | (refine G.notD rfl rfl ?_)
        | (apply G.notB; exact rfl; exact rfl)
        | (apply G.extract; exact rfl; exact rfl; exact rfl)
        | (refine G.indexAddrA rfl T.arr_34 T.sz_3 rfl rfl _ rfl (by omega) ?_)
        | (refine G.indexAddrA rfl T.arr_34 T.sz_3 rfl rfl _ (Int.toNat_of_nonneg (by omega)).symm (by omega) ?_))
      refine Goal.done (vs := [_]) (by first | exact .inl rfl | exact .inr rfl) Try.results4 ⟨rfl, trivial⟩ rfl (fun w' H => ⟨rfl, H.mod⟩)
    · have hbad1 := fun w' (hT : TopR w' (.slice ao tp.ov.length co) (.slice al tp.ls.length cl) tp) (hd : RdV w' (.slice ad dn.length cd) (bools dn)) => path_bad (s := s) (d := d) hT hd (by omega) (by omega) hk
      have hbad2 := fun w' (hT : TopR w' (.slice ao tp.ov.length co) (.slice al tp.ls.length cl) tp) (hd : RdV w' (.slice ad dn.length cd) (bools dn)) => rpath_bad (s := s) (d := d) hT hd (by omega) (by omega) (by omega) hk
      generalize chk tp dn [s, d] = k at hbad1 hbad2
      refine Goal.enter (args := [.agg #[.int .i64 tp.n, .slice ao tp.ov.length co, .slice al tp.ls.length cl], .slice ad dn.length cd, .agg #[.int .i64 s, .int .i64 d]]) Try.func4 rfl Try.ntmps4 rfl (St.nil w) ?_
      repeat' (first
        | (refine Goal.loud (o := ⟨some 11, _, _, _, _, _⟩) rfl ?_; apply Loud.call0; exact rfl; exact rfl; exact rfl; exact rfl; exact T.bod_11; exact (fun w' H => awake_ok w'))
        | (refine Goal.loud (o := ⟨some 15, _, _, _, _, _⟩) rfl ?_; apply Loud.call0; exact rfl; exact rfl; exact rfl; exact rfl; exact T.bod_12; exact (fun w' H => large_ok (tp := tp) (dn := dn) ao al ad co cl cd w'); rw [decide_eq_false hlg])
        | (refine Goal.loud (o := ⟨some 23, _, _, _, _, _⟩) rfl ?_; apply Loud.call0; exact rfl; exact rfl; exact rfl; exact rfl; exact T.bod_16; exact (fun w' H => hbad1 w' (hT.keep H.mod) (hd.keep H.mod)))
        | (refine Goal.loud (o := ⟨some 33, _, _, _, _, _⟩) rfl ?_; apply Loud.call0; exact rfl; exact rfl; exact rfl; exact rfl; exact T.bod_17; exact (fun w' H => hbad2 w' (hT.keep H.mod) (hd.keep H.mod)))
        | (refine Goal.loud (o := ⟨some 42, _, _, _, _, _⟩) rfl ?_; apply Loud.call0; exact rfl; exact rfl; exact rfl; exact rfl; exact T.bod_15; exact (fun w' H => same_yes (l := []) (RdV.nil w') (RdV.nil w') (by decide)))
        | (refine Goal.loud (o := ⟨some 3, _, _, _, _, _⟩) rfl ?_; first | refine Loud.boxA rfl rfl (fun b3 => ?_) | refine Loud.box1 rfl rfl rfl (fun b3 => ?_))
        | (refine Goal.loud (o := ⟨some 5, _, _, _, _, _⟩) rfl ?_; first | refine Loud.boxA rfl rfl (fun b5 => ?_) | refine Loud.box1 rfl rfl rfl (fun b5 => ?_))
        | (apply G.move; exact rfl; exact rfl)
        | (apply G.assign; exact rfl; exact rfl)
        | refine Goal.seq (fun _ _ => ?_)
        | refine Goal.next (by assumption) ?_
        | refine Goal.lnil ?_
        | refine Goal.region ?_
        | refine Goal.skip ?_
        | refine Goal.block ?_
        | refine Goal.exit ?_
        | refine Goal.ret ?_
        | refine Goal.then_exit ?_
        | refine Goal.then_ret ?_
        | refine Goal.inBlock_exit ?_
        | refine Goal.inBlock_normal ?_
        | refine Goal.inBlock_ret ?_
        | refine Goal.inBlock_other rfl ?_
        | (apply Goal.condT; exact rfl)
        | (apply Goal.condF; exact rfl)
        | (refine Goal.condD rfl (fun hc => ?_) (fun hc => ?_) <;> first | (exfalso; omega) | contradiction | skip)
        | refine Goal.condB rfl (fun hc => ?_) (fun hc => ?_)
        | refine Goal.guardT rfl rfl ?_
        | refine Goal.guardF rfl rfl rfl rfl ?_
        | refine Goal.guardU rfl rfl rfl ?_
        | (refine Goal.guardD rfl rfl (fun hc => ?_) (fun hc => ?_) <;> first | (exfalso; omega) | contradiction | skip)
        | refine Goal.guardB rfl rfl (fun hc => ?_) (fun hc => ?_)
        | (apply G.load; exact rfl; exact rfl; first | exact LoadOK.one T.one_3 0 rfl rfl | exact LoadOK.one T.one_3 1 rfl rfl | exact LoadOK.one T.one_3 2 rfl rfl | exact LoadOK.one T.one_3 3 rfl rfl | exact LoadOK.one T.one_3 4 rfl rfl | exact LoadOK.one T.one_3 5 rfl rfl | exact LoadOK.one T.one_3 6 rfl rfl | exact LoadOK.one T.one_3 7 rfl rfl | exact ag3 T.agg_25 0 rfl rfl rfl rfl | exact ag3 T.agg_25 1 rfl rfl rfl rfl | exact ag3 T.agg_25 2 rfl rfl rfl rfl | exact ag3 T.agg_25 3 rfl rfl rfl rfl | exact ag3 T.agg_25 4 rfl rfl rfl rfl | exact ag3 T.agg_25 5 rfl rfl rfl rfl | exact ag3 T.agg_25 6 rfl rfl rfl rfl | exact ag3 T.agg_25 7 rfl rfl rfl rfl)
        | (apply G.pickT; exact rfl; exact rfl; exact rfl)
        | (apply G.pickF; exact rfl; exact rfl; exact rfl)
        | (apply G.eql; exact rfl; exact rfl; exact rfl)
        | (apply G.notT; exact rfl; exact rfl)
        | (apply G.notF; exact rfl; exact rfl)
        | (refine G.notD rfl rfl ?_)
        | (apply G.notB; exact rfl; exact rfl)
        | (apply G.extract; exact rfl; exact rfl; exact rfl)
        | (refine G.indexAddrA rfl T.arr_34 T.sz_3 rfl rfl _ rfl (by omega) ?_)
        | (refine G.indexAddrA rfl T.arr_34 T.sz_3 rfl rfl _ (Int.toNat_of_nonneg (by omega)).symm (by omega) ?_))
      refine Goal.done (vs := [_]) (by first | exact .inl rfl | exact .inr rfl) Try.results4 ⟨rfl, trivial⟩ rfl (fun w' H => ⟨rfl, H.mod⟩)
structure BI where
  (x : Int)
set_option maxHeartbeats 8000000 in
theorem law_both {w : World} {tp : Top} {dn : List Bool} {vo vl vd : Value} (hT : TopR w vo vl tp) (hd : RdV w vd (bools dn)) : Calls Try.prog 9 #[.agg #[.int .i64 tp.n, vo, vl], vd] w fun e w' => e = .returned (.bool true) ∧ Mod [] w w' := by
  obtain ⟨ao, co, rfl⟩ := shapeB hT.ov
  obtain ⟨al, cl, rfl⟩ := shapeL hT.ls
  obtain ⟨ad, cd, rfl⟩ := shapeB hd
  by_cases hlg : 100 < tp.ov.length ∨ 40 < tp.ls.length ∨ 100 < dn.length
  · skip
    refine Goal.enter (args := [.agg #[.int .i64 tp.n, .slice ao tp.ov.length co, .slice al tp.ls.length cl], .slice ad dn.length cd]) Try.func9 rfl Try.ntmps9 rfl (St.nil w) ?_
    repeat' (first
      | (refine Goal.loud (o := ⟨some 11, _, _, _, _, _⟩) rfl ?_; apply Loud.call0; exact rfl; exact rfl; exact rfl; exact rfl; exact T.bod_11; exact (fun w' H => awake_ok w'))
      | (refine Goal.loud (o := ⟨some 15, _, _, _, _, _⟩) rfl ?_; apply Loud.call0; exact rfl; exact rfl; exact rfl; exact rfl; exact T.bod_12; exact (fun w' H => large_ok (tp := tp) (dn := dn) ao al ad co cl cd w'); rw [decide_eq_true hlg])
      | (refine Goal.loud (o := ⟨some 2, _, _, _, _, _⟩) rfl ?_; first | refine Loud.boxA rfl rfl (fun b2 => ?_) | refine Loud.box1 rfl rfl rfl (fun b2 => ?_))
      | (apply G.move; exact rfl; exact rfl)
      | (apply G.assign; exact rfl; exact rfl)
      | refine Goal.seq (fun _ _ => ?_)
      | refine Goal.next (by assumption) ?_
      | refine Goal.lnil ?_
      | refine Goal.region ?_
      | refine Goal.skip ?_
      | refine Goal.block ?_
      | refine Goal.exit ?_
      | refine Goal.ret ?_
      | refine Goal.then_exit ?_
      | refine Goal.then_ret ?_
      | refine Goal.inBlock_exit ?_
      | refine Goal.inBlock_normal ?_
      | refine Goal.inBlock_ret ?_
      | refine Goal.inBlock_other rfl ?_
      | (apply Goal.condT; exact rfl)
      | (apply Goal.condF; exact rfl)
      | (refine Goal.condD rfl (fun hc => ?_) (fun hc => ?_) <;> first | (exfalso; omega) | contradiction | skip)
      | refine Goal.condB rfl (fun hc => ?_) (fun hc => ?_)
      | refine Goal.guardT rfl rfl ?_
      | refine Goal.guardF rfl rfl rfl rfl ?_
      | refine Goal.guardU rfl rfl rfl ?_
      | (refine Goal.guardD rfl rfl (fun hc => ?_) (fun hc => ?_) <;> first | (exfalso; omega) | contradiction | skip)
      | refine Goal.guardB rfl rfl (fun hc => ?_) (fun hc => ?_)
      | (apply G.fieldAddr; exact rfl; exact rfl; exact T.fld_25_0)
      | (apply G.load; exact rfl; exact rfl; first | exact LoadOK.one T.one_3 0 rfl rfl | exact LoadOK.one T.one_3 1 rfl rfl | exact LoadOK.one T.one_3 2 rfl rfl | exact LoadOK.one T.one_3 3 rfl rfl | exact LoadOK.one T.one_3 4 rfl rfl | exact LoadOK.one T.one_3 5 rfl rfl | exact LoadOK.one T.one_3 6 rfl rfl | exact LoadOK.one T.one_3 7 rfl rfl | exact ag3 T.agg_25 0 rfl rfl rfl rfl | exact ag3 T.agg_25 1 rfl rfl rfl rfl | exact ag3 T.agg_25 2 rfl rfl rfl rfl | exact ag3 T.agg_25 3 rfl rfl rfl rfl | exact ag3 T.agg_25 4 rfl rfl rfl rfl | exact ag3 T.agg_25 5 rfl rfl rfl rfl | exact ag3 T.agg_25 6 rfl rfl rfl rfl | exact ag3 T.agg_25 7 rfl rfl rfl rfl)
      | (apply G.pickT; exact rfl; exact rfl; exact rfl)
      | (apply G.pickF; exact rfl; exact rfl; exact rfl)
      | (apply G.lss; exact rfl; exact rfl; exact rfl)
      | (apply G.gtr; exact rfl; exact rfl; exact rfl)
      | (apply G.neq; exact rfl; exact rfl; exact rfl)
      | (apply G.add; exact rfl; exact rfl; exact rfl; exact IntWalk.i64_in _ (by omega))
      | (apply G.notT; exact rfl; exact rfl)
      | (apply G.notF; exact rfl; exact rfl)
      | (refine G.notD rfl rfl ?_)
      | (apply G.notB; exact rfl; exact rfl)
      | (apply G.extract; exact rfl; exact rfl; exact rfl)
      | (apply G.len; exact rfl; exact rfl; exact T.slc_28)
      | (refine G.indexAddr1 rfl T.slc_28 T.sz_3 rfl rfl _ rfl (by omega) ?_)
      | (refine G.indexAddr1 rfl T.slc_28 T.sz_3 rfl rfl _ (Int.toNat_of_nonneg (by omega)).symm (by omega) ?_))
    refine Goal.done (vs := [_]) (by first | exact .inl rfl | exact .inr rfl) Try.results9 ⟨rfl, trivial⟩ rfl (fun w' H => ⟨rfl, H.mod⟩)
  by_cases hk : tp.Ok ∧ Fit tp dn
  rotate_left
  · skip
    refine Goal.enter (args := [.agg #[.int .i64 tp.n, .slice ao tp.ov.length co, .slice al tp.ls.length cl], .slice ad dn.length cd]) Try.func9 rfl Try.ntmps9 rfl (St.nil w) ?_
    repeat' (first
      | (refine Goal.loud (o := ⟨some 11, _, _, _, _, _⟩) rfl ?_; apply Loud.call0; exact rfl; exact rfl; exact rfl; exact rfl; exact T.bod_11; exact (fun w' H => awake_ok w'))
      | (refine Goal.loud (o := ⟨some 15, _, _, _, _, _⟩) rfl ?_; apply Loud.call0; exact rfl; exact rfl; exact rfl; exact rfl; exact T.bod_12; exact (fun w' H => large_ok (tp := tp) (dn := dn) ao al ad co cl cd w'); rw [decide_eq_false hlg])
      | (refine Goal.loud (o := ⟨some 19, _, _, _, _, _⟩) rfl ?_; apply Loud.call0; exact rfl; exact rfl; exact rfl; exact rfl; exact T.bod_18; exact (fun w' H => rfits_ok (hT.keep H.mod) (hd.keep H.mod) (by omega) (by omega) (by omega)); rw [decide_eq_false hk])
      | (refine Goal.loud (o := ⟨some 2, _, _, _, _, _⟩) rfl ?_; first | refine Loud.boxA rfl rfl (fun b2 => ?_) | refine Loud.box1 rfl rfl rfl (fun b2 => ?_))
      | (apply G.move; exact rfl; exact rfl)
      | (apply G.assign; exact rfl; exact rfl)
      | refine Goal.seq (fun _ _ => ?_)
      | refine Goal.next (by assumption) ?_
      | refine Goal.lnil ?_
      | refine Goal.region ?_
      | refine Goal.skip ?_
      | refine Goal.block ?_
      | refine Goal.exit ?_
      | refine Goal.ret ?_
      | refine Goal.then_exit ?_
      | refine Goal.then_ret ?_
      | refine Goal.inBlock_exit ?_
      | refine Goal.inBlock_normal ?_
      | refine Goal.inBlock_ret ?_
      | refine Goal.inBlock_other rfl ?_
      | (apply Goal.condT; exact rfl)
      | (apply Goal.condF; exact rfl)
      | (refine Goal.condD rfl (fun hc => ?_) (fun hc => ?_) <;> first | (exfalso; omega) | contradiction | skip)
      | refine Goal.condB rfl (fun hc => ?_) (fun hc => ?_)
      | refine Goal.guardT rfl rfl ?_
      | refine Goal.guardF rfl rfl rfl rfl ?_
      | refine Goal.guardU rfl rfl rfl ?_
      | (refine Goal.guardD rfl rfl (fun hc => ?_) (fun hc => ?_) <;> first | (exfalso; omega) | contradiction | skip)
      | refine Goal.guardB rfl rfl (fun hc => ?_) (fun hc => ?_)
      | (apply G.fieldAddr; exact rfl; exact rfl; exact T.fld_25_0)
      | (apply G.load; exact rfl; exact rfl; first | exact LoadOK.one T.one_3 0 rfl rfl | exact LoadOK.one T.one_3 1 rfl rfl | exact LoadOK.one T.one_3 2 rfl rfl | exact LoadOK.one T.one_3 3 rfl rfl | exact LoadOK.one T.one_3 4 rfl rfl | exact LoadOK.one T.one_3 5 rfl rfl | exact LoadOK.one T.one_3 6 rfl rfl | exact LoadOK.one T.one_3 7 rfl rfl | exact ag3 T.agg_25 0 rfl rfl rfl rfl | exact ag3 T.agg_25 1 rfl rfl rfl rfl | exact ag3 T.agg_25 2 rfl rfl rfl rfl | exact ag3 T.agg_25 3 rfl rfl rfl rfl | exact ag3 T.agg_25 4 rfl rfl rfl rfl | exact ag3 T.agg_25 5 rfl rfl rfl rfl | exact ag3 T.agg_25 6 rfl rfl rfl rfl | exact ag3 T.agg_25 7 rfl rfl rfl rfl)
      | (apply G.pickT; exact rfl; exact rfl; exact rfl)
      | (apply G.pickF; exact rfl; exact rfl; exact rfl)
      | (apply G.lss; exact rfl; exact rfl; exact rfl)
      | (apply G.gtr; exact rfl; exact rfl; exact rfl)
      | (apply G.neq; exact rfl; exact rfl; exact rfl)
      | (apply G.add; exact rfl; exact rfl; exact rfl; exact IntWalk.i64_in _ (by omega))
      | (apply G.notT; exact rfl; exact rfl)
      | (apply G.notF; exact rfl; exact rfl)
      | (refine G.notD rfl rfl ?_)
      | (apply G.notB; exact rfl; exact rfl)
      | (apply G.extract; exact rfl; exact rfl; exact rfl)
      | (apply G.len; exact rfl; exact rfl; exact T.slc_28)
      | (refine G.indexAddr1 rfl T.slc_28 T.sz_3 rfl rfl _ rfl (by omega) ?_)
      | (refine G.indexAddr1 rfl T.slc_28 T.sz_3 rfl rfl _ (Int.toNat_of_nonneg (by omega)).symm (by omega) ?_))
    refine Goal.done (vs := [_]) (by first | exact .inl rfl | exact .inr rfl) Try.results9 ⟨rfl, trivial⟩ rfl (fun w' H => ⟨rfl, H.mod⟩)
  obtain ⟨ht, hf⟩ := id hk
  have hn := ht.n
  refine Goal.enter (args := [.agg #[.int .i64 tp.n, .slice ao tp.ov.length co, .slice al tp.ls.length cl], .slice ad dn.length cd]) Try.func9 rfl Try.ntmps9 rfl (St.nil w) ?_
  repeat' (first
    | (refine Goal.loud (o := ⟨some 11, _, _, _, _, _⟩) rfl ?_; apply Loud.call0; exact rfl; exact rfl; exact rfl; exact rfl; exact T.bod_11; exact (fun w' H => awake_ok w'))
    | (refine Goal.loud (o := ⟨some 15, _, _, _, _, _⟩) rfl ?_; apply Loud.call0; exact rfl; exact rfl; exact rfl; exact rfl; exact T.bod_12; exact (fun w' H => large_ok (tp := tp) (dn := dn) ao al ad co cl cd w'); rw [decide_eq_false hlg])
    | (refine Goal.loud (o := ⟨some 19, _, _, _, _, _⟩) rfl ?_; apply Loud.call0; exact rfl; exact rfl; exact rfl; exact rfl; exact T.bod_18; exact (fun w' H => rfits_ok (hT.keep H.mod) (hd.keep H.mod) (by omega) (by omega) (by omega)); rw [decide_eq_true hk])
    | (refine Goal.loud (o := ⟨some 2, _, _, _, _, _⟩) rfl ?_; first | refine Loud.boxA rfl rfl (fun b2 => ?_) | refine Loud.box1 rfl rfl rfl (fun b2 => ?_))
    | (apply G.move; exact rfl; exact rfl)
    | (apply G.assign; exact rfl; exact rfl)
    | refine Goal.seq (fun _ _ => ?_)
    | refine Goal.next (by assumption) ?_
    | refine Goal.lnil ?_
    | refine Goal.region ?_
    | refine Goal.skip ?_
    | refine Goal.block ?_
    | refine Goal.exit ?_
    | refine Goal.ret ?_
    | refine Goal.then_exit ?_
    | refine Goal.then_ret ?_
    | refine Goal.inBlock_exit ?_
    | refine Goal.inBlock_normal ?_
    | refine Goal.inBlock_ret ?_
    | refine Goal.inBlock_other rfl ?_
    | (apply Goal.condT; exact rfl)
    | (apply Goal.condF; exact rfl)
    | (refine Goal.condD rfl (fun hc => ?_) (fun hc => ?_) <;> first | (exfalso; omega) | contradiction | skip)
    | refine Goal.condB rfl (fun hc => ?_) (fun hc => ?_)
    | refine Goal.guardT rfl rfl ?_
    | refine Goal.guardF rfl rfl rfl rfl ?_
    | refine Goal.guardU rfl rfl rfl ?_
    | (refine Goal.guardD rfl rfl (fun hc => ?_) (fun hc => ?_) <;> first | (exfalso; omega) | contradiction | skip)
    | refine Goal.guardB rfl rfl (fun hc => ?_) (fun hc => ?_)
    | (apply G.fieldAddr; exact rfl; exact rfl; exact T.fld_25_0)
    | (apply G.load; exact rfl; exact rfl; first | exact LoadOK.one T.one_3 0 rfl rfl | exact LoadOK.one T.one_3 1 rfl rfl | exact LoadOK.one T.one_3 2 rfl rfl | exact LoadOK.one T.one_3 3 rfl rfl | exact LoadOK.one T.one_3 4 rfl rfl | exact LoadOK.one T.one_3 5 rfl rfl | exact LoadOK.one T.one_3 6 rfl rfl | exact LoadOK.one T.one_3 7 rfl rfl | exact ag3 T.agg_25 0 rfl rfl rfl rfl | exact ag3 T.agg_25 1 rfl rfl rfl rfl | exact ag3 T.agg_25 2 rfl rfl rfl rfl | exact ag3 T.agg_25 3 rfl rfl rfl rfl | exact ag3 T.agg_25 4 rfl rfl rfl rfl | exact ag3 T.agg_25 5 rfl rfl rfl rfl | exact ag3 T.agg_25 6 rfl rfl rfl rfl | exact ag3 T.agg_25 7 rfl rfl rfl rfl)
    | (apply G.pickT; exact rfl; exact rfl; exact rfl)
    | (apply G.pickF; exact rfl; exact rfl; exact rfl)
    | (apply G.lss; exact rfl; exact rfl; exact rfl)
    | (apply G.gtr; exact rfl; exact rfl; exact rfl)
    | (apply G.neq; exact rfl; exact rfl; exact rfl)
    | (apply G.add; exact rfl; exact rfl; exact rfl; exact IntWalk.i64_in _ (by omega))
    | (apply G.notT; exact rfl; exact rfl)
    | (apply G.notF; exact rfl; exact rfl)
    | (refine G.notD rfl rfl ?_)
    | (apply G.notB; exact rfl; exact rfl)
    | (apply G.extract; exact rfl; exact rfl; exact rfl)
    | (apply G.len; exact rfl; exact rfl; exact T.slc_28)
    | (refine G.indexAddr1 rfl T.slc_28 T.sz_3 rfl rfl _ rfl (by omega) ?_)
    | (refine G.indexAddr1 rfl T.slc_28 T.sz_3 rfl rfl _ (Int.toNat_of_nonneg (by omega)).symm (by omega) ?_))
  · refine Goal.done (vs := [_]) (by first | exact .inl rfl | exact .inr rfl) Try.results9 ⟨rfl, trivial⟩ rfl (fun w' H => ⟨rfl, H.mod⟩)
  refine Goal.loopP (X := Int) (fun x => [(1, .slice ad dn.length cd), (2, .pointer (some ⟨b2, 0, none⟩)), (28, .int .i64 tp.n), (29, .int .i64 x)]) (fun _ => [(b2, .cells #[.int .i64 tp.n, .slice ao tp.ov.length co, .slice al tp.ls.length cl] 25)])
    (fun x => 0 ≤ x ∧ x ≤ tp.n) (fun x => (tp.n - x).toNat) 0 ⟨rfl, rfl, rfl, rfl, trivial⟩ (fun _ h => h) ⟨by omega, by omega⟩ ?_
  rintro x hx
  by_cases hxn : x < tp.n
  rotate_left
  · skip
    repeat' (first
      | (refine Goal.loud (o := ⟨some 2, _, _, _, _, _⟩) rfl ?_; first | refine Loud.boxA rfl rfl (fun b2 => ?_) | refine Loud.box1 rfl rfl rfl (fun b2 => ?_))
      | (apply G.move; exact rfl; exact rfl)
      | (apply G.assign; exact rfl; exact rfl)
      | refine Goal.seq (fun _ _ => ?_)
      | refine Goal.next (by assumption) ?_
      | refine Goal.lnil ?_
      | refine Goal.region ?_
      | refine Goal.skip ?_
      | refine Goal.block ?_
      | refine Goal.exit ?_
      | refine Goal.ret ?_
      | refine Goal.then_exit ?_
      | refine Goal.then_ret ?_
      | refine Goal.inBlock_exit ?_
      | refine Goal.inBlock_normal ?_
      | refine Goal.inBlock_ret ?_
      | refine Goal.inBlock_other rfl ?_
      | (apply Goal.condT; exact rfl)
      | (apply Goal.condF; exact rfl)
      | (refine Goal.condD rfl (fun hc => ?_) (fun hc => ?_) <;> first | (exfalso; omega) | contradiction | skip)
      | refine Goal.condB rfl (fun hc => ?_) (fun hc => ?_)
      | refine Goal.guardT rfl rfl ?_
      | refine Goal.guardF rfl rfl rfl rfl ?_
      | refine Goal.guardU rfl rfl rfl ?_
      | (refine Goal.guardD rfl rfl (fun hc => ?_) (fun hc => ?_) <;> first | (exfalso; omega) | contradiction | skip)
      | refine Goal.guardB rfl rfl (fun hc => ?_) (fun hc => ?_)
      | (apply G.fieldAddr; exact rfl; exact rfl; exact T.fld_25_0)
      | (apply G.load; exact rfl; exact rfl; first | exact LoadOK.one T.one_3 0 rfl rfl | exact LoadOK.one T.one_3 1 rfl rfl | exact LoadOK.one T.one_3 2 rfl rfl | exact LoadOK.one T.one_3 3 rfl rfl | exact LoadOK.one T.one_3 4 rfl rfl | exact LoadOK.one T.one_3 5 rfl rfl | exact LoadOK.one T.one_3 6 rfl rfl | exact LoadOK.one T.one_3 7 rfl rfl | exact ag3 T.agg_25 0 rfl rfl rfl rfl | exact ag3 T.agg_25 1 rfl rfl rfl rfl | exact ag3 T.agg_25 2 rfl rfl rfl rfl | exact ag3 T.agg_25 3 rfl rfl rfl rfl | exact ag3 T.agg_25 4 rfl rfl rfl rfl | exact ag3 T.agg_25 5 rfl rfl rfl rfl | exact ag3 T.agg_25 6 rfl rfl rfl rfl | exact ag3 T.agg_25 7 rfl rfl rfl rfl)
      | (apply G.pickT; exact rfl; exact rfl; exact rfl)
      | (apply G.pickF; exact rfl; exact rfl; exact rfl)
      | (apply G.lss; exact rfl; exact rfl; exact rfl)
      | (apply G.gtr; exact rfl; exact rfl; exact rfl)
      | (apply G.neq; exact rfl; exact rfl; exact rfl)
      | (apply G.add; exact rfl; exact rfl; exact rfl; exact IntWalk.i64_in _ (by omega))
      | (apply G.notT; exact rfl; exact rfl)
      | (apply G.notF; exact rfl; exact rfl)
      | (refine G.notD rfl rfl ?_)
      | (apply G.notB; exact rfl; exact rfl)
      | (apply G.extract; exact rfl; exact rfl; exact rfl)
      | (apply G.len; exact rfl; exact rfl; exact T.slc_28)
      | (refine G.indexAddr1 rfl T.slc_28 T.sz_3 rfl rfl _ rfl (by omega) ?_)
      | (refine G.indexAddr1 rfl T.slc_28 T.sz_3 rfl rfl _ (Int.toNat_of_nonneg (by omega)).symm (by omega) ?_))
    refine Goal.done (vs := [_]) (by first | exact .inl rfl | exact .inr rfl) Try.results9 ⟨rfl, trivial⟩ rfl (fun w' H => ⟨rfl, H.mod⟩)
  repeat' (first
    | (refine Goal.loud (o := ⟨some 36, _, _, _, _, _⟩) rfl ?_; apply Loud.callN; exact rfl; exact rfl; exact rfl; exact rfl; exact T.bod_23; exact (fun w' H => from_ok (hT.keep H.mod) (hd.keep H.mod) ht hf (show 0 ≤ x ∧ x < tp.n from ⟨hx.1, hxn⟩)); rintro ⟨bl, l⟩ hl; dsimp only at hl ⊢; have hll := hl.len)
    | (refine Goal.loud (o := ⟨some 2, _, _, _, _, _⟩) rfl ?_; first | refine Loud.boxA rfl rfl (fun b2 => ?_) | refine Loud.box1 rfl rfl rfl (fun b2 => ?_))
    | (apply G.move; exact rfl; exact rfl)
    | (apply G.assign; exact rfl; exact rfl)
    | refine Goal.seq (fun _ _ => ?_)
    | refine Goal.next (by assumption) ?_
    | refine Goal.lnil ?_
    | refine Goal.region ?_
    | refine Goal.skip ?_
    | refine Goal.block ?_
    | refine Goal.exit ?_
    | refine Goal.ret ?_
    | refine Goal.then_exit ?_
    | refine Goal.then_ret ?_
    | refine Goal.inBlock_exit ?_
    | refine Goal.inBlock_normal ?_
    | refine Goal.inBlock_ret ?_
    | refine Goal.inBlock_other rfl ?_
    | (apply Goal.condT; exact rfl)
    | (apply Goal.condF; exact rfl)
    | (refine Goal.condD rfl (fun hc => ?_) (fun hc => ?_) <;> first | (exfalso; omega) | contradiction | skip)
    | refine Goal.condB rfl (fun hc => ?_) (fun hc => ?_)
    | refine Goal.guardT rfl rfl ?_
    | refine Goal.guardF rfl rfl rfl rfl ?_
    | refine Goal.guardU rfl rfl rfl ?_
    | (refine Goal.guardD rfl rfl (fun hc => ?_) (fun hc => ?_) <;> first | (exfalso; omega) | contradiction | skip)
    | refine Goal.guardB rfl rfl (fun hc => ?_) (fun hc => ?_)
    | (apply G.fieldAddr; exact rfl; exact rfl; exact T.fld_25_0)
    | (apply G.load; exact rfl; exact rfl; first | exact LoadOK.one T.one_3 0 rfl rfl | exact LoadOK.one T.one_3 1 rfl rfl | exact LoadOK.one T.one_3 2 rfl rfl | exact LoadOK.one T.one_3 3 rfl rfl | exact LoadOK.one T.one_3 4 rfl rfl | exact LoadOK.one T.one_3 5 rfl rfl | exact LoadOK.one T.one_3 6 rfl rfl | exact LoadOK.one T.one_3 7 rfl rfl | exact ag3 T.agg_25 0 rfl rfl rfl rfl | exact ag3 T.agg_25 1 rfl rfl rfl rfl | exact ag3 T.agg_25 2 rfl rfl rfl rfl | exact ag3 T.agg_25 3 rfl rfl rfl rfl | exact ag3 T.agg_25 4 rfl rfl rfl rfl | exact ag3 T.agg_25 5 rfl rfl rfl rfl | exact ag3 T.agg_25 6 rfl rfl rfl rfl | exact ag3 T.agg_25 7 rfl rfl rfl rfl)
    | (apply G.pickT; exact rfl; exact rfl; exact rfl)
    | (apply G.pickF; exact rfl; exact rfl; exact rfl)
    | (apply G.lss; exact rfl; exact rfl; exact rfl)
    | (apply G.gtr; exact rfl; exact rfl; exact rfl)
    | (apply G.neq; exact rfl; exact rfl; exact rfl)
    | (apply G.add; exact rfl; exact rfl; exact rfl; exact IntWalk.i64_in _ (by omega))
    | (apply G.notT; exact rfl; exact rfl)
    | (apply G.notF; exact rfl; exact rfl)
    | (refine G.notD rfl rfl ?_)
    | (apply G.notB; exact rfl; exact rfl)
    | (apply G.extract; exact rfl; exact rfl; exact rfl)
    | (apply G.len; exact rfl; exact rfl; exact T.slc_28)
    | (refine G.indexAddr1 rfl T.slc_28 T.sz_3 rfl rfl _ rfl (by omega) ?_)
    | (refine G.indexAddr1 rfl T.slc_28 T.sz_3 rfl rfl _ (Int.toNat_of_nonneg (by omega)).symm (by omega) ?_))
  refine Goal.loopP (X := Int) (fun y => [(1, .slice ad dn.length cd), (2, .pointer (some ⟨b2, 0, none⟩)), (5, .int .i64 x), (6, .slice (some ⟨bl, 0, none⟩) l.length l.length), (28, .int .i64 tp.n), (29, .int .i64 x), (49, .int .i64 tp.n), (50, .int .i64 y)]) (fun _ => [(b2, .cells #[.int .i64 tp.n, .slice ao tp.ov.length co, .slice al tp.ls.length cl] 25), (bl, .cells (ints l).toArray 3)])
    (fun y => 0 ≤ y ∧ y ≤ tp.n) (fun y => (tp.n - y).toNat) 0 ⟨rfl, rfl, rfl, rfl, rfl, rfl, rfl, rfl, trivial⟩ (fun _ h => h) ⟨by omega, by omega⟩ ?_
  rintro y hy
  by_cases hyn : y < tp.n
  rotate_left
  · skip
    repeat' (first
      | (refine Goal.loud (o := ⟨some 2, _, _, _, _, _⟩) rfl ?_; first | refine Loud.boxA rfl rfl (fun b2 => ?_) | refine Loud.box1 rfl rfl rfl (fun b2 => ?_))
      | (apply G.move; exact rfl; exact rfl)
      | (apply G.assign; exact rfl; exact rfl)
      | refine Goal.seq (fun _ _ => ?_)
      | refine Goal.next (by assumption) ?_
      | refine Goal.lnil ?_
      | refine Goal.region ?_
      | refine Goal.skip ?_
      | refine Goal.block ?_
      | refine Goal.exit ?_
      | refine Goal.ret ?_
      | refine Goal.then_exit ?_
      | refine Goal.then_ret ?_
      | refine Goal.inBlock_exit ?_
      | refine Goal.inBlock_normal ?_
      | refine Goal.inBlock_ret ?_
      | refine Goal.inBlock_other rfl ?_
      | (apply Goal.condT; exact rfl)
      | (apply Goal.condF; exact rfl)
      | (refine Goal.condD rfl (fun hc => ?_) (fun hc => ?_) <;> first | (exfalso; omega) | contradiction | skip)
      | refine Goal.condB rfl (fun hc => ?_) (fun hc => ?_)
      | refine Goal.guardT rfl rfl ?_
      | refine Goal.guardF rfl rfl rfl rfl ?_
      | refine Goal.guardU rfl rfl rfl ?_
      | (refine Goal.guardD rfl rfl (fun hc => ?_) (fun hc => ?_) <;> first | (exfalso; omega) | contradiction | skip)
      | refine Goal.guardB rfl rfl (fun hc => ?_) (fun hc => ?_)
      | (apply G.fieldAddr; exact rfl; exact rfl; exact T.fld_25_0)
      | (apply G.load; exact rfl; exact rfl; first | exact LoadOK.one T.one_3 0 rfl rfl | exact LoadOK.one T.one_3 1 rfl rfl | exact LoadOK.one T.one_3 2 rfl rfl | exact LoadOK.one T.one_3 3 rfl rfl | exact LoadOK.one T.one_3 4 rfl rfl | exact LoadOK.one T.one_3 5 rfl rfl | exact LoadOK.one T.one_3 6 rfl rfl | exact LoadOK.one T.one_3 7 rfl rfl | exact ag3 T.agg_25 0 rfl rfl rfl rfl | exact ag3 T.agg_25 1 rfl rfl rfl rfl | exact ag3 T.agg_25 2 rfl rfl rfl rfl | exact ag3 T.agg_25 3 rfl rfl rfl rfl | exact ag3 T.agg_25 4 rfl rfl rfl rfl | exact ag3 T.agg_25 5 rfl rfl rfl rfl | exact ag3 T.agg_25 6 rfl rfl rfl rfl | exact ag3 T.agg_25 7 rfl rfl rfl rfl)
      | (apply G.pickT; exact rfl; exact rfl; exact rfl)
      | (apply G.pickF; exact rfl; exact rfl; exact rfl)
      | (apply G.lss; exact rfl; exact rfl; exact rfl)
      | (apply G.gtr; exact rfl; exact rfl; exact rfl)
      | (apply G.neq; exact rfl; exact rfl; exact rfl)
      | (apply G.add; exact rfl; exact rfl; exact rfl; exact IntWalk.i64_in _ (by omega))
      | (apply G.notT; exact rfl; exact rfl)
      | (apply G.notF; exact rfl; exact rfl)
      | (refine G.notD rfl rfl ?_)
      | (apply G.notB; exact rfl; exact rfl)
      | (apply G.extract; exact rfl; exact rfl; exact rfl)
      | (apply G.len; exact rfl; exact rfl; exact T.slc_28)
      | (refine G.indexAddr1 rfl T.slc_28 T.sz_3 rfl rfl _ rfl (by omega) ?_)
      | (refine G.indexAddr1 rfl T.slc_28 T.sz_3 rfl rfl _ (Int.toNat_of_nonneg (by omega)).symm (by omega) ?_))
    refine Goal.again (x + 1) ⟨by omega, by omega⟩ (by omega) ⟨rfl, rfl, rfl, rfl, trivial⟩ (fun _ h => St.drop2 h)
  repeat' (first
    | (refine Goal.drawAll (id := 15) 20 T.mixed ?_; all_goals ((refine Goal.takeP (listed' := #[Ya,No,No,No,No,No,No,No,No,No,No,No,No,No,No,No,No,No,No,No]) 0 ⟨rfl, by kernel_rfl, by kernel_rfl, by kernel_rfl, by kernel_rfl⟩ rfl (fun _ _ _ _ h => h) (by intro _; exact Run.move rfl) ?_)); all_goals ((refine Goal.takeP (listed' := #[Ya,Ya,No,No,No,No,No,No,No,No,No,No,No,No,No,No,No,No,No,No]) 1 ⟨rfl, by kernel_rfl, by kernel_rfl, by kernel_rfl, by kernel_rfl⟩ rfl (fun _ _ _ _ h => h) (by intro _; first | exact Run.neq rfl rfl) ?_)); all_goals ((refine Goal.takeP (listed' := #[Ya,Ya,Ya,No,No,No,No,No,No,No,No,No,No,No,No,No,No,No,No,No]) 2 ⟨rfl, by kernel_rfl, by kernel_rfl, by kernel_rfl, by kernel_rfl⟩ rfl (fun _ _ _ _ h => h) (by intro _; exact Run.move rfl) ?_)); all_goals (first | (refine Goal.bdec 62 rfl (fun hc => ?_) (fun hc => ?_) <;> first | (exfalso; omega) | contradiction | skip) | skip); all_goals (first | (refine Goal.takePT (listed' := #[Ya,Ya,Ya,Ya,No,No,No,No,No,No,No,No,No,No,No,No,No,No,No,No]) 3 ⟨rfl, by kernel_rfl, by kernel_rfl, by kernel_rfl, by kernel_rfl⟩ rfl rfl rfl (fun _ _ _ _ h => h) (by intro _; exact Run.move rfl) ?_) | (refine Goal.takePF (listed' := #[Ya,Ya,Ya,Ya,No,No,No,No,No,No,No,No,No,No,No,No,No,No,No,No]) 3 ⟨rfl, by kernel_rfl, by kernel_rfl, by kernel_rfl, by kernel_rfl⟩ rfl rfl rfl rfl (fun _ _ _ _ h => h) ?_) | (refine Goal.takePU (listed' := #[Ya,Ya,Ya,Ya,No,No,No,No,No,No,No,No,No,No,No,No,No,No,No,No]) 3 ⟨rfl, by kernel_rfl, by kernel_rfl, by kernel_rfl, by kernel_rfl⟩ rfl rfl rfl (fun _ _ _ _ h => h) ?_)); all_goals (first | (refine Goal.takePT (listed' := #[Ya,Ya,Ya,Ya,Ya,No,No,No,No,No,No,No,No,No,No,No,No,No,No,No]) 4 ⟨rfl, by kernel_rfl, by kernel_rfl, by kernel_rfl, by kernel_rfl⟩ rfl rfl rfl (fun _ _ _ _ h => h) (by intro _; exact Run.len T.slc_28 rfl) ?_) | (refine Goal.takePF (listed' := #[Ya,Ya,Ya,Ya,Ya,No,No,No,No,No,No,No,No,No,No,No,No,No,No,No]) 4 ⟨rfl, by kernel_rfl, by kernel_rfl, by kernel_rfl, by kernel_rfl⟩ rfl rfl rfl rfl (fun _ _ _ _ h => h) ?_) | (refine Goal.takePU (listed' := #[Ya,Ya,Ya,Ya,Ya,No,No,No,No,No,No,No,No,No,No,No,No,No,No,No]) 4 ⟨rfl, by kernel_rfl, by kernel_rfl, by kernel_rfl, by kernel_rfl⟩ rfl rfl rfl (fun _ _ _ _ h => h) ?_)); all_goals (first | (refine Goal.takePT (listed' := #[Ya,Ya,Ya,Ya,Ya,Ya,No,No,No,No,No,No,No,No,No,No,No,No,No,No]) 5 ⟨rfl, by kernel_rfl, by kernel_rfl, by kernel_rfl, by kernel_rfl⟩ rfl rfl rfl (fun _ _ _ _ h => h) (by intro _; exact Run.fieldAddr T.fld_25_0 rfl) ?_) | (refine Goal.takePF (listed' := #[Ya,Ya,Ya,Ya,Ya,Ya,No,No,No,No,No,No,No,No,No,No,No,No,No,No]) 5 ⟨rfl, by kernel_rfl, by kernel_rfl, by kernel_rfl, by kernel_rfl⟩ rfl rfl rfl rfl (fun _ _ _ _ h => h) ?_) | (refine Goal.takePU (listed' := #[Ya,Ya,Ya,Ya,Ya,Ya,No,No,No,No,No,No,No,No,No,No,No,No,No,No]) 5 ⟨rfl, by kernel_rfl, by kernel_rfl, by kernel_rfl, by kernel_rfl⟩ rfl rfl rfl (fun _ _ _ _ h => h) ?_)); all_goals (first | (refine Goal.takeT (listed' := #[Ya,Ya,Ya,Ya,Ya,Ya,Ya,No,No,No,No,No,No,No,No,No,No,No,No,No]) 6 ⟨rfl, by kernel_rfl, by kernel_rfl, by kernel_rfl, by kernel_rfl, by kernel_rfl⟩ rfl rfl rfl (by (first | exact s0 | exact s1 | exact s2 | exact s3 | exact sd | exact sa | exact sn (by simp))) (fun _ _ _ _ h => h) (by (apply Run.load; exact rfl; first | exact LoadOK.ia (l := l) (i := y) T.one_3 1 rfl (by omega) | exact LoadOK.ia (l := m) (i := x) T.one_3 2 rfl (by omega) | exact LoadOK.one T.one_3 0 rfl rfl | exact LoadOK.one T.one_3 1 rfl rfl | exact LoadOK.one T.one_3 2 rfl rfl | exact LoadOK.one T.one_3 3 rfl rfl | exact LoadOK.one T.one_3 4 rfl rfl | exact LoadOK.one T.one_3 5 rfl rfl | exact LoadOK.one T.one_3 6 rfl rfl | exact LoadOK.one T.one_3 7 rfl rfl)) ?_) | (refine Goal.takeF (listed' := #[Ya,Ya,Ya,Ya,Ya,Ya,Ya,No,No,No,No,No,No,No,No,No,No,No,No,No]) 6 ⟨rfl, by kernel_rfl, by kernel_rfl, by kernel_rfl, by kernel_rfl, by kernel_rfl⟩ rfl rfl rfl rfl (by (first | exact s0 | exact s1 | exact s2 | exact s3 | exact sd | exact sa | exact sn (by simp))) (fun _ _ _ _ h => h) ?_) | (refine Goal.takePU (listed' := #[Ya,Ya,Ya,Ya,Ya,Ya,Ya,No,No,No,No,No,No,No,No,No,No,No,No,No]) 6 ⟨rfl, by kernel_rfl, by kernel_rfl, by kernel_rfl, by kernel_rfl⟩ rfl rfl rfl (fun _ _ _ _ h => h) ?_)); all_goals (first | (refine Goal.takePT (listed' := #[Ya,Ya,Ya,Ya,Ya,Ya,Ya,Ya,No,No,No,No,No,No,No,No,No,No,No,No]) 7 ⟨rfl, by kernel_rfl, by kernel_rfl, by kernel_rfl, by kernel_rfl⟩ rfl rfl rfl (fun _ _ _ _ h => h) (by intro _; first | exact Run.neq rfl rfl) ?_) | (refine Goal.takePF (listed' := #[Ya,Ya,Ya,Ya,Ya,Ya,Ya,Ya,No,No,No,No,No,No,No,No,No,No,No,No]) 7 ⟨rfl, by kernel_rfl, by kernel_rfl, by kernel_rfl, by kernel_rfl⟩ rfl rfl rfl rfl (fun _ _ _ _ h => h) ?_) | (refine Goal.takePU (listed' := #[Ya,Ya,Ya,Ya,Ya,Ya,Ya,Ya,No,No,No,No,No,No,No,No,No,No,No,No]) 7 ⟨rfl, by kernel_rfl, by kernel_rfl, by kernel_rfl, by kernel_rfl⟩ rfl rfl rfl (fun _ _ _ _ h => h) ?_)); all_goals ((refine Goal.takeP (listed' := #[Ya,Ya,Ya,Ya,Ya,Ya,Ya,Ya,Ya,No,No,No,No,No,No,No,No,No,No,No]) 8 ⟨rfl, by kernel_rfl, by kernel_rfl, by kernel_rfl, by kernel_rfl⟩ rfl (fun _ _ _ _ h => h) (by intro _; first | exact Run.pickT rfl rfl | exact Run.pickF rfl rfl) ?_)); all_goals ((refine Goal.takeP (listed' := #[Ya,Ya,Ya,Ya,Ya,Ya,Ya,Ya,Ya,Ya,No,No,No,No,No,No,No,No,No,No]) 9 ⟨rfl, by kernel_rfl, by kernel_rfl, by kernel_rfl, by kernel_rfl⟩ rfl (fun _ _ _ _ h => h) (by intro _; exact Run.move rfl) ?_)); all_goals (first | (refine Goal.bdec 69 rfl (fun hc => ?_) (fun hc => ?_) <;> first | (exfalso; omega) | contradiction | skip) | skip); all_goals (first | (refine Goal.takePT (listed' := #[Ya,Ya,Ya,Ya,Ya,Ya,Ya,Ya,Ya,Ya,Ya,No,No,No,No,No,No,No,No,No]) 10 ⟨rfl, by kernel_rfl, by kernel_rfl, by kernel_rfl, by kernel_rfl⟩ rfl rfl rfl (fun _ _ _ _ h => h) (by intro _; exact Run.move rfl) ?_) | (refine Goal.takePF (listed' := #[Ya,Ya,Ya,Ya,Ya,Ya,Ya,Ya,Ya,Ya,Ya,No,No,No,No,No,No,No,No,No]) 10 ⟨rfl, by kernel_rfl, by kernel_rfl, by kernel_rfl, by kernel_rfl⟩ rfl rfl rfl rfl (fun _ _ _ _ h => h) ?_) | (refine Goal.takePU (listed' := #[Ya,Ya,Ya,Ya,Ya,Ya,Ya,Ya,Ya,Ya,Ya,No,No,No,No,No,No,No,No,No]) 10 ⟨rfl, by kernel_rfl, by kernel_rfl, by kernel_rfl, by kernel_rfl⟩ rfl rfl rfl (fun _ _ _ _ h => h) ?_)); all_goals (first | (refine Goal.takePT (listed' := #[Ya,Ya,Ya,Ya,Ya,Ya,Ya,Ya,Ya,Ya,Ya,Ya,No,No,No,No,No,No,No,No]) 11 ⟨rfl, by kernel_rfl, by kernel_rfl, by kernel_rfl, by kernel_rfl⟩ rfl rfl rfl (fun _ _ _ _ h => h) (by intro _; exact Run.move rfl) ?_) | (refine Goal.takePF (listed' := #[Ya,Ya,Ya,Ya,Ya,Ya,Ya,Ya,Ya,Ya,Ya,Ya,No,No,No,No,No,No,No,No]) 11 ⟨rfl, by kernel_rfl, by kernel_rfl, by kernel_rfl, by kernel_rfl⟩ rfl rfl rfl rfl (fun _ _ _ _ h => h) ?_) | (refine Goal.takePU (listed' := #[Ya,Ya,Ya,Ya,Ya,Ya,Ya,Ya,Ya,Ya,Ya,Ya,No,No,No,No,No,No,No,No]) 11 ⟨rfl, by kernel_rfl, by kernel_rfl, by kernel_rfl, by kernel_rfl⟩ rfl rfl rfl (fun _ _ _ _ h => h) ?_)); all_goals (first | (refine Goal.takePT (listed' := #[Ya,Ya,Ya,Ya,Ya,Ya,Ya,Ya,Ya,Ya,Ya,Ya,Ya,No,No,No,No,No,No,No]) 12 ⟨rfl, by kernel_rfl, by kernel_rfl, by kernel_rfl, by kernel_rfl⟩ rfl rfl rfl (fun _ _ _ _ h => h) (by intro _; first | exact Run.indexAddr1 T.slc_28 T.sz_3 rfl rfl rfl (by omega) | exact Run.indexAddr1 T.slc_28 T.sz_3 rfl rfl (Int.toNat_of_nonneg (by omega)).symm (by omega)) ?_) | (refine Goal.takePF (listed' := #[Ya,Ya,Ya,Ya,Ya,Ya,Ya,Ya,Ya,Ya,Ya,Ya,Ya,No,No,No,No,No,No,No]) 12 ⟨rfl, by kernel_rfl, by kernel_rfl, by kernel_rfl, by kernel_rfl⟩ rfl rfl rfl rfl (fun _ _ _ _ h => h) ?_) | (refine Goal.takePU (listed' := #[Ya,Ya,Ya,Ya,Ya,Ya,Ya,Ya,Ya,Ya,Ya,Ya,Ya,No,No,No,No,No,No,No]) 12 ⟨rfl, by kernel_rfl, by kernel_rfl, by kernel_rfl, by kernel_rfl⟩ rfl rfl rfl (fun _ _ _ _ h => h) ?_)); all_goals (first | (refine Goal.takePT (listed' := #[Ya,Ya,Ya,Ya,Ya,Ya,Ya,Ya,Ya,Ya,Ya,Ya,Ya,No,Ya,No,No,No,No,No]) 14 ⟨rfl, by kernel_rfl, by kernel_rfl, by kernel_rfl, by kernel_rfl⟩ rfl rfl rfl (fun _ _ _ _ h => h) (by intro _; exact Run.move rfl) ?_) | (refine Goal.takePF (listed' := #[Ya,Ya,Ya,Ya,Ya,Ya,Ya,Ya,Ya,Ya,Ya,Ya,Ya,No,Ya,No,No,No,No,No]) 14 ⟨rfl, by kernel_rfl, by kernel_rfl, by kernel_rfl, by kernel_rfl⟩ rfl rfl rfl rfl (fun _ _ _ _ h => h) ?_) | (refine Goal.takePU (listed' := #[Ya,Ya,Ya,Ya,Ya,Ya,Ya,Ya,Ya,Ya,Ya,Ya,Ya,No,Ya,No,No,No,No,No]) 14 ⟨rfl, by kernel_rfl, by kernel_rfl, by kernel_rfl, by kernel_rfl⟩ rfl rfl rfl (fun _ _ _ _ h => h) ?_)); all_goals (first | (refine Goal.takePT (listed' := #[Ya,Ya,Ya,Ya,Ya,Ya,Ya,Ya,Ya,Ya,Ya,Ya,Ya,No,Ya,Ya,No,No,No,No]) 15 ⟨rfl, by kernel_rfl, by kernel_rfl, by kernel_rfl, by kernel_rfl⟩ rfl rfl rfl (fun _ _ _ _ h => h) (by intro _; exact Run.move rfl) ?_) | (refine Goal.takePF (listed' := #[Ya,Ya,Ya,Ya,Ya,Ya,Ya,Ya,Ya,Ya,Ya,Ya,Ya,No,Ya,Ya,No,No,No,No]) 15 ⟨rfl, by kernel_rfl, by kernel_rfl, by kernel_rfl, by kernel_rfl⟩ rfl rfl rfl rfl (fun _ _ _ _ h => h) ?_) | (refine Goal.takePU (listed' := #[Ya,Ya,Ya,Ya,Ya,Ya,Ya,Ya,Ya,Ya,Ya,Ya,Ya,No,Ya,Ya,No,No,No,No]) 15 ⟨rfl, by kernel_rfl, by kernel_rfl, by kernel_rfl, by kernel_rfl⟩ rfl rfl rfl (fun _ _ _ _ h => h) ?_)); all_goals (first | (refine Goal.takePT (listed' := #[Ya,Ya,Ya,Ya,Ya,Ya,Ya,Ya,Ya,Ya,Ya,Ya,Ya,No,Ya,Ya,Ya,No,No,No]) 16 ⟨rfl, by kernel_rfl, by kernel_rfl, by kernel_rfl, by kernel_rfl⟩ rfl rfl rfl (fun _ _ _ _ h => h) (by intro _; first | exact Run.indexAddr1 T.slc_28 T.sz_3 rfl rfl rfl (by omega) | exact Run.indexAddr1 T.slc_28 T.sz_3 rfl rfl (Int.toNat_of_nonneg (by omega)).symm (by omega)) ?_) | (refine Goal.takePF (listed' := #[Ya,Ya,Ya,Ya,Ya,Ya,Ya,Ya,Ya,Ya,Ya,Ya,Ya,No,Ya,Ya,Ya,No,No,No]) 16 ⟨rfl, by kernel_rfl, by kernel_rfl, by kernel_rfl, by kernel_rfl⟩ rfl rfl rfl rfl (fun _ _ _ _ h => h) ?_) | (refine Goal.takePU (listed' := #[Ya,Ya,Ya,Ya,Ya,Ya,Ya,Ya,Ya,Ya,Ya,Ya,Ya,No,Ya,Ya,Ya,No,No,No]) 16 ⟨rfl, by kernel_rfl, by kernel_rfl, by kernel_rfl, by kernel_rfl⟩ rfl rfl rfl (fun _ _ _ _ h => h) ?_)); all_goals (first | (refine Goal.takeT (listed' := #[Ya,Ya,Ya,Ya,Ya,Ya,Ya,Ya,Ya,Ya,Ya,Ya,Ya,Ya,Ya,Ya,Ya,No,No,No]) 13 ⟨rfl, by kernel_rfl, by kernel_rfl, by kernel_rfl, by kernel_rfl, by kernel_rfl⟩ rfl rfl rfl (by (first | exact s0 | exact s1 | exact s2 | exact s3 | exact sd | exact sa | exact sn (by simp))) (fun _ _ _ _ h => h) (by (apply Run.load; exact rfl; first | exact LoadOK.ia (l := l) (i := y) T.one_3 1 rfl (by omega) | exact LoadOK.ia (l := m) (i := x) T.one_3 2 rfl (by omega) | exact LoadOK.one T.one_3 0 rfl rfl | exact LoadOK.one T.one_3 1 rfl rfl | exact LoadOK.one T.one_3 2 rfl rfl | exact LoadOK.one T.one_3 3 rfl rfl | exact LoadOK.one T.one_3 4 rfl rfl | exact LoadOK.one T.one_3 5 rfl rfl | exact LoadOK.one T.one_3 6 rfl rfl | exact LoadOK.one T.one_3 7 rfl rfl)) ?_) | (refine Goal.takeF (listed' := #[Ya,Ya,Ya,Ya,Ya,Ya,Ya,Ya,Ya,Ya,Ya,Ya,Ya,Ya,Ya,Ya,Ya,No,No,No]) 13 ⟨rfl, by kernel_rfl, by kernel_rfl, by kernel_rfl, by kernel_rfl, by kernel_rfl⟩ rfl rfl rfl rfl (by (first | exact s0 | exact s1 | exact s2 | exact s3 | exact sd | exact sa | exact sn (by simp))) (fun _ _ _ _ h => h) ?_) | (refine Goal.takePU (listed' := #[Ya,Ya,Ya,Ya,Ya,Ya,Ya,Ya,Ya,Ya,Ya,Ya,Ya,Ya,Ya,Ya,Ya,No,No,No]) 13 ⟨rfl, by kernel_rfl, by kernel_rfl, by kernel_rfl, by kernel_rfl⟩ rfl rfl rfl (fun _ _ _ _ h => h) ?_)); all_goals (first | (refine Goal.takeT (listed' := #[Ya,Ya,Ya,Ya,Ya,Ya,Ya,Ya,Ya,Ya,Ya,Ya,Ya,Ya,Ya,Ya,Ya,Ya,No,No]) 17 ⟨rfl, by kernel_rfl, by kernel_rfl, by kernel_rfl, by kernel_rfl, by kernel_rfl⟩ rfl rfl rfl (by (first | exact s0 | exact s1 | exact s2 | exact s3 | exact sd | exact sa | exact sn (by simp))) (fun _ _ _ _ h => h) (by (apply Run.load; exact rfl; first | exact LoadOK.ia (l := l) (i := y) T.one_3 1 rfl (by omega) | exact LoadOK.ia (l := m) (i := x) T.one_3 2 rfl (by omega) | exact LoadOK.one T.one_3 0 rfl rfl | exact LoadOK.one T.one_3 1 rfl rfl | exact LoadOK.one T.one_3 2 rfl rfl | exact LoadOK.one T.one_3 3 rfl rfl | exact LoadOK.one T.one_3 4 rfl rfl | exact LoadOK.one T.one_3 5 rfl rfl | exact LoadOK.one T.one_3 6 rfl rfl | exact LoadOK.one T.one_3 7 rfl rfl)) ?_) | (refine Goal.takeF (listed' := #[Ya,Ya,Ya,Ya,Ya,Ya,Ya,Ya,Ya,Ya,Ya,Ya,Ya,Ya,Ya,Ya,Ya,Ya,No,No]) 17 ⟨rfl, by kernel_rfl, by kernel_rfl, by kernel_rfl, by kernel_rfl, by kernel_rfl⟩ rfl rfl rfl rfl (by (first | exact s0 | exact s1 | exact s2 | exact s3 | exact sd | exact sa | exact sn (by simp))) (fun _ _ _ _ h => h) ?_) | (refine Goal.takePU (listed' := #[Ya,Ya,Ya,Ya,Ya,Ya,Ya,Ya,Ya,Ya,Ya,Ya,Ya,Ya,Ya,Ya,Ya,Ya,No,No]) 17 ⟨rfl, by kernel_rfl, by kernel_rfl, by kernel_rfl, by kernel_rfl⟩ rfl rfl rfl (fun _ _ _ _ h => h) ?_)); all_goals (first | (refine Goal.takePT (listed' := #[Ya,Ya,Ya,Ya,Ya,Ya,Ya,Ya,Ya,Ya,Ya,Ya,Ya,Ya,Ya,Ya,Ya,Ya,Ya,No]) 18 ⟨rfl, by kernel_rfl, by kernel_rfl, by kernel_rfl, by kernel_rfl⟩ rfl rfl rfl (fun _ _ _ _ h => h) (by intro _; first | exact Run.neq rfl rfl) ?_) | (refine Goal.takePF (listed' := #[Ya,Ya,Ya,Ya,Ya,Ya,Ya,Ya,Ya,Ya,Ya,Ya,Ya,Ya,Ya,Ya,Ya,Ya,Ya,No]) 18 ⟨rfl, by kernel_rfl, by kernel_rfl, by kernel_rfl, by kernel_rfl⟩ rfl rfl rfl rfl (fun _ _ _ _ h => h) ?_) | (refine Goal.takePU (listed' := #[Ya,Ya,Ya,Ya,Ya,Ya,Ya,Ya,Ya,Ya,Ya,Ya,Ya,Ya,Ya,Ya,Ya,Ya,Ya,No]) 18 ⟨rfl, by kernel_rfl, by kernel_rfl, by kernel_rfl, by kernel_rfl⟩ rfl rfl rfl (fun _ _ _ _ h => h) ?_)); all_goals ((refine Goal.takeP (listed' := #[Ya,Ya,Ya,Ya,Ya,Ya,Ya,Ya,Ya,Ya,Ya,Ya,Ya,Ya,Ya,Ya,Ya,Ya,Ya,Ya]) 19 ⟨rfl, by kernel_rfl, by kernel_rfl, by kernel_rfl, by kernel_rfl⟩ rfl (fun _ _ _ _ h => h) (by intro _; first | exact Run.pickT rfl rfl | exact Run.pickF rfl rfl) ?_)); all_goals (refine Goal.allUp (by kernel_rfl) ?_))
    | (refine Goal.loud (o := ⟨some 57, _, _, _, _, _⟩) rfl ?_; apply Loud.callN; exact rfl; exact rfl; exact rfl; exact rfl; exact T.bod_13; exact (fun w' H => dist_ok (hT.keep H.mod) (hd.keep H.mod) ht hf (show 0 ≤ y ∧ y < tp.n from ⟨hy.1, hyn⟩)); rintro ⟨bm, m⟩ hm; dsimp only at hm ⊢; have hml := hm.len; have hab := both ht ⟨hx.1, hxn⟩ ⟨hy.1, hyn⟩ hl.bell hm.bell)
    | (refine Goal.loud (o := ⟨some 2, _, _, _, _, _⟩) rfl ?_; first | refine Loud.boxA rfl rfl (fun b2 => ?_) | refine Loud.box1 rfl rfl rfl (fun b2 => ?_))
    | (apply G.move; exact rfl; exact rfl)
    | (apply G.assign; exact rfl; exact rfl)
    | refine Goal.seq (fun _ _ => ?_)
    | refine Goal.next (by assumption) ?_
    | refine Goal.lnil ?_
    | refine Goal.region ?_
    | refine Goal.skip ?_
    | refine Goal.block ?_
    | refine Goal.exit ?_
    | refine Goal.ret ?_
    | refine Goal.then_exit ?_
    | refine Goal.then_ret ?_
    | refine Goal.inBlock_exit ?_
    | refine Goal.inBlock_normal ?_
    | refine Goal.inBlock_ret ?_
    | refine Goal.inBlock_other rfl ?_
    | (apply Goal.condT; exact rfl)
    | (apply Goal.condF; exact rfl)
    | (refine Goal.condD rfl (fun hc => ?_) (fun hc => ?_) <;> first | (exfalso; omega) | contradiction | skip)
    | refine Goal.condB rfl (fun hc => ?_) (fun hc => ?_)
    | refine Goal.guardT rfl rfl ?_
    | refine Goal.guardF rfl rfl rfl rfl ?_
    | refine Goal.guardU rfl rfl rfl ?_
    | (refine Goal.guardD rfl rfl (fun hc => ?_) (fun hc => ?_) <;> first | (exfalso; omega) | contradiction | skip)
    | refine Goal.guardB rfl rfl (fun hc => ?_) (fun hc => ?_)
    | (apply G.fieldAddr; exact rfl; exact rfl; exact T.fld_25_0)
    | (apply G.load; exact rfl; exact rfl; first | exact LoadOK.ia (l := l) (i := y) T.one_3 1 rfl (by omega) | exact LoadOK.ia (l := m) (i := x) T.one_3 2 rfl (by omega) | exact LoadOK.one T.one_3 0 rfl rfl | exact LoadOK.one T.one_3 1 rfl rfl | exact LoadOK.one T.one_3 2 rfl rfl | exact LoadOK.one T.one_3 3 rfl rfl | exact LoadOK.one T.one_3 4 rfl rfl | exact LoadOK.one T.one_3 5 rfl rfl | exact LoadOK.one T.one_3 6 rfl rfl | exact LoadOK.one T.one_3 7 rfl rfl | exact ag3 T.agg_25 0 rfl rfl rfl rfl | exact ag3 T.agg_25 1 rfl rfl rfl rfl | exact ag3 T.agg_25 2 rfl rfl rfl rfl | exact ag3 T.agg_25 3 rfl rfl rfl rfl | exact ag3 T.agg_25 4 rfl rfl rfl rfl | exact ag3 T.agg_25 5 rfl rfl rfl rfl | exact ag3 T.agg_25 6 rfl rfl rfl rfl | exact ag3 T.agg_25 7 rfl rfl rfl rfl)
    | (apply G.pickT; exact rfl; exact rfl; exact rfl)
    | (apply G.pickF; exact rfl; exact rfl; exact rfl)
    | (apply G.lss; exact rfl; exact rfl; exact rfl)
    | (apply G.gtr; exact rfl; exact rfl; exact rfl)
    | (apply G.neq; exact rfl; exact rfl; exact rfl)
    | (apply G.add; exact rfl; exact rfl; exact rfl; exact IntWalk.i64_in _ (by omega))
    | (apply G.notT; exact rfl; exact rfl)
    | (apply G.notF; exact rfl; exact rfl)
    | (refine G.notD rfl rfl ?_)
    | (apply G.notB; exact rfl; exact rfl)
    | (apply G.extract; exact rfl; exact rfl; exact rfl)
    | (apply G.len; exact rfl; exact rfl; exact T.slc_28)
    | (refine G.indexAddr1 rfl T.slc_28 T.sz_3 rfl rfl _ rfl (by omega) ?_)
    | (refine G.indexAddr1 rfl T.slc_28 T.sz_3 rfl rfl _ (Int.toNat_of_nonneg (by omega)).symm (by omega) ?_))
  all_goals
    refine Goal.again (y + 1) ⟨by omega, by omega⟩ (by omega) ⟨rfl, rfl, rfl, rfl, rfl, rfl, rfl, rfl, trivial⟩ (fun _ h => h.sub (List.Sublist.cons_cons _ (List.Sublist.cons_cons _ (List.nil_sublist _))))
end Go.Proofs.Ytmliedkhlgfdpaa
