/- Package waypointlaw27: PostconvExtra. -/
import Derived.Test.YtldoplehchngfaaPcE
import Derived.Test.YtldoplehchngfaaPcU
namespace Go.Proofs.Ytldoplehchngfaa
open Go.Wf
set_option linter.unusedVariables false
theorem ExS.nonneg {tp : Top} {dn : List Bool} {s d ex : Int} (ht : tp.Ok) (hs : 0 ≤ s ∧ s < tp.n) (h : ExS tp dn s d ex 0) : 0 ≤ ex := by
  obtain ⟨l, hl, ⟨_, h, _⟩ | ⟨h, _, m, hm, rfl⟩⟩ := h
  · omega
  · have := Bell.mono (GD.ok ht) (fun x y c ⟨b, hb, h1, h⟩ => ⟨b, hb, ba_nil b, h⟩) hm.bell hl.bell s hs.1 hs.2 h
    omega
theorem ExS.unused {tp : Top} {dn : List Bool} {x y ex er : Int} {m : List Int} {A B : Int → Int → Int} (ht : tp.Ok) (hx : 0 ≤ x ∧ x < tp.n) (hy : 0 ≤ y ∧ y < tp.n) (hA : ∀ x, Bell tp.n x (GF tp [] x) (A x)) (hB : ∀ y, Bell tp.n y (GD tp [] y) (B y)) (hu : ¬ UsesP tp dn (A x) (B y) x y) (hm : DL tp.n y (GD tp [] y) m) (h : ExS tp dn x y ex er) :
    (0 ≤ ia m x ∧ er = 0 ∧ ex = 0) ∨ (ia m x < 0 ∧ er = 11 ∧ ex = 0) := by
  obtain ⟨l, hl, h⟩ := h
  by_cases h0 : 0 ≤ ia m x
  · have hu' : ¬ UsesP tp dn (A x) (ia m) x y := fun q => hu ((UsesP.congr ht hy (fun _ _ _ => rfl) (fun z z0 z1 => Bell.one (GD.ok ht) hm.bell (hB y) z z0 z1)).1 q)
    have := stays_to ht hy (F := A) (fun z _ _ => hA z) hm.bell hl.bell x hx.1 hx.2 h0 hu'
    rcases h with ⟨h, _⟩ | ⟨h, rfl, m', hm', rfl⟩
    · omega
    · obtain rfl := DL.one (GD.ok ht) hm hm'
      exact .inl ⟨h0, rfl, by omega⟩
  · have := Bell.mono (GD.ok ht) (fun x y c ⟨b, hb, h1, h⟩ => ⟨b, hb, ba_nil b, h⟩) hm.bell hl.bell x hx.1 hx.2
    rcases h with ⟨h, rfl, rfl⟩ | ⟨h, _⟩
    · exact .inr ⟨by omega, rfl, rfl⟩
    · have := this h
      omega
section
variable {w : World} {tp : Top} {dn : List Bool} {vo vl vd : Value}
set_option maxHeartbeats 8000000 in
theorem law27_extra (x y : Int) (hT : TopR w vo vl tp) (hd : RdV w vd (bools dn)) (hov : tp.ov.length ≤ 140737488355328) : Calls Try.prog 4 #[.agg #[.int .i64 tp.n, vo, vl, vd, .int .i64 x, .int .i64 y]] w fun e w' => e = .returned (.bool true) ∧ Mod [] w w' := by
  obtain ⟨ao, co, rfl⟩ := shapeB hT.ov
  obtain ⟨al, cl, rfl⟩ := shapeL hT.ls
  obtain ⟨ad, cd, rfl⟩ := shapeB hd
  by_cases hlg : 12 < tp.n ∨ 20 < tp.ls.length ∨ 60 < dn.length
  · skip
    refine Goal.enter (args := [.agg #[.int .i64 tp.n, .slice ao tp.ov.length co, .slice al tp.ls.length cl, .slice ad dn.length cd, .int .i64 x, .int .i64 y]]) Try.func4 rfl Try.ntmps4 rfl (St.nil w) ?_
    repeat' (first
      | (refine Goal.loud (o := ⟨some 7, _, _, _, _, _⟩) rfl ?_; apply Loud.call0; exact rfl; exact rfl; exact rfl; exact rfl; exact T.bod_14; exact (fun w' H => awake27_ok w'))
      | (refine Goal.loud (o := ⟨some 11, _, _, _, _, _⟩) rfl ?_; apply Loud.call0; exact rfl; exact rfl; exact rfl; exact rfl; exact T.bod_15; exact (fun w' H => large27_ok (tp := tp) (dn := dn) ao al ad co cl cd x y w'); rw [decide_eq_true hlg])
      | (refine Goal.loud (o := ⟨some 47, _, _, _, _, _⟩) rfl ?_; apply Loud.call0; exact rfl; exact rfl; exact rfl; exact rfl; exact T.bod_14; exact (fun w' H => awake27_ok w'))
      | (refine Goal.loud (o := ⟨some 1, _, _, _, _, _⟩) rfl ?_; first | refine Loud.boxA rfl rfl (fun b1 => ?_) | refine Loud.box1 rfl rfl rfl (fun b1 => ?_))
      | (apply G.move; exact rfl; exact rfl)
      | (apply G.assign; exact rfl; exact rfl)
      | refine Goal.seq (fun _ _ => ?_)
      | refine Goal.next (by assumption) ?_
      | refine Goal.lnil ?_
      | refine Goal.region ?_
      | refine Goal.skip ?_
      | refine Goal.block ?_
      | refine Goal.exit ?_
      | refine Goal.ret ?_
      | refine Goal.then_exit ?_
      | refine Goal.then_ret ?_
      | refine Goal.inBlock_exit ?_
      | refine Goal.inBlock_normal ?_
      | refine Goal.inBlock_ret ?_
      | refine Goal.inBlock_other rfl ?_
      | (apply Goal.condT; exact rfl)
      | (apply Goal.condF; exact rfl)
      | (refine Goal.condD rfl (fun hc => ?_) (fun hc => ?_) <;> first | (exfalso; omega) | contradiction | skip)
      | refine Goal.condB rfl (fun hc => ?_) (fun hc => ?_)
      | refine Goal.guardT rfl rfl ?_
      | refine Goal.guardF rfl rfl rfl rfl ?_
      | refine Goal.guardU rfl rfl rfl ?_
      | (refine Goal.guardD rfl rfl (fun hc => ?_) (fun hc => ?_) <;> first | (exfalso; omega) | contradiction | skip)
      | refine Goal.guardB rfl rfl (fun hc => ?_) (fun hc => ?_)
      | (apply G.fieldAddr; exact rfl; exact rfl; (first | exact T.fld_25_0 | exact T.fld_27_0 | exact T.fld_27_1 | exact T.fld_27_2 | exact T.fld_27_3))
      | (apply G.load; exact rfl; exact rfl; first | exact LoadOK.one (by first | exact T.one_3 | exact T.one_22) 0 rfl rfl | exact LoadOK.one (by first | exact T.one_3 | exact T.one_22) 1 rfl rfl | exact LoadOK.one (by first | exact T.one_3 | exact T.one_22) 2 rfl rfl | exact LoadOK.one (by first | exact T.one_3 | exact T.one_22) 3 rfl rfl | exact LoadOK.one (by first | exact T.one_3 | exact T.one_22) 4 rfl rfl | exact LoadOK.one (by first | exact T.one_3 | exact T.one_22) 5 rfl rfl | exact LoadOK.one (by first | exact T.one_3 | exact T.one_22) 6 rfl rfl | exact LoadOK.one (by first | exact T.one_3 | exact T.one_22) 7 rfl rfl | exact ag3 T.agg_25 0 rfl rfl rfl rfl | exact ag3 T.agg_25 1 rfl rfl rfl rfl | exact ag3 T.agg_25 2 rfl rfl rfl rfl | exact ag3 T.agg_25 3 rfl rfl rfl rfl | exact ag3 T.agg_25 4 rfl rfl rfl rfl | exact ag3 T.agg_25 5 rfl rfl rfl rfl | exact ag3 T.agg_25 6 rfl rfl rfl rfl | exact ag3 T.agg_25 7 rfl rfl rfl rfl | exact LoadOK.agg (vs := [_, _, _, _, _, _]) T.agg_27 0 rfl rfl ⟨rfl, rfl, rfl, rfl, rfl, rfl, trivial⟩ | exact LoadOK.agg (vs := [_, _, _, _, _, _]) T.agg_27 1 rfl rfl ⟨rfl, rfl, rfl, rfl, rfl, rfl, trivial⟩ | exact LoadOK.agg (vs := [_, _, _, _, _, _]) T.agg_27 2 rfl rfl ⟨rfl, rfl, rfl, rfl, rfl, rfl, trivial⟩ | exact LoadOK.agg (vs := [_, _, _, _, _, _]) T.agg_27 3 rfl rfl ⟨rfl, rfl, rfl, rfl, rfl, rfl, trivial⟩ | exact LoadOK.agg (vs := [_, _, _, _, _, _]) T.agg_27 4 rfl rfl ⟨rfl, rfl, rfl, rfl, rfl, rfl, trivial⟩ | exact LoadOK.agg (vs := [_, _, _, _, _, _]) T.agg_27 5 rfl rfl ⟨rfl, rfl, rfl, rfl, rfl, rfl, trivial⟩ | exact LoadOK.agg (vs := [_, _, _, _, _, _]) T.agg_27 6 rfl rfl ⟨rfl, rfl, rfl, rfl, rfl, rfl, trivial⟩ | exact LoadOK.agg (vs := [_, _, _, _, _, _]) T.agg_27 7 rfl rfl ⟨rfl, rfl, rfl, rfl, rfl, rfl, trivial⟩)
      | (apply G.pickT; exact rfl; exact rfl; exact rfl)
      | (apply G.pickF; exact rfl; exact rfl; exact rfl)
      | (apply G.lss; exact rfl; exact rfl; exact rfl)
      | (apply G.geq; exact rfl; exact rfl; exact rfl)
      | (apply G.eql; exact rfl; exact rfl; exact rfl)
      | (apply G.eqlB; exact rfl; exact T.boo_4; exact rfl; exact rfl)
      | (apply G.notT; exact rfl; exact rfl)
      | (apply G.notF; exact rfl; exact rfl)
      | (refine G.notD rfl rfl ?_)
      | (apply G.notB; exact rfl; exact rfl)
      | (apply G.extract; exact rfl; exact rfl; exact rfl)
      | (refine G.indexAddr1 rfl T.slc_30 T.sz_3 rfl rfl _ rfl (by omega) ?_)
      | (refine G.indexAddr1 rfl T.slc_30 T.sz_3 rfl rfl _ (Int.toNat_of_nonneg (by omega)).symm (by omega) ?_))
    refine Goal.done (vs := [_]) (by first | exact .inl rfl | exact .inr rfl) Try.results4 ⟨rfl, trivial⟩ rfl (fun w' H => ⟨rfl, H.mod⟩)
  by_cases hk : tp.Ok ∧ Fit tp dn
  rotate_left
  · skip
    refine Goal.enter (args := [.agg #[.int .i64 tp.n, .slice ao tp.ov.length co, .slice al tp.ls.length cl, .slice ad dn.length cd, .int .i64 x, .int .i64 y]]) Try.func4 rfl Try.ntmps4 rfl (St.nil w) ?_
    repeat' (first
      | (refine Goal.loud (o := ⟨some 7, _, _, _, _, _⟩) rfl ?_; apply Loud.call0; exact rfl; exact rfl; exact rfl; exact rfl; exact T.bod_14; exact (fun w' H => awake27_ok w'))
      | (refine Goal.loud (o := ⟨some 11, _, _, _, _, _⟩) rfl ?_; apply Loud.call0; exact rfl; exact rfl; exact rfl; exact rfl; exact T.bod_15; exact (fun w' H => large27_ok (tp := tp) (dn := dn) ao al ad co cl cd x y w'); rw [decide_eq_false hlg])
      | (refine Goal.loud (o := ⟨some 18, _, _, _, _, _⟩) rfl ?_; apply Loud.call0; exact rfl; exact rfl; exact rfl; exact rfl; exact T.bod_22; exact (fun w' H => rfits_ok (hT.keep H.mod) (hd.keep H.mod) (by omega) hov (by omega)); rw [decide_eq_false hk])
      | (refine Goal.loud (o := ⟨some 47, _, _, _, _, _⟩) rfl ?_; apply Loud.call0; exact rfl; exact rfl; exact rfl; exact rfl; exact T.bod_14; exact (fun w' H => awake27_ok w'))
      | (refine Goal.loud (o := ⟨some 1, _, _, _, _, _⟩) rfl ?_; first | refine Loud.boxA rfl rfl (fun b1 => ?_) | refine Loud.box1 rfl rfl rfl (fun b1 => ?_))
      | (apply G.move; exact rfl; exact rfl)
      | (apply G.assign; exact rfl; exact rfl)
      | refine Goal.seq (fun _ _ => ?_)
      | refine Goal.next (by assumption) ?_
      | refine Goal.lnil ?_
      | refine Goal.region ?_
      | refine Goal.skip ?_
      | refine Goal.block ?_
      | refine Goal.exit ?_
      | refine Goal.ret ?_
      | refine Goal.then_exit ?_
      | refine Goal.then_ret ?_
      | refine Goal.inBlock_exit ?_
      | refine Goal.inBlock_normal ?_
      | refine Goal.inBlock_ret ?_
      | refine Goal.inBlock_other rfl ?_
      | (apply Goal.condT; exact rfl)
      | (apply Goal.condF; exact rfl)
      | (refine Goal.condD rfl (fun hc => ?_) (fun hc => ?_) <;> first | (exfalso; omega) | contradiction | skip)
      | refine Goal.condB rfl (fun hc => ?_) (fun hc => ?_)
      | refine Goal.guardT rfl rfl ?_
      | refine Goal.guardF rfl rfl rfl rfl ?_
      | refine Goal.guardU rfl rfl rfl ?_
      | (refine Goal.guardD rfl rfl (fun hc => ?_) (fun hc => ?_) <;> first | (exfalso; omega) | contradiction | skip)
      | refine Goal.guardB rfl rfl (fun hc => ?_) (fun hc => ?_)
      | (apply G.fieldAddr; exact rfl; exact rfl; (first | exact T.fld_25_0 | exact T.fld_27_0 | exact T.fld_27_1 | exact T.fld_27_2 | exact T.fld_27_3))
      | (apply G.load; exact rfl; exact rfl; first | exact LoadOK.one (by first | exact T.one_3 | exact T.one_22) 0 rfl rfl | exact LoadOK.one (by first | exact T.one_3 | exact T.one_22) 1 rfl rfl | exact LoadOK.one (by first | exact T.one_3 | exact T.one_22) 2 rfl rfl | exact LoadOK.one (by first | exact T.one_3 | exact T.one_22) 3 rfl rfl | exact LoadOK.one (by first | exact T.one_3 | exact T.one_22) 4 rfl rfl | exact LoadOK.one (by first | exact T.one_3 | exact T.one_22) 5 rfl rfl | exact LoadOK.one (by first | exact T.one_3 | exact T.one_22) 6 rfl rfl | exact LoadOK.one (by first | exact T.one_3 | exact T.one_22) 7 rfl rfl | exact ag3 T.agg_25 0 rfl rfl rfl rfl | exact ag3 T.agg_25 1 rfl rfl rfl rfl | exact ag3 T.agg_25 2 rfl rfl rfl rfl | exact ag3 T.agg_25 3 rfl rfl rfl rfl | exact ag3 T.agg_25 4 rfl rfl rfl rfl | exact ag3 T.agg_25 5 rfl rfl rfl rfl | exact ag3 T.agg_25 6 rfl rfl rfl rfl | exact ag3 T.agg_25 7 rfl rfl rfl rfl | exact LoadOK.agg (vs := [_, _, _, _, _, _]) T.agg_27 0 rfl rfl ⟨rfl, rfl, rfl, rfl, rfl, rfl, trivial⟩ | exact LoadOK.agg (vs := [_, _, _, _, _, _]) T.agg_27 1 rfl rfl ⟨rfl, rfl, rfl, rfl, rfl, rfl, trivial⟩ | exact LoadOK.agg (vs := [_, _, _, _, _, _]) T.agg_27 2 rfl rfl ⟨rfl, rfl, rfl, rfl, rfl, rfl, trivial⟩ | exact LoadOK.agg (vs := [_, _, _, _, _, _]) T.agg_27 3 rfl rfl ⟨rfl, rfl, rfl, rfl, rfl, rfl, trivial⟩ | exact LoadOK.agg (vs := [_, _, _, _, _, _]) T.agg_27 4 rfl rfl ⟨rfl, rfl, rfl, rfl, rfl, rfl, trivial⟩ | exact LoadOK.agg (vs := [_, _, _, _, _, _]) T.agg_27 5 rfl rfl ⟨rfl, rfl, rfl, rfl, rfl, rfl, trivial⟩ | exact LoadOK.agg (vs := [_, _, _, _, _, _]) T.agg_27 6 rfl rfl ⟨rfl, rfl, rfl, rfl, rfl, rfl, trivial⟩ | exact LoadOK.agg (vs := [_, _, _, _, _, _]) T.agg_27 7 rfl rfl ⟨rfl, rfl, rfl, rfl, rfl, rfl, trivial⟩)
      | (apply G.pickT; exact rfl; exact rfl; exact rfl)
      | (apply G.pickF; exact rfl; exact rfl; exact rfl)
      | (apply G.lss; exact rfl; exact rfl; exact rfl)
      | (apply G.geq; exact rfl; exact rfl; exact rfl)
      | (apply G.eql; exact rfl; exact rfl; exact rfl)
      | (apply G.eqlB; exact rfl; exact T.boo_4; exact rfl; exact rfl)
      | (apply G.notT; exact rfl; exact rfl)
      | (apply G.notF; exact rfl; exact rfl)
      | (refine G.notD rfl rfl ?_)
      | (apply G.notB; exact rfl; exact rfl)
      | (apply G.extract; exact rfl; exact rfl; exact rfl)
      | (refine G.indexAddr1 rfl T.slc_30 T.sz_3 rfl rfl _ rfl (by omega) ?_)
      | (refine G.indexAddr1 rfl T.slc_30 T.sz_3 rfl rfl _ (Int.toNat_of_nonneg (by omega)).symm (by omega) ?_))
    refine Goal.done (vs := [_]) (by first | exact .inl rfl | exact .inr rfl) Try.results4 ⟨rfl, trivial⟩ rfl (fun w' H => ⟨rfl, H.mod⟩)
  by_cases hrg : (0 ≤ x ∧ x < tp.n) ∧ (0 ≤ y ∧ y < tp.n)
  rotate_left
  · skip
    refine Goal.enter (args := [.agg #[.int .i64 tp.n, .slice ao tp.ov.length co, .slice al tp.ls.length cl, .slice ad dn.length cd, .int .i64 x, .int .i64 y]]) Try.func4 rfl Try.ntmps4 rfl (St.nil w) ?_
    repeat' (first
      | (refine Goal.loud (o := ⟨some 7, _, _, _, _, _⟩) rfl ?_; apply Loud.call0; exact rfl; exact rfl; exact rfl; exact rfl; exact T.bod_14; exact (fun w' H => awake27_ok w'))
      | (refine Goal.loud (o := ⟨some 11, _, _, _, _, _⟩) rfl ?_; apply Loud.call0; exact rfl; exact rfl; exact rfl; exact rfl; exact T.bod_15; exact (fun w' H => large27_ok (tp := tp) (dn := dn) ao al ad co cl cd x y w'); rw [decide_eq_false hlg])
      | (refine Goal.loud (o := ⟨some 18, _, _, _, _, _⟩) rfl ?_; apply Loud.call0; exact rfl; exact rfl; exact rfl; exact rfl; exact T.bod_22; exact (fun w' H => rfits_ok (hT.keep H.mod) (hd.keep H.mod) (by omega) hov (by omega)); rw [decide_eq_true hk])
      | (refine Goal.loud (o := ⟨some 47, _, _, _, _, _⟩) rfl ?_; apply Loud.call0; exact rfl; exact rfl; exact rfl; exact rfl; exact T.bod_14; exact (fun w' H => awake27_ok w'))
      | (refine Goal.loud (o := ⟨some 1, _, _, _, _, _⟩) rfl ?_; first | refine Loud.boxA rfl rfl (fun b1 => ?_) | refine Loud.box1 rfl rfl rfl (fun b1 => ?_))
      | (apply G.move; exact rfl; exact rfl)
      | (apply G.assign; exact rfl; exact rfl)
      | refine Goal.seq (fun _ _ => ?_)
      | refine Goal.next (by assumption) ?_
      | refine Goal.lnil ?_
      | refine Goal.region ?_
      | refine Goal.skip ?_
      | refine Goal.block ?_
      | refine Goal.exit ?_
      | refine Goal.ret ?_
      | refine Goal.then_exit ?_
      | refine Goal.then_ret ?_
      | refine Goal.inBlock_exit ?_
      | refine Goal.inBlock_normal ?_
      | refine Goal.inBlock_ret ?_
      | refine Goal.inBlock_other rfl ?_
      | (apply Goal.condT; exact rfl)
      | (apply Goal.condF; exact rfl)
      | (refine Goal.condD rfl (fun hc => ?_) (fun hc => ?_) <;> first | (exfalso; omega) | contradiction | skip)
      | refine Goal.condB rfl (fun hc => ?_) (fun hc => ?_)
      | refine Goal.guardT rfl rfl ?_
      | refine Goal.guardF rfl rfl rfl rfl ?_
      | refine Goal.guardU rfl rfl rfl ?_
      | (refine Goal.guardD rfl rfl (fun hc => ?_) (fun hc => ?_) <;> first | (exfalso; omega) | contradiction | skip)
      | refine Goal.guardB rfl rfl (fun hc => ?_) (fun hc => ?_)
      | (apply G.fieldAddr; exact rfl; exact rfl; (first | exact T.fld_25_0 | exact T.fld_27_0 | exact T.fld_27_1 | exact T.fld_27_2 | exact T.fld_27_3))
      | (apply G.load; exact rfl; exact rfl; first | exact LoadOK.one (by first | exact T.one_3 | exact T.one_22) 0 rfl rfl | exact LoadOK.one (by first | exact T.one_3 | exact T.one_22) 1 rfl rfl | exact LoadOK.one (by first | exact T.one_3 | exact T.one_22) 2 rfl rfl | exact LoadOK.one (by first | exact T.one_3 | exact T.one_22) 3 rfl rfl | exact LoadOK.one (by first | exact T.one_3 | exact T.one_22) 4 rfl rfl | exact LoadOK.one (by first | exact T.one_3 | exact T.one_22) 5 rfl rfl | exact LoadOK.one (by first | exact T.one_3 | exact T.one_22) 6 rfl rfl | exact LoadOK.one (by first | exact T.one_3 | exact T.one_22) 7 rfl rfl | exact ag3 T.agg_25 0 rfl rfl rfl rfl | exact ag3 T.agg_25 1 rfl rfl rfl rfl | exact ag3 T.agg_25 2 rfl rfl rfl rfl | exact ag3 T.agg_25 3 rfl rfl rfl rfl | exact ag3 T.agg_25 4 rfl rfl rfl rfl | exact ag3 T.agg_25 5 rfl rfl rfl rfl | exact ag3 T.agg_25 6 rfl rfl rfl rfl | exact ag3 T.agg_25 7 rfl rfl rfl rfl | exact LoadOK.agg (vs := [_, _, _, _, _, _]) T.agg_27 0 rfl rfl ⟨rfl, rfl, rfl, rfl, rfl, rfl, trivial⟩ | exact LoadOK.agg (vs := [_, _, _, _, _, _]) T.agg_27 1 rfl rfl ⟨rfl, rfl, rfl, rfl, rfl, rfl, trivial⟩ | exact LoadOK.agg (vs := [_, _, _, _, _, _]) T.agg_27 2 rfl rfl ⟨rfl, rfl, rfl, rfl, rfl, rfl, trivial⟩ | exact LoadOK.agg (vs := [_, _, _, _, _, _]) T.agg_27 3 rfl rfl ⟨rfl, rfl, rfl, rfl, rfl, rfl, trivial⟩ | exact LoadOK.agg (vs := [_, _, _, _, _, _]) T.agg_27 4 rfl rfl ⟨rfl, rfl, rfl, rfl, rfl, rfl, trivial⟩ | exact LoadOK.agg (vs := [_, _, _, _, _, _]) T.agg_27 5 rfl rfl ⟨rfl, rfl, rfl, rfl, rfl, rfl, trivial⟩ | exact LoadOK.agg (vs := [_, _, _, _, _, _]) T.agg_27 6 rfl rfl ⟨rfl, rfl, rfl, rfl, rfl, rfl, trivial⟩ | exact LoadOK.agg (vs := [_, _, _, _, _, _]) T.agg_27 7 rfl rfl ⟨rfl, rfl, rfl, rfl, rfl, rfl, trivial⟩)
      | (apply G.pickT; exact rfl; exact rfl; exact rfl)
      | (apply G.pickF; exact rfl; exact rfl; exact rfl)
      | (apply G.lss; exact rfl; exact rfl; exact rfl)
      | (apply G.geq; exact rfl; exact rfl; exact rfl)
      | (apply G.eql; exact rfl; exact rfl; exact rfl)
      | (apply G.eqlB; exact rfl; exact T.boo_4; exact rfl; exact rfl)
      | (apply G.notT; exact rfl; exact rfl)
      | (apply G.notF; exact rfl; exact rfl)
      | (refine G.notD rfl rfl ?_)
      | (apply G.notB; exact rfl; exact rfl)
      | (apply G.extract; exact rfl; exact rfl; exact rfl)
      | (refine G.indexAddr1 rfl T.slc_30 T.sz_3 rfl rfl _ rfl (by omega) ?_)
      | (refine G.indexAddr1 rfl T.slc_30 T.sz_3 rfl rfl _ (Int.toNat_of_nonneg (by omega)).symm (by omega) ?_))
    all_goals
      refine Goal.done (vs := [_]) (by first | exact .inl rfl | exact .inr rfl) Try.results4 ⟨rfl, trivial⟩ rfl (fun w' H => ⟨rfl, H.mod⟩)
  obtain ⟨ht, hf⟩ := id hk
  obtain ⟨hx, hy⟩ := hrg
  have hn := ht.n
  obtain ⟨A, B, hA, hB⟩ := dists ht
  obtain ⟨p, hp⟩ := pred_of (fun _ => UsesP tp dn (A x) (B y) x y)
  replace hp := hp 0
  generalize p 0 = r at hp
  cases r
  · have hu : ¬ UsesP tp dn (A x) (B y) x y := fun q => by have := hp.2 q; cases this
    refine Goal.enter (args := [.agg #[.int .i64 tp.n, .slice ao tp.ov.length co, .slice al tp.ls.length cl, .slice ad dn.length cd, .int .i64 x, .int .i64 y]]) Try.func4 rfl Try.ntmps4 rfl (St.nil w) ?_
    repeat' (first
      | (refine Goal.loud (o := ⟨some 7, _, _, _, _, _⟩) rfl ?_; apply Loud.call0; exact rfl; exact rfl; exact rfl; exact rfl; exact T.bod_14; exact (fun w' H => awake27_ok w'))
      | (refine Goal.loud (o := ⟨some 11, _, _, _, _, _⟩) rfl ?_; apply Loud.call0; exact rfl; exact rfl; exact rfl; exact rfl; exact T.bod_15; exact (fun w' H => large27_ok (tp := tp) (dn := dn) ao al ad co cl cd x y w'); rw [decide_eq_false hlg])
      | (refine Goal.loud (o := ⟨some 18, _, _, _, _, _⟩) rfl ?_; apply Loud.call0; exact rfl; exact rfl; exact rfl; exact rfl; exact T.bod_22; exact (fun w' H => rfits_ok (hT.keep H.mod) (hd.keep H.mod) (by omega) hov (by omega)); rw [decide_eq_true hk])
      | (refine Goal.loud (o := ⟨some 57, _, _, _, _, _⟩) rfl ?_; apply Loud.callN; exact rfl; exact rfl; exact rfl; exact rfl; exact T.bod_18; exact (fun w' H => pextra_ok (hT.keep H.mod) (hd.keep H.mod) ht hf hx hy); rintro ⟨ex, er⟩ hE; dsimp only at hE ⊢; have hnn : er = 0 → 0 ≤ ex := fun e => by { subst e; exact hE.nonneg ht hx })
      | (refine Goal.loud (o := ⟨some 74, _, _, _, _, _⟩) rfl ?_; apply Loud.call0; exact rfl; exact rfl; exact rfl; exact rfl; exact T.bod_23; exact (fun w' H => ruses_ok (hT.keep H.mod) (hd.keep H.mod) ht hf hx hy (hA x) (hB y) hp))
      | (refine Goal.loud (o := ⟨some 80, _, _, _, _, _⟩) rfl ?_; apply Loud.callN; exact rfl; exact rfl; exact rfl; exact rfl; exact T.bod_24; exact (fun w' H => rdist_ok (dn := []) (hT.keep H.mod) (RdV.nil w') ht (.inl rfl) hy); rintro ⟨bm, m⟩ hm; dsimp only at hm ⊢; have hml := hm.len; have hun := hE.unused ht hx hy hA hB hu hm; have hun2 : decide (er = 0) = decide (0 ≤ ia m x) := decide_eq_decide.2 (by omega); have hun3 : ex = 0 := by omega)
      | (refine Goal.loud (o := ⟨some 1, _, _, _, _, _⟩) rfl ?_; first | refine Loud.boxA rfl rfl (fun b1 => ?_) | refine Loud.box1 rfl rfl rfl (fun b1 => ?_))
      | (apply G.move; exact rfl; exact rfl)
      | (apply G.assign; exact rfl; exact rfl)
      | refine Goal.seq (fun _ _ => ?_)
      | refine Goal.next (by assumption) ?_
      | refine Goal.lnil ?_
      | refine Goal.region ?_
      | refine Goal.skip ?_
      | refine Goal.block ?_
      | refine Goal.exit ?_
      | refine Goal.ret ?_
      | refine Goal.then_exit ?_
      | refine Goal.then_ret ?_
      | refine Goal.inBlock_exit ?_
      | refine Goal.inBlock_normal ?_
      | refine Goal.inBlock_ret ?_
      | refine Goal.inBlock_other rfl ?_
      | (apply Goal.condT; exact rfl)
      | (apply Goal.condF; exact rfl)
      | (refine Goal.condD rfl (fun hc => ?_) (fun hc => ?_) <;> first | (exfalso; omega) | contradiction | skip)
      | refine Goal.condB rfl (fun hc => ?_) (fun hc => ?_)
      | refine Goal.guardT rfl rfl ?_
      | refine Goal.guardF rfl rfl rfl rfl ?_
      | refine Goal.guardU rfl rfl rfl ?_
      | (refine Goal.guardD rfl rfl (fun hc => ?_) (fun hc => ?_) <;> first | (exfalso; omega) | contradiction | skip)
      | refine Goal.guardB rfl rfl (fun hc => ?_) (fun hc => ?_)
      | (apply G.fieldAddr; exact rfl; exact rfl; (first | exact T.fld_25_0 | exact T.fld_27_0 | exact T.fld_27_1 | exact T.fld_27_2 | exact T.fld_27_3))
      | (apply G.load; exact rfl; exact rfl; first | exact LoadOK.iaM (b := bm) (l := m) (E := 3) (i := x) (x := ia m x) T.one_3 (by simp) (by omega) rfl | exact LoadOK.one (by first | exact T.one_3 | exact T.one_22) 0 rfl rfl | exact LoadOK.one (by first | exact T.one_3 | exact T.one_22) 1 rfl rfl | exact LoadOK.one (by first | exact T.one_3 | exact T.one_22) 2 rfl rfl | exact LoadOK.one (by first | exact T.one_3 | exact T.one_22) 3 rfl rfl | exact LoadOK.one (by first | exact T.one_3 | exact T.one_22) 4 rfl rfl | exact LoadOK.one (by first | exact T.one_3 | exact T.one_22) 5 rfl rfl | exact LoadOK.one (by first | exact T.one_3 | exact T.one_22) 6 rfl rfl | exact LoadOK.one (by first | exact T.one_3 | exact T.one_22) 7 rfl rfl | exact ag3 T.agg_25 0 rfl rfl rfl rfl | exact ag3 T.agg_25 1 rfl rfl rfl rfl | exact ag3 T.agg_25 2 rfl rfl rfl rfl | exact ag3 T.agg_25 3 rfl rfl rfl rfl | exact ag3 T.agg_25 4 rfl rfl rfl rfl | exact ag3 T.agg_25 5 rfl rfl rfl rfl | exact ag3 T.agg_25 6 rfl rfl rfl rfl | exact ag3 T.agg_25 7 rfl rfl rfl rfl | exact LoadOK.agg (vs := [_, _, _, _, _, _]) T.agg_27 0 rfl rfl ⟨rfl, rfl, rfl, rfl, rfl, rfl, trivial⟩ | exact LoadOK.agg (vs := [_, _, _, _, _, _]) T.agg_27 1 rfl rfl ⟨rfl, rfl, rfl, rfl, rfl, rfl, trivial⟩ | exact LoadOK.agg (vs := [_, _, _, _, _, _]) T.agg_27 2 rfl rfl ⟨rfl, rfl, rfl, rfl, rfl, rfl, trivial⟩ | exact LoadOK.agg (vs := [_, _, _, _, _, _]) T.agg_27 3 rfl rfl ⟨rfl, rfl, rfl, rfl, rfl, rfl, trivial⟩ | exact LoadOK.agg (vs := [_, _, _, _, _, _]) T.agg_27 4 rfl rfl ⟨rfl, rfl, rfl, rfl, rfl, rfl, trivial⟩ | exact LoadOK.agg (vs := [_, _, _, _, _, _]) T.agg_27 5 rfl rfl ⟨rfl, rfl, rfl, rfl, rfl, rfl, trivial⟩ | exact LoadOK.agg (vs := [_, _, _, _, _, _]) T.agg_27 6 rfl rfl ⟨rfl, rfl, rfl, rfl, rfl, rfl, trivial⟩ | exact LoadOK.agg (vs := [_, _, _, _, _, _]) T.agg_27 7 rfl rfl ⟨rfl, rfl, rfl, rfl, rfl, rfl, trivial⟩)
      | (apply G.pickT; exact rfl; exact rfl; exact rfl)
      | (apply G.pickF; exact rfl; exact rfl; exact rfl)
      | (apply G.lss; exact rfl; exact rfl; exact rfl)
      | (apply G.geq; exact rfl; exact rfl; exact rfl)
      | (apply G.eql; exact rfl; exact rfl; exact rfl)
      | (apply G.eqlB; exact rfl; exact T.boo_4; exact rfl; exact rfl)
      | (apply G.notT; exact rfl; exact rfl)
      | (apply G.notF; exact rfl; exact rfl)
      | (refine G.notD rfl rfl ?_)
      | (apply G.notB; exact rfl; exact rfl)
      | (apply G.extract; exact rfl; exact rfl; exact rfl)
      | (refine G.indexAddr1 rfl T.slc_30 T.sz_3 rfl rfl _ rfl (by omega) ?_)
      | (refine G.indexAddr1 rfl T.slc_30 T.sz_3 rfl rfl _ (Int.toNat_of_nonneg (by omega)).symm (by omega) ?_))
    all_goals
      refine Goal.done (vs := [_]) (by first | exact .inl rfl | exact .inr rfl) Try.results4 ⟨rfl, trivial⟩ rfl (fun w' H => ⟨by first | rfl | simp [hun3], H.mod⟩)
  · skip
    refine Goal.enter (args := [.agg #[.int .i64 tp.n, .slice ao tp.ov.length co, .slice al tp.ls.length cl, .slice ad dn.length cd, .int .i64 x, .int .i64 y]]) Try.func4 rfl Try.ntmps4 rfl (St.nil w) ?_
    repeat' (first
      | (refine Goal.loud (o := ⟨some 7, _, _, _, _, _⟩) rfl ?_; apply Loud.call0; exact rfl; exact rfl; exact rfl; exact rfl; exact T.bod_14; exact (fun w' H => awake27_ok w'))
      | (refine Goal.loud (o := ⟨some 11, _, _, _, _, _⟩) rfl ?_; apply Loud.call0; exact rfl; exact rfl; exact rfl; exact rfl; exact T.bod_15; exact (fun w' H => large27_ok (tp := tp) (dn := dn) ao al ad co cl cd x y w'); rw [decide_eq_false hlg])
      | (refine Goal.loud (o := ⟨some 18, _, _, _, _, _⟩) rfl ?_; apply Loud.call0; exact rfl; exact rfl; exact rfl; exact rfl; exact T.bod_22; exact (fun w' H => rfits_ok (hT.keep H.mod) (hd.keep H.mod) (by omega) hov (by omega)); rw [decide_eq_true hk])
      | (refine Goal.loud (o := ⟨some 57, _, _, _, _, _⟩) rfl ?_; apply Loud.callN; exact rfl; exact rfl; exact rfl; exact rfl; exact T.bod_18; exact (fun w' H => pextra_ok (hT.keep H.mod) (hd.keep H.mod) ht hf hx hy); rintro ⟨ex, er⟩ hE; dsimp only at hE ⊢; have hnn : er = 0 → 0 ≤ ex := fun e => by { subst e; exact hE.nonneg ht hx })
      | (refine Goal.loud (o := ⟨some 74, _, _, _, _, _⟩) rfl ?_; apply Loud.call0; exact rfl; exact rfl; exact rfl; exact rfl; exact T.bod_23; exact (fun w' H => ruses_ok (hT.keep H.mod) (hd.keep H.mod) ht hf hx hy (hA x) (hB y) hp))
      | (refine Goal.loud (o := ⟨some 1, _, _, _, _, _⟩) rfl ?_; first | refine Loud.boxA rfl rfl (fun b1 => ?_) | refine Loud.box1 rfl rfl rfl (fun b1 => ?_))
      | (apply G.move; exact rfl; exact rfl)
      | (apply G.assign; exact rfl; exact rfl)
      | refine Goal.seq (fun _ _ => ?_)
      | refine Goal.next (by assumption) ?_
      | refine Goal.lnil ?_
      | refine Goal.region ?_
      | refine Goal.skip ?_
      | refine Goal.block ?_
      | refine Goal.exit ?_
      | refine Goal.ret ?_
      | refine Goal.then_exit ?_
      | refine Goal.then_ret ?_
      | refine Goal.inBlock_exit ?_
      | refine Goal.inBlock_normal ?_
      | refine Goal.inBlock_ret ?_
      | refine Goal.inBlock_other rfl ?_
      | (apply Goal.condT; exact rfl)
      | (apply Goal.condF; exact rfl)
      | (refine Goal.condD rfl (fun hc => ?_) (fun hc => ?_) <;> first | (exfalso; omega) | contradiction | skip)
      | refine Goal.condB rfl (fun hc => ?_) (fun hc => ?_)
      | refine Goal.guardT rfl rfl ?_
      | refine Goal.guardF rfl rfl rfl rfl ?_
      | refine Goal.guardU rfl rfl rfl ?_
      | (refine Goal.guardD rfl rfl (fun hc => ?_) (fun hc => ?_) <;> first | (exfalso; omega) | contradiction | skip)
      | refine Goal.guardB rfl rfl (fun hc => ?_) (fun hc => ?_)
      | (apply G.fieldAddr; exact rfl; exact rfl; (first | exact T.fld_25_0 | exact T.fld_27_0 | exact T.fld_27_1 | exact T.fld_27_2 | exact T.fld_27_3))
      | (apply G.load; exact rfl; exact rfl; first | exact LoadOK.one (by first | exact T.one_3 | exact T.one_22) 0 rfl rfl | exact LoadOK.one (by first | exact T.one_3 | exact T.one_22) 1 rfl rfl | exact LoadOK.one (by first | exact T.one_3 | exact T.one_22) 2 rfl rfl | exact LoadOK.one (by first | exact T.one_3 | exact T.one_22) 3 rfl rfl | exact LoadOK.one (by first | exact T.one_3 | exact T.one_22) 4 rfl rfl | exact LoadOK.one (by first | exact T.one_3 | exact T.one_22) 5 rfl rfl | exact LoadOK.one (by first | exact T.one_3 | exact T.one_22) 6 rfl rfl | exact LoadOK.one (by first | exact T.one_3 | exact T.one_22) 7 rfl rfl | exact ag3 T.agg_25 0 rfl rfl rfl rfl | exact ag3 T.agg_25 1 rfl rfl rfl rfl | exact ag3 T.agg_25 2 rfl rfl rfl rfl | exact ag3 T.agg_25 3 rfl rfl rfl rfl | exact ag3 T.agg_25 4 rfl rfl rfl rfl | exact ag3 T.agg_25 5 rfl rfl rfl rfl | exact ag3 T.agg_25 6 rfl rfl rfl rfl | exact ag3 T.agg_25 7 rfl rfl rfl rfl | exact LoadOK.agg (vs := [_, _, _, _, _, _]) T.agg_27 0 rfl rfl ⟨rfl, rfl, rfl, rfl, rfl, rfl, trivial⟩ | exact LoadOK.agg (vs := [_, _, _, _, _, _]) T.agg_27 1 rfl rfl ⟨rfl, rfl, rfl, rfl, rfl, rfl, trivial⟩ | exact LoadOK.agg (vs := [_, _, _, _, _, _]) T.agg_27 2 rfl rfl ⟨rfl, rfl, rfl, rfl, rfl, rfl, trivial⟩ | exact LoadOK.agg (vs := [_, _, _, _, _, _]) T.agg_27 3 rfl rfl ⟨rfl, rfl, rfl, rfl, rfl, rfl, trivial⟩ | exact LoadOK.agg (vs := [_, _, _, _, _, _]) T.agg_27 4 rfl rfl ⟨rfl, rfl, rfl, rfl, rfl, rfl, trivial⟩ | exact LoadOK.agg (vs := [_, _, _, _, _, _]) T.agg_27 5 rfl rfl ⟨rfl, rfl, rfl, rfl, rfl, rfl, trivial⟩ | exact LoadOK.agg (vs := [_, _, _, _, _, _]) T.agg_27 6 rfl rfl ⟨rfl, rfl, rfl, rfl, rfl, rfl, trivial⟩ | exact LoadOK.agg (vs := [_, _, _, _, _, _]) T.agg_27 7 rfl rfl ⟨rfl, rfl, rfl, rfl, rfl, rfl, trivial⟩)
      | (apply G.pickT; exact rfl; exact rfl; exact rfl)
      | (apply G.pickF; exact rfl; exact rfl; exact rfl)
      | (apply G.lss; exact rfl; exact rfl; exact rfl)
      | (apply G.geq; exact rfl; exact rfl; exact rfl)
      | (apply G.eql; exact rfl; exact rfl; exact rfl)
      | (apply G.eqlB; exact rfl; exact T.boo_4; exact rfl; exact rfl)
      | (apply G.notT; exact rfl; exact rfl)
      | (apply G.notF; exact rfl; exact rfl)
      | (refine G.notD rfl rfl ?_)
      | (apply G.notB; exact rfl; exact rfl)
      | (apply G.extract; exact rfl; exact rfl; exact rfl)
      | (refine G.indexAddr1 rfl T.slc_30 T.sz_3 rfl rfl _ rfl (by omega) ?_)
      | (refine G.indexAddr1 rfl T.slc_30 T.sz_3 rfl rfl _ (Int.toNat_of_nonneg (by omega)).symm (by omega) ?_))
    all_goals
      refine Goal.done (vs := [_]) (by first | exact .inl rfl | exact .inr rfl) Try.results4 ⟨rfl, trivial⟩ rfl (fun w' H => ⟨rfl, H.mod⟩)
end
end Go.Proofs.Ytldoplehchngfaa
