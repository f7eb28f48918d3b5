/- Package waypointlaw26: PqExtended. -/
import Derived.Test.YtldoplehchngfaaPqI
namespace Go.Proofs.Ytldoplehchngfaa
open Go.Wf
set_option linter.unusedVariables false
section
variable {w : World} {tp : Top} {dn : List Bool} {vo vl vd : Value} {x y : Int} {A B : Int → Int → Int}
/-- What is in the extended P-space is reached after the failure. -/
theorem ext_reached (ht : tp.Ok) (hx : 0 ≤ x ∧ x < tp.n) (hA : ∀ x, Bell tp.n x (GF tp [] x) (A x)) (hB : ∀ y, Bell tp.n y (GD tp [] y) (B y)) {D : Int → Int} (hD : Bell tp.n x (GF tp dn x) D) {k : Int} (h : ExtP tp dn A B x (arcsAt tp.tl tp.arcs.toNat x) k) : 0 ≤ D k := by
  obtain ⟨hk, h | ⟨a, ha, hup, h⟩⟩ := h
  · rw [stays_p ht hx hA hB hD hk h]
    exact h.1
  · obtain ⟨har, hta⟩ := mem_arcsAt.1 ha
    have har : 0 ≤ a ∧ a < tp.arcs := by omega
    obtain ⟨_, hh, _⟩ := ht.arc har
    have hDh := (hD.le (tp.hd a) (tp.tl a) (tp.co a) ⟨a, har, hup, .inl hta, rfl, rfl, rfl⟩ (by rw [hta, hD.root]; omega)).1
    rcases h with h | ⟨ho, h⟩
    · rw [h]; exact hDh
    · obtain ⟨C, hC⟩ := Bell.ex_ (d := tp.hd a) (GF.ok (dn := dn) (s := tp.hd a) ht)
      exact ext_reach ht hh hD hC (.inr ho) hDh hk (by rw [stays_p ht hh hA hB hC hk h]; exact h.1)
set_option maxHeartbeats 16000000 in
theorem law26_extended (x y : Int) (hT : TopR w vo vl tp) (hd : RdV w vd (bools dn)) (hov : tp.ov.length ≤ 140737488355328) : Calls Try.prog 12 #[.agg #[.int .i64 tp.n, vo, vl, vd, .int .i64 x, .int .i64 y]] w fun e w' => e = .returned (.bool true) ∧ Mod [] w w' := by
  obtain ⟨ao, co, rfl⟩ := shapeB hT.ov
  obtain ⟨al, cl, rfl⟩ := shapeL hT.ls
  obtain ⟨ad, cd, rfl⟩ := shapeB hd
  by_cases hlg : 12 < tp.n ∨ 20 < tp.ls.length ∨ 60 < dn.length
  · skip
    refine Goal.enter (args := [.agg #[.int .i64 tp.n, .slice ao tp.ov.length co, .slice al tp.ls.length cl, .slice ad dn.length cd, .int .i64 x, .int .i64 y]]) Try.func12 rfl Try.ntmps12 rfl (St.nil w) ?_
    repeat' (first
      | (refine Goal.loud (o := ⟨some 11, _, _, _, _, _⟩) rfl ?_; apply Loud.call0; exact rfl; exact rfl; exact rfl; exact rfl; exact T.bod_29; exact (fun w' H => awake26_ok w'))
      | (refine Goal.loud (o := ⟨some 15, _, _, _, _, _⟩) rfl ?_; apply Loud.call0; exact rfl; exact rfl; exact rfl; exact rfl; exact T.bod_30; exact (fun w' H => large26_ok (tp := tp) (dn := dn) ao al ad co cl cd x y w'); rw [decide_eq_true hlg])
      | (refine Goal.loud (o := ⟨some 17, _, _, _, _, _⟩) rfl ?_; apply Loud.call0; exact rfl; exact rfl; exact rfl; exact rfl; exact T.bod_29; exact (fun w' H => awake26_ok w'))
      | (refine Goal.loud (o := ⟨some 1, _, _, _, _, _⟩) rfl ?_; first | refine Loud.boxA rfl rfl (fun b1 => ?_) | refine Loud.box1 rfl rfl rfl (fun b1 => ?_))
      | (apply G.move; exact rfl; exact rfl)
      | (apply G.assign; exact rfl; exact rfl)
      | refine Goal.seq (fun _ _ => ?_)
      | refine Goal.next (by assumption) ?_
      | refine Goal.lnil ?_
      | refine Goal.region ?_
      | refine Goal.skip ?_
      | refine Goal.block ?_
      | refine Goal.exit ?_
      | refine Goal.ret ?_
      | refine Goal.then_exit ?_
      | refine Goal.then_ret ?_
      | refine Goal.inBlock_exit ?_
      | refine Goal.inBlock_normal ?_
      | refine Goal.inBlock_ret ?_
      | refine Goal.inBlock_other rfl ?_
      | (apply Goal.condT; exact rfl)
      | (apply Goal.condF; exact rfl)
      | (refine Goal.condD rfl (fun hc => ?_) (fun hc => ?_) <;> first | (exfalso; omega) | contradiction | skip)
      | refine Goal.condB rfl (fun hc => ?_) (fun hc => ?_)
      | refine Goal.guardT rfl rfl ?_
      | refine Goal.guardF rfl rfl rfl rfl ?_
      | refine Goal.guardU rfl rfl rfl ?_
      | (refine Goal.guardD rfl rfl (fun hc => ?_) (fun hc => ?_) <;> first | (exfalso; omega) | contradiction | skip)
      | refine Goal.guardB rfl rfl (fun hc => ?_) (fun hc => ?_)
      | (apply G.fieldAddr; exact rfl; exact rfl; (first | exact T.fld_43_0 | exact T.fld_43_1 | exact T.fld_43_2))
      | (apply G.load; exact rfl; exact rfl; first | exact LoadOK.one (by first | exact T.one_3 | exact T.one_22) 0 rfl rfl | exact LoadOK.one (by first | exact T.one_3 | exact T.one_22) 1 rfl rfl | exact LoadOK.one (by first | exact T.one_3 | exact T.one_22) 2 rfl rfl | exact LoadOK.one (by first | exact T.one_3 | exact T.one_22) 3 rfl rfl | exact LoadOK.one (by first | exact T.one_3 | exact T.one_22) 4 rfl rfl | exact LoadOK.one (by first | exact T.one_3 | exact T.one_22) 5 rfl rfl | exact LoadOK.one (by first | exact T.one_3 | exact T.one_22) 6 rfl rfl | exact LoadOK.one (by first | exact T.one_3 | exact T.one_22) 7 rfl rfl | exact ag3 T.agg_25 0 rfl rfl rfl rfl | exact ag3 T.agg_25 1 rfl rfl rfl rfl | exact ag3 T.agg_25 2 rfl rfl rfl rfl | exact ag3 T.agg_25 3 rfl rfl rfl rfl | exact ag3 T.agg_25 4 rfl rfl rfl rfl | exact ag3 T.agg_25 5 rfl rfl rfl rfl | exact ag3 T.agg_25 6 rfl rfl rfl rfl | exact ag3 T.agg_25 7 rfl rfl rfl rfl | exact LoadOK.agg (vs := [_, _, _, _, _, _]) T.agg_43 0 rfl rfl ⟨rfl, rfl, rfl, rfl, rfl, rfl, trivial⟩ | exact LoadOK.agg (vs := [_, _, _, _, _, _]) T.agg_43 1 rfl rfl ⟨rfl, rfl, rfl, rfl, rfl, rfl, trivial⟩ | exact LoadOK.agg (vs := [_, _, _, _, _, _]) T.agg_43 2 rfl rfl ⟨rfl, rfl, rfl, rfl, rfl, rfl, trivial⟩ | exact LoadOK.agg (vs := [_, _, _, _, _, _]) T.agg_43 3 rfl rfl ⟨rfl, rfl, rfl, rfl, rfl, rfl, trivial⟩ | exact LoadOK.agg (vs := [_, _, _, _, _, _]) T.agg_43 4 rfl rfl ⟨rfl, rfl, rfl, rfl, rfl, rfl, trivial⟩ | exact LoadOK.agg (vs := [_, _, _, _, _, _]) T.agg_43 5 rfl rfl ⟨rfl, rfl, rfl, rfl, rfl, rfl, trivial⟩ | exact LoadOK.agg (vs := [_, _, _, _, _, _]) T.agg_43 6 rfl rfl ⟨rfl, rfl, rfl, rfl, rfl, rfl, trivial⟩ | exact LoadOK.agg (vs := [_, _, _, _, _, _]) T.agg_43 7 rfl rfl ⟨rfl, rfl, rfl, rfl, rfl, rfl, trivial⟩)
      | (apply G.pickT; exact rfl; exact rfl; exact rfl)
      | (apply G.pickF; exact rfl; exact rfl; exact rfl)
      | (apply G.lss; exact rfl; exact rfl; exact rfl)
      | (apply G.eql; exact rfl; exact rfl; exact rfl)
      | (apply G.neq; exact rfl; exact rfl; exact rfl)
      | (apply G.add; exact rfl; exact rfl; exact rfl; exact IntWalk.i64_in _ (by omega))
      | (apply G.notT; exact rfl; exact rfl)
      | (apply G.notF; exact rfl; exact rfl)
      | (refine G.notD rfl rfl ?_)
      | (apply G.notB; exact rfl; exact rfl)
      | (apply G.extract; exact rfl; exact rfl; exact rfl)
      | (apply G.len; exact rfl; exact rfl; exact T.slc_30)
      | (refine G.indexAddr1 rfl T.slc_30 T.sz_3 rfl rfl _ rfl (by omega) ?_)
      | (refine G.indexAddr1 rfl T.slc_30 T.sz_3 rfl rfl _ (Int.toNat_of_nonneg (by omega)).symm (by omega) ?_))
    refine Goal.done (vs := [_]) (by first | exact .inl rfl | exact .inr rfl) Try.results12 ⟨rfl, trivial⟩ rfl (fun w' H => ⟨rfl, H.mod⟩)
  by_cases hk : chk tp dn [x] = 0
  rotate_left
  · have hb1 := fun w' (hT : TopR w' (.slice ao tp.ov.length co) (.slice al tp.ls.length cl) tp) (hd : RdV w' (.slice ad dn.length cd) (bools dn)) => pspace_bad (n := x) hT hd (by omega) hov hk
    have hb2 := fun w' (hT : TopR w' (.slice ao tp.ov.length co) (.slice al tp.ls.length cl) tp) (hd : RdV w' (.slice ad dn.length cd) (bools dn)) => extended_bad (n := x) hT hd (by omega) hov hk
    generalize chk tp dn [x] = k at hb1 hb2 hk
    refine Goal.enter (args := [.agg #[.int .i64 tp.n, .slice ao tp.ov.length co, .slice al tp.ls.length cl, .slice ad dn.length cd, .int .i64 x, .int .i64 y]]) Try.func12 rfl Try.ntmps12 rfl (St.nil w) ?_
    repeat' (first
      | (refine Goal.loud (o := ⟨some 11, _, _, _, _, _⟩) rfl ?_; apply Loud.call0; exact rfl; exact rfl; exact rfl; exact rfl; exact T.bod_29; exact (fun w' H => awake26_ok w'))
      | (refine Goal.loud (o := ⟨some 15, _, _, _, _, _⟩) rfl ?_; apply Loud.call0; exact rfl; exact rfl; exact rfl; exact rfl; exact T.bod_30; exact (fun w' H => large26_ok (tp := tp) (dn := dn) ao al ad co cl cd x y w'); rw [decide_eq_false hlg])
      | (refine Goal.loud (o := ⟨some 25, _, _, _, _, _⟩) rfl ?_; apply Loud.call0; exact rfl; exact rfl; exact rfl; exact rfl; exact T.bod_33; exact (fun w' H => hb1 w' (hT.keep H.mod) (hd.keep H.mod)))
      | (refine Goal.loud (o := ⟨some 35, _, _, _, _, _⟩) rfl ?_; apply Loud.call0; exact rfl; exact rfl; exact rfl; exact rfl; exact T.bod_41; exact (fun w' H => hb2 w' (hT.keep H.mod) (hd.keep H.mod)))
      | (refine Goal.loud (o := ⟨some 1, _, _, _, _, _⟩) rfl ?_; first | refine Loud.boxA rfl rfl (fun b1 => ?_) | refine Loud.box1 rfl rfl rfl (fun b1 => ?_))
      | (apply G.move; exact rfl; exact rfl)
      | (apply G.assign; exact rfl; exact rfl)
      | refine Goal.seq (fun _ _ => ?_)
      | refine Goal.next (by assumption) ?_
      | refine Goal.lnil ?_
      | refine Goal.region ?_
      | refine Goal.skip ?_
      | refine Goal.block ?_
      | refine Goal.exit ?_
      | refine Goal.ret ?_
      | refine Goal.then_exit ?_
      | refine Goal.then_ret ?_
      | refine Goal.inBlock_exit ?_
      | refine Goal.inBlock_normal ?_
      | refine Goal.inBlock_ret ?_
      | refine Goal.inBlock_other rfl ?_
      | (apply Goal.condT; exact rfl)
      | (apply Goal.condF; exact rfl)
      | (refine Goal.condD rfl (fun hc => ?_) (fun hc => ?_) <;> first | (exfalso; omega) | contradiction | skip)
      | refine Goal.condB rfl (fun hc => ?_) (fun hc => ?_)
      | refine Goal.guardT rfl rfl ?_
      | refine Goal.guardF rfl rfl rfl rfl ?_
      | refine Goal.guardU rfl rfl rfl ?_
      | (refine Goal.guardD rfl rfl (fun hc => ?_) (fun hc => ?_) <;> first | (exfalso; omega) | contradiction | skip)
      | refine Goal.guardB rfl rfl (fun hc => ?_) (fun hc => ?_)
      | (apply G.fieldAddr; exact rfl; exact rfl; (first | exact T.fld_43_0 | exact T.fld_43_1 | exact T.fld_43_2))
      | (apply G.load; exact rfl; exact rfl; first | exact LoadOK.one (by first | exact T.one_3 | exact T.one_22) 0 rfl rfl | exact LoadOK.one (by first | exact T.one_3 | exact T.one_22) 1 rfl rfl | exact LoadOK.one (by first | exact T.one_3 | exact T.one_22) 2 rfl rfl | exact LoadOK.one (by first | exact T.one_3 | exact T.one_22) 3 rfl rfl | exact LoadOK.one (by first | exact T.one_3 | exact T.one_22) 4 rfl rfl | exact LoadOK.one (by first | exact T.one_3 | exact T.one_22) 5 rfl rfl | exact LoadOK.one (by first | exact T.one_3 | exact T.one_22) 6 rfl rfl | exact LoadOK.one (by first | exact T.one_3 | exact T.one_22) 7 rfl rfl | exact ag3 T.agg_25 0 rfl rfl rfl rfl | exact ag3 T.agg_25 1 rfl rfl rfl rfl | exact ag3 T.agg_25 2 rfl rfl rfl rfl | exact ag3 T.agg_25 3 rfl rfl rfl rfl | exact ag3 T.agg_25 4 rfl rfl rfl rfl | exact ag3 T.agg_25 5 rfl rfl rfl rfl | exact ag3 T.agg_25 6 rfl rfl rfl rfl | exact ag3 T.agg_25 7 rfl rfl rfl rfl | exact LoadOK.agg (vs := [_, _, _, _, _, _]) T.agg_43 0 rfl rfl ⟨rfl, rfl, rfl, rfl, rfl, rfl, trivial⟩ | exact LoadOK.agg (vs := [_, _, _, _, _, _]) T.agg_43 1 rfl rfl ⟨rfl, rfl, rfl, rfl, rfl, rfl, trivial⟩ | exact LoadOK.agg (vs := [_, _, _, _, _, _]) T.agg_43 2 rfl rfl ⟨rfl, rfl, rfl, rfl, rfl, rfl, trivial⟩ | exact LoadOK.agg (vs := [_, _, _, _, _, _]) T.agg_43 3 rfl rfl ⟨rfl, rfl, rfl, rfl, rfl, rfl, trivial⟩ | exact LoadOK.agg (vs := [_, _, _, _, _, _]) T.agg_43 4 rfl rfl ⟨rfl, rfl, rfl, rfl, rfl, rfl, trivial⟩ | exact LoadOK.agg (vs := [_, _, _, _, _, _]) T.agg_43 5 rfl rfl ⟨rfl, rfl, rfl, rfl, rfl, rfl, trivial⟩ | exact LoadOK.agg (vs := [_, _, _, _, _, _]) T.agg_43 6 rfl rfl ⟨rfl, rfl, rfl, rfl, rfl, rfl, trivial⟩ | exact LoadOK.agg (vs := [_, _, _, _, _, _]) T.agg_43 7 rfl rfl ⟨rfl, rfl, rfl, rfl, rfl, rfl, trivial⟩)
      | (apply G.pickT; exact rfl; exact rfl; exact rfl)
      | (apply G.pickF; exact rfl; exact rfl; exact rfl)
      | (apply G.lss; exact rfl; exact rfl; exact rfl)
      | (apply G.eql; exact rfl; exact rfl; exact rfl)
      | (apply G.neq; exact rfl; exact rfl; exact rfl)
      | (apply G.add; exact rfl; exact rfl; exact rfl; exact IntWalk.i64_in _ (by omega))
      | (apply G.notT; exact rfl; exact rfl)
      | (apply G.notF; exact rfl; exact rfl)
      | (refine G.notD rfl rfl ?_)
      | (apply G.notB; exact rfl; exact rfl)
      | (apply G.extract; exact rfl; exact rfl; exact rfl)
      | (apply G.len; exact rfl; exact rfl; exact T.slc_30)
      | (refine G.indexAddr1 rfl T.slc_30 T.sz_3 rfl rfl _ rfl (by omega) ?_)
      | (refine G.indexAddr1 rfl T.slc_30 T.sz_3 rfl rfl _ (Int.toNat_of_nonneg (by omega)).symm (by omega) ?_))
    all_goals
      refine Goal.done (vs := [_]) (by first | exact .inl rfl | exact .inr rfl) Try.results12 ⟨rfl, trivial⟩ rfl (fun w' H => ⟨by first | rfl | (simp; done), H.mod⟩)
  obtain ⟨ht, hf, hx⟩ := chk_zero hk
  replace hx : 0 ≤ x ∧ x < tp.n := hx x (by simp)
  have hn := ht.n
  obtain ⟨A, B, hA, hB⟩ := dists ht
  obtain ⟨p, hp⟩ := pred_of (fun k => FreeP tp dn (A x) (B k) x k)
  obtain ⟨q, hq⟩ := pred_of (fun k => ExtP tp dn A B x (arcsAt tp.tl tp.arcs.toNat x) k)
  have hP : ∀ k ∈ selL tp.n.toNat p, k ∈ selL tp.n.toNat q := fun k hk => by
    obtain ⟨h1, h2⟩ := mem_selL.1 hk
    exact mem_selL.2 ⟨h1, (hq k).2 ⟨by omega, .inl ((hp k).1 h2)⟩⟩
  have hQ : ∀ k ∈ selL tp.n.toNat q, (0 ≤ k ∧ k < tp.n) ∧ ExtP tp dn A B x (arcsAt tp.tl tp.arcs.toNat x) k := fun k hk => by
    obtain ⟨h1, h2⟩ := mem_selL.1 hk
    exact ⟨by omega, (hq k).1 h2⟩
  have hPl := selL_len tp.n.toNat p
  have hQl := selL_len tp.n.toNat q
  refine Goal.enter (args := [.agg #[.int .i64 tp.n, .slice ao tp.ov.length co, .slice al tp.ls.length cl, .slice ad dn.length cd, .int .i64 x, .int .i64 y]]) Try.func12 rfl Try.ntmps12 rfl (St.nil w) ?_
  repeat' (first
    | (refine Goal.loud (o := ⟨some 11, _, _, _, _, _⟩) rfl ?_; apply Loud.call0; exact rfl; exact rfl; exact rfl; exact rfl; exact T.bod_29; exact (fun w' H => awake26_ok w'))
    | (refine Goal.loud (o := ⟨some 15, _, _, _, _, _⟩) rfl ?_; apply Loud.call0; exact rfl; exact rfl; exact rfl; exact rfl; exact T.bod_30; exact (fun w' H => large26_ok (tp := tp) (dn := dn) ao al ad co cl cd x y w'); rw [decide_eq_false hlg])
    | (refine Goal.loud (o := ⟨some 25, _, _, _, _, _⟩) rfl ?_; apply Loud.callN; exact rfl; exact rfl; exact rfl; exact rfl; exact T.bod_33; exact (fun w' H => pspace_ok (hT.keep H.mod) (hd.keep H.mod) ht hf hx hA hB hp); rintro ⟨vp, Ap⟩ hSp; dsimp only at hSp ⊢; obtain ⟨ap, cp, rfl⟩ := hSp.shape)
    | (refine Goal.loud (o := ⟨some 35, _, _, _, _, _⟩) rfl ?_; apply Loud.callN; exact rfl; exact rfl; exact rfl; exact rfl; exact T.bod_41; exact (fun w' H => extended_ok (hT.keep H.mod) (hd.keep H.mod) ht hf hx hA hB hq); rintro ⟨vq, Aq⟩ hSq; dsimp only at hSq ⊢; obtain ⟨aq, cq, rfl⟩ := hSq.shape)
    | (refine Goal.loud (o := ⟨some 54, _, _, _, _, _⟩) rfl ?_; apply Loud.callN; exact rfl; exact rfl; exact rfl; exact rfl; exact T.bod_35; exact (fun w' H => rfrom_ok (hT.keep H.mod) (hd.keep H.mod) ht hf hx); rintro ⟨bb, lb⟩ hlb; dsimp only at hlb ⊢)
    | (refine Goal.loud (o := ⟨some 1, _, _, _, _, _⟩) rfl ?_; first | refine Loud.boxA rfl rfl (fun b1 => ?_) | refine Loud.box1 rfl rfl rfl (fun b1 => ?_))
    | (apply G.move; exact rfl; exact rfl)
    | (apply G.assign; exact rfl; exact rfl)
    | refine Goal.seq (fun _ _ => ?_)
    | refine Goal.next (by assumption) ?_
    | refine Goal.lnil ?_
    | refine Goal.region ?_
    | refine Goal.skip ?_
    | refine Goal.block ?_
    | refine Goal.exit ?_
    | refine Goal.ret ?_
    | refine Goal.then_exit ?_
    | refine Goal.then_ret ?_
    | refine Goal.inBlock_exit ?_
    | refine Goal.inBlock_normal ?_
    | refine Goal.inBlock_ret ?_
    | refine Goal.inBlock_other rfl ?_
    | (apply Goal.condT; exact rfl)
    | (apply Goal.condF; exact rfl)
    | (refine Goal.condD rfl (fun hc => ?_) (fun hc => ?_) <;> first | (exfalso; omega) | contradiction | skip)
    | refine Goal.condB rfl (fun hc => ?_) (fun hc => ?_)
    | refine Goal.guardT rfl rfl ?_
    | refine Goal.guardF rfl rfl rfl rfl ?_
    | refine Goal.guardU rfl rfl rfl ?_
    | (refine Goal.guardD rfl rfl (fun hc => ?_) (fun hc => ?_) <;> first | (exfalso; omega) | contradiction | skip)
    | refine Goal.guardB rfl rfl (fun hc => ?_) (fun hc => ?_)
    | (apply G.fieldAddr; exact rfl; exact rfl; (first | exact T.fld_43_0 | exact T.fld_43_1 | exact T.fld_43_2))
    | (apply G.load; exact rfl; exact rfl; first | exact LoadOK.one (by first | exact T.one_3 | exact T.one_22) 0 rfl rfl | exact LoadOK.one (by first | exact T.one_3 | exact T.one_22) 1 rfl rfl | exact LoadOK.one (by first | exact T.one_3 | exact T.one_22) 2 rfl rfl | exact LoadOK.one (by first | exact T.one_3 | exact T.one_22) 3 rfl rfl | exact LoadOK.one (by first | exact T.one_3 | exact T.one_22) 4 rfl rfl | exact LoadOK.one (by first | exact T.one_3 | exact T.one_22) 5 rfl rfl | exact LoadOK.one (by first | exact T.one_3 | exact T.one_22) 6 rfl rfl | exact LoadOK.one (by first | exact T.one_3 | exact T.one_22) 7 rfl rfl | exact ag3 T.agg_25 0 rfl rfl rfl rfl | exact ag3 T.agg_25 1 rfl rfl rfl rfl | exact ag3 T.agg_25 2 rfl rfl rfl rfl | exact ag3 T.agg_25 3 rfl rfl rfl rfl | exact ag3 T.agg_25 4 rfl rfl rfl rfl | exact ag3 T.agg_25 5 rfl rfl rfl rfl | exact ag3 T.agg_25 6 rfl rfl rfl rfl | exact ag3 T.agg_25 7 rfl rfl rfl rfl | exact LoadOK.agg (vs := [_, _, _, _, _, _]) T.agg_43 0 rfl rfl ⟨rfl, rfl, rfl, rfl, rfl, rfl, trivial⟩ | exact LoadOK.agg (vs := [_, _, _, _, _, _]) T.agg_43 1 rfl rfl ⟨rfl, rfl, rfl, rfl, rfl, rfl, trivial⟩ | exact LoadOK.agg (vs := [_, _, _, _, _, _]) T.agg_43 2 rfl rfl ⟨rfl, rfl, rfl, rfl, rfl, rfl, trivial⟩ | exact LoadOK.agg (vs := [_, _, _, _, _, _]) T.agg_43 3 rfl rfl ⟨rfl, rfl, rfl, rfl, rfl, rfl, trivial⟩ | exact LoadOK.agg (vs := [_, _, _, _, _, _]) T.agg_43 4 rfl rfl ⟨rfl, rfl, rfl, rfl, rfl, rfl, trivial⟩ | exact LoadOK.agg (vs := [_, _, _, _, _, _]) T.agg_43 5 rfl rfl ⟨rfl, rfl, rfl, rfl, rfl, rfl, trivial⟩ | exact LoadOK.agg (vs := [_, _, _, _, _, _]) T.agg_43 6 rfl rfl ⟨rfl, rfl, rfl, rfl, rfl, rfl, trivial⟩ | exact LoadOK.agg (vs := [_, _, _, _, _, _]) T.agg_43 7 rfl rfl ⟨rfl, rfl, rfl, rfl, rfl, rfl, trivial⟩)
    | (apply G.pickT; exact rfl; exact rfl; exact rfl)
    | (apply G.pickF; exact rfl; exact rfl; exact rfl)
    | (apply G.lss; exact rfl; exact rfl; exact rfl)
    | (apply G.eql; exact rfl; exact rfl; exact rfl)
    | (apply G.neq; exact rfl; exact rfl; exact rfl)
    | (apply G.add; exact rfl; exact rfl; exact rfl; exact IntWalk.i64_in _ (by omega))
    | (apply G.notT; exact rfl; exact rfl)
    | (apply G.notF; exact rfl; exact rfl)
    | (refine G.notD rfl rfl ?_)
    | (apply G.notB; exact rfl; exact rfl)
    | (apply G.extract; exact rfl; exact rfl; exact rfl)
    | (apply G.len; exact rfl; exact rfl; exact T.slc_30)
    | (refine G.indexAddr1 rfl T.slc_30 T.sz_3 rfl rfl _ rfl (by omega) ?_)
    | (refine G.indexAddr1 rfl T.slc_30 T.sz_3 rfl rfl _ (Int.toNat_of_nonneg (by omega)).symm (by omega) ?_))
  generalize selL tp.n.toNat p = P at hSp hP hPl
  generalize selL tp.n.toNat q = Qs at hSq hP hQ hQl
  have hbl := hlb.len
  refine Goal.loopP (X := Int) (fun i => [(3, .slice ap P.length cp), (5, .slice aq Qs.length cq), (7, .slice (some ⟨bb, 0, none⟩) lb.length lb.length), (57, .slice ap P.length cp), (58, .int .i64 P.length), (59, .int .i64 i)])
    (fun _ => Ap ++ (Aq ++ [(bb, .cells (ints lb).toArray 3)]))
    (fun i => 0 ≤ i ∧ i ≤ P.length) (fun i => (P.length - i).toNat) 0 ⟨rfl, rfl, rfl, rfl, rfl, rfl, trivial⟩ (fun _ h => by simpa using h.sub (List.sublist_cons_self _ _)) ⟨by omega, by omega⟩ ?_
  rintro i hi
  by_cases h : i < P.length
  · have hmem := hP _ (mem_ia (l := P) (i := i) ⟨hi.1, h⟩)
    obtain ⟨bp, restp, capp, e, rfl, _, _, _⟩ := hSp.pos (by omega)
    injection e with f1 f2 f3
    subst f1 f3
    generalize haa : ia P i = k at hmem
    repeat' (first
      | (refine Goal.loud (o := ⟨some 67, _, _, _, _, _⟩) rfl ?_; apply Loud.call0; exact rfl; exact rfl; exact rfl; exact rfl; exact T.bod_34; exact (fun w' H => has_ok (n := k) (rds H hSq (fun p hp => by simp [hp])) (by omega)); rw [decide_eq_true hmem])
      | (refine Goal.loud (o := ⟨some 1, _, _, _, _, _⟩) rfl ?_; first | refine Loud.boxA rfl rfl (fun b1 => ?_) | refine Loud.box1 rfl rfl rfl (fun b1 => ?_))
      | (apply G.move; exact rfl; exact rfl)
      | (apply G.assign; exact rfl; exact rfl)
      | refine Goal.seq (fun _ _ => ?_)
      | refine Goal.next (by assumption) ?_
      | refine Goal.lnil ?_
      | refine Goal.region ?_
      | refine Goal.skip ?_
      | refine Goal.block ?_
      | refine Goal.exit ?_
      | refine Goal.ret ?_
      | refine Goal.then_exit ?_
      | refine Goal.then_ret ?_
      | refine Goal.inBlock_exit ?_
      | refine Goal.inBlock_normal ?_
      | refine Goal.inBlock_ret ?_
      | refine Goal.inBlock_other rfl ?_
      | (apply Goal.condT; exact rfl)
      | (apply Goal.condF; exact rfl)
      | (refine Goal.condD rfl (fun hc => ?_) (fun hc => ?_) <;> first | (exfalso; omega) | contradiction | skip)
      | refine Goal.condB rfl (fun hc => ?_) (fun hc => ?_)
      | refine Goal.guardT rfl rfl ?_
      | refine Goal.guardF rfl rfl rfl rfl ?_
      | refine Goal.guardU rfl rfl rfl ?_
      | (refine Goal.guardD rfl rfl (fun hc => ?_) (fun hc => ?_) <;> first | (exfalso; omega) | contradiction | skip)
      | refine Goal.guardB rfl rfl (fun hc => ?_) (fun hc => ?_)
      | (apply G.fieldAddr; exact rfl; exact rfl; (first | exact T.fld_43_0 | exact T.fld_43_1 | exact T.fld_43_2))
      | (apply G.load; exact rfl; exact rfl; first | exact LoadOK.iaMe (b := bp) (l := P) (rest := restp) (E := 3) (i := i) (x := k) T.one_3 (by simp) (by omega) haa | exact LoadOK.one (by first | exact T.one_3 | exact T.one_22) 0 rfl rfl | exact LoadOK.one (by first | exact T.one_3 | exact T.one_22) 1 rfl rfl | exact LoadOK.one (by first | exact T.one_3 | exact T.one_22) 2 rfl rfl | exact LoadOK.one (by first | exact T.one_3 | exact T.one_22) 3 rfl rfl | exact LoadOK.one (by first | exact T.one_3 | exact T.one_22) 4 rfl rfl | exact LoadOK.one (by first | exact T.one_3 | exact T.one_22) 5 rfl rfl | exact LoadOK.one (by first | exact T.one_3 | exact T.one_22) 6 rfl rfl | exact LoadOK.one (by first | exact T.one_3 | exact T.one_22) 7 rfl rfl | exact ag3 T.agg_25 0 rfl rfl rfl rfl | exact ag3 T.agg_25 1 rfl rfl rfl rfl | exact ag3 T.agg_25 2 rfl rfl rfl rfl | exact ag3 T.agg_25 3 rfl rfl rfl rfl | exact ag3 T.agg_25 4 rfl rfl rfl rfl | exact ag3 T.agg_25 5 rfl rfl rfl rfl | exact ag3 T.agg_25 6 rfl rfl rfl rfl | exact ag3 T.agg_25 7 rfl rfl rfl rfl | exact LoadOK.agg (vs := [_, _, _, _, _, _]) T.agg_43 0 rfl rfl ⟨rfl, rfl, rfl, rfl, rfl, rfl, trivial⟩ | exact LoadOK.agg (vs := [_, _, _, _, _, _]) T.agg_43 1 rfl rfl ⟨rfl, rfl, rfl, rfl, rfl, rfl, trivial⟩ | exact LoadOK.agg (vs := [_, _, _, _, _, _]) T.agg_43 2 rfl rfl ⟨rfl, rfl, rfl, rfl, rfl, rfl, trivial⟩ | exact LoadOK.agg (vs := [_, _, _, _, _, _]) T.agg_43 3 rfl rfl ⟨rfl, rfl, rfl, rfl, rfl, rfl, trivial⟩ | exact LoadOK.agg (vs := [_, _, _, _, _, _]) T.agg_43 4 rfl rfl ⟨rfl, rfl, rfl, rfl, rfl, rfl, trivial⟩ | exact LoadOK.agg (vs := [_, _, _, _, _, _]) T.agg_43 5 rfl rfl ⟨rfl, rfl, rfl, rfl, rfl, rfl, trivial⟩ | exact LoadOK.agg (vs := [_, _, _, _, _, _]) T.agg_43 6 rfl rfl ⟨rfl, rfl, rfl, rfl, rfl, rfl, trivial⟩ | exact LoadOK.agg (vs := [_, _, _, _, _, _]) T.agg_43 7 rfl rfl ⟨rfl, rfl, rfl, rfl, rfl, rfl, trivial⟩)
      | (apply G.pickT; exact rfl; exact rfl; exact rfl)
      | (apply G.pickF; exact rfl; exact rfl; exact rfl)
      | (apply G.lss; exact rfl; exact rfl; exact rfl)
      | (apply G.eql; exact rfl; exact rfl; exact rfl)
      | (apply G.neq; exact rfl; exact rfl; exact rfl)
      | (apply G.add; exact rfl; exact rfl; exact rfl; exact IntWalk.i64_in _ (by omega))
      | (apply G.notT; exact rfl; exact rfl)
      | (apply G.notF; exact rfl; exact rfl)
      | (refine G.notD rfl rfl ?_)
      | (apply G.notB; exact rfl; exact rfl)
      | (apply G.extract; exact rfl; exact rfl; exact rfl)
      | (apply G.len; exact rfl; exact rfl; exact T.slc_30)
      | (refine G.indexAddr1 rfl T.slc_30 T.sz_3 rfl rfl _ rfl (by omega) ?_)
      | (refine G.indexAddr1 rfl T.slc_30 T.sz_3 rfl rfl _ (Int.toNat_of_nonneg (by omega)).symm (by omega) ?_))
    refine Goal.again (i + 1) ⟨by omega, by omega⟩ (by omega) ⟨rfl, rfl, rfl, rfl, rfl, rfl, trivial⟩ (fun _ h => h)
  · skip
    repeat' (first
      | (refine Goal.loud (o := ⟨some 1, _, _, _, _, _⟩) rfl ?_; first | refine Loud.boxA rfl rfl (fun b1 => ?_) | refine Loud.box1 rfl rfl rfl (fun b1 => ?_))
      | (apply G.move; exact rfl; exact rfl)
      | (apply G.assign; exact rfl; exact rfl)
      | refine Goal.seq (fun _ _ => ?_)
      | refine Goal.next (by assumption) ?_
      | refine Goal.lnil ?_
      | refine Goal.region ?_
      | refine Goal.skip ?_
      | refine Goal.block ?_
      | refine Goal.exit ?_
      | refine Goal.ret ?_
      | refine Goal.then_exit ?_
      | refine Goal.then_ret ?_
      | refine Goal.inBlock_exit ?_
      | refine Goal.inBlock_normal ?_
      | refine Goal.inBlock_ret ?_
      | refine Goal.inBlock_other rfl ?_
      | (apply Goal.condT; exact rfl)
      | (apply Goal.condF; exact rfl)
      | (refine Goal.condD rfl (fun hc => ?_) (fun hc => ?_) <;> first | (exfalso; omega) | contradiction | skip)
      | refine Goal.condB rfl (fun hc => ?_) (fun hc => ?_)
      | refine Goal.guardT rfl rfl ?_
      | refine Goal.guardF rfl rfl rfl rfl ?_
      | refine Goal.guardU rfl rfl rfl ?_
      | (refine Goal.guardD rfl rfl (fun hc => ?_) (fun hc => ?_) <;> first | (exfalso; omega) | contradiction | skip)
      | refine Goal.guardB rfl rfl (fun hc => ?_) (fun hc => ?_)
      | (apply G.fieldAddr; exact rfl; exact rfl; (first | exact T.fld_43_0 | exact T.fld_43_1 | exact T.fld_43_2))
      | (apply G.load; exact rfl; exact rfl; first | exact LoadOK.one (by first | exact T.one_3 | exact T.one_22) 0 rfl rfl | exact LoadOK.one (by first | exact T.one_3 | exact T.one_22) 1 rfl rfl | exact LoadOK.one (by first | exact T.one_3 | exact T.one_22) 2 rfl rfl | exact LoadOK.one (by first | exact T.one_3 | exact T.one_22) 3 rfl rfl | exact LoadOK.one (by first | exact T.one_3 | exact T.one_22) 4 rfl rfl | exact LoadOK.one (by first | exact T.one_3 | exact T.one_22) 5 rfl rfl | exact LoadOK.one (by first | exact T.one_3 | exact T.one_22) 6 rfl rfl | exact LoadOK.one (by first | exact T.one_3 | exact T.one_22) 7 rfl rfl | exact ag3 T.agg_25 0 rfl rfl rfl rfl | exact ag3 T.agg_25 1 rfl rfl rfl rfl | exact ag3 T.agg_25 2 rfl rfl rfl rfl | exact ag3 T.agg_25 3 rfl rfl rfl rfl | exact ag3 T.agg_25 4 rfl rfl rfl rfl | exact ag3 T.agg_25 5 rfl rfl rfl rfl | exact ag3 T.agg_25 6 rfl rfl rfl rfl | exact ag3 T.agg_25 7 rfl rfl rfl rfl | exact LoadOK.agg (vs := [_, _, _, _, _, _]) T.agg_43 0 rfl rfl ⟨rfl, rfl, rfl, rfl, rfl, rfl, trivial⟩ | exact LoadOK.agg (vs := [_, _, _, _, _, _]) T.agg_43 1 rfl rfl ⟨rfl, rfl, rfl, rfl, rfl, rfl, trivial⟩ | exact LoadOK.agg (vs := [_, _, _, _, _, _]) T.agg_43 2 rfl rfl ⟨rfl, rfl, rfl, rfl, rfl, rfl, trivial⟩ | exact LoadOK.agg (vs := [_, _, _, _, _, _]) T.agg_43 3 rfl rfl ⟨rfl, rfl, rfl, rfl, rfl, rfl, trivial⟩ | exact LoadOK.agg (vs := [_, _, _, _, _, _]) T.agg_43 4 rfl rfl ⟨rfl, rfl, rfl, rfl, rfl, rfl, trivial⟩ | exact LoadOK.agg (vs := [_, _, _, _, _, _]) T.agg_43 5 rfl rfl ⟨rfl, rfl, rfl, rfl, rfl, rfl, trivial⟩ | exact LoadOK.agg (vs := [_, _, _, _, _, _]) T.agg_43 6 rfl rfl ⟨rfl, rfl, rfl, rfl, rfl, rfl, trivial⟩ | exact LoadOK.agg (vs := [_, _, _, _, _, _]) T.agg_43 7 rfl rfl ⟨rfl, rfl, rfl, rfl, rfl, rfl, trivial⟩)
      | (apply G.pickT; exact rfl; exact rfl; exact rfl)
      | (apply G.pickF; exact rfl; exact rfl; exact rfl)
      | (apply G.lss; exact rfl; exact rfl; exact rfl)
      | (apply G.eql; exact rfl; exact rfl; exact rfl)
      | (apply G.neq; exact rfl; exact rfl; exact rfl)
      | (apply G.add; exact rfl; exact rfl; exact rfl; exact IntWalk.i64_in _ (by omega))
      | (apply G.notT; exact rfl; exact rfl)
      | (apply G.notF; exact rfl; exact rfl)
      | (refine G.notD rfl rfl ?_)
      | (apply G.notB; exact rfl; exact rfl)
      | (apply G.extract; exact rfl; exact rfl; exact rfl)
      | (apply G.len; exact rfl; exact rfl; exact T.slc_30)
      | (refine G.indexAddr1 rfl T.slc_30 T.sz_3 rfl rfl _ rfl (by omega) ?_)
      | (refine G.indexAddr1 rfl T.slc_30 T.sz_3 rfl rfl _ (Int.toNat_of_nonneg (by omega)).symm (by omega) ?_))
    refine Goal.loopP (X := Int) (fun i => [(5, .slice aq Qs.length cq), (7, .slice (some ⟨bb, 0, none⟩) lb.length lb.length), (70, .slice aq Qs.length cq), (71, .int .i64 Qs.length), (72, .int .i64 i)])
      (fun _ => Ap ++ (Aq ++ [(bb, .cells (ints lb).toArray 3)]))
      (fun i => 0 ≤ i ∧ i ≤ Qs.length) (fun i => (Qs.length - i).toNat) 0 ⟨rfl, rfl, rfl, rfl, rfl, trivial⟩ (fun _ h => h) ⟨by omega, by omega⟩ ?_
    rintro i hi
    by_cases h : i < Qs.length
    · have hmem := mem_ia (l := Qs) (i := i) ⟨hi.1, h⟩
      obtain ⟨hr, hex⟩ := hQ _ hmem
      have e1 := ext_reached ht hx hA hB hlb.bell hex
      obtain ⟨bp, restp, capp, e, rfl, _, _, _⟩ := hSq.pos (by omega)
      injection e with f1 f2 f3
      subst f1 f3
      generalize haa : ia Qs i = k at hmem hr hex e1
      repeat' (first
        | (refine Goal.loud (o := ⟨some 1, _, _, _, _, _⟩) rfl ?_; first | refine Loud.boxA rfl rfl (fun b1 => ?_) | refine Loud.box1 rfl rfl rfl (fun b1 => ?_))
        | (apply G.move; exact rfl; exact rfl)
        | (apply G.assign; exact rfl; exact rfl)
        | refine Goal.seq (fun _ _ => ?_)
        | refine Goal.next (by assumption) ?_
        | refine Goal.lnil ?_
        | refine Goal.region ?_
        | refine Goal.skip ?_
        | refine Goal.block ?_
        | refine Goal.exit ?_
        | refine Goal.ret ?_
        | refine Goal.then_exit ?_
        | refine Goal.then_ret ?_
        | refine Goal.inBlock_exit ?_
        | refine Goal.inBlock_normal ?_
        | refine Goal.inBlock_ret ?_
        | refine Goal.inBlock_other rfl ?_
        | (apply Goal.condT; exact rfl)
        | (apply Goal.condF; exact rfl)
        | (refine Goal.condD rfl (fun hc => ?_) (fun hc => ?_) <;> first | (exfalso; omega) | contradiction | skip)
        | refine Goal.condB rfl (fun hc => ?_) (fun hc => ?_)
        | refine Goal.guardT rfl rfl ?_
        | refine Goal.guardF rfl rfl rfl rfl ?_
        | refine Goal.guardU rfl rfl rfl ?_
        | (refine Goal.guardD rfl rfl (fun hc => ?_) (fun hc => ?_) <;> first | (exfalso; omega) | contradiction | skip)
        | refine Goal.guardB rfl rfl (fun hc => ?_) (fun hc => ?_)
        | (apply G.fieldAddr; exact rfl; exact rfl; (first | exact T.fld_43_0 | exact T.fld_43_1 | exact T.fld_43_2))
        | (apply G.load; exact rfl; exact rfl; first | exact LoadOK.iaMe (b := bp) (l := Qs) (rest := restp) (E := 3) (i := i) (x := k) T.one_3 (by simp) (by omega) haa | exact LoadOK.iaM (b := bb) (l := lb) (E := 3) (i := k) (x := ia lb k) T.one_3 (by simp) (by omega) rfl | exact LoadOK.one (by first | exact T.one_3 | exact T.one_22) 0 rfl rfl | exact LoadOK.one (by first | exact T.one_3 | exact T.one_22) 1 rfl rfl | exact LoadOK.one (by first | exact T.one_3 | exact T.one_22) 2 rfl rfl | exact LoadOK.one (by first | exact T.one_3 | exact T.one_22) 3 rfl rfl | exact LoadOK.one (by first | exact T.one_3 | exact T.one_22) 4 rfl rfl | exact LoadOK.one (by first | exact T.one_3 | exact T.one_22) 5 rfl rfl | exact LoadOK.one (by first | exact T.one_3 | exact T.one_22) 6 rfl rfl | exact LoadOK.one (by first | exact T.one_3 | exact T.one_22) 7 rfl rfl | exact ag3 T.agg_25 0 rfl rfl rfl rfl | exact ag3 T.agg_25 1 rfl rfl rfl rfl | exact ag3 T.agg_25 2 rfl rfl rfl rfl | exact ag3 T.agg_25 3 rfl rfl rfl rfl | exact ag3 T.agg_25 4 rfl rfl rfl rfl | exact ag3 T.agg_25 5 rfl rfl rfl rfl | exact ag3 T.agg_25 6 rfl rfl rfl rfl | exact ag3 T.agg_25 7 rfl rfl rfl rfl | exact LoadOK.agg (vs := [_, _, _, _, _, _]) T.agg_43 0 rfl rfl ⟨rfl, rfl, rfl, rfl, rfl, rfl, trivial⟩ | exact LoadOK.agg (vs := [_, _, _, _, _, _]) T.agg_43 1 rfl rfl ⟨rfl, rfl, rfl, rfl, rfl, rfl, trivial⟩ | exact LoadOK.agg (vs := [_, _, _, _, _, _]) T.agg_43 2 rfl rfl ⟨rfl, rfl, rfl, rfl, rfl, rfl, trivial⟩ | exact LoadOK.agg (vs := [_, _, _, _, _, _]) T.agg_43 3 rfl rfl ⟨rfl, rfl, rfl, rfl, rfl, rfl, trivial⟩ | exact LoadOK.agg (vs := [_, _, _, _, _, _]) T.agg_43 4 rfl rfl ⟨rfl, rfl, rfl, rfl, rfl, rfl, trivial⟩ | exact LoadOK.agg (vs := [_, _, _, _, _, _]) T.agg_43 5 rfl rfl ⟨rfl, rfl, rfl, rfl, rfl, rfl, trivial⟩ | exact LoadOK.agg (vs := [_, _, _, _, _, _]) T.agg_43 6 rfl rfl ⟨rfl, rfl, rfl, rfl, rfl, rfl, trivial⟩ | exact LoadOK.agg (vs := [_, _, _, _, _, _]) T.agg_43 7 rfl rfl ⟨rfl, rfl, rfl, rfl, rfl, rfl, trivial⟩)
        | (apply G.pickT; exact rfl; exact rfl; exact rfl)
        | (apply G.pickF; exact rfl; exact rfl; exact rfl)
        | (apply G.lss; exact rfl; exact rfl; exact rfl)
        | (apply G.eql; exact rfl; exact rfl; exact rfl)
        | (apply G.neq; exact rfl; exact rfl; exact rfl)
        | (apply G.add; exact rfl; exact rfl; exact rfl; exact IntWalk.i64_in _ (by omega))
        | (apply G.notT; exact rfl; exact rfl)
        | (apply G.notF; exact rfl; exact rfl)
        | (refine G.notD rfl rfl ?_)
        | (apply G.notB; exact rfl; exact rfl)
        | (apply G.extract; exact rfl; exact rfl; exact rfl)
        | (apply G.len; exact rfl; exact rfl; exact T.slc_30)
        | (refine G.indexAddr1 rfl T.slc_30 T.sz_3 rfl rfl _ rfl (by omega) ?_)
        | (refine G.indexAddr1 rfl T.slc_30 T.sz_3 rfl rfl _ (Int.toNat_of_nonneg (by omega)).symm (by omega) ?_))
      refine Goal.again (i + 1) ⟨by omega, by omega⟩ (by omega) ⟨rfl, rfl, rfl, rfl, rfl, trivial⟩ (fun _ h => h)
    · skip
      repeat' (first
        | (refine Goal.loud (o := ⟨some 1, _, _, _, _, _⟩) rfl ?_; first | refine Loud.boxA rfl rfl (fun b1 => ?_) | refine Loud.box1 rfl rfl rfl (fun b1 => ?_))
        | (apply G.move; exact rfl; exact rfl)
        | (apply G.assign; exact rfl; exact rfl)
        | refine Goal.seq (fun _ _ => ?_)
        | refine Goal.next (by assumption) ?_
        | refine Goal.lnil ?_
        | refine Goal.region ?_
        | refine Goal.skip ?_
        | refine Goal.block ?_
        | refine Goal.exit ?_
        | refine Goal.ret ?_
        | refine Goal.then_exit ?_
        | refine Goal.then_ret ?_
        | refine Goal.inBlock_exit ?_
        | refine Goal.inBlock_normal ?_
        | refine Goal.inBlock_ret ?_
        | refine Goal.inBlock_other rfl ?_
        | (apply Goal.condT; exact rfl)
        | (apply Goal.condF; exact rfl)
        | (refine Goal.condD rfl (fun hc => ?_) (fun hc => ?_) <;> first | (exfalso; omega) | contradiction | skip)
        | refine Goal.condB rfl (fun hc => ?_) (fun hc => ?_)
        | refine Goal.guardT rfl rfl ?_
        | refine Goal.guardF rfl rfl rfl rfl ?_
        | refine Goal.guardU rfl rfl rfl ?_
        | (refine Goal.guardD rfl rfl (fun hc => ?_) (fun hc => ?_) <;> first | (exfalso; omega) | contradiction | skip)
        | refine Goal.guardB rfl rfl (fun hc => ?_) (fun hc => ?_)
        | (apply G.fieldAddr; exact rfl; exact rfl; (first | exact T.fld_43_0 | exact T.fld_43_1 | exact T.fld_43_2))
        | (apply G.load; exact rfl; exact rfl; first | exact LoadOK.one (by first | exact T.one_3 | exact T.one_22) 0 rfl rfl | exact LoadOK.one (by first | exact T.one_3 | exact T.one_22) 1 rfl rfl | exact LoadOK.one (by first | exact T.one_3 | exact T.one_22) 2 rfl rfl | exact LoadOK.one (by first | exact T.one_3 | exact T.one_22) 3 rfl rfl | exact LoadOK.one (by first | exact T.one_3 | exact T.one_22) 4 rfl rfl | exact LoadOK.one (by first | exact T.one_3 | exact T.one_22) 5 rfl rfl | exact LoadOK.one (by first | exact T.one_3 | exact T.one_22) 6 rfl rfl | exact LoadOK.one (by first | exact T.one_3 | exact T.one_22) 7 rfl rfl | exact ag3 T.agg_25 0 rfl rfl rfl rfl | exact ag3 T.agg_25 1 rfl rfl rfl rfl | exact ag3 T.agg_25 2 rfl rfl rfl rfl | exact ag3 T.agg_25 3 rfl rfl rfl rfl | exact ag3 T.agg_25 4 rfl rfl rfl rfl | exact ag3 T.agg_25 5 rfl rfl rfl rfl | exact ag3 T.agg_25 6 rfl rfl rfl rfl | exact ag3 T.agg_25 7 rfl rfl rfl rfl | exact LoadOK.agg (vs := [_, _, _, _, _, _]) T.agg_43 0 rfl rfl ⟨rfl, rfl, rfl, rfl, rfl, rfl, trivial⟩ | exact LoadOK.agg (vs := [_, _, _, _, _, _]) T.agg_43 1 rfl rfl ⟨rfl, rfl, rfl, rfl, rfl, rfl, trivial⟩ | exact LoadOK.agg (vs := [_, _, _, _, _, _]) T.agg_43 2 rfl rfl ⟨rfl, rfl, rfl, rfl, rfl, rfl, trivial⟩ | exact LoadOK.agg (vs := [_, _, _, _, _, _]) T.agg_43 3 rfl rfl ⟨rfl, rfl, rfl, rfl, rfl, rfl, trivial⟩ | exact LoadOK.agg (vs := [_, _, _, _, _, _]) T.agg_43 4 rfl rfl ⟨rfl, rfl, rfl, rfl, rfl, rfl, trivial⟩ | exact LoadOK.agg (vs := [_, _, _, _, _, _]) T.agg_43 5 rfl rfl ⟨rfl, rfl, rfl, rfl, rfl, rfl, trivial⟩ | exact LoadOK.agg (vs := [_, _, _, _, _, _]) T.agg_43 6 rfl rfl ⟨rfl, rfl, rfl, rfl, rfl, rfl, trivial⟩ | exact LoadOK.agg (vs := [_, _, _, _, _, _]) T.agg_43 7 rfl rfl ⟨rfl, rfl, rfl, rfl, rfl, rfl, trivial⟩)
        | (apply G.pickT; exact rfl; exact rfl; exact rfl)
        | (apply G.pickF; exact rfl; exact rfl; exact rfl)
        | (apply G.lss; exact rfl; exact rfl; exact rfl)
        | (apply G.eql; exact rfl; exact rfl; exact rfl)
        | (apply G.neq; exact rfl; exact rfl; exact rfl)
        | (apply G.add; exact rfl; exact rfl; exact rfl; exact IntWalk.i64_in _ (by omega))
        | (apply G.notT; exact rfl; exact rfl)
        | (apply G.notF; exact rfl; exact rfl)
        | (refine G.notD rfl rfl ?_)
        | (apply G.notB; exact rfl; exact rfl)
        | (apply G.extract; exact rfl; exact rfl; exact rfl)
        | (apply G.len; exact rfl; exact rfl; exact T.slc_30)
        | (refine G.indexAddr1 rfl T.slc_30 T.sz_3 rfl rfl _ rfl (by omega) ?_)
        | (refine G.indexAddr1 rfl T.slc_30 T.sz_3 rfl rfl _ (Int.toNat_of_nonneg (by omega)).symm (by omega) ?_))
      refine Goal.done (vs := [_]) (by first | exact .inl rfl | exact .inr rfl) Try.results12 ⟨rfl, trivial⟩ rfl (fun w' H => ⟨rfl, H.mod⟩)
end
end Go.Proofs.Ytldoplehchngfaa
