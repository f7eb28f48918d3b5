/- Package waypointlaw13: IspfNew, IspfChanges. -/
import Derived.Test.YthhhegmhgheeiaaIsN
namespace Go.Proofs.Ythhhegmhgheeiaa
open Go.Wf
set_option linter.unusedVariables false
theorem chk_cases (tp : Top) (dn : List Bool) (ns : List Int) : chk tp dn ns = 0 ∨ chk tp dn ns = 1 ∨ chk tp dn ns = 2 := by
  unfold chk
  split
  · split
    · exact .inl rfl
    · exact .inr (.inr rfl)
  · exact .inr (.inl rfl)
structure CH where
  (i : Int) (A Ar : List Blk)
theorem fold_next {l : List Act3} {s : TS} {i : Int} (hi : 0 ≤ i ∧ i < l.length) : (l.take (i + 1).toNat).foldl TS.step s = ((l.take i.toNat).foldl TS.step s).step (el l i) := by
  rw [show (i + 1).toNat = i.toNat + 1 by omega, List.take_succ_eq_append_getElem (by omega), List.foldl_append, el_get hi]
  rfl
section
variable {w : World} {tp : Top} {dn : List Bool} {vo vl vd va : Value} {l : List Act3}
set_option maxHeartbeats 4000000 in
theorem law_new (d : Int) (hT : TopR w vo vl tp) (hd : RdV w vd (bools dn)) : Calls Try.prog 5 #[.agg #[.int .i64 tp.n, vo, vl], vd, .int .i64 d] w fun e w' => e = .returned (.bool true) ∧ Mod [] w w' := by
  obtain ⟨ao, co, rfl⟩ := shapeB hT.ov
  obtain ⟨al, cl, rfl⟩ := shapeL hT.ls
  obtain ⟨ad, cd, rfl⟩ := shapeB hd
  by_cases hlg : 100 < tp.ov.length ∨ 20 < tp.ls.length ∨ 100 < dn.length ∨ 14 < tp.n
  · skip
    refine Goal.enter (args := [.agg #[.int .i64 tp.n, .slice ao tp.ov.length co, .slice al tp.ls.length cl], .slice ad dn.length cd, .int .i64 d]) Try.func5 rfl Try.ntmps5 rfl (St.nil w) ?_
    repeat' (first | (refine Goal.loud (o := ⟨some 11, _, _, _, _, _⟩) rfl ?_; apply Loud.call0; exact rfl; exact rfl; exact rfl; exact rfl; exact T.bod_11; exact (fun w' H => awake13_ok w')) | (refine Goal.loud (o := ⟨some 15, _, _, _, _, _⟩) rfl ?_; apply Loud.call0; exact rfl; exact rfl; exact rfl; exact rfl; exact T.bod_12; exact (fun w' H => large13_ok (tp := tp) (dn := dn) ao al ad co cl cd w'); rw [decide_eq_true hlg]) | (refine Goal.loud (o := ⟨some 3, _, _, _, _, _⟩) rfl ?_; refine Loud.boxA rfl rfl (fun b3 => ?_)) | (apply G.move; exact rfl; exact rfl) | (apply G.assign; exact rfl; exact rfl) | refine Goal.seq (fun _ _ => ?_) | refine Goal.next (by assumption) ?_ | refine Goal.lnil ?_ | refine Goal.region ?_ | refine Goal.skip ?_ | refine Goal.ret ?_ | refine Goal.then_ret ?_ | (apply Goal.condT; exact rfl) | (apply Goal.condF; exact rfl) | (apply G.load; exact rfl; exact rfl; exact ag3 T.agg_25 0 rfl rfl rfl rfl) | (apply G.notT; exact rfl; exact rfl))
    refine Goal.done (vs := [_]) (by first | exact .inl rfl | exact .inr rfl) Try.results5 ⟨rfl, trivial⟩ rfl (fun w' H => ⟨rfl, H.mod⟩)
  by_cases hk : chk tp dn [d] = 0
  · obtain ⟨ht, hf, hr⟩ := chk_zero hk
    replace hr : 0 ≤ d ∧ d < tp.n := hr d (by simp)
    refine Goal.enter (args := [.agg #[.int .i64 tp.n, .slice ao tp.ov.length co, .slice al tp.ls.length cl], .slice ad dn.length cd, .int .i64 d]) Try.func5 rfl Try.ntmps5 rfl (St.nil w) ?_
    repeat' (first | (refine Goal.loud (o := ⟨some 11, _, _, _, _, _⟩) rfl ?_; apply Loud.call0; exact rfl; exact rfl; exact rfl; exact rfl; exact T.bod_11; exact (fun w' H => awake13_ok w')) | (refine Goal.loud (o := ⟨some 15, _, _, _, _, _⟩) rfl ?_; apply Loud.call0; exact rfl; exact rfl; exact rfl; exact rfl; exact T.bod_12; exact (fun w' H => large13_ok (tp := tp) (dn := dn) ao al ad co cl cd w'); rw [decide_eq_false hlg]) | (refine Goal.loud (o := ⟨some 20, _, _, _, _, _⟩) rfl ?_; apply Loud.callN; exact rfl; exact rfl; exact rfl; exact rfl; exact T.bod_14; exact (fun w' H => tnew_ok (hT.keep H.mod) (hd.keep H.mod) ht hf hr); rintro ⟨bx, A⟩ hM; dsimp only at hM ⊢; obtain ⟨vo1, vl1, vd1, vs1, hr1⟩ := hM.rd) | (refine Goal.loud (o := ⟨some 27, _, _, _, _, _⟩) rfl ?_; apply Loud.callN; exact rfl; exact rfl; exact rfl; exact rfl; exact T.bod_15; exact (fun w' H => rnew_ok (hT.keep H.mod) (hd.keep H.mod) ht hf hr); rintro ⟨br, Ar⟩ hMr; dsimp only at hMr ⊢; obtain ⟨vo2, vl2, vd2, vs2, hr2⟩ := hMr.rd) | (refine Goal.loud (o := ⟨some 45, _, _, _, _, _⟩) rfl ?_; apply Loud.call0; exact rfl; exact rfl; exact rfl; exact rfl; exact T.bod_29; exact (fun w' H => same13_ok (hr1 w' (own_in H (fun p hp => by simp [hp]))) (hr2 w' (own_in H (fun p hp => by simp [hp]))) (TS.new_ok ht hf hr))) | (refine Goal.loud (o := ⟨some 3, _, _, _, _, _⟩) rfl ?_; refine Loud.boxA rfl rfl (fun b3 => ?_)) | (apply G.move; exact rfl; exact rfl) | (apply G.assign; exact rfl; exact rfl) | refine Goal.seq (fun _ _ => ?_) | refine Goal.next (by assumption) ?_ | refine Goal.lnil ?_ | refine Goal.region ?_ | refine Goal.skip ?_ | refine Goal.ret ?_ | (apply Goal.condF; exact rfl) | refine Goal.guardT rfl rfl ?_ | (apply G.load; exact rfl; exact rfl; exact ag3 T.agg_25 0 rfl rfl rfl rfl) | (apply G.pickF; exact rfl; exact rfl; exact rfl) | (apply G.neq; exact rfl; exact rfl; exact rfl) | (refine Goal.quiet rfl (Run.eqlP T.ptr_30 rfl rfl rfl) ?_) | (apply G.neqB; exact rfl; exact T.boo_4; exact rfl; exact rfl) | (apply G.notT; exact rfl; exact rfl) | (apply G.extract; exact rfl; exact rfl; exact rfl))
    refine Goal.done (vs := [_]) (by first | exact .inl rfl | exact .inr rfl) Try.results5 ⟨rfl, trivial⟩ rfl (fun w' H => ⟨rfl, H.mod⟩)
  · have hbadT := fun w' (hT : TopR w' (.slice ao tp.ov.length co) (.slice al tp.ls.length cl) tp) (hd : RdV w' (.slice ad dn.length cd) (bools dn)) => tnew_bad (d := d) hT hd (by omega) (by omega) hk
    have hbadR := fun w' (hT : TopR w' (.slice ao tp.ov.length co) (.slice al tp.ls.length cl) tp) (hd : RdV w' (.slice ad dn.length cd) (bools dn)) => rnew_bad (d := d) hT hd (by omega) (by omega) (by omega) hk
    have hq := chk_cases tp dn [d]
    generalize chk tp dn [d] = q at hbadT hbadR hq hk
    have hq : q = 1 ∨ q = 2 := by omega
    rcases hq with rfl | rfl
    all_goals
      refine Goal.enter (args := [.agg #[.int .i64 tp.n, .slice ao tp.ov.length co, .slice al tp.ls.length cl], .slice ad dn.length cd, .int .i64 d]) Try.func5 rfl Try.ntmps5 rfl (St.nil w) ?_
      repeat' (first | (refine Goal.loud (o := ⟨some 11, _, _, _, _, _⟩) rfl ?_; apply Loud.call0; exact rfl; exact rfl; exact rfl; exact rfl; exact T.bod_11; exact (fun w' H => awake13_ok w')) | (refine Goal.loud (o := ⟨some 15, _, _, _, _, _⟩) rfl ?_; apply Loud.call0; exact rfl; exact rfl; exact rfl; exact rfl; exact T.bod_12; exact (fun w' H => large13_ok (tp := tp) (dn := dn) ao al ad co cl cd w'); rw [decide_eq_false hlg]) | (refine Goal.loud (o := ⟨some 20, _, _, _, _, _⟩) rfl ?_; apply Loud.call0; exact rfl; exact rfl; exact rfl; exact rfl; exact T.bod_14; exact (fun w' H => hbadT w' (hT.keep H.mod) (hd.keep H.mod))) | (refine Goal.loud (o := ⟨some 27, _, _, _, _, _⟩) rfl ?_; apply Loud.call0; exact rfl; exact rfl; exact rfl; exact rfl; exact T.bod_15; exact (fun w' H => hbadR w' (hT.keep H.mod) (hd.keep H.mod))) | (refine Goal.loud (o := ⟨some 3, _, _, _, _, _⟩) rfl ?_; refine Loud.boxA rfl rfl (fun b3 => ?_)) | (apply G.move; exact rfl; exact rfl) | (apply G.assign; exact rfl; exact rfl) | refine Goal.seq (fun _ _ => ?_) | refine Goal.next (by assumption) ?_ | refine Goal.lnil ?_ | refine Goal.region ?_ | refine Goal.skip ?_ | refine Goal.ret ?_ | (apply Goal.condF; exact rfl) | refine Goal.guardT rfl rfl ?_ | refine Goal.guardF rfl rfl rfl rfl ?_ | (apply G.load; exact rfl; exact rfl; exact ag3 T.agg_25 0 rfl rfl rfl rfl) | (apply G.pickT; exact rfl; exact rfl; exact rfl) | (apply G.pickF; exact rfl; exact rfl; exact rfl) | (apply G.neq; exact rfl; exact rfl; exact rfl) | (refine Goal.quiet rfl (Run.eqlP T.ptr_30 rfl rfl rfl) ?_) | (apply G.neqB; exact rfl; exact T.boo_4; exact rfl; exact rfl) | (apply G.notT; exact rfl; exact rfl) | (apply G.extract; exact rfl; exact rfl; exact rfl))
      refine Goal.done (vs := [_]) (by first | exact .inl rfl | exact .inr rfl) Try.results5 ⟨rfl, trivial⟩ rfl (fun w' H => ⟨rfl, H.mod⟩)
end
end Go.Proofs.Ythhhegmhgheeiaa
