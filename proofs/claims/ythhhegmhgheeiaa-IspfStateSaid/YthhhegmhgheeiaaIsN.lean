/- Package waypointlaw13: awake. -/
import Derived.Test.YthhhegmhgheeiaaIsM
namespace Go.Proofs.Ythhhegmhgheeiaa
open Go.Wf
set_option linter.unusedVariables false
structure AWI where
  (i : Int) (v : Value) (A : List Blk)
def sqS : TS := TS.new sq [] 2
def sqT1 : Top := sq.fill.setCost 2 5
def sqD : List Bool := [false, false, false, false, false, false, false, false]
def sqD1 : List Bool := [false, false, false, false, false, true, false, false]
theorem sqS_ok : sqS.Ok := TS.new_ok sq_ok (.inl rfl) (by decide)
theorem sqT1_ok : sqT1.Ok := by decide
theorem sqS_l : sqS.l = [2, 1, 0, 1] := (TS.new_l (tp := sq) (dn := []) (d := 2) sq_ok (by decide) (dlB_spec (T := sq) (dn := []) (by decide))).symm
theorem sq1_l : dlist sqT1 sqD 2 = [2, 3, 0, 1] := (dlist_eq sqT1_ok (by decide) (dlB_spec (T := sqT1) (dn := sqD) (by decide))).symm
theorem sq2_l : dlist sqT1 sqD1 2 = [6, 5, 0, 7] := (dlist_eq sqT1_ok (by decide) (dlB_spec (T := sqT1) (dn := sqD1) (by decide))).symm
theorem sq_step1 : sqS.step ⟨0, 2, 5⟩ = ⟨sqT1, sqD, 2, 1⟩ := by
  have e1 : actE sqS.tp ⟨0, 2, 5⟩ = 0 := by decide
  have e2 : actT sqS.tp ⟨0, 2, 5⟩ = sqT1 := rfl
  have e3 : actD sqS.dn ⟨0, 2, 5⟩ = sqD := by decide
  unfold TS.step
  rw [if_pos e1, e2, e3]
  unfold TS.to
  rw [sqS_l, show sqS.d = 2 from rfl, sq1_l]
  rfl
theorem sq_step2 : (TS.mk sqT1 sqD 2 1).step ⟨1, 5, 0⟩ = ⟨sqT1, sqD1, 2, 3⟩ := by
  have e1 : actE sqT1 ⟨1, 5, 0⟩ = 0 := by decide
  have e2 : actT sqT1 ⟨1, 5, 0⟩ = sqT1 := rfl
  have e3 : actD sqD ⟨1, 5, 0⟩ = sqD1 := by decide
  unfold TS.step
  show (if actE sqT1 ⟨1, 5, 0⟩ = 0 then TS.to _ (actT sqT1 ⟨1, 5, 0⟩) (actD sqD ⟨1, 5, 0⟩) else _) = _
  rw [if_pos e1, e2, e3]
  unfold TS.to
  show TS.mk sqT1 sqD1 2 (difN (dlist sqT1 sqD 2) (dlist sqT1 sqD1 2)) = _
  rw [sq1_l, sq2_l]
  rfl
theorem sq_next : (TS.mk sqT1 sqD 2 1).next 1 = [1] := by
  unfold TS.next TS.l
  show (arcsAt sqT1.tl sqT1.arcs.toNat 1).filter (fun a => decide (OnA sqT1 sqD 2 (ia (dlist sqT1 sqD 2)) a)) = [1]
  rw [sq1_l]
  decide
set_option maxHeartbeats 4000000 in
theorem awake13_ok (w : World) : Calls Try.prog 11 #[] w fun e w' => e = .returned (.bool true) ∧ Mod [] w w' := by
  refine Goal.enter (args := []) Try.func11 rfl Try.ntmps11 rfl (St.nil w) ?_
  repeat' (first | (apply G.move; exact rfl; exact rfl) | (apply G.assign; exact rfl; exact rfl) | refine Goal.seq (fun _ _ => ?_) | refine Goal.next (by assumption) ?_ | refine Goal.lnil ?_ | refine Goal.region ?_ | refine Goal.block ?_)
  refine Goal.loopP (X := AWI) (fun x => [(1, x.v), (10, .int .i64 x.i)]) (fun x => x.A)
    (fun x => (0 ≤ x.i ∧ x.i ≤ 4) ∧ Sl x.v 39 7 x.i.toNat (Els lkc (sqL.take x.i.toNat)) x.A) (fun x => (4 - x.i).toNat) ⟨0, .slice none 0 0, []⟩ ⟨rfl, rfl, trivial⟩ (fun _ h => h) ⟨by dsimp only; omega, Sl.nil _ _⟩ ?_
  rintro ⟨i, v, A⟩ ⟨hi, hS⟩
  dsimp only at hi hS ⊢
  obtain ⟨av, cv, rfl⟩ := hS.shape
  by_cases h : i < 4
  · skip
    repeat' (first | (refine Goal.loud (o := ⟨some 21, _, _, _, _, _⟩) rfl ?_; refine Loud.appendT rfl T.slc_23 T.inf_39 rfl [] rfl hS rfl rfl rfl rfl (by omega) (by omega) ?_; intro v2 A2 hA2; obtain ⟨ad2, cap2, rfl⟩ := hA2.shape) | (refine Goal.loud (o := ⟨some 20, _, _, _, _, _⟩) rfl ?_; refine Loud.buildSlice (cs := [_, _, _, _, _, _, _]) rfl T.slc_23 T.inf_39 rfl rfl (by decide) rfl rfl rfl (fun b20 => ?_)) | (apply G.move; exact rfl; exact rfl) | (apply G.assign; exact rfl; exact rfl) | refine Goal.seq (fun _ _ => ?_) | refine Goal.next (by assumption) ?_ | refine Goal.lnil ?_ | refine Goal.region ?_ | refine Goal.skip ?_ | refine Goal.block ?_ | refine Goal.inBlock_normal ?_ | (refine Goal.condD rfl (fun hc => ?_) (fun hc => ?_) <;> first | (exfalso; omega) | skip) | (apply G.lss; exact rfl; exact rfl; exact rfl) | (apply G.add; exact rfl; exact rfl; exact rfl; exact IntWalk.i64_in _ (by omega)) | (apply G.rem; exact rfl; exact rfl; exact rfl; (decide); exact IntWalk.rem_in _ _ (by omega)) | (apply G.build (cs := [_, _]); exact rfl; exact T.lay_37; exact rfl; exact rfl) | (apply G.build (cs := [_, _, _, _, _, _, _]); exact rfl; exact T.lay_39; exact rfl; exact rfl))
    refine Goal.again ⟨i + 1, _, A2⟩ ⟨by dsimp only; omega, ?_⟩ (by dsimp only; omega) ⟨rfl, rfl, trivial⟩ (fun _ h => h)
    dsimp only
    rw [sq_at i hi.1 h, Els_one, show (i + 1).toNat = i.toNat + 1 by omega]
    exact hA2
  · obtain rfl : i = 4 := by omega
    have hS' : Sl (.slice av 4 cv) 39 7 sqL.length (Els lkc sqL) A := hS
    have hS1 : (TS.mk sqT1 sqD 2 1).Ok := sq_step1 ▸ TS.step_ok sqS_ok
    have hS2 : (TS.mk sqT1 sqD1 2 3).Ok := sq_step2 ▸ TS.step_ok hS1
    repeat' (first | (refine Goal.loud (o := ⟨some 26, _, _, _, _, _⟩) rfl ?_; apply Loud.callN; exact rfl; exact rfl; exact rfl; exact rfl; exact T.bod_14; exact (fun w' H => tnew_ok (tp := sq) (dn := []) (d := 2) (sqT H hS' (fun p hp => by simp [hp])) (RdV.nil w') sq_ok (.inl rfl) (by decide)); rintro ⟨bx, At⟩ hM; dsimp only at hM ⊢) | (refine Goal.loud (o := ⟨some 36, _, _, _, _, _⟩) rfl ?_; refine Loud.callE (A) (tcost_ok (s := sqS) hM sqS_ok 2 5) rfl rfl rfl rfl T.bod_24 (fun _ h => h) ?_; intro A1 hM1; rw [sq_step1] at hM1; rw [show actE sqS.tp ⟨0, 2, 5⟩ = 0 from rfl]; obtain ⟨vo1, vl1, vd1, vs1, hr1⟩ := hM1.rd) | (refine Goal.loud (o := ⟨some 38, _, _, _, _, _⟩) rfl ?_; apply Loud.callN; exact rfl; exact rfl; exact rfl; exact rfl; exact T.bod_23; exact (fun w' H => tdist_ok (hr1 w' (own_in H (fun p hp => by simp [hp]))) hS1); rintro ⟨v, Av⟩ hv; dsimp only at hv ⊢; rw [show (TS.mk sqT1 sqD 2 1).l = [2, 3, 0, 1] from sq1_l] at hv; obtain ⟨av3, cv3, rfl⟩ := hv.shape) | (refine Goal.loud (o := ⟨some 40, _, _, _, _, _⟩) rfl ?_; apply Loud.call0; exact rfl; exact rfl; exact rfl; exact rfl; exact T.bod_28; exact (fun w' H => ttouched_ok (hr1 w' (own_in H (fun p hp => by simp [hp]))))) | (refine Goal.loud (o := ⟨some 42, _, _, _, _, _⟩) rfl ?_; apply Loud.callN; exact rfl; exact rfl; exact rfl; exact rfl; exact T.bod_27; exact (fun w' H => tnext_ok (hr1 w' (own_in H (fun p hp => by simp [hp]))) hS1 1); rintro ⟨vn, An⟩ hvn; dsimp only at hvn ⊢; rw [sq_next] at hvn; obtain ⟨an3, cn3, rfl⟩ := hvn.shape) | (refine Goal.loud (o := ⟨some 44, _, _, _, _, _⟩) rfl ?_; refine Loud.callM (A) (G := Av ++ An) (tdown_ok hM1 hS1 5 true 0) rfl rfl rfl rfl T.bod_25 (fun _ h => by simpa only [List.append_eq, List.append_assoc, List.cons_append, List.nil_append, List.append_nil] using h) ?_; intro A3 hM3; rw [show (if true = true then (1 : Int) else 2) = 1 from rfl, sq_step2] at hM3; rw [show actE (TS.mk sqT1 sqD 2 1).tp ⟨if true = true then 1 else 2, 5, 0⟩ = 0 from rfl]; obtain ⟨vo2, vl2, vd2, vs2, hr2⟩ := hM3.rd) | (refine Goal.loud (o := ⟨some 67, _, _, _, _, _⟩) rfl ?_; apply Loud.callN; exact rfl; exact rfl; exact rfl; exact rfl; exact T.bod_23; exact (fun w' H => tdist_ok (hr2 w' (own_in H (fun p hp => by simp [hp]))) hS2); rintro ⟨v4, Av4⟩ hv4; dsimp only at hv4 ⊢; rw [show (TS.mk sqT1 sqD1 2 3).l = [6, 5, 0, 7] from sq2_l] at hv4; obtain ⟨av4, cv4, rfl⟩ := hv4.shape) | (refine Goal.loud (o := ⟨some 73, _, _, _, _, _⟩) rfl ?_; apply Loud.call0; exact rfl; exact rfl; exact rfl; exact rfl; exact T.bod_28; exact (fun w' H => ttouched_ok (hr2 w' (own_in H (fun p hp => by simp [hp]))))) | (refine Goal.loud (o := ⟨some 54, _, _, _, _, _⟩) rfl ?_; refine Loud.call0 (v := .bool true) rfl rfl rfl rfl T.bod_22 (fun w' H => same_yes (l := [2, 3, 0, 1]) (rds H hv (fun p hp => by simp [hp])) (rdm (l := [2, 3, 0, 1]) (b := b53) (E := 3) H (by simp [ints])) (by decide)) ?_) | (refine Goal.loud (o := ⟨some 63, _, _, _, _, _⟩) rfl ?_; refine Loud.call0 (v := .bool true) rfl rfl rfl rfl T.bod_22 (fun w' H => same_yes (l := [1]) (rds H hvn (fun p hp => by simp [hp])) (rdm (l := [1]) (b := b62) (E := 3) H (by simp [ints])) (by decide)) ?_) | (refine Goal.loud (o := ⟨some 69, _, _, _, _, _⟩) rfl ?_; refine Loud.call0 (v := .bool true) rfl rfl rfl rfl T.bod_22 (fun w' H => same_yes (l := [6, 5, 0, 7]) (rds H hv4 (fun p hp => by simp [hp])) (rdm (l := [6, 5, 0, 7]) (b := b68) (E := 3) H (by simp [ints])) (by decide)) ?_) | (refine Goal.loud (o := ⟨some 53, _, _, _, _, _⟩) rfl ?_; refine Loud.buildSlice (cs := [_, _, _, _]) rfl T.slc_46 T.inf_3 rfl rfl (by decide) rfl rfl rfl (fun b53 => ?_)) | (refine Goal.loud (o := ⟨some 62, _, _, _, _, _⟩) rfl ?_; refine Loud.buildSlice (cs := [_]) rfl T.slc_46 T.inf_3 rfl rfl (by decide) rfl rfl rfl (fun b62 => ?_)) | (refine Goal.loud (o := ⟨some 68, _, _, _, _, _⟩) rfl ?_; refine Loud.buildSlice (cs := [_, _, _, _]) rfl T.slc_46 T.inf_3 rfl rfl (by decide) rfl rfl rfl (fun b68 => ?_)) | (apply G.move; exact rfl; exact rfl) | (apply G.assign; exact rfl; exact rfl) | refine Goal.seq (fun _ _ => ?_) | refine Goal.next (by assumption) ?_ | refine Goal.lnil ?_ | refine Goal.region ?_ | refine Goal.skip ?_ | refine Goal.exit ?_ | refine Goal.ret ?_ | refine Goal.then_exit ?_ | refine Goal.inBlock_exit ?_ | (apply Goal.condF; exact rfl) | refine Goal.guardT rfl rfl ?_ | (apply G.pickT; exact rfl; exact rfl; exact rfl) | (apply G.pickF; exact rfl; exact rfl; exact rfl) | (apply G.lss; exact rfl; exact rfl; exact rfl) | (apply G.eql; exact rfl; exact rfl; exact rfl) | (apply G.neq; exact rfl; exact rfl; exact rfl) | (refine Goal.quiet rfl (Run.eqlP T.ptr_30 rfl rfl rfl) ?_) | (apply G.extract; exact rfl; exact rfl; exact rfl) | (apply G.build (cs := [_, _, _]); exact rfl; exact T.lay_25; exact rfl; exact rfl))
    refine Goal.done (vs := [_]) (by first | exact .inl rfl | exact .inr rfl) Try.results11 ⟨rfl, trivial⟩ rfl (fun w' H => ⟨rfl, H.mod⟩)
end Go.Proofs.Ythhhegmhgheeiaa
