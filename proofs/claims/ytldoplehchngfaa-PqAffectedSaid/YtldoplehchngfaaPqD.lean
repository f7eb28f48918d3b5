/- Package pq: QSpace, Uses. -/
import Derived.Test.YtldoplehchngfaaPqC
namespace Go.Proofs.Ytldoplehchngfaa
open Go.Wf
set_option linter.unusedVariables false
section
variable {w : World} {tp : Top} {vo vl vd : Value} {dn : List Bool} {n x y : Int} {A Bq : Int → Int → Int} {p : Int → Bool}
set_option maxHeartbeats 8000000 in
theorem qspace_ok (hT : TopR w vo vl tp) (hd : RdV w vd (bools dn)) (ht : tp.Ok) (hf : Fit tp dn) (hx : 0 ≤ n ∧ n < tp.n) (hA : ∀ x, Bell tp.n x (GF tp [] x) (A x)) (hB : ∀ y, Bell tp.n y (GD tp [] y) (Bq y)) (hp : ∀ k, p k = true ↔ FreeP tp dn (A k) (Bq n) k n) :
    Calls Try.prog 39 #[.agg #[.int .i64 tp.n, vo, vl], vd, .int .i64 n] w fun e w' => ∃ x : PV, Sl x.v 3 1 (selL tp.n.toNat p).length (ints (selL tp.n.toNat p)) x.A ∧ e = .returned (.tuple #[x.v, .int .i64 0]) ∧ St w [] w' x.A := by
  have hn := ht.n
  have hln := ht.ln
  have hovl := ht.ov
  obtain ⟨ad, cd, rfl⟩ := shapeB hd
  refine Goal.enter (args := [.agg #[.int .i64 tp.n, vo, vl], .slice ad dn.length cd, .int .i64 n]) Try.func39 rfl Try.ntmps39 rfl (St.nil w) ?_
  repeat' (first
    | (refine Goal.loud (o := ⟨some 15, _, _, _, _, _⟩) rfl ?_; apply Loud.call0; exact rfl; exact rfl; exact rfl; exact rfl; exact T.bod_58; exact (fun w' H => check26_ok (n := n) (hT.keep H.mod) (hd.keep H.mod) (by omega) (by omega)); rw [chk_ok ht hf hx])
    | (refine Goal.loud (o := ⟨some 3, _, _, _, _, _⟩) rfl ?_; first | refine Loud.boxA rfl rfl (fun b3 => ?_) | refine Loud.box1 rfl rfl rfl (fun b3 => ?_))
    | (refine Goal.loud (o := ⟨some 22, _, _, _, _, _⟩) rfl ?_; first | refine Loud.boxA rfl rfl (fun b22 => ?_) | refine Loud.box1 rfl rfl rfl (fun b22 => ?_))
    | (refine Goal.quiet rfl (Run.build (cs := zc tp vo vl (.slice ad dn.length cd) noneL noneL) lay_tester rfl (by kernel_rfl)) ?_)
    | (apply G.move; exact rfl; exact rfl)
    | (apply G.assign; exact rfl; exact rfl)
    | refine Goal.seq (fun _ _ => ?_)
    | refine Goal.next (by assumption) ?_
    | refine Goal.lnil ?_
    | refine Goal.region ?_
    | refine Goal.skip ?_
    | refine Goal.block ?_
    | refine Goal.exit ?_
    | refine Goal.ret ?_
    | refine Goal.then_exit ?_
    | refine Goal.then_ret ?_
    | refine Goal.inBlock_exit ?_
    | refine Goal.inBlock_normal ?_
    | refine Goal.inBlock_ret ?_
    | refine Goal.inBlock_other rfl ?_
    | (apply Goal.condT; exact rfl)
    | (apply Goal.condF; exact rfl)
    | (refine Goal.condD rfl (fun hc => ?_) (fun hc => ?_) <;> first | (exfalso; omega) | contradiction | skip)
    | refine Goal.condB rfl (fun hc => ?_) (fun hc => ?_)
    | (apply G.fieldAddr; exact rfl; exact rfl; exact T.fld_25_0)
    | (apply G.load; exact rfl; exact rfl; first | exact LoadOK.one T.one_3 0 rfl rfl | exact LoadOK.one T.one_3 1 rfl rfl | exact LoadOK.one T.one_3 2 rfl rfl | exact LoadOK.one T.one_3 3 rfl rfl | exact LoadOK.one T.one_3 4 rfl rfl | exact ag3 T.agg_25 0 rfl rfl rfl rfl | exact ag3 T.agg_25 1 rfl rfl rfl rfl | exact ag3 T.agg_25 2 rfl rfl rfl rfl | exact ag3 T.agg_25 3 rfl rfl rfl rfl | exact ag3 T.agg_25 4 rfl rfl rfl rfl)
    | (apply G.lss; exact rfl; exact rfl; exact rfl)
    | (apply G.neq; exact rfl; exact rfl; exact rfl)
    | (apply G.add; exact rfl; exact rfl; exact rfl; exact IntWalk.i64_in _ (by omega))
    | (refine Goal.quiet rfl (Run.shl1B rfl rfl (by omega)) ?_)
    | (refine Goal.quiet rfl (Run.orB rfl rfl (by first | assumption | exact two_lt (by omega) | exact shr_lt (by assumption)) (by first | assumption | exact two_lt (by omega) | exact shr_lt (by assumption))) ?_))
  refine Goal.loopP (X := ZL) (fun s => [(2, .int .i64 n), (9, .pointer (some ⟨b22, 0, none⟩)), (10, .int .u64 (s.m : Int)), (24, .int .i64 tp.n), (25, .int .i64 s.i)]) (fun s => (b22, .cells (zc tp vo vl (.slice ad dn.length cd) s.Fs s.Ts).toArray 64) :: s.B)
    (fun s => (0 ≤ s.i ∧ s.i ≤ tp.n) ∧ ZI tp s.Fs s.Ts s.B ∧ s.m < 18446744073709551616 ∧ ∀ k : Nat, s.m.testBit k = (decide ((k : Int) < s.i) && p k)) (fun s => (tp.n - s.i).toNat) ⟨0, noneL, noneL, [], 0⟩ ⟨rfl, rfl, rfl, rfl, rfl, trivial⟩ (fun _ h => h.sub (.cons_cons _ (List.nil_sublist _))) ⟨by dsimp only; omega, zi_none tp, by dsimp only; decide, fun k => by dsimp only; rw [Nat.zero_testBit, decide_eq_false (by omega), Bool.false_and]⟩ ?_
  rintro ⟨i, Fs, Ts, B, m⟩ ⟨hi, hZ, hm, hb⟩
  dsimp only at hi hZ hm hb ⊢
  by_cases h : i < tp.n
  · have hm2 := or_lt hm (two_lt (i := i.toNat) (by omega))
    cases hpi : p i
    · skip
      repeat' (first
        | (refine Goal.loud (o := ⟨some 31, _, _, _, _, _⟩) rfl ?_; refine Loud.call (SS := keys ((b22, Obj.cells (zc tp vo vl (.slice ad dn.length cd) Fs Ts).toArray 64) :: B)) (A := (b22, .cells (zc tp vo vl (.slice ad dn.length cd) Fs Ts).toArray 64) :: B) (R := []) (fst := []) (cap := #[]) (vs := [_, _, _]) rfl rfl rfl rfl T.bod_62 (fun _ h => by simpa using h) (fun _ h => h) (fun w' H => free_ok (r := false) hZ (St.start H.left.own H.left.nd (fun _ h => h)) (fun w'' hm => hT.keep (modOf3 H hm (fun b hb => by simpa using hb))) (fun w'' hm => hd.keep (modOf3 H hm (fun b hb => by simpa using hb))) ht hf ⟨hi.1, h⟩ hx (hA i) (hB n) ⟨fun h => (by cases h), fun h => by rw [(hp i).2 h] at hpi; cases hpi⟩) ?_; rintro ⟨Fs2, Ts2, B2⟩ ⟨hZ2, _⟩; dsimp only at hZ2 ⊢)
        | (refine Goal.loud (o := ⟨some 3, _, _, _, _, _⟩) rfl ?_; first | refine Loud.boxA rfl rfl (fun b3 => ?_) | refine Loud.box1 rfl rfl rfl (fun b3 => ?_))
        | (refine Goal.loud (o := ⟨some 22, _, _, _, _, _⟩) rfl ?_; first | refine Loud.boxA rfl rfl (fun b22 => ?_) | refine Loud.box1 rfl rfl rfl (fun b22 => ?_))
        | (apply G.move; exact rfl; exact rfl)
        | (apply G.assign; exact rfl; exact rfl)
        | refine Goal.seq (fun _ _ => ?_)
        | refine Goal.next (by assumption) ?_
        | refine Goal.lnil ?_
        | refine Goal.region ?_
        | refine Goal.skip ?_
        | refine Goal.block ?_
        | refine Goal.exit ?_
        | refine Goal.ret ?_
        | refine Goal.then_exit ?_
        | refine Goal.then_ret ?_
        | refine Goal.inBlock_exit ?_
        | refine Goal.inBlock_normal ?_
        | refine Goal.inBlock_ret ?_
        | refine Goal.inBlock_other rfl ?_
        | (apply Goal.condT; exact rfl)
        | (apply Goal.condF; exact rfl)
        | (refine Goal.condD rfl (fun hc => ?_) (fun hc => ?_) <;> first | (exfalso; omega) | contradiction | skip)
        | refine Goal.condB rfl (fun hc => ?_) (fun hc => ?_)
        | (apply G.fieldAddr; exact rfl; exact rfl; exact T.fld_25_0)
        | (apply G.load; exact rfl; exact rfl; first | exact LoadOK.one T.one_3 0 rfl rfl | exact LoadOK.one T.one_3 1 rfl rfl | exact LoadOK.one T.one_3 2 rfl rfl | exact LoadOK.one T.one_3 3 rfl rfl | exact LoadOK.one T.one_3 4 rfl rfl | exact ag3 T.agg_25 0 rfl rfl rfl rfl | exact ag3 T.agg_25 1 rfl rfl rfl rfl | exact ag3 T.agg_25 2 rfl rfl rfl rfl | exact ag3 T.agg_25 3 rfl rfl rfl rfl | exact ag3 T.agg_25 4 rfl rfl rfl rfl)
        | (apply G.lss; exact rfl; exact rfl; exact rfl)
        | (apply G.neq; exact rfl; exact rfl; exact rfl)
        | (apply G.add; exact rfl; exact rfl; exact rfl; exact IntWalk.i64_in _ (by omega))
        | (refine Goal.quiet rfl (Run.shl1B rfl rfl (by omega)) ?_)
        | (refine Goal.quiet rfl (Run.orB rfl rfl (by first | assumption | exact two_lt (by omega) | exact shr_lt (by assumption)) (by first | assumption | exact two_lt (by omega) | exact shr_lt (by assumption))) ?_))
      refine Goal.again ⟨i + 1, Fs2, Ts2, B2, m⟩ ⟨by dsimp only; omega, hZ2, hm, bits_no hi.1 hb hpi⟩ (by dsimp only; omega) ⟨rfl, rfl, rfl, rfl, rfl, trivial⟩ (fun _ h => by simpa using h)
    · skip
      repeat' (first
        | (refine Goal.loud (o := ⟨some 31, _, _, _, _, _⟩) rfl ?_; refine Loud.call (SS := keys ((b22, Obj.cells (zc tp vo vl (.slice ad dn.length cd) Fs Ts).toArray 64) :: B)) (A := (b22, .cells (zc tp vo vl (.slice ad dn.length cd) Fs Ts).toArray 64) :: B) (R := []) (fst := []) (cap := #[]) (vs := [_, _, _]) rfl rfl rfl rfl T.bod_62 (fun _ h => by simpa using h) (fun _ h => h) (fun w' H => free_ok (r := true) hZ (St.start H.left.own H.left.nd (fun _ h => h)) (fun w'' hm => hT.keep (modOf3 H hm (fun b hb => by simpa using hb))) (fun w'' hm => hd.keep (modOf3 H hm (fun b hb => by simpa using hb))) ht hf ⟨hi.1, h⟩ hx (hA i) (hB n) ⟨fun _ => (hp i).1 hpi, fun _ => rfl⟩) ?_; rintro ⟨Fs2, Ts2, B2⟩ ⟨hZ2, _⟩; dsimp only at hZ2 ⊢)
        | (refine Goal.loud (o := ⟨some 3, _, _, _, _, _⟩) rfl ?_; first | refine Loud.boxA rfl rfl (fun b3 => ?_) | refine Loud.box1 rfl rfl rfl (fun b3 => ?_))
        | (refine Goal.loud (o := ⟨some 22, _, _, _, _, _⟩) rfl ?_; first | refine Loud.boxA rfl rfl (fun b22 => ?_) | refine Loud.box1 rfl rfl rfl (fun b22 => ?_))
        | (apply G.move; exact rfl; exact rfl)
        | (apply G.assign; exact rfl; exact rfl)
        | refine Goal.seq (fun _ _ => ?_)
        | refine Goal.next (by assumption) ?_
        | refine Goal.lnil ?_
        | refine Goal.region ?_
        | refine Goal.skip ?_
        | refine Goal.block ?_
        | refine Goal.exit ?_
        | refine Goal.ret ?_
        | refine Goal.then_exit ?_
        | refine Goal.then_ret ?_
        | refine Goal.inBlock_exit ?_
        | refine Goal.inBlock_normal ?_
        | refine Goal.inBlock_ret ?_
        | refine Goal.inBlock_other rfl ?_
        | (apply Goal.condT; exact rfl)
        | (apply Goal.condF; exact rfl)
        | (refine Goal.condD rfl (fun hc => ?_) (fun hc => ?_) <;> first | (exfalso; omega) | contradiction | skip)
        | refine Goal.condB rfl (fun hc => ?_) (fun hc => ?_)
        | (apply G.fieldAddr; exact rfl; exact rfl; exact T.fld_25_0)
        | (apply G.load; exact rfl; exact rfl; first | exact LoadOK.one T.one_3 0 rfl rfl | exact LoadOK.one T.one_3 1 rfl rfl | exact LoadOK.one T.one_3 2 rfl rfl | exact LoadOK.one T.one_3 3 rfl rfl | exact LoadOK.one T.one_3 4 rfl rfl | exact ag3 T.agg_25 0 rfl rfl rfl rfl | exact ag3 T.agg_25 1 rfl rfl rfl rfl | exact ag3 T.agg_25 2 rfl rfl rfl rfl | exact ag3 T.agg_25 3 rfl rfl rfl rfl | exact ag3 T.agg_25 4 rfl rfl rfl rfl)
        | (apply G.lss; exact rfl; exact rfl; exact rfl)
        | (apply G.neq; exact rfl; exact rfl; exact rfl)
        | (apply G.add; exact rfl; exact rfl; exact rfl; exact IntWalk.i64_in _ (by omega))
        | (refine Goal.quiet rfl (Run.shl1B rfl rfl (by omega)) ?_)
        | (refine Goal.quiet rfl (Run.orB rfl rfl (by first | assumption | exact two_lt (by omega) | exact shr_lt (by assumption)) (by first | assumption | exact two_lt (by omega) | exact shr_lt (by assumption))) ?_))
      refine Goal.again ⟨i + 1, Fs2, Ts2, B2, m ||| 2 ^ i.toNat⟩ ⟨by dsimp only; omega, hZ2, hm2, bits_yes hi.1 hb hpi⟩ (by dsimp only; omega) ⟨rfl, rfl, rfl, rfl, rfl, trivial⟩ (fun _ h => by simpa using h)
  · obtain rfl : i = tp.n := by omega
    repeat' (first
      | (refine Goal.loud (o := ⟨some 38, _, _, _, _, _⟩) rfl ?_; apply Loud.callN; exact rfl; exact rfl; exact rfl; exact rfl; exact T.bod_63; exact (fun w' H => nodes_ok hm w'); rintro ⟨v, A1⟩ hS; dsimp only at hS ⊢; rw [bits_sel (by omega) hb] at hS)
      | (refine Goal.loud (o := ⟨some 3, _, _, _, _, _⟩) rfl ?_; first | refine Loud.boxA rfl rfl (fun b3 => ?_) | refine Loud.box1 rfl rfl rfl (fun b3 => ?_))
      | (refine Goal.loud (o := ⟨some 22, _, _, _, _, _⟩) rfl ?_; first | refine Loud.boxA rfl rfl (fun b22 => ?_) | refine Loud.box1 rfl rfl rfl (fun b22 => ?_))
      | (apply G.move; exact rfl; exact rfl)
      | (apply G.assign; exact rfl; exact rfl)
      | refine Goal.seq (fun _ _ => ?_)
      | refine Goal.next (by assumption) ?_
      | refine Goal.lnil ?_
      | refine Goal.region ?_
      | refine Goal.skip ?_
      | refine Goal.block ?_
      | refine Goal.exit ?_
      | refine Goal.ret ?_
      | refine Goal.then_exit ?_
      | refine Goal.then_ret ?_
      | refine Goal.inBlock_exit ?_
      | refine Goal.inBlock_normal ?_
      | refine Goal.inBlock_ret ?_
      | refine Goal.inBlock_other rfl ?_
      | (apply Goal.condT; exact rfl)
      | (apply Goal.condF; exact rfl)
      | (refine Goal.condD rfl (fun hc => ?_) (fun hc => ?_) <;> first | (exfalso; omega) | contradiction | skip)
      | refine Goal.condB rfl (fun hc => ?_) (fun hc => ?_)
      | (apply G.fieldAddr; exact rfl; exact rfl; exact T.fld_25_0)
      | (apply G.load; exact rfl; exact rfl; first | exact LoadOK.one T.one_3 0 rfl rfl | exact LoadOK.one T.one_3 1 rfl rfl | exact LoadOK.one T.one_3 2 rfl rfl | exact LoadOK.one T.one_3 3 rfl rfl | exact LoadOK.one T.one_3 4 rfl rfl | exact ag3 T.agg_25 0 rfl rfl rfl rfl | exact ag3 T.agg_25 1 rfl rfl rfl rfl | exact ag3 T.agg_25 2 rfl rfl rfl rfl | exact ag3 T.agg_25 3 rfl rfl rfl rfl | exact ag3 T.agg_25 4 rfl rfl rfl rfl)
      | (apply G.lss; exact rfl; exact rfl; exact rfl)
      | (apply G.neq; exact rfl; exact rfl; exact rfl)
      | (apply G.add; exact rfl; exact rfl; exact rfl; exact IntWalk.i64_in _ (by omega))
      | (refine Goal.quiet rfl (Run.shl1B rfl rfl (by omega)) ?_)
      | (refine Goal.quiet rfl (Run.orB rfl rfl (by first | assumption | exact two_lt (by omega) | exact shr_lt (by assumption)) (by first | assumption | exact two_lt (by omega) | exact shr_lt (by assumption))) ?_))
    refine Goal.done (vs := [_, _]) (by first | exact .inl rfl | exact .inr rfl) Try.results39 ⟨rfl, rfl, trivial⟩ rfl (fun w' H => ⟨⟨v, A1⟩, hS, rfl, H.sub (List.sublist_append_right _ _)⟩)
theorem puses_bad (hT : TopR w vo vl tp) (hd : RdV w vd (bools dn)) (hl : tp.ls.length ≤ 1048576) (hov : tp.ov.length ≤ 140737488355328) (hc : ¬ (chk tp dn [x] = 0 ∧ chk tp dn [y] = 0)) : Calls Try.prog 42 #[.agg #[.int .i64 tp.n, vo, vl], vd, .int .i64 x, .int .i64 y] w fun e w' => e = .returned (.bool false) ∧ Mod [] w w' := by
  have hb1 := fun w' (hT : TopR w' vo vl tp) (hd : RdV w' vd (bools dn)) => check26_ok (n := x) hT hd hl hov
  have hb2 := fun w' (hT : TopR w' vo vl tp) (hd : RdV w' vd (bools dn)) => check26_ok (n := y) hT hd hl hov
  generalize chk tp dn [x] = k at hb1 hc
  generalize chk tp dn [y] = k2 at hb2 hc
  refine Goal.enter (args := [.agg #[.int .i64 tp.n, vo, vl], vd, .int .i64 x, .int .i64 y]) Try.func42 rfl Try.ntmps42 rfl (St.nil w) ?_
  repeat' (first
    | (refine Goal.loud (o := ⟨some 13, _, _, _, _, _⟩) rfl ?_; apply Loud.call0; exact rfl; exact rfl; exact rfl; exact rfl; exact T.bod_58; exact (fun w' H => hb1 w' (hT.keep H.mod) (hd.keep H.mod)))
    | (refine Goal.loud (o := ⟨some 19, _, _, _, _, _⟩) rfl ?_; apply Loud.call0; exact rfl; exact rfl; exact rfl; exact rfl; exact T.bod_58; exact (fun w' H => hb2 w' (hT.keep H.mod) (hd.keep H.mod)))
    | (refine Goal.loud (o := ⟨some 4, _, _, _, _, _⟩) rfl ?_; first | refine Loud.boxA rfl rfl (fun b4 => ?_) | refine Loud.box1 rfl rfl rfl (fun b4 => ?_))
    | (refine Goal.loud (o := ⟨some 25, _, _, _, _, _⟩) rfl ?_; first | refine Loud.boxA rfl rfl (fun b25 => ?_) | refine Loud.box1 rfl rfl rfl (fun b25 => ?_))
    | (apply G.move; exact rfl; exact rfl)
    | (apply G.assign; exact rfl; exact rfl)
    | refine Goal.seq (fun _ _ => ?_)
    | refine Goal.next (by assumption) ?_
    | refine Goal.lnil ?_
    | refine Goal.region ?_
    | refine Goal.skip ?_
    | refine Goal.block ?_
    | refine Goal.exit ?_
    | refine Goal.ret ?_
    | refine Goal.then_exit ?_
    | refine Goal.then_ret ?_
    | refine Goal.inBlock_exit ?_
    | refine Goal.inBlock_normal ?_
    | refine Goal.inBlock_ret ?_
    | refine Goal.inBlock_other rfl ?_
    | (apply Goal.condT; exact rfl)
    | (apply Goal.condF; exact rfl)
    | (refine Goal.condD rfl (fun hc => ?_) (fun hc => ?_) <;> first | (exfalso; omega) | contradiction | skip)
    | refine Goal.condB rfl (fun hc => ?_) (fun hc => ?_)
    | refine Goal.guardT rfl rfl ?_
    | refine Goal.guardF rfl rfl rfl rfl ?_
    | refine Goal.guardU rfl rfl rfl ?_
    | (refine Goal.guardD rfl rfl (fun hc => ?_) (fun hc => ?_) <;> first | (exfalso; omega) | contradiction | skip)
    | refine Goal.guardB rfl rfl (fun hc => ?_) (fun hc => ?_)
    | (apply G.fieldAddr; exact rfl; exact rfl; exact T.fld_64_2)
    | (apply G.load; exact rfl; exact rfl; first | exact LoadOK.one (by first | exact T.one_3 | exact T.one_30) 0 rfl rfl | exact LoadOK.one (by first | exact T.one_3 | exact T.one_30) 1 rfl rfl | exact LoadOK.one (by first | exact T.one_3 | exact T.one_30) 2 rfl rfl | exact LoadOK.one (by first | exact T.one_3 | exact T.one_30) 3 rfl rfl | exact LoadOK.one (by first | exact T.one_3 | exact T.one_30) 4 rfl rfl | exact ag3 T.agg_25 0 rfl rfl rfl rfl | exact ag3 T.agg_25 1 rfl rfl rfl rfl | exact ag3 T.agg_25 2 rfl rfl rfl rfl | exact ag3 T.agg_25 3 rfl rfl rfl rfl | exact ag3 T.agg_25 4 rfl rfl rfl rfl)
    | (apply G.pickT; exact rfl; exact rfl; exact rfl)
    | (apply G.pickF; exact rfl; exact rfl; exact rfl)
    | (apply G.geq; exact rfl; exact rfl; exact rfl)
    | (apply G.neq; exact rfl; exact rfl; exact rfl)
    | (apply G.notT; exact rfl; exact rfl)
    | (apply G.notF; exact rfl; exact rfl)
    | (refine G.notD rfl rfl ?_)
    | (apply G.notB; exact rfl; exact rfl)
    | (apply G.nilCheckP; exact rfl; exact rfl)
    | (refine G.indexAddr1 rfl T.slc_30 (by first | exact T.sz_3 | exact T.sz_30) rfl rfl _ rfl (by omega) ?_)
    | (refine G.indexAddr1 rfl T.slc_30 (by first | exact T.sz_3 | exact T.sz_30) rfl rfl _ (Int.toNat_of_nonneg (by omega)).symm (by omega) ?_)
    | (refine G.indexAddrA rfl T.arr_62 (by first | exact T.sz_3 | exact T.sz_30) rfl rfl _ rfl (by omega) ?_)
    | (refine G.indexAddrA rfl T.arr_62 (by first | exact T.sz_3 | exact T.sz_30) rfl rfl _ (Int.toNat_of_nonneg (by omega)).symm (by omega) ?_))
  all_goals
    refine Goal.done (vs := [_]) (by first | exact .inl rfl | exact .inr rfl) Try.results42 ⟨rfl, trivial⟩ rfl (fun w' H => ⟨rfl, H.mod⟩)
set_option maxHeartbeats 8000000 in
theorem puses_ok (hT : TopR w vo vl tp) (hd : RdV w vd (bools dn)) (ht : tp.Ok) (hf : Fit tp dn) (hx : 0 ≤ x ∧ x < tp.n) (hy : 0 ≤ y ∧ y < tp.n) {Ax By : Int → Int} (hA : Bell tp.n x (GF tp [] x) Ax) (hB : Bell tp.n y (GD tp [] y) By) {r : Bool} (hr : r = true ↔ UsesP tp dn Ax By x y) :
    Calls Try.prog 42 #[.agg #[.int .i64 tp.n, vo, vl], vd, .int .i64 x, .int .i64 y] w fun e w' => e = .returned (.bool r) ∧ Mod [] w w' := by
  have hn := ht.n
  have hln := ht.ln
  have hovl := ht.ov
  obtain ⟨ad, cd, rfl⟩ := shapeB hd
  obtain ⟨q, hq⟩ := pred_of (fun _ => FreeP tp dn Ax By x y)
  replace hq := hq 0
  generalize q 0 = fr at hq
  refine Goal.enter (args := [.agg #[.int .i64 tp.n, vo, vl], .slice ad dn.length cd, .int .i64 x, .int .i64 y]) Try.func42 rfl Try.ntmps42 rfl (St.nil w) ?_
  cases fr
  · skip
    repeat' (first
      | (refine Goal.loud (o := ⟨some 13, _, _, _, _, _⟩) rfl ?_; apply Loud.call0; exact rfl; exact rfl; exact rfl; exact rfl; exact T.bod_58; exact (fun w' H => check26_ok (n := x) (hT.keep H.mod) (hd.keep H.mod) (by omega) (by omega)); rw [chk_ok ht hf hx])
      | (refine Goal.loud (o := ⟨some 19, _, _, _, _, _⟩) rfl ?_; apply Loud.call0; exact rfl; exact rfl; exact rfl; exact rfl; exact T.bod_58; exact (fun w' H => check26_ok (n := y) (hT.keep H.mod) (hd.keep H.mod) (by omega) (by omega)); rw [chk_ok ht hf hy])
      | (refine Goal.loud (o := ⟨some 29, _, _, _, _, _⟩) rfl ?_; refine Loud.call (SS := [b25]) (A := [(b25, .cells (zc tp vo vl (.slice ad dn.length cd) noneL noneL).toArray 64)]) (R := [(b4, .cells #[.int .i64 tp.n, vo, vl] 25)]) (fst := []) (cap := #[]) (vs := [_, _, _]) rfl rfl rfl rfl T.bod_62 (fun _ h => h) (by simp [keys]) (fun w' H => free_ok (r := false) (zi_none tp) (St.start H.left.own H.left.nd (fun _ h => h)) (fun w'' hm => hT.keep (H.modOf hm (by simp [keys]))) (fun w'' hm => hd.keep (H.modOf hm (by simp [keys]))) ht hf hx hy hA hB hq) ?_; rintro ⟨Fs, Ts, B⟩ ⟨hZ, bf, f, hf2⟩; dsimp only at hZ hf2 ⊢; obtain ⟨hfd, hmf⟩ := hZ.f _ _ _ hf2; rw [Int.toNat_of_nonneg hx.1] at hfd; have hfl := hfd.len; have hcf : (zc tp vo vl (.slice ad dn.length cd) Fs Ts).toArray.toList[0 + 4 + x.toNat * 1]? = some (.slice (some ⟨bf, 0, none⟩) f.length f.length) := zc_from hf2 (by omega))
      | (refine Goal.loud (o := ⟨some 4, _, _, _, _, _⟩) rfl ?_; first | refine Loud.boxA rfl rfl (fun b4 => ?_) | refine Loud.box1 rfl rfl rfl (fun b4 => ?_))
      | (refine Goal.loud (o := ⟨some 25, _, _, _, _, _⟩) rfl ?_; first | refine Loud.boxA rfl rfl (fun b25 => ?_) | refine Loud.box1 rfl rfl rfl (fun b25 => ?_))
      | (refine Goal.quiet rfl (Run.build (cs := zc tp vo vl (.slice ad dn.length cd) noneL noneL) lay_tester rfl (by kernel_rfl)) ?_)
      | (apply G.move; exact rfl; exact rfl)
      | (apply G.assign; exact rfl; exact rfl)
      | refine Goal.seq (fun _ _ => ?_)
      | refine Goal.next (by assumption) ?_
      | refine Goal.lnil ?_
      | refine Goal.region ?_
      | refine Goal.skip ?_
      | refine Goal.block ?_
      | refine Goal.exit ?_
      | refine Goal.ret ?_
      | refine Goal.then_exit ?_
      | refine Goal.then_ret ?_
      | refine Goal.inBlock_exit ?_
      | refine Goal.inBlock_normal ?_
      | refine Goal.inBlock_ret ?_
      | refine Goal.inBlock_other rfl ?_
      | (apply Goal.condT; exact rfl)
      | (apply Goal.condF; exact rfl)
      | (refine Goal.condD rfl (fun hc => ?_) (fun hc => ?_) <;> first | (exfalso; omega) | contradiction | skip)
      | refine Goal.condB rfl (fun hc => ?_) (fun hc => ?_)
      | refine Goal.guardT rfl rfl ?_
      | refine Goal.guardF rfl rfl rfl rfl ?_
      | refine Goal.guardU rfl rfl rfl ?_
      | (refine Goal.guardD rfl rfl (fun hc => ?_) (fun hc => ?_) <;> first | (exfalso; omega) | contradiction | skip)
      | refine Goal.guardB rfl rfl (fun hc => ?_) (fun hc => ?_)
      | (apply G.fieldAddr; exact rfl; exact rfl; exact T.fld_64_2)
      | (apply G.load; exact rfl; exact rfl; first | exact LoadOK.one T.one_30 0 rfl hcf | exact LoadOK.iaM (b := bf) (l := f) (E := 3) (i := y) (x := ia f y) T.one_3 (by simp [hmf]) (by omega) rfl | exact LoadOK.one (by first | exact T.one_3 | exact T.one_30) 0 rfl rfl | exact LoadOK.one (by first | exact T.one_3 | exact T.one_30) 1 rfl rfl | exact LoadOK.one (by first | exact T.one_3 | exact T.one_30) 2 rfl rfl | exact LoadOK.one (by first | exact T.one_3 | exact T.one_30) 3 rfl rfl | exact LoadOK.one (by first | exact T.one_3 | exact T.one_30) 4 rfl rfl | exact ag3 T.agg_25 0 rfl rfl rfl rfl | exact ag3 T.agg_25 1 rfl rfl rfl rfl | exact ag3 T.agg_25 2 rfl rfl rfl rfl | exact ag3 T.agg_25 3 rfl rfl rfl rfl | exact ag3 T.agg_25 4 rfl rfl rfl rfl)
      | (apply G.pickT; exact rfl; exact rfl; exact rfl)
      | (apply G.pickF; exact rfl; exact rfl; exact rfl)
      | (apply G.geq; exact rfl; exact rfl; exact rfl)
      | (apply G.neq; exact rfl; exact rfl; exact rfl)
      | (apply G.notT; exact rfl; exact rfl)
      | (apply G.notF; exact rfl; exact rfl)
      | (refine G.notD rfl rfl ?_)
      | (apply G.notB; exact rfl; exact rfl)
      | (apply G.nilCheckP; exact rfl; exact rfl)
      | (refine G.indexAddr1 rfl T.slc_30 (by first | exact T.sz_3 | exact T.sz_30) rfl rfl _ rfl (by omega) ?_)
      | (refine G.indexAddr1 rfl T.slc_30 (by first | exact T.sz_3 | exact T.sz_30) rfl rfl _ (Int.toNat_of_nonneg (by omega)).symm (by omega) ?_)
      | (refine G.indexAddrA rfl T.arr_62 (by first | exact T.sz_3 | exact T.sz_30) rfl rfl _ rfl (by omega) ?_)
      | (refine G.indexAddrA rfl T.arr_62 (by first | exact T.sz_3 | exact T.sz_30) rfl rfl _ (Int.toNat_of_nonneg (by omega)).symm (by omega) ?_))
    have hAy := Bell.one (GF.ok ht) hA hfd.bell y hy.1 hy.2
    have hre : r = decide (0 ≤ ia f y) := by
      rw [← hAy]
      refine Bool.eq_iff_iff.2 (hr.trans ⟨fun h => decide_eq_true (UsesP.pos ht h), fun h => ?_⟩)
      refine Classical.byContradiction fun hu => ?_
      have := hq.2 ⟨of_decide_eq_true h, hu⟩
      cases this
    refine Goal.done (vs := [_]) (by first | exact .inl rfl | exact .inr rfl) Try.results42 ⟨rfl, trivial⟩ rfl (fun w' H => ⟨by rw [hre], H.mod⟩)
  · have hrf : r = false := by
      cases r with
      | false => rfl
      | true => exact absurd (hr.1 rfl) (hq.1 rfl).2
    repeat' (first
      | (refine Goal.loud (o := ⟨some 13, _, _, _, _, _⟩) rfl ?_; apply Loud.call0; exact rfl; exact rfl; exact rfl; exact rfl; exact T.bod_58; exact (fun w' H => check26_ok (n := x) (hT.keep H.mod) (hd.keep H.mod) (by omega) (by omega)); rw [chk_ok ht hf hx])
      | (refine Goal.loud (o := ⟨some 19, _, _, _, _, _⟩) rfl ?_; apply Loud.call0; exact rfl; exact rfl; exact rfl; exact rfl; exact T.bod_58; exact (fun w' H => check26_ok (n := y) (hT.keep H.mod) (hd.keep H.mod) (by omega) (by omega)); rw [chk_ok ht hf hy])
      | (refine Goal.loud (o := ⟨some 29, _, _, _, _, _⟩) rfl ?_; refine Loud.call (SS := [b25]) (A := [(b25, .cells (zc tp vo vl (.slice ad dn.length cd) noneL noneL).toArray 64)]) (R := [(b4, .cells #[.int .i64 tp.n, vo, vl] 25)]) (fst := []) (cap := #[]) (vs := [_, _, _]) rfl rfl rfl rfl T.bod_62 (fun _ h => h) (by simp [keys]) (fun w' H => free_ok (r := true) (zi_none tp) (St.start H.left.own H.left.nd (fun _ h => h)) (fun w'' hm => hT.keep (H.modOf hm (by simp [keys]))) (fun w'' hm => hd.keep (H.modOf hm (by simp [keys]))) ht hf hx hy hA hB hq) ?_; rintro ⟨Fs, Ts, B⟩ ⟨hZ, bf, f, hf2⟩; dsimp only at hZ hf2 ⊢)
      | (refine Goal.loud (o := ⟨some 4, _, _, _, _, _⟩) rfl ?_; first | refine Loud.boxA rfl rfl (fun b4 => ?_) | refine Loud.box1 rfl rfl rfl (fun b4 => ?_))
      | (refine Goal.loud (o := ⟨some 25, _, _, _, _, _⟩) rfl ?_; first | refine Loud.boxA rfl rfl (fun b25 => ?_) | refine Loud.box1 rfl rfl rfl (fun b25 => ?_))
      | (refine Goal.quiet rfl (Run.build (cs := zc tp vo vl (.slice ad dn.length cd) noneL noneL) lay_tester rfl (by kernel_rfl)) ?_)
      | (apply G.move; exact rfl; exact rfl)
      | (apply G.assign; exact rfl; exact rfl)
      | refine Goal.seq (fun _ _ => ?_)
      | refine Goal.next (by assumption) ?_
      | refine Goal.lnil ?_
      | refine Goal.region ?_
      | refine Goal.skip ?_
      | refine Goal.block ?_
      | refine Goal.exit ?_
      | refine Goal.ret ?_
      | refine Goal.then_exit ?_
      | refine Goal.then_ret ?_
      | refine Goal.inBlock_exit ?_
      | refine Goal.inBlock_normal ?_
      | refine Goal.inBlock_ret ?_
      | refine Goal.inBlock_other rfl ?_
      | (apply Goal.condT; exact rfl)
      | (apply Goal.condF; exact rfl)
      | (refine Goal.condD rfl (fun hc => ?_) (fun hc => ?_) <;> first | (exfalso; omega) | contradiction | skip)
      | refine Goal.condB rfl (fun hc => ?_) (fun hc => ?_)
      | refine Goal.guardT rfl rfl ?_
      | refine Goal.guardF rfl rfl rfl rfl ?_
      | refine Goal.guardU rfl rfl rfl ?_
      | (refine Goal.guardD rfl rfl (fun hc => ?_) (fun hc => ?_) <;> first | (exfalso; omega) | contradiction | skip)
      | refine Goal.guardB rfl rfl (fun hc => ?_) (fun hc => ?_)
      | (apply G.fieldAddr; exact rfl; exact rfl; exact T.fld_64_2)
      | (apply G.load; exact rfl; exact rfl; first | exact LoadOK.one (by first | exact T.one_3 | exact T.one_30) 0 rfl rfl | exact LoadOK.one (by first | exact T.one_3 | exact T.one_30) 1 rfl rfl | exact LoadOK.one (by first | exact T.one_3 | exact T.one_30) 2 rfl rfl | exact LoadOK.one (by first | exact T.one_3 | exact T.one_30) 3 rfl rfl | exact LoadOK.one (by first | exact T.one_3 | exact T.one_30) 4 rfl rfl | exact ag3 T.agg_25 0 rfl rfl rfl rfl | exact ag3 T.agg_25 1 rfl rfl rfl rfl | exact ag3 T.agg_25 2 rfl rfl rfl rfl | exact ag3 T.agg_25 3 rfl rfl rfl rfl | exact ag3 T.agg_25 4 rfl rfl rfl rfl)
      | (apply G.pickT; exact rfl; exact rfl; exact rfl)
      | (apply G.pickF; exact rfl; exact rfl; exact rfl)
      | (apply G.geq; exact rfl; exact rfl; exact rfl)
      | (apply G.neq; exact rfl; exact rfl; exact rfl)
      | (apply G.notT; exact rfl; exact rfl)
      | (apply G.notF; exact rfl; exact rfl)
      | (refine G.notD rfl rfl ?_)
      | (apply G.notB; exact rfl; exact rfl)
      | (apply G.nilCheckP; exact rfl; exact rfl)
      | (refine G.indexAddr1 rfl T.slc_30 (by first | exact T.sz_3 | exact T.sz_30) rfl rfl _ rfl (by omega) ?_)
      | (refine G.indexAddr1 rfl T.slc_30 (by first | exact T.sz_3 | exact T.sz_30) rfl rfl _ (Int.toNat_of_nonneg (by omega)).symm (by omega) ?_)
      | (refine G.indexAddrA rfl T.arr_62 (by first | exact T.sz_3 | exact T.sz_30) rfl rfl _ rfl (by omega) ?_)
      | (refine G.indexAddrA rfl T.arr_62 (by first | exact T.sz_3 | exact T.sz_30) rfl rfl _ (Int.toNat_of_nonneg (by omega)).symm (by omega) ?_))
    refine Goal.done (vs := [_]) (by first | exact .inl rfl | exact .inr rfl) Try.results42 ⟨rfl, trivial⟩ rfl (fun w' H => ⟨by rw [hrf], H.mod⟩)
end
end Go.Proofs.Ytldoplehchngfaa
