/- Package pq: around, PSpace, QSpace, Uses. -/
import Derived.Test.YtldoplehchngfaaPqB
namespace Go.Proofs.Ytldoplehchngfaa
open Go.Wf
set_option linter.unusedVariables false
theorem bits_yes {m : Nat} {i : Int} {p : Int → Bool} (hi : 0 ≤ i) (hb : ∀ k : Nat, m.testBit k = (decide ((k : Int) < i) && p k)) (hp : p i = true) : ∀ k : Nat, (m ||| 2 ^ i.toNat).testBit k = (decide ((k : Int) < i + 1) && p k) := fun k => by
  rw [bit_or_two, hb k]
  by_cases e : i.toNat = k
  · have : (k : Int) = i := by omega
    rw [this, hp, decide_eq_true e, decide_eq_true (by omega : i < i + 1)]
    simp
  · rw [decide_eq_false e, Bool.or_false]
    congr 1
    exact decide_eq_decide.2 (by omega)
theorem bits_no {m : Nat} {i : Int} {p : Int → Bool} (hi : 0 ≤ i) (hb : ∀ k : Nat, m.testBit k = (decide ((k : Int) < i) && p k)) (hp : p i = false) : ∀ k : Nat, m.testBit k = (decide ((k : Int) < i + 1) && p k) := fun k => by
  rw [hb k]
  by_cases e : (k : Int) = i
  · rw [e, hp, Bool.and_false, Bool.and_false]
  · congr 1
    exact decide_eq_decide.2 (by omega)
theorem bits_sel {m : Nat} {n : Int} {p : Int → Bool} (hn : 0 ≤ n ∧ n ≤ 64) (hb : ∀ k : Nat, m.testBit k = (decide ((k : Int) < n) && p k)) : (selL 64 fun k => m.testBit k.toNat) = selL n.toNat p :=
  selL_ext (by omega) (fun k k0 k1 => by rw [hb, Int.toNat_of_nonneg k0, decide_eq_true (by omega), Bool.true_and]) (fun k k0 k1 => by rw [hb, Int.toNat_of_nonneg (by omega), decide_eq_false (by omega), Bool.false_and])
section
variable {w : World} {tp : Top} {vo vl vd : Value} {dn : List Bool} {n x y : Int} {A Bq : Int → Int → Int} {p : Int → Bool}
set_option maxHeartbeats 8000000 in
theorem around_ok {Fs Ts : List (Option (Nat × List Int))} {B : List Blk} {bz : Nat} {S : List Nat} (hZ : ZI tp Fs Ts B) (H0 : St w S w ((bz, .cells (zc tp vo vl vd Fs Ts).toArray 64) :: B)) (hT : ∀ w', Mod S w w' → TopR w' vo vl tp) (hd : ∀ w', Mod S w w' → RdV w' vd (bools dn)) (ht : tp.Ok) (hfit : Fit tp dn) (hx : 0 ≤ n ∧ n < tp.n)
    (hA : ∀ x, Bell tp.n x (GF tp [] x) (A x)) (hB : ∀ y, Bell tp.n y (GD tp [] y) (Bq y)) (hp : ∀ k, p k = true ↔ FreeP tp dn (A n) (Bq k) n k) :
    Calls Try.prog 67 #[.pointer (some ⟨bz, 0, none⟩), .int .i64 n] w fun e w' => ∃ s : ZA, (ZI tp s.Fs s.Ts s.B ∧ s.m < 18446744073709551616 ∧ ∀ k : Nat, s.m.testBit k = (decide ((k : Int) < tp.n) && p k)) ∧ e = .returned (.int .u64 (s.m : Int)) ∧ St w S w' ((bz, .cells (zc tp vo vl vd s.Fs s.Ts).toArray 64) :: s.B) := by
  have hn := ht.n
  refine Goal.enter (args := [.pointer (some ⟨bz, 0, none⟩), .int .i64 n]) Try.func67 rfl Try.ntmps67 rfl (H0) ?_
  repeat' (first
    | (apply G.move; exact rfl; exact rfl)
    | (apply G.assign; exact rfl; exact rfl)
    | refine Goal.seq (fun _ _ => ?_)
    | refine Goal.next (by assumption) ?_
    | refine Goal.lnil ?_
    | refine Goal.region ?_
    | refine Goal.skip ?_
    | refine Goal.block ?_
    | refine Goal.exit ?_
    | refine Goal.ret ?_
    | refine Goal.then_exit ?_
    | refine Goal.then_ret ?_
    | refine Goal.inBlock_exit ?_
    | refine Goal.inBlock_normal ?_
    | refine Goal.inBlock_ret ?_
    | refine Goal.inBlock_other rfl ?_
    | (apply Goal.condT; exact rfl)
    | (apply Goal.condF; exact rfl)
    | (refine Goal.condD rfl (fun hc => ?_) (fun hc => ?_) <;> first | (exfalso; omega) | contradiction | skip)
    | refine Goal.condB rfl (fun hc => ?_) (fun hc => ?_)
    | (apply G.fieldAddr; exact rfl; exact rfl; (first | exact T.fld_25_0 | exact T.fld_64_0))
    | (apply G.load; exact rfl; exact rfl; first | exact LoadOK.one T.one_3 0 rfl rfl | exact LoadOK.one T.one_3 1 rfl rfl | exact LoadOK.one T.one_3 2 rfl rfl | exact LoadOK.one T.one_3 3 rfl rfl | exact LoadOK.one T.one_3 4 rfl rfl)
    | (apply G.lss; exact rfl; exact rfl; exact rfl)
    | (apply G.add; exact rfl; exact rfl; exact rfl; exact IntWalk.i64_in _ (by omega))
    | (refine Goal.quiet rfl (Run.shl1B rfl rfl (by omega)) ?_)
    | (refine Goal.quiet rfl (Run.orB rfl rfl (by first | assumption | exact two_lt (by omega) | exact shr_lt (by assumption)) (by first | assumption | exact two_lt (by omega) | exact shr_lt (by assumption))) ?_)
    | (apply G.nilCheckP; exact rfl; exact rfl))
  refine Goal.loopP (X := ZL) (fun s => [(0, .pointer (some ⟨bz, 0, none⟩)), (1, .int .i64 n), (5, .int .u64 (s.m : Int)), (11, .int .i64 tp.n), (12, .int .i64 s.i)]) (fun s => (bz, .cells (zc tp vo vl vd s.Fs s.Ts).toArray 64) :: s.B)
    (fun s => (0 ≤ s.i ∧ s.i ≤ tp.n) ∧ ZI tp s.Fs s.Ts s.B ∧ s.m < 18446744073709551616 ∧ ∀ k : Nat, s.m.testBit k = (decide ((k : Int) < s.i) && p k)) (fun s => (tp.n - s.i).toNat) ⟨0, Fs, Ts, B, 0⟩ ⟨rfl, rfl, rfl, rfl, rfl, trivial⟩ (fun _ h => h) ⟨by dsimp only; omega, hZ, by dsimp only; decide, fun k => by dsimp only; rw [Nat.zero_testBit, decide_eq_false (by omega), Bool.false_and]⟩ ?_
  clear hZ H0 Fs Ts B
  rintro ⟨i, Fs, Ts, B, m⟩ ⟨hi, hZ, hm, hb⟩
  dsimp only at hi hZ hm hb ⊢
  by_cases h : i < tp.n
  · have hm2 := or_lt hm (two_lt (i := i.toNat) (by omega))
    cases hpi : p i
    · skip
      repeat' (first
        | (refine Goal.loud (o := ⟨some 18, _, _, _, _, _⟩) rfl ?_; refine Loud.call (SS := keys ((bz, Obj.cells (zc tp vo vl vd Fs Ts).toArray 64) :: B)) (A := (bz, .cells (zc tp vo vl vd Fs Ts).toArray 64) :: B) (R := []) (fst := []) (cap := #[]) (vs := [_, _, _]) rfl rfl rfl rfl T.bod_62 (fun _ h => by simpa using h) (fun _ h => h) (fun w' H => free_ok (r := false) hZ (St.start H.left.own H.left.nd (fun _ h => h)) (fun w'' hm => hT w'' (modOf3 H hm (fun b hb => by simpa using hb))) (fun w'' hm => hd w'' (modOf3 H hm (fun b hb => by simpa using hb))) ht hfit hx ⟨hi.1, h⟩ (hA n) (hB i) ⟨fun h => (by cases h), fun h => by rw [(hp i).2 h] at hpi; cases hpi⟩) ?_; rintro ⟨Fs2, Ts2, B2⟩ ⟨hZ2, _⟩; dsimp only at hZ2 ⊢)
        | (apply G.move; exact rfl; exact rfl)
        | (apply G.assign; exact rfl; exact rfl)
        | refine Goal.seq (fun _ _ => ?_)
        | refine Goal.next (by assumption) ?_
        | refine Goal.lnil ?_
        | refine Goal.region ?_
        | refine Goal.skip ?_
        | refine Goal.block ?_
        | refine Goal.exit ?_
        | refine Goal.ret ?_
        | refine Goal.then_exit ?_
        | refine Goal.then_ret ?_
        | refine Goal.inBlock_exit ?_
        | refine Goal.inBlock_normal ?_
        | refine Goal.inBlock_ret ?_
        | refine Goal.inBlock_other rfl ?_
        | (apply Goal.condT; exact rfl)
        | (apply Goal.condF; exact rfl)
        | (refine Goal.condD rfl (fun hc => ?_) (fun hc => ?_) <;> first | (exfalso; omega) | contradiction | skip)
        | refine Goal.condB rfl (fun hc => ?_) (fun hc => ?_)
        | (apply G.fieldAddr; exact rfl; exact rfl; (first | exact T.fld_25_0 | exact T.fld_64_0))
        | (apply G.load; exact rfl; exact rfl; first | exact LoadOK.one T.one_3 0 rfl rfl | exact LoadOK.one T.one_3 1 rfl rfl | exact LoadOK.one T.one_3 2 rfl rfl | exact LoadOK.one T.one_3 3 rfl rfl | exact LoadOK.one T.one_3 4 rfl rfl)
        | (apply G.lss; exact rfl; exact rfl; exact rfl)
        | (apply G.add; exact rfl; exact rfl; exact rfl; exact IntWalk.i64_in _ (by omega))
        | (refine Goal.quiet rfl (Run.shl1B rfl rfl (by omega)) ?_)
        | (refine Goal.quiet rfl (Run.orB rfl rfl (by first | assumption | exact two_lt (by omega) | exact shr_lt (by assumption)) (by first | assumption | exact two_lt (by omega) | exact shr_lt (by assumption))) ?_)
        | (apply G.nilCheckP; exact rfl; exact rfl))
      refine Goal.again ⟨i + 1, Fs2, Ts2, B2, m⟩ ⟨by dsimp only; omega, hZ2, hm, bits_no hi.1 hb hpi⟩ (by dsimp only; omega) ⟨rfl, rfl, rfl, rfl, rfl, trivial⟩ (fun _ h => by simpa using h)
    · skip
      repeat' (first
        | (refine Goal.loud (o := ⟨some 18, _, _, _, _, _⟩) rfl ?_; refine Loud.call (SS := keys ((bz, Obj.cells (zc tp vo vl vd Fs Ts).toArray 64) :: B)) (A := (bz, .cells (zc tp vo vl vd Fs Ts).toArray 64) :: B) (R := []) (fst := []) (cap := #[]) (vs := [_, _, _]) rfl rfl rfl rfl T.bod_62 (fun _ h => by simpa using h) (fun _ h => h) (fun w' H => free_ok (r := true) hZ (St.start H.left.own H.left.nd (fun _ h => h)) (fun w'' hm => hT w'' (modOf3 H hm (fun b hb => by simpa using hb))) (fun w'' hm => hd w'' (modOf3 H hm (fun b hb => by simpa using hb))) ht hfit hx ⟨hi.1, h⟩ (hA n) (hB i) ⟨fun _ => (hp i).1 hpi, fun _ => rfl⟩) ?_; rintro ⟨Fs2, Ts2, B2⟩ ⟨hZ2, _⟩; dsimp only at hZ2 ⊢)
        | (apply G.move; exact rfl; exact rfl)
        | (apply G.assign; exact rfl; exact rfl)
        | refine Goal.seq (fun _ _ => ?_)
        | refine Goal.next (by assumption) ?_
        | refine Goal.lnil ?_
        | refine Goal.region ?_
        | refine Goal.skip ?_
        | refine Goal.block ?_
        | refine Goal.exit ?_
        | refine Goal.ret ?_
        | refine Goal.then_exit ?_
        | refine Goal.then_ret ?_
        | refine Goal.inBlock_exit ?_
        | refine Goal.inBlock_normal ?_
        | refine Goal.inBlock_ret ?_
        | refine Goal.inBlock_other rfl ?_
        | (apply Goal.condT; exact rfl)
        | (apply Goal.condF; exact rfl)
        | (refine Goal.condD rfl (fun hc => ?_) (fun hc => ?_) <;> first | (exfalso; omega) | contradiction | skip)
        | refine Goal.condB rfl (fun hc => ?_) (fun hc => ?_)
        | (apply G.fieldAddr; exact rfl; exact rfl; (first | exact T.fld_25_0 | exact T.fld_64_0))
        | (apply G.load; exact rfl; exact rfl; first | exact LoadOK.one T.one_3 0 rfl rfl | exact LoadOK.one T.one_3 1 rfl rfl | exact LoadOK.one T.one_3 2 rfl rfl | exact LoadOK.one T.one_3 3 rfl rfl | exact LoadOK.one T.one_3 4 rfl rfl)
        | (apply G.lss; exact rfl; exact rfl; exact rfl)
        | (apply G.add; exact rfl; exact rfl; exact rfl; exact IntWalk.i64_in _ (by omega))
        | (refine Goal.quiet rfl (Run.shl1B rfl rfl (by omega)) ?_)
        | (refine Goal.quiet rfl (Run.orB rfl rfl (by first | assumption | exact two_lt (by omega) | exact shr_lt (by assumption)) (by first | assumption | exact two_lt (by omega) | exact shr_lt (by assumption))) ?_)
        | (apply G.nilCheckP; exact rfl; exact rfl))
      refine Goal.again ⟨i + 1, Fs2, Ts2, B2, m ||| 2 ^ i.toNat⟩ ⟨by dsimp only; omega, hZ2, hm2, bits_yes hi.1 hb hpi⟩ (by dsimp only; omega) ⟨rfl, rfl, rfl, rfl, rfl, trivial⟩ (fun _ h => by simpa using h)
  · obtain rfl : i = tp.n := by omega
    repeat' (first
      | (apply G.move; exact rfl; exact rfl)
      | (apply G.assign; exact rfl; exact rfl)
      | refine Goal.seq (fun _ _ => ?_)
      | refine Goal.next (by assumption) ?_
      | refine Goal.lnil ?_
      | refine Goal.region ?_
      | refine Goal.skip ?_
      | refine Goal.block ?_
      | refine Goal.exit ?_
      | refine Goal.ret ?_
      | refine Goal.then_exit ?_
      | refine Goal.then_ret ?_
      | refine Goal.inBlock_exit ?_
      | refine Goal.inBlock_normal ?_
      | refine Goal.inBlock_ret ?_
      | refine Goal.inBlock_other rfl ?_
      | (apply Goal.condT; exact rfl)
      | (apply Goal.condF; exact rfl)
      | (refine Goal.condD rfl (fun hc => ?_) (fun hc => ?_) <;> first | (exfalso; omega) | contradiction | skip)
      | refine Goal.condB rfl (fun hc => ?_) (fun hc => ?_)
      | (apply G.fieldAddr; exact rfl; exact rfl; (first | exact T.fld_25_0 | exact T.fld_64_0))
      | (apply G.load; exact rfl; exact rfl; first | exact LoadOK.one T.one_3 0 rfl rfl | exact LoadOK.one T.one_3 1 rfl rfl | exact LoadOK.one T.one_3 2 rfl rfl | exact LoadOK.one T.one_3 3 rfl rfl | exact LoadOK.one T.one_3 4 rfl rfl)
      | (apply G.lss; exact rfl; exact rfl; exact rfl)
      | (apply G.add; exact rfl; exact rfl; exact rfl; exact IntWalk.i64_in _ (by omega))
      | (refine Goal.quiet rfl (Run.shl1B rfl rfl (by omega)) ?_)
      | (refine Goal.quiet rfl (Run.orB rfl rfl (by first | assumption | exact two_lt (by omega) | exact shr_lt (by assumption)) (by first | assumption | exact two_lt (by omega) | exact shr_lt (by assumption))) ?_)
      | (apply G.nilCheckP; exact rfl; exact rfl))
    refine Goal.done (vs := [_]) (by first | exact .inl rfl | exact .inr rfl) Try.results67 ⟨rfl, trivial⟩ rfl (fun w' H => ⟨⟨Fs, Ts, B, m⟩, ⟨hZ, hm, hb⟩, rfl, H⟩)
theorem pspace_bad (hT : TopR w vo vl tp) (hd : RdV w vd (bools dn)) (hl : tp.ls.length ≤ 1048576) (hov : tp.ov.length ≤ 140737488355328) (hc : chk tp dn [n] ≠ 0) : Calls Try.prog 33 #[.agg #[.int .i64 tp.n, vo, vl], vd, .int .i64 n] w fun e w' => e = .returned (.tuple #[.slice none 0 0, .int .i64 (chk tp dn [n])]) ∧ Mod [] w w' := by
  have hbad := fun w' (hT : TopR w' vo vl tp) (hd : RdV w' vd (bools dn)) => check26_ok (n := n) hT hd hl hov
  generalize chk tp dn [n] = k at hbad hc
  refine Goal.enter (args := [.agg #[.int .i64 tp.n, vo, vl], vd, .int .i64 n]) Try.func33 rfl Try.ntmps33 rfl (St.nil w) ?_
  repeat' (first
    | (refine Goal.loud (o := ⟨some 13, _, _, _, _, _⟩) rfl ?_; apply Loud.call0; exact rfl; exact rfl; exact rfl; exact rfl; exact T.bod_58; exact (fun w' H => hbad w' (hT.keep H.mod) (hd.keep H.mod)))
    | (refine Goal.loud (o := ⟨some 3, _, _, _, _, _⟩) rfl ?_; first | refine Loud.boxA rfl rfl (fun b3 => ?_) | refine Loud.box1 rfl rfl rfl (fun b3 => ?_))
    | (refine Goal.loud (o := ⟨some 20, _, _, _, _, _⟩) rfl ?_; first | refine Loud.boxA rfl rfl (fun b20 => ?_) | refine Loud.box1 rfl rfl rfl (fun b20 => ?_))
    | (apply G.move; exact rfl; exact rfl)
    | (apply G.assign; exact rfl; exact rfl)
    | refine Goal.seq (fun _ _ => ?_)
    | refine Goal.next (by assumption) ?_
    | refine Goal.lnil ?_
    | refine Goal.region ?_
    | refine Goal.skip ?_
    | refine Goal.block ?_
    | refine Goal.exit ?_
    | refine Goal.ret ?_
    | refine Goal.then_exit ?_
    | refine Goal.then_ret ?_
    | refine Goal.inBlock_exit ?_
    | refine Goal.inBlock_normal ?_
    | refine Goal.inBlock_ret ?_
    | refine Goal.inBlock_other rfl ?_
    | (apply Goal.condT; exact rfl)
    | (apply Goal.condF; exact rfl)
    | (refine Goal.condD rfl (fun hc => ?_) (fun hc => ?_) <;> first | (exfalso; omega) | contradiction | skip)
    | refine Goal.condB rfl (fun hc => ?_) (fun hc => ?_)
    | (apply G.load; exact rfl; exact rfl; first | exact ag3 T.agg_25 0 rfl rfl rfl rfl | exact ag3 T.agg_25 1 rfl rfl rfl rfl | exact ag3 T.agg_25 2 rfl rfl rfl rfl | exact ag3 T.agg_25 3 rfl rfl rfl rfl | exact ag3 T.agg_25 4 rfl rfl rfl rfl)
    | (apply G.neq; exact rfl; exact rfl; exact rfl))
  refine Goal.done (vs := [_, _]) (by first | exact .inl rfl | exact .inr rfl) Try.results33 ⟨rfl, rfl, trivial⟩ rfl (fun w' H => ⟨rfl, H.mod⟩)
theorem qspace_bad (hT : TopR w vo vl tp) (hd : RdV w vd (bools dn)) (hl : tp.ls.length ≤ 1048576) (hov : tp.ov.length ≤ 140737488355328) (hc : chk tp dn [n] ≠ 0) : Calls Try.prog 39 #[.agg #[.int .i64 tp.n, vo, vl], vd, .int .i64 n] w fun e w' => e = .returned (.tuple #[.slice none 0 0, .int .i64 (chk tp dn [n])]) ∧ Mod [] w w' := by
  have hbad := fun w' (hT : TopR w' vo vl tp) (hd : RdV w' vd (bools dn)) => check26_ok (n := n) hT hd hl hov
  generalize chk tp dn [n] = k at hbad hc
  refine Goal.enter (args := [.agg #[.int .i64 tp.n, vo, vl], vd, .int .i64 n]) Try.func39 rfl Try.ntmps39 rfl (St.nil w) ?_
  repeat' (first
    | (refine Goal.loud (o := ⟨some 15, _, _, _, _, _⟩) rfl ?_; apply Loud.call0; exact rfl; exact rfl; exact rfl; exact rfl; exact T.bod_58; exact (fun w' H => hbad w' (hT.keep H.mod) (hd.keep H.mod)))
    | (refine Goal.loud (o := ⟨some 3, _, _, _, _, _⟩) rfl ?_; first | refine Loud.boxA rfl rfl (fun b3 => ?_) | refine Loud.box1 rfl rfl rfl (fun b3 => ?_))
    | (refine Goal.loud (o := ⟨some 22, _, _, _, _, _⟩) rfl ?_; first | refine Loud.boxA rfl rfl (fun b22 => ?_) | refine Loud.box1 rfl rfl rfl (fun b22 => ?_))
    | (apply G.move; exact rfl; exact rfl)
    | (apply G.assign; exact rfl; exact rfl)
    | refine Goal.seq (fun _ _ => ?_)
    | refine Goal.next (by assumption) ?_
    | refine Goal.lnil ?_
    | refine Goal.region ?_
    | refine Goal.skip ?_
    | refine Goal.block ?_
    | refine Goal.exit ?_
    | refine Goal.ret ?_
    | refine Goal.then_exit ?_
    | refine Goal.then_ret ?_
    | refine Goal.inBlock_exit ?_
    | refine Goal.inBlock_normal ?_
    | refine Goal.inBlock_ret ?_
    | refine Goal.inBlock_other rfl ?_
    | (apply Goal.condT; exact rfl)
    | (apply Goal.condF; exact rfl)
    | (refine Goal.condD rfl (fun hc => ?_) (fun hc => ?_) <;> first | (exfalso; omega) | contradiction | skip)
    | refine Goal.condB rfl (fun hc => ?_) (fun hc => ?_)
    | (apply G.fieldAddr; exact rfl; exact rfl; exact T.fld_25_0)
    | (apply G.load; exact rfl; exact rfl; first | exact LoadOK.one T.one_3 0 rfl rfl | exact LoadOK.one T.one_3 1 rfl rfl | exact LoadOK.one T.one_3 2 rfl rfl | exact LoadOK.one T.one_3 3 rfl rfl | exact LoadOK.one T.one_3 4 rfl rfl | exact ag3 T.agg_25 0 rfl rfl rfl rfl | exact ag3 T.agg_25 1 rfl rfl rfl rfl | exact ag3 T.agg_25 2 rfl rfl rfl rfl | exact ag3 T.agg_25 3 rfl rfl rfl rfl | exact ag3 T.agg_25 4 rfl rfl rfl rfl)
    | (apply G.lss; exact rfl; exact rfl; exact rfl)
    | (apply G.neq; exact rfl; exact rfl; exact rfl)
    | (apply G.add; exact rfl; exact rfl; exact rfl; exact IntWalk.i64_in _ (by omega))
    | (refine Goal.quiet rfl (Run.shl1B rfl rfl (by omega)) ?_)
    | (refine Goal.quiet rfl (Run.orB rfl rfl (by first | assumption | exact two_lt (by omega) | exact shr_lt (by assumption)) (by first | assumption | exact two_lt (by omega) | exact shr_lt (by assumption))) ?_))
  refine Goal.done (vs := [_, _]) (by first | exact .inl rfl | exact .inr rfl) Try.results39 ⟨rfl, rfl, trivial⟩ rfl (fun w' H => ⟨rfl, H.mod⟩)
theorem chk_ok {tp : Top} {dn : List Bool} {n : Int} (ht : tp.Ok) (hf : Fit tp dn) (hr : 0 ≤ n ∧ n < tp.n) : chk tp dn [n] = 0 := by
  unfold chk
  rw [if_pos ⟨ht, hf⟩, if_pos (by simpa using hr)]
set_option maxHeartbeats 8000000 in
theorem pspace_ok (hT : TopR w vo vl tp) (hd : RdV w vd (bools dn)) (ht : tp.Ok) (hf : Fit tp dn) (hx : 0 ≤ n ∧ n < tp.n) (hA : ∀ x, Bell tp.n x (GF tp [] x) (A x)) (hB : ∀ y, Bell tp.n y (GD tp [] y) (Bq y)) (hp : ∀ k, p k = true ↔ FreeP tp dn (A n) (Bq k) n k) :
    Calls Try.prog 33 #[.agg #[.int .i64 tp.n, vo, vl], vd, .int .i64 n] w fun e w' => ∃ x : PV, Sl x.v 3 1 (selL tp.n.toNat p).length (ints (selL tp.n.toNat p)) x.A ∧ e = .returned (.tuple #[x.v, .int .i64 0]) ∧ St w [] w' x.A := by
  have hn := ht.n
  have hln := ht.ln
  have hovl := ht.ov
  obtain ⟨ad, cd, rfl⟩ := shapeB hd
  refine Goal.enter (args := [.agg #[.int .i64 tp.n, vo, vl], .slice ad dn.length cd, .int .i64 n]) Try.func33 rfl Try.ntmps33 rfl (St.nil w) ?_
  repeat' (first
    | (refine Goal.loud (o := ⟨some 13, _, _, _, _, _⟩) rfl ?_; apply Loud.call0; exact rfl; exact rfl; exact rfl; exact rfl; exact T.bod_58; exact (fun w' H => check26_ok (n := n) (hT.keep H.mod) (hd.keep H.mod) (by omega) (by omega)); rw [chk_ok ht hf hx])
    | (refine Goal.loud (o := ⟨some 23, _, _, _, _, _⟩) rfl ?_; refine Loud.call (SS := [b20]) (A := [(b20, .cells (zc tp vo vl (.slice ad dn.length cd) noneL noneL).toArray 64)]) (R := [(b3, .cells #[.int .i64 tp.n, vo, vl] 25)]) (fst := []) (cap := #[]) (vs := [_, _]) rfl rfl rfl rfl T.bod_67 (fun _ h => h) (by simp [keys]) (fun w' H => around_ok (zi_none tp) (St.start H.left.own H.left.nd (fun _ h => h)) (fun w'' hm => hT.keep (H.modOf hm (by simp [keys]))) (fun w'' hm => hd.keep (H.modOf hm (by simp [keys]))) ht hf hx hA hB hp) ?_; rintro ⟨Fs, Ts, B, m⟩ ⟨hZ, hm, hb⟩; dsimp only at hZ hm hb ⊢)
    | (refine Goal.loud (o := ⟨some 24, _, _, _, _, _⟩) rfl ?_; apply Loud.callN; exact rfl; exact rfl; exact rfl; exact rfl; exact T.bod_63; exact (fun w' H => nodes_ok hm w'); rintro ⟨v, A1⟩ hS; dsimp only at hS ⊢; rw [bits_sel (by omega) hb] at hS)
    | (refine Goal.loud (o := ⟨some 3, _, _, _, _, _⟩) rfl ?_; first | refine Loud.boxA rfl rfl (fun b3 => ?_) | refine Loud.box1 rfl rfl rfl (fun b3 => ?_))
    | (refine Goal.loud (o := ⟨some 20, _, _, _, _, _⟩) rfl ?_; first | refine Loud.boxA rfl rfl (fun b20 => ?_) | refine Loud.box1 rfl rfl rfl (fun b20 => ?_))
    | (refine Goal.quiet rfl (Run.build (cs := zc tp vo vl (.slice ad dn.length cd) noneL noneL) lay_tester rfl (by kernel_rfl)) ?_)
    | (apply G.move; exact rfl; exact rfl)
    | (apply G.assign; exact rfl; exact rfl)
    | refine Goal.seq (fun _ _ => ?_)
    | refine Goal.next (by assumption) ?_
    | refine Goal.lnil ?_
    | refine Goal.region ?_
    | refine Goal.skip ?_
    | refine Goal.block ?_
    | refine Goal.exit ?_
    | refine Goal.ret ?_
    | refine Goal.then_exit ?_
    | refine Goal.then_ret ?_
    | refine Goal.inBlock_exit ?_
    | refine Goal.inBlock_normal ?_
    | refine Goal.inBlock_ret ?_
    | refine Goal.inBlock_other rfl ?_
    | (apply Goal.condT; exact rfl)
    | (apply Goal.condF; exact rfl)
    | (refine Goal.condD rfl (fun hc => ?_) (fun hc => ?_) <;> first | (exfalso; omega) | contradiction | skip)
    | refine Goal.condB rfl (fun hc => ?_) (fun hc => ?_)
    | (apply G.load; exact rfl; exact rfl; first | exact ag3 T.agg_25 0 rfl rfl rfl rfl | exact ag3 T.agg_25 1 rfl rfl rfl rfl | exact ag3 T.agg_25 2 rfl rfl rfl rfl | exact ag3 T.agg_25 3 rfl rfl rfl rfl | exact ag3 T.agg_25 4 rfl rfl rfl rfl)
    | (apply G.neq; exact rfl; exact rfl; exact rfl))
  refine Goal.done (vs := [_, _]) (by first | exact .inl rfl | exact .inr rfl) Try.results33 ⟨rfl, rfl, trivial⟩ rfl (fun w' H => ⟨⟨v, A1⟩, hS, rfl, H.sub (List.sublist_append_right _ _)⟩)
end
end Go.Proofs.Ytldoplehchngfaa
