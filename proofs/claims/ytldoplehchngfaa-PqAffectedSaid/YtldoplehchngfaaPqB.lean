/- Package graph: Out; package pq: check, nodes, around, PSpace. -/
import Derived.Test.YtldoplehchngfaaPqA
namespace Go.Proofs.Ytldoplehchngfaa
open Go.Wf
set_option linter.unusedVariables false
theorem modOf3 {w0 w w'' : World} {S SS : List Nat} {L : List Blk} (h : St w0 S w L) (hm : Mod SS w w'') (hs : ∀ b ∈ SS, b ∈ keys L) : Mod S w0 w'' := by
  refine ⟨hm.os.trans h.mod.os, hm.tape.trans h.mod.tape, hm.output.trans h.mod.output, Nat.le_trans h.mod.size hm.size, fun k hk hkS => ?_⟩
  rw [hm.keep k (Nat.lt_of_lt_of_le hk h.mod.size), h.mod.keep k hk hkS]
  intro hk2
  rcases h.new k (hs k hk2) with h1 | h1
  · exact hkS h1
  · omega
structure ZA where
  (Fs Ts : List (Option (Nat × List Int))) (B : List Blk) (m : Nat)
structure ZL where
  (i : Int) (Fs Ts : List (Option (Nat × List Int))) (B : List Blk) (m : Nat)
structure NI where
  (i : Int) (v : Value) (A : List Blk)
theorem lay_tester : Lay Try.prog 64 [(0, 3), (3, 1), (4, 64), (68, 64)] ([.int .i64 0, .slice none 0 0, .slice none 0 0, .slice none 0 0] ++ List.replicate 128 (.slice none 0 0)) := ⟨by kernel_rfl⟩
def noneL : List (Option (Nat × List Int)) := List.replicate 64 none
theorem zi_none (tp : Top) : ZI tp noneL noneL [] := by
  refine ⟨rfl, rfl, fun i b l h => ?_, fun i b l h => ?_⟩ <;>
  · unfold noneL at h
    rw [List.getElem?_replicate] at h
    split at h
    · injection h with h; cases h
    · cases h
section
variable {w : World} {tp : Top} {vo vl vd : Value} {dn : List Bool} {n : Int}
theorem check26_ok (hT : TopR w vo vl tp) (hd : RdV w vd (bools dn)) (hl : tp.ls.length ≤ 1048576) (hov : tp.ov.length ≤ 140737488355328) : Calls Try.prog 58 #[.agg #[.int .i64 tp.n, vo, vl], vd, .int .i64 n] w fun e w' => e = .returned (.int .i64 (chk tp dn [n])) ∧ Mod [] w w' := by
  by_cases ht : tp.Ok
  rotate_left
  · rw [show chk tp dn [n] = 1 by unfold chk; rw [if_neg (fun h => ht h.1)]]
    refine Goal.enter (args := [.agg #[.int .i64 tp.n, vo, vl], vd, .int .i64 n]) Try.func58 rfl Try.ntmps58 rfl (St.nil w) ?_
    repeat' (first
      | (refine Goal.loud (o := ⟨some 8, _, _, _, _, _⟩) rfl ?_; apply Loud.call0; exact rfl; exact rfl; exact rfl; exact rfl; exact T.bod_54; exact (fun w' H => valid_ok (hT.keep H.mod) hl hov); rw [decide_eq_false ht])
      | (refine Goal.loud (o := ⟨some 3, _, _, _, _, _⟩) rfl ?_; first | refine Loud.boxA rfl rfl (fun b3 => ?_) | refine Loud.box1 rfl rfl rfl (fun b3 => ?_))
      | (apply G.move; exact rfl; exact rfl)
      | (apply G.assign; exact rfl; exact rfl)
      | refine Goal.seq (fun _ _ => ?_)
      | refine Goal.next (by assumption) ?_
      | refine Goal.lnil ?_
      | refine Goal.region ?_
      | refine Goal.skip ?_
      | refine Goal.block ?_
      | refine Goal.exit ?_
      | refine Goal.ret ?_
      | refine Goal.then_exit ?_
      | refine Goal.then_ret ?_
      | refine Goal.inBlock_exit ?_
      | refine Goal.inBlock_normal ?_
      | refine Goal.inBlock_ret ?_
      | refine Goal.inBlock_other rfl ?_
      | (apply Goal.condT; exact rfl)
      | (apply Goal.condF; exact rfl)
      | (refine Goal.condD rfl (fun hc => ?_) (fun hc => ?_) <;> first | (exfalso; omega) | contradiction | skip)
      | refine Goal.condB rfl (fun hc => ?_) (fun hc => ?_)
      | refine Goal.guardT rfl rfl ?_
      | refine Goal.guardF rfl rfl rfl rfl ?_
      | refine Goal.guardU rfl rfl rfl ?_
      | (refine Goal.guardD rfl rfl (fun hc => ?_) (fun hc => ?_) <;> first | (exfalso; omega) | contradiction | skip)
      | refine Goal.guardB rfl rfl (fun hc => ?_) (fun hc => ?_)
      | (apply G.load; exact rfl; exact rfl; first | exact ag3 T.agg_25 0 rfl rfl rfl rfl | exact ag3 T.agg_25 1 rfl rfl rfl rfl | exact ag3 T.agg_25 2 rfl rfl rfl rfl | exact ag3 T.agg_25 3 rfl rfl rfl rfl | exact ag3 T.agg_25 4 rfl rfl rfl rfl)
      | (apply G.pickT; exact rfl; exact rfl; exact rfl)
      | (apply G.pickF; exact rfl; exact rfl; exact rfl)
      | (apply G.notT; exact rfl; exact rfl)
      | (apply G.notF; exact rfl; exact rfl)
      | (refine G.notD rfl rfl ?_)
      | (apply G.notB; exact rfl; exact rfl))
    refine Goal.done (vs := [_]) (by first | exact .inl rfl | exact .inr rfl) Try.results58 ⟨rfl, trivial⟩ rfl (fun w' H => ⟨rfl, H.mod⟩)
  by_cases hf : Fit tp dn
  rotate_left
  · rw [show chk tp dn [n] = 1 by unfold chk; rw [if_neg (fun h => hf h.2)]]
    refine Goal.enter (args := [.agg #[.int .i64 tp.n, vo, vl], vd, .int .i64 n]) Try.func58 rfl Try.ntmps58 rfl (St.nil w) ?_
    repeat' (first
      | (refine Goal.loud (o := ⟨some 8, _, _, _, _, _⟩) rfl ?_; apply Loud.call0; exact rfl; exact rfl; exact rfl; exact rfl; exact T.bod_54; exact (fun w' H => valid_ok (hT.keep H.mod) hl hov); rw [decide_eq_true ht])
      | (refine Goal.loud (o := ⟨some 13, _, _, _, _, _⟩) rfl ?_; apply Loud.call0; exact rfl; exact rfl; exact rfl; exact rfl; exact T.bod_55; exact (fun w' H => fits_ok (hT.keep H.mod) (hd.keep H.mod) hl); rw [decide_eq_false hf])
      | (refine Goal.loud (o := ⟨some 3, _, _, _, _, _⟩) rfl ?_; first | refine Loud.boxA rfl rfl (fun b3 => ?_) | refine Loud.box1 rfl rfl rfl (fun b3 => ?_))
      | (apply G.move; exact rfl; exact rfl)
      | (apply G.assign; exact rfl; exact rfl)
      | refine Goal.seq (fun _ _ => ?_)
      | refine Goal.next (by assumption) ?_
      | refine Goal.lnil ?_
      | refine Goal.region ?_
      | refine Goal.skip ?_
      | refine Goal.block ?_
      | refine Goal.exit ?_
      | refine Goal.ret ?_
      | refine Goal.then_exit ?_
      | refine Goal.then_ret ?_
      | refine Goal.inBlock_exit ?_
      | refine Goal.inBlock_normal ?_
      | refine Goal.inBlock_ret ?_
      | refine Goal.inBlock_other rfl ?_
      | (apply Goal.condT; exact rfl)
      | (apply Goal.condF; exact rfl)
      | (refine Goal.condD rfl (fun hc => ?_) (fun hc => ?_) <;> first | (exfalso; omega) | contradiction | skip)
      | refine Goal.condB rfl (fun hc => ?_) (fun hc => ?_)
      | refine Goal.guardT rfl rfl ?_
      | refine Goal.guardF rfl rfl rfl rfl ?_
      | refine Goal.guardU rfl rfl rfl ?_
      | (refine Goal.guardD rfl rfl (fun hc => ?_) (fun hc => ?_) <;> first | (exfalso; omega) | contradiction | skip)
      | refine Goal.guardB rfl rfl (fun hc => ?_) (fun hc => ?_)
      | (apply G.load; exact rfl; exact rfl; first | exact ag3 T.agg_25 0 rfl rfl rfl rfl | exact ag3 T.agg_25 1 rfl rfl rfl rfl | exact ag3 T.agg_25 2 rfl rfl rfl rfl | exact ag3 T.agg_25 3 rfl rfl rfl rfl | exact ag3 T.agg_25 4 rfl rfl rfl rfl)
      | (apply G.pickT; exact rfl; exact rfl; exact rfl)
      | (apply G.pickF; exact rfl; exact rfl; exact rfl)
      | (apply G.notT; exact rfl; exact rfl)
      | (apply G.notF; exact rfl; exact rfl)
      | (refine G.notD rfl rfl ?_)
      | (apply G.notB; exact rfl; exact rfl))
    refine Goal.done (vs := [_]) (by first | exact .inl rfl | exact .inr rfl) Try.results58 ⟨rfl, trivial⟩ rfl (fun w' H => ⟨rfl, H.mod⟩)
  by_cases hr : 0 ≤ n ∧ n < tp.n
  · rw [show chk tp dn [n] = 0 by unfold chk; rw [if_pos ⟨ht, hf⟩, if_pos (by simpa using hr)]]
    refine Goal.enter (args := [.agg #[.int .i64 tp.n, vo, vl], vd, .int .i64 n]) Try.func58 rfl Try.ntmps58 rfl (St.nil w) ?_
    repeat' (first
      | (refine Goal.loud (o := ⟨some 8, _, _, _, _, _⟩) rfl ?_; apply Loud.call0; exact rfl; exact rfl; exact rfl; exact rfl; exact T.bod_54; exact (fun w' H => valid_ok (hT.keep H.mod) hl hov); rw [decide_eq_true ht])
      | (refine Goal.loud (o := ⟨some 13, _, _, _, _, _⟩) rfl ?_; apply Loud.call0; exact rfl; exact rfl; exact rfl; exact rfl; exact T.bod_55; exact (fun w' H => fits_ok (hT.keep H.mod) (hd.keep H.mod) hl); rw [decide_eq_true hf])
      | (refine Goal.loud (o := ⟨some 18, _, _, _, _, _⟩) rfl ?_; apply Loud.call0; exact rfl; exact rfl; exact rfl; exact rfl; exact T.bod_56; exact (fun w' H => node_ok n); rw [decide_eq_true hr])
      | (refine Goal.loud (o := ⟨some 3, _, _, _, _, _⟩) rfl ?_; first | refine Loud.boxA rfl rfl (fun b3 => ?_) | refine Loud.box1 rfl rfl rfl (fun b3 => ?_))
      | (apply G.move; exact rfl; exact rfl)
      | (apply G.assign; exact rfl; exact rfl)
      | refine Goal.seq (fun _ _ => ?_)
      | refine Goal.next (by assumption) ?_
      | refine Goal.lnil ?_
      | refine Goal.region ?_
      | refine Goal.skip ?_
      | refine Goal.block ?_
      | refine Goal.exit ?_
      | refine Goal.ret ?_
      | refine Goal.then_exit ?_
      | refine Goal.then_ret ?_
      | refine Goal.inBlock_exit ?_
      | refine Goal.inBlock_normal ?_
      | refine Goal.inBlock_ret ?_
      | refine Goal.inBlock_other rfl ?_
      | (apply Goal.condT; exact rfl)
      | (apply Goal.condF; exact rfl)
      | (refine Goal.condD rfl (fun hc => ?_) (fun hc => ?_) <;> first | (exfalso; omega) | contradiction | skip)
      | refine Goal.condB rfl (fun hc => ?_) (fun hc => ?_)
      | refine Goal.guardT rfl rfl ?_
      | refine Goal.guardF rfl rfl rfl rfl ?_
      | refine Goal.guardU rfl rfl rfl ?_
      | (refine Goal.guardD rfl rfl (fun hc => ?_) (fun hc => ?_) <;> first | (exfalso; omega) | contradiction | skip)
      | refine Goal.guardB rfl rfl (fun hc => ?_) (fun hc => ?_)
      | (apply G.load; exact rfl; exact rfl; first | exact ag3 T.agg_25 0 rfl rfl rfl rfl | exact ag3 T.agg_25 1 rfl rfl rfl rfl | exact ag3 T.agg_25 2 rfl rfl rfl rfl | exact ag3 T.agg_25 3 rfl rfl rfl rfl | exact ag3 T.agg_25 4 rfl rfl rfl rfl)
      | (apply G.pickT; exact rfl; exact rfl; exact rfl)
      | (apply G.pickF; exact rfl; exact rfl; exact rfl)
      | (apply G.notT; exact rfl; exact rfl)
      | (apply G.notF; exact rfl; exact rfl)
      | (refine G.notD rfl rfl ?_)
      | (apply G.notB; exact rfl; exact rfl))
    refine Goal.done (vs := [_]) (by first | exact .inl rfl | exact .inr rfl) Try.results58 ⟨rfl, trivial⟩ rfl (fun w' H => ⟨rfl, H.mod⟩)
  · rw [show chk tp dn [n] = 2 by unfold chk; rw [if_pos ⟨ht, hf⟩, if_neg (fun h => hr (h n (by simp)))]]
    refine Goal.enter (args := [.agg #[.int .i64 tp.n, vo, vl], vd, .int .i64 n]) Try.func58 rfl Try.ntmps58 rfl (St.nil w) ?_
    repeat' (first
      | (refine Goal.loud (o := ⟨some 8, _, _, _, _, _⟩) rfl ?_; apply Loud.call0; exact rfl; exact rfl; exact rfl; exact rfl; exact T.bod_54; exact (fun w' H => valid_ok (hT.keep H.mod) hl hov); rw [decide_eq_true ht])
      | (refine Goal.loud (o := ⟨some 13, _, _, _, _, _⟩) rfl ?_; apply Loud.call0; exact rfl; exact rfl; exact rfl; exact rfl; exact T.bod_55; exact (fun w' H => fits_ok (hT.keep H.mod) (hd.keep H.mod) hl); rw [decide_eq_true hf])
      | (refine Goal.loud (o := ⟨some 18, _, _, _, _, _⟩) rfl ?_; apply Loud.call0; exact rfl; exact rfl; exact rfl; exact rfl; exact T.bod_56; exact (fun w' H => node_ok n); rw [decide_eq_false hr])
      | (refine Goal.loud (o := ⟨some 3, _, _, _, _, _⟩) rfl ?_; first | refine Loud.boxA rfl rfl (fun b3 => ?_) | refine Loud.box1 rfl rfl rfl (fun b3 => ?_))
      | (apply G.move; exact rfl; exact rfl)
      | (apply G.assign; exact rfl; exact rfl)
      | refine Goal.seq (fun _ _ => ?_)
      | refine Goal.next (by assumption) ?_
      | refine Goal.lnil ?_
      | refine Goal.region ?_
      | refine Goal.skip ?_
      | refine Goal.block ?_
      | refine Goal.exit ?_
      | refine Goal.ret ?_
      | refine Goal.then_exit ?_
      | refine Goal.then_ret ?_
      | refine Goal.inBlock_exit ?_
      | refine Goal.inBlock_normal ?_
      | refine Goal.inBlock_ret ?_
      | refine Goal.inBlock_other rfl ?_
      | (apply Goal.condT; exact rfl)
      | (apply Goal.condF; exact rfl)
      | (refine Goal.condD rfl (fun hc => ?_) (fun hc => ?_) <;> first | (exfalso; omega) | contradiction | skip)
      | refine Goal.condB rfl (fun hc => ?_) (fun hc => ?_)
      | refine Goal.guardT rfl rfl ?_
      | refine Goal.guardF rfl rfl rfl rfl ?_
      | refine Goal.guardU rfl rfl rfl ?_
      | (refine Goal.guardD rfl rfl (fun hc => ?_) (fun hc => ?_) <;> first | (exfalso; omega) | contradiction | skip)
      | refine Goal.guardB rfl rfl (fun hc => ?_) (fun hc => ?_)
      | (apply G.load; exact rfl; exact rfl; first | exact ag3 T.agg_25 0 rfl rfl rfl rfl | exact ag3 T.agg_25 1 rfl rfl rfl rfl | exact ag3 T.agg_25 2 rfl rfl rfl rfl | exact ag3 T.agg_25 3 rfl rfl rfl rfl | exact ag3 T.agg_25 4 rfl rfl rfl rfl)
      | (apply G.pickT; exact rfl; exact rfl; exact rfl)
      | (apply G.pickF; exact rfl; exact rfl; exact rfl)
      | (apply G.notT; exact rfl; exact rfl)
      | (apply G.notF; exact rfl; exact rfl)
      | (refine G.notD rfl rfl ?_)
      | (apply G.notB; exact rfl; exact rfl))
    refine Goal.done (vs := [_]) (by first | exact .inl rfl | exact .inr rfl) Try.results58 ⟨rfl, trivial⟩ rfl (fun w' H => ⟨rfl, H.mod⟩)
theorem out_ok (hT : TopR w vo vl tp) (ht : tp.Ok) : Calls Try.prog 60 #[.agg #[.int .i64 tp.n, vo, vl], .int .i64 n] w fun e w' => ∃ x : PV, Sl x.v 3 1 (arcsAt tp.tl tp.arcs.toNat n).length (ints (arcsAt tp.tl tp.arcs.toNat n)) x.A ∧ e = .returned x.v ∧ St w [] w' x.A := by
  have hln := ht.ln
  have har0 : tp.arcs = 2 * (tp.ls.length : Int) := rfl
  refine Goal.enter (args := [.agg #[.int .i64 tp.n, vo, vl], .int .i64 n]) Try.func60 rfl Try.ntmps60 rfl (St.nil w) ?_
  repeat' (first
    | (refine Goal.loud (o := ⟨some 8, _, _, _, _, _⟩) rfl ?_; apply Loud.call0; exact rfl; exact rfl; exact rfl; exact rfl; exact T.bod_59; exact (fun w' H => arcs_ok (hT.keep H.mod) (by omega)))
    | (refine Goal.loud (o := ⟨some 2, _, _, _, _, _⟩) rfl ?_; first | refine Loud.boxA rfl rfl (fun b2 => ?_) | refine Loud.box1 rfl rfl rfl (fun b2 => ?_))
    | (refine Goal.loud (o := ⟨some 19, _, _, _, _, _⟩) rfl ?_; refine Loud.buildSlice (cs := [_]) rfl T.slc_30 T.inf_3 rfl rfl (by decide) rfl rfl rfl (fun b19 => ?_))
    | (apply G.move; exact rfl; exact rfl)
    | (apply G.assign; exact rfl; exact rfl)
    | refine Goal.seq (fun _ _ => ?_)
    | refine Goal.next (by assumption) ?_
    | refine Goal.lnil ?_
    | refine Goal.region ?_
    | refine Goal.skip ?_
    | refine Goal.block ?_
    | refine Goal.exit ?_
    | refine Goal.ret ?_
    | refine Goal.then_exit ?_
    | refine Goal.then_ret ?_
    | refine Goal.inBlock_exit ?_
    | refine Goal.inBlock_normal ?_
    | refine Goal.inBlock_ret ?_
    | refine Goal.inBlock_other rfl ?_
    | (apply Goal.condT; exact rfl)
    | (apply Goal.condF; exact rfl)
    | (refine Goal.condD rfl (fun hc => ?_) (fun hc => ?_) <;> first | (exfalso; omega) | contradiction | skip)
    | refine Goal.condB rfl (fun hc => ?_) (fun hc => ?_)
    | (apply G.load; exact rfl; exact rfl; first | exact ag3 T.agg_25 0 rfl rfl rfl rfl | exact ag3 T.agg_25 1 rfl rfl rfl rfl | exact ag3 T.agg_25 2 rfl rfl rfl rfl | exact ag3 T.agg_25 3 rfl rfl rfl rfl | exact ag3 T.agg_25 4 rfl rfl rfl rfl)
    | (apply G.lss; exact rfl; exact rfl; exact rfl)
    | (apply G.eql; exact rfl; exact rfl; exact rfl)
    | (apply G.add; exact rfl; exact rfl; exact rfl; exact IntWalk.i64_in _ (by omega)))
  refine Goal.loopP (X := NI) (fun x => [(1, .int .i64 n), (2, .pointer (some ⟨b2, 0, none⟩)), (5, x.v), (8, .int .i64 tp.arcs), (9, .int .i64 x.i)]) (fun x => (b2, .cells #[.int .i64 tp.n, vo, vl] 25) :: x.A)
    (fun x => (0 ≤ x.i ∧ x.i ≤ tp.arcs) ∧ Sl x.v 3 1 (arcsAt tp.tl x.i.toNat n).length (ints (arcsAt tp.tl x.i.toNat n)) x.A) (fun x => (tp.arcs - x.i).toNat) ⟨0, .slice none 0 0, []⟩ ⟨rfl, rfl, rfl, rfl, rfl, trivial⟩ (fun _ h => h) ⟨by dsimp only; omega, Sl.nil _ _⟩ ?_
  rintro ⟨i, v, A⟩ ⟨hi, hS⟩
  dsimp only at hi hS ⊢
  obtain ⟨av, cv, rfl⟩ := hS.shape
  have hal := arcsAt_len tp.tl i.toNat n
  by_cases h : i < tp.arcs
  · have hnx : arcsAt tp.tl (i + 1).toNat n = arcsAt tp.tl i.toNat n ++ if tp.tl i = n then [i] else [] := by
      rw [show (i + 1).toNat = i.toNat + 1 by omega, arcsAt_succ, Int.toNat_of_nonneg hi.1]
    by_cases hta : tp.tl i = n
    · rw [if_pos hta] at hnx
      repeat' (first
        | (refine Goal.loud (o := ⟨some 14, _, _, _, _, _⟩) rfl ?_; apply Loud.call0; exact rfl; exact rfl; exact rfl; exact rfl; exact T.bod_76; exact (fun w' H => tail_ok (hT.keep H.mod) ⟨hi.1, h⟩ (by omega)))
        | (refine Goal.loud (o := ⟨some 20, _, _, _, _, _⟩) rfl ?_; refine Loud.appendT rfl T.slc_30 T.inf_3 rfl [_] rfl hS rfl rfl rfl rfl (by omega) (by omega) ?_; intro v2 A2 hA2; obtain ⟨ad2, cap2, rfl⟩ := hA2.shape)
        | (refine Goal.loud (o := ⟨some 2, _, _, _, _, _⟩) rfl ?_; first | refine Loud.boxA rfl rfl (fun b2 => ?_) | refine Loud.box1 rfl rfl rfl (fun b2 => ?_))
        | (refine Goal.loud (o := ⟨some 19, _, _, _, _, _⟩) rfl ?_; refine Loud.buildSlice (cs := [_]) rfl T.slc_30 T.inf_3 rfl rfl (by decide) rfl rfl rfl (fun b19 => ?_))
        | (apply G.move; exact rfl; exact rfl)
        | (apply G.assign; exact rfl; exact rfl)
        | refine Goal.seq (fun _ _ => ?_)
        | refine Goal.next (by assumption) ?_
        | refine Goal.lnil ?_
        | refine Goal.region ?_
        | refine Goal.skip ?_
        | refine Goal.block ?_
        | refine Goal.exit ?_
        | refine Goal.ret ?_
        | refine Goal.then_exit ?_
        | refine Goal.then_ret ?_
        | refine Goal.inBlock_exit ?_
        | refine Goal.inBlock_normal ?_
        | refine Goal.inBlock_ret ?_
        | refine Goal.inBlock_other rfl ?_
        | (apply Goal.condT; exact rfl)
        | (apply Goal.condF; exact rfl)
        | (refine Goal.condD rfl (fun hc => ?_) (fun hc => ?_) <;> first | (exfalso; omega) | contradiction | skip)
        | refine Goal.condB rfl (fun hc => ?_) (fun hc => ?_)
        | (apply G.load; exact rfl; exact rfl; first | exact ag3 T.agg_25 0 rfl rfl rfl rfl | exact ag3 T.agg_25 1 rfl rfl rfl rfl | exact ag3 T.agg_25 2 rfl rfl rfl rfl | exact ag3 T.agg_25 3 rfl rfl rfl rfl | exact ag3 T.agg_25 4 rfl rfl rfl rfl)
        | (apply G.lss; exact rfl; exact rfl; exact rfl)
        | (apply G.eql; exact rfl; exact rfl; exact rfl)
        | (apply G.add; exact rfl; exact rfl; exact rfl; exact IntWalk.i64_in _ (by omega)))
      refine Goal.again ⟨i + 1, _, A2⟩ ⟨by dsimp only; omega, by dsimp only; rw [hnx, List.length_append, show ints (arcsAt tp.tl i.toNat n ++ [i]) = ints (arcsAt tp.tl i.toNat n) ++ [.int .i64 i] by simp [ints]]; exact hA2⟩ (by dsimp only; omega) ⟨rfl, rfl, rfl, rfl, rfl, trivial⟩ (fun _ h => h)
    · rw [if_neg hta, List.append_nil] at hnx
      repeat' (first
        | (refine Goal.loud (o := ⟨some 14, _, _, _, _, _⟩) rfl ?_; apply Loud.call0; exact rfl; exact rfl; exact rfl; exact rfl; exact T.bod_76; exact (fun w' H => tail_ok (hT.keep H.mod) ⟨hi.1, h⟩ (by omega)))
        | (refine Goal.loud (o := ⟨some 2, _, _, _, _, _⟩) rfl ?_; first | refine Loud.boxA rfl rfl (fun b2 => ?_) | refine Loud.box1 rfl rfl rfl (fun b2 => ?_))
        | (refine Goal.loud (o := ⟨some 19, _, _, _, _, _⟩) rfl ?_; refine Loud.buildSlice (cs := [_]) rfl T.slc_30 T.inf_3 rfl rfl (by decide) rfl rfl rfl (fun b19 => ?_))
        | (apply G.move; exact rfl; exact rfl)
        | (apply G.assign; exact rfl; exact rfl)
        | refine Goal.seq (fun _ _ => ?_)
        | refine Goal.next (by assumption) ?_
        | refine Goal.lnil ?_
        | refine Goal.region ?_
        | refine Goal.skip ?_
        | refine Goal.block ?_
        | refine Goal.exit ?_
        | refine Goal.ret ?_
        | refine Goal.then_exit ?_
        | refine Goal.then_ret ?_
        | refine Goal.inBlock_exit ?_
        | refine Goal.inBlock_normal ?_
        | refine Goal.inBlock_ret ?_
        | refine Goal.inBlock_other rfl ?_
        | (apply Goal.condT; exact rfl)
        | (apply Goal.condF; exact rfl)
        | (refine Goal.condD rfl (fun hc => ?_) (fun hc => ?_) <;> first | (exfalso; omega) | contradiction | skip)
        | refine Goal.condB rfl (fun hc => ?_) (fun hc => ?_)
        | (apply G.load; exact rfl; exact rfl; first | exact ag3 T.agg_25 0 rfl rfl rfl rfl | exact ag3 T.agg_25 1 rfl rfl rfl rfl | exact ag3 T.agg_25 2 rfl rfl rfl rfl | exact ag3 T.agg_25 3 rfl rfl rfl rfl | exact ag3 T.agg_25 4 rfl rfl rfl rfl)
        | (apply G.lss; exact rfl; exact rfl; exact rfl)
        | (apply G.eql; exact rfl; exact rfl; exact rfl)
        | (apply G.add; exact rfl; exact rfl; exact rfl; exact IntWalk.i64_in _ (by omega)))
      refine Goal.again ⟨i + 1, _, A⟩ ⟨by dsimp only; omega, by dsimp only; rw [hnx]; exact hS⟩ (by dsimp only; omega) ⟨rfl, rfl, rfl, rfl, rfl, trivial⟩ (fun _ h => h)
  · obtain rfl : i = tp.arcs := by omega
    repeat' (first
      | (refine Goal.loud (o := ⟨some 2, _, _, _, _, _⟩) rfl ?_; first | refine Loud.boxA rfl rfl (fun b2 => ?_) | refine Loud.box1 rfl rfl rfl (fun b2 => ?_))
      | (refine Goal.loud (o := ⟨some 19, _, _, _, _, _⟩) rfl ?_; refine Loud.buildSlice (cs := [_]) rfl T.slc_30 T.inf_3 rfl rfl (by decide) rfl rfl rfl (fun b19 => ?_))
      | (apply G.move; exact rfl; exact rfl)
      | (apply G.assign; exact rfl; exact rfl)
      | refine Goal.seq (fun _ _ => ?_)
      | refine Goal.next (by assumption) ?_
      | refine Goal.lnil ?_
      | refine Goal.region ?_
      | refine Goal.skip ?_
      | refine Goal.block ?_
      | refine Goal.exit ?_
      | refine Goal.ret ?_
      | refine Goal.then_exit ?_
      | refine Goal.then_ret ?_
      | refine Goal.inBlock_exit ?_
      | refine Goal.inBlock_normal ?_
      | refine Goal.inBlock_ret ?_
      | refine Goal.inBlock_other rfl ?_
      | (apply Goal.condT; exact rfl)
      | (apply Goal.condF; exact rfl)
      | (refine Goal.condD rfl (fun hc => ?_) (fun hc => ?_) <;> first | (exfalso; omega) | contradiction | skip)
      | refine Goal.condB rfl (fun hc => ?_) (fun hc => ?_)
      | (apply G.load; exact rfl; exact rfl; first | exact ag3 T.agg_25 0 rfl rfl rfl rfl | exact ag3 T.agg_25 1 rfl rfl rfl rfl | exact ag3 T.agg_25 2 rfl rfl rfl rfl | exact ag3 T.agg_25 3 rfl rfl rfl rfl | exact ag3 T.agg_25 4 rfl rfl rfl rfl)
      | (apply G.lss; exact rfl; exact rfl; exact rfl)
      | (apply G.eql; exact rfl; exact rfl; exact rfl)
      | (apply G.add; exact rfl; exact rfl; exact rfl; exact IntWalk.i64_in _ (by omega)))
    refine Goal.done (vs := [_]) (by first | exact .inl rfl | exact .inr rfl) Try.results60 ⟨rfl, trivial⟩ rfl (fun w' H => ⟨⟨_, A⟩, hS, rfl, H.sub (List.sublist_cons_self _ _)⟩)
theorem nodes_ok {m : Nat} (hm : m < 18446744073709551616) (w : World) : Calls Try.prog 63 #[.int .u64 (m : Int)] w fun e w' => ∃ x : PV, Sl x.v 3 1 (selL 64 fun k => m.testBit k.toNat).length (ints (selL 64 fun k => m.testBit k.toNat)) x.A ∧ e = .returned x.v ∧ St w [] w' x.A := by
  refine Goal.enter (args := [.int .u64 (m : Int)]) Try.func63 rfl Try.ntmps63 rfl (St.nil w) ?_
  repeat' (first
    | (refine Goal.loud (o := ⟨some 15, _, _, _, _, _⟩) rfl ?_; refine Loud.buildSlice (cs := [_]) rfl T.slc_30 T.inf_3 rfl rfl (by decide) rfl rfl rfl (fun b15 => ?_))
    | (apply G.move; exact rfl; exact rfl)
    | (apply G.assign; exact rfl; exact rfl)
    | refine Goal.seq (fun _ _ => ?_)
    | refine Goal.next (by assumption) ?_
    | refine Goal.lnil ?_
    | refine Goal.region ?_
    | refine Goal.skip ?_
    | refine Goal.block ?_
    | refine Goal.exit ?_
    | refine Goal.ret ?_
    | refine Goal.then_exit ?_
    | refine Goal.then_ret ?_
    | refine Goal.inBlock_exit ?_
    | refine Goal.inBlock_normal ?_
    | refine Goal.inBlock_ret ?_
    | refine Goal.inBlock_other rfl ?_
    | (apply Goal.condT; exact rfl)
    | (apply Goal.condF; exact rfl)
    | (refine Goal.condD rfl (fun hc => ?_) (fun hc => ?_) <;> first | (exfalso; omega) | contradiction | skip)
    | refine Goal.condB rfl (fun hc => ?_) (fun hc => ?_)
    | (apply G.lss; exact rfl; exact rfl; exact rfl)
    | (apply G.eql; exact rfl; exact rfl; exact rfl)
    | (apply G.add; exact rfl; exact rfl; exact rfl; exact IntWalk.i64_in _ (by omega))
    | (refine Goal.quiet rfl (Run.shr1 (by decide) rfl rfl rfl) ?_)
    | (refine Goal.quiet rfl (Run.shrB rfl rfl (by omega)) ?_)
    | (refine Goal.quiet rfl (Run.and1B rfl rfl (by first | assumption | exact two_lt (by omega) | exact shr_lt (by assumption))) ?_))
  refine Goal.loopP (X := NI) (fun x => [(0, .int .u64 (m : Int)), (3, x.v), (5, .int .i64 x.i)]) (fun x => x.A)
    (fun x => (0 ≤ x.i ∧ x.i ≤ 64) ∧ Sl x.v 3 1 (selL x.i.toNat fun k => m.testBit k.toNat).length (ints (selL x.i.toNat fun k => m.testBit k.toNat)) x.A) (fun x => (64 - x.i).toNat) ⟨0, .slice none 0 0, []⟩ ⟨rfl, rfl, rfl, trivial⟩ (fun _ h => h) ⟨by dsimp only; omega, Sl.nil _ _⟩ ?_
  rintro ⟨i, v, A⟩ ⟨hi, hS⟩
  dsimp only at hi hS ⊢
  obtain ⟨av, cv, rfl⟩ := hS.shape
  have hal := selL_len i.toNat fun k => m.testBit k.toNat
  by_cases h : i < 64
  · have hnx := selL_next hi.1 fun k => m.testBit k.toNat
    have hbit := bit_shr m i.toNat
    cases hb : m.testBit i.toNat
    · have hq : ¬ ((((m >>> i.toNat) % 2 : Nat) : Int) = 1) := fun e => by
        have := hbit.1 (by exact_mod_cast e)
        rw [hb] at this
        cases this
      rw [if_neg (by rw [hb]; decide), List.append_nil] at hnx
      repeat' (first
        | (refine Goal.loud (o := ⟨some 15, _, _, _, _, _⟩) rfl ?_; refine Loud.buildSlice (cs := [_]) rfl T.slc_30 T.inf_3 rfl rfl (by decide) rfl rfl rfl (fun b15 => ?_))
        | (apply G.move; exact rfl; exact rfl)
        | (apply G.assign; exact rfl; exact rfl)
        | refine Goal.seq (fun _ _ => ?_)
        | refine Goal.next (by assumption) ?_
        | refine Goal.lnil ?_
        | refine Goal.region ?_
        | refine Goal.skip ?_
        | refine Goal.block ?_
        | refine Goal.exit ?_
        | refine Goal.ret ?_
        | refine Goal.then_exit ?_
        | refine Goal.then_ret ?_
        | refine Goal.inBlock_exit ?_
        | refine Goal.inBlock_normal ?_
        | refine Goal.inBlock_ret ?_
        | refine Goal.inBlock_other rfl ?_
        | (apply Goal.condT; exact rfl)
        | (apply Goal.condF; exact rfl)
        | (refine Goal.condD rfl (fun hc => ?_) (fun hc => ?_) <;> first | (exfalso; omega) | contradiction | skip)
        | refine Goal.condB rfl (fun hc => ?_) (fun hc => ?_)
        | (apply G.lss; exact rfl; exact rfl; exact rfl)
        | (apply G.eql; exact rfl; exact rfl; exact rfl)
        | (apply G.add; exact rfl; exact rfl; exact rfl; exact IntWalk.i64_in _ (by omega))
        | (refine Goal.quiet rfl (Run.shr1 (by decide) rfl rfl rfl) ?_)
        | (refine Goal.quiet rfl (Run.shrB rfl rfl (by omega)) ?_)
        | (refine Goal.quiet rfl (Run.and1B rfl rfl (by first | assumption | exact two_lt (by omega) | exact shr_lt (by assumption))) ?_))
      refine Goal.again ⟨i + 1, _, A⟩ ⟨by dsimp only; omega, by dsimp only; rw [hnx]; exact hS⟩ (by dsimp only; omega) ⟨rfl, rfl, rfl, trivial⟩ (fun _ h => h)
    · have hq : (((m >>> i.toNat) % 2 : Nat) : Int) = 1 := by exact_mod_cast hbit.2 hb
      rw [if_pos hb] at hnx
      repeat' (first
        | (refine Goal.loud (o := ⟨some 16, _, _, _, _, _⟩) rfl ?_; refine Loud.appendT rfl T.slc_30 T.inf_3 rfl [] rfl hS rfl rfl rfl rfl (by omega) (by omega) ?_; intro v2 A2 hA2; obtain ⟨ad2, cap2, rfl⟩ := hA2.shape)
        | (refine Goal.loud (o := ⟨some 15, _, _, _, _, _⟩) rfl ?_; refine Loud.buildSlice (cs := [_]) rfl T.slc_30 T.inf_3 rfl rfl (by decide) rfl rfl rfl (fun b15 => ?_))
        | (apply G.move; exact rfl; exact rfl)
        | (apply G.assign; exact rfl; exact rfl)
        | refine Goal.seq (fun _ _ => ?_)
        | refine Goal.next (by assumption) ?_
        | refine Goal.lnil ?_
        | refine Goal.region ?_
        | refine Goal.skip ?_
        | refine Goal.block ?_
        | refine Goal.exit ?_
        | refine Goal.ret ?_
        | refine Goal.then_exit ?_
        | refine Goal.then_ret ?_
        | refine Goal.inBlock_exit ?_
        | refine Goal.inBlock_normal ?_
        | refine Goal.inBlock_ret ?_
        | refine Goal.inBlock_other rfl ?_
        | (apply Goal.condT; exact rfl)
        | (apply Goal.condF; exact rfl)
        | (refine Goal.condD rfl (fun hc => ?_) (fun hc => ?_) <;> first | (exfalso; omega) | contradiction | skip)
        | refine Goal.condB rfl (fun hc => ?_) (fun hc => ?_)
        | (apply G.lss; exact rfl; exact rfl; exact rfl)
        | (apply G.eql; exact rfl; exact rfl; exact rfl)
        | (apply G.add; exact rfl; exact rfl; exact rfl; exact IntWalk.i64_in _ (by omega))
        | (refine Goal.quiet rfl (Run.shr1 (by decide) rfl rfl rfl) ?_)
        | (refine Goal.quiet rfl (Run.shrB rfl rfl (by omega)) ?_)
        | (refine Goal.quiet rfl (Run.and1B rfl rfl (by first | assumption | exact two_lt (by omega) | exact shr_lt (by assumption))) ?_))
      refine Goal.again ⟨i + 1, _, A2⟩ ⟨by dsimp only; omega, by dsimp only; rw [hnx, List.length_append, show ints (selL i.toNat (fun k => m.testBit k.toNat) ++ [i]) = ints (selL i.toNat fun k => m.testBit k.toNat) ++ [.int .i64 i] by simp [ints]]; exact hA2⟩ (by dsimp only; omega) ⟨rfl, rfl, rfl, trivial⟩ (fun _ h => h)
  · obtain rfl : i = 64 := by omega
    repeat' (first
      | (refine Goal.loud (o := ⟨some 15, _, _, _, _, _⟩) rfl ?_; refine Loud.buildSlice (cs := [_]) rfl T.slc_30 T.inf_3 rfl rfl (by decide) rfl rfl rfl (fun b15 => ?_))
      | (apply G.move; exact rfl; exact rfl)
      | (apply G.assign; exact rfl; exact rfl)
      | refine Goal.seq (fun _ _ => ?_)
      | refine Goal.next (by assumption) ?_
      | refine Goal.lnil ?_
      | refine Goal.region ?_
      | refine Goal.skip ?_
      | refine Goal.block ?_
      | refine Goal.exit ?_
      | refine Goal.ret ?_
      | refine Goal.then_exit ?_
      | refine Goal.then_ret ?_
      | refine Goal.inBlock_exit ?_
      | refine Goal.inBlock_normal ?_
      | refine Goal.inBlock_ret ?_
      | refine Goal.inBlock_other rfl ?_
      | (apply Goal.condT; exact rfl)
      | (apply Goal.condF; exact rfl)
      | (refine Goal.condD rfl (fun hc => ?_) (fun hc => ?_) <;> first | (exfalso; omega) | contradiction | skip)
      | refine Goal.condB rfl (fun hc => ?_) (fun hc => ?_)
      | (apply G.lss; exact rfl; exact rfl; exact rfl)
      | (apply G.eql; exact rfl; exact rfl; exact rfl)
      | (apply G.add; exact rfl; exact rfl; exact rfl; exact IntWalk.i64_in _ (by omega))
      | (refine Goal.quiet rfl (Run.shr1 (by decide) rfl rfl rfl) ?_)
      | (refine Goal.quiet rfl (Run.shrB rfl rfl (by omega)) ?_)
      | (refine Goal.quiet rfl (Run.and1B rfl rfl (by first | assumption | exact two_lt (by omega) | exact shr_lt (by assumption))) ?_))
    refine Goal.done (vs := [_]) (by first | exact .inl rfl | exact .inr rfl) Try.results63 ⟨rfl, trivial⟩ rfl (fun w' H => ⟨⟨_, A⟩, hS, rfl, H⟩)
end
end Go.Proofs.Ytldoplehchngfaa
