/- Package spf: errors of Dist and From; Path. -/
import Derived.Test.YtldoplehchngfaaSpX
import Derived.Test.YtldoplehchngfaaIncr
namespace Go.Proofs.Ytldoplehchngfaa
open Go.Wf
set_option linter.unusedVariables false
theorem arcsAt_sorted (h : Int → Int) (k : Nat) (x : Int) : (arcsAt h k x).Pairwise fun a b => a < b := by
  unfold arcsAt
  refine List.Pairwise.filter _ ?_
  rw [List.pairwise_map]
  exact List.pairwise_lt_range.imp fun h => by omega
theorem arcsAt_before {h : Int → Int} {k : Nat} {x : Int} {j : Int} (hj : 0 ≤ j ∧ j < (arcsAt h k x).length) {b : Int} (hb : b ∈ arcsAt h k x) (hlt : b < ia (arcsAt h k x) j) : ∃ q, (0 ≤ q ∧ q < j) ∧ ia (arcsAt h k x) q = b := by
  obtain ⟨q, hq, rfl⟩ := List.getElem_of_mem hb
  refine ⟨(q : Int), ⟨by omega, ?_⟩, ?_⟩
  · refine Decidable.byContradiction fun hn => ?_
    by_cases e : (q : Int) = j
    · subst e
      rw [← ia_at (i := (q : Int)) (by omega)] at hlt
      simp at hlt
    · have := List.pairwise_iff_getElem.1 (arcsAt_sorted h k x) j.toNat q (by omega) hq (by omega)
      rw [← ia_at hj] at hlt
      omega
  · rw [← ia_at (i := (q : Int)) (by omega)]; rfl
theorem St.drop1 {w0 w : World} {S : List Nat} {p : Blk} {L : List Blk} (h : St w0 S w (p :: L)) : St w0 S w L := h.sub (List.sublist_cons_self _ _)
/-- What Path is to return. -/
def PathS (tp : Top) (dn : List Bool) (s d : Int) (l p : List Int) (v : Value) (er : Int) (A : List Blk) : Prop :=
  (ia l s < 0 ∧ p = [] ∧ v = .slice none 0 0 ∧ er = 11 ∧ A = []) ∨ (0 ≤ ia l s ∧ er = 0 ∧ FP tp dn d (ia l) s p ∧ Sl v 3 1 p.length (ints p) A)
structure PR where
  (l p : List Int) (v : Value) (er : Int) (A : List Blk)
structure PO where
  (x : Int) (p : List Int) (v : Value) (A : List Blk)
theorem GD.cap {tp : Top} {dn : List Bool} {d : Int} (ht : tp.Ok) : ∀ x y c, GD tp dn d x y c → c ≤ 65535 := fun x y c ⟨a, ha, _, _, _, _, hc⟩ => by
  obtain ⟨_, _, h, _⟩ := ht.arc ha
  omega
section
variable {w : World} {tp : Top} {vo vl vd : Value} {dn : List Bool} {s d : Int}
theorem dist_bad (hT : TopR w vo vl tp) (hd : RdV w vd (bools dn)) (hl : tp.ls.length ≤ 1048576) (hov : tp.ov.length ≤ 140737488355328) (hc : chk tp dn [d] ≠ 0) : Calls Try.prog 49 #[.agg #[.int .i64 tp.n, vo, vl], vd, .int .i64 d] w fun e w' => e = .returned (.tuple #[.slice none 0 0, .int .i64 (chk tp dn [d])]) ∧ Mod [] w w' := by
  refine Goal.enter (args := [.agg #[.int .i64 tp.n, vo, vl], vd, .int .i64 d]) Try.func49 rfl Try.ntmps49 rfl (St.nil w) ?_
  repeat' (first
    | (refine Goal.loud (o := ⟨some 15, _, _, _, _, _⟩) rfl ?_; apply Loud.call0; exact rfl; exact rfl; exact rfl; exact rfl; exact T.bod_72; exact (fun w' H => check_ok (ns := [d]) (hT.keep H.mod) (hd.keep H.mod) hl hov (RdV.of_lit (vs := ints [d]) (H.at (i := 0) rfl)) (by simp)))
    | (refine Goal.loud (o := ⟨some 3, _, _, _, _, _⟩) rfl ?_; first | refine Loud.boxA rfl rfl (fun b3 => ?_) | refine Loud.box1 rfl rfl rfl (fun b3 => ?_))
    | (refine Goal.loud (o := ⟨some 14, _, _, _, _, _⟩) rfl ?_; refine Loud.buildSlice (cs := [_]) rfl T.slc_30 T.inf_3 rfl rfl (by decide) rfl rfl rfl (fun b14 => ?_))
    | (refine Goal.loud (o := ⟨some 9, _, _, _, _, _⟩) rfl ?_; refine Loud.alloc rfl T.inf_73 rfl (fun b9 => ?_))
    | (refine Goal.loud (o := ⟨some 10, _, _, _, _, _⟩) rfl ?_; refine Loud.allocA rfl T.inf_78 (fun b10 => ?_))
    | (apply G.move; exact rfl; exact rfl)
    | (apply G.assign; exact rfl; exact rfl)
    | refine Goal.seq (fun _ _ => ?_)
    | refine Goal.next (by assumption) ?_
    | refine Goal.lnil ?_
    | refine Goal.region ?_
    | refine Goal.skip ?_
    | refine Goal.block ?_
    | refine Goal.exit ?_
    | refine Goal.ret ?_
    | refine Goal.then_exit ?_
    | refine Goal.then_ret ?_
    | refine Goal.inBlock_exit ?_
    | refine Goal.inBlock_normal ?_
    | refine Goal.inBlock_ret ?_
    | refine Goal.inBlock_other rfl ?_
    | (apply Goal.condT; exact rfl)
    | (apply Goal.condF; exact rfl)
    | (refine Goal.condD rfl (fun hc => ?_) (fun hc => ?_) <;> first | (exfalso; omega) | contradiction | skip)
    | refine Goal.condB rfl (fun hc => ?_) (fun hc => ?_)
    | (apply G.load; exact rfl; exact rfl; first | exact ag3 T.agg_25 0 rfl rfl rfl rfl | exact ag3 T.agg_25 1 rfl rfl rfl rfl | exact ag3 T.agg_25 2 rfl rfl rfl rfl | exact ag3 T.agg_25 3 rfl rfl rfl rfl | exact ag3 T.agg_25 4 rfl rfl rfl rfl | exact ag3 T.agg_25 5 rfl rfl rfl rfl | exact ag3 T.agg_25 6 rfl rfl rfl rfl | exact ag3 T.agg_25 7 rfl rfl rfl rfl | exact LoadOK.agg (vs := [_, _, _, _, _, _, _]) T.agg_78 0 rfl rfl ⟨rfl, rfl, rfl, rfl, rfl, rfl, rfl, trivial⟩ | exact LoadOK.agg (vs := [_, _, _, _, _, _, _]) T.agg_78 1 rfl rfl ⟨rfl, rfl, rfl, rfl, rfl, rfl, rfl, trivial⟩ | exact LoadOK.agg (vs := [_, _, _, _, _, _, _]) T.agg_78 2 rfl rfl ⟨rfl, rfl, rfl, rfl, rfl, rfl, rfl, trivial⟩ | exact LoadOK.agg (vs := [_, _, _, _, _, _, _]) T.agg_78 3 rfl rfl ⟨rfl, rfl, rfl, rfl, rfl, rfl, rfl, trivial⟩ | exact LoadOK.agg (vs := [_, _, _, _, _, _, _]) T.agg_78 4 rfl rfl ⟨rfl, rfl, rfl, rfl, rfl, rfl, rfl, trivial⟩ | exact LoadOK.agg (vs := [_, _, _, _, _, _, _]) T.agg_78 5 rfl rfl ⟨rfl, rfl, rfl, rfl, rfl, rfl, rfl, trivial⟩ | exact LoadOK.agg (vs := [_, _, _, _, _, _, _]) T.agg_78 6 rfl rfl ⟨rfl, rfl, rfl, rfl, rfl, rfl, rfl, trivial⟩ | exact LoadOK.agg (vs := [_, _, _, _, _, _, _]) T.agg_78 7 rfl rfl ⟨rfl, rfl, rfl, rfl, rfl, rfl, rfl, trivial⟩)
    | (apply G.neq; exact rfl; exact rfl; exact rfl)
    | (apply G.build (cs := [_, _, _, _, _, _, _]); exact rfl; exact T.lay_78; exact rfl; exact rfl)
    | (apply G.makeFunc; exact rfl; exact rfl; exact rfl)
    | (refine Goal.loud rfl ?_; refine Loud.store0 rfl rfl (by first | exact T.sz_73 | exact T.sz_78) rfl rfl rfl (by first | exact Nat.le_of_ble_eq_true rfl | exact Nat.le_refl _ | decide | (simp; omega)) rfl ?_)
    | (refine Goal.loud rfl ?_; refine Loud.store1 rfl rfl (by first | exact T.sz_73 | exact T.sz_78) rfl rfl rfl (by first | exact Nat.le_of_ble_eq_true rfl | exact Nat.le_refl _ | decide | (simp; omega)) rfl ?_)
    | (refine Goal.loud rfl ?_; refine Loud.store2 rfl rfl (by first | exact T.sz_73 | exact T.sz_78) rfl rfl rfl (by first | exact Nat.le_of_ble_eq_true rfl | exact Nat.le_refl _ | decide | (simp; omega)) rfl ?_)
    | (refine Goal.loud rfl ?_; refine Loud.store3 rfl rfl (by first | exact T.sz_73 | exact T.sz_78) rfl rfl rfl (by first | exact Nat.le_of_ble_eq_true rfl | exact Nat.le_refl _ | decide | (simp; omega)) rfl ?_)
    | (refine Goal.loud rfl ?_; refine Loud.store4 rfl rfl (by first | exact T.sz_73 | exact T.sz_78) rfl rfl rfl (by first | exact Nat.le_of_ble_eq_true rfl | exact Nat.le_refl _ | decide | (simp; omega)) rfl ?_)
    | (refine Goal.loud rfl ?_; refine Loud.store5 rfl rfl (by first | exact T.sz_73 | exact T.sz_78) rfl rfl rfl (by first | exact Nat.le_of_ble_eq_true rfl | exact Nat.le_refl _ | decide | (simp; omega)) rfl ?_)
    | (refine Goal.loud rfl ?_; refine Loud.store6 rfl rfl (by first | exact T.sz_73 | exact T.sz_78) rfl rfl rfl (by first | exact Nat.le_of_ble_eq_true rfl | exact Nat.le_refl _ | decide | (simp; omega)) rfl ?_)
    | (refine Goal.loud rfl ?_; refine Loud.store7 rfl rfl (by first | exact T.sz_73 | exact T.sz_78) rfl rfl rfl (by first | exact Nat.le_of_ble_eq_true rfl | exact Nat.le_refl _ | decide | (simp; omega)) rfl ?_))
  refine Goal.done (vs := [_, _]) (by first | exact .inl rfl | exact .inr rfl) Try.results49 ⟨rfl, rfl, trivial⟩ rfl (fun w' H => ⟨rfl, H.mod⟩)
theorem from_bad (hT : TopR w vo vl tp) (hd : RdV w vd (bools dn)) (hl : tp.ls.length ≤ 1048576) (hov : tp.ov.length ≤ 140737488355328) (hc : chk tp dn [d] ≠ 0) : Calls Try.prog 81 #[.agg #[.int .i64 tp.n, vo, vl], vd, .int .i64 d] w fun e w' => e = .returned (.tuple #[.slice none 0 0, .int .i64 (chk tp dn [d])]) ∧ Mod [] w w' := by
  refine Goal.enter (args := [.agg #[.int .i64 tp.n, vo, vl], vd, .int .i64 d]) Try.func81 rfl Try.ntmps81 rfl (St.nil w) ?_
  repeat' (first
    | (refine Goal.loud (o := ⟨some 15, _, _, _, _, _⟩) rfl ?_; apply Loud.call0; exact rfl; exact rfl; exact rfl; exact rfl; exact T.bod_72; exact (fun w' H => check_ok (ns := [d]) (hT.keep H.mod) (hd.keep H.mod) hl hov (RdV.of_lit (vs := ints [d]) (H.at (i := 0) rfl)) (by simp)))
    | (refine Goal.loud (o := ⟨some 3, _, _, _, _, _⟩) rfl ?_; first | refine Loud.boxA rfl rfl (fun b3 => ?_) | refine Loud.box1 rfl rfl rfl (fun b3 => ?_))
    | (refine Goal.loud (o := ⟨some 14, _, _, _, _, _⟩) rfl ?_; refine Loud.buildSlice (cs := [_]) rfl T.slc_30 T.inf_3 rfl rfl (by decide) rfl rfl rfl (fun b14 => ?_))
    | (refine Goal.loud (o := ⟨some 9, _, _, _, _, _⟩) rfl ?_; refine Loud.alloc rfl T.inf_73 rfl (fun b9 => ?_))
    | (refine Goal.loud (o := ⟨some 10, _, _, _, _, _⟩) rfl ?_; refine Loud.allocA rfl T.inf_78 (fun b10 => ?_))
    | (apply G.move; exact rfl; exact rfl)
    | (apply G.assign; exact rfl; exact rfl)
    | refine Goal.seq (fun _ _ => ?_)
    | refine Goal.next (by assumption) ?_
    | refine Goal.lnil ?_
    | refine Goal.region ?_
    | refine Goal.skip ?_
    | refine Goal.block ?_
    | refine Goal.exit ?_
    | refine Goal.ret ?_
    | refine Goal.then_exit ?_
    | refine Goal.then_ret ?_
    | refine Goal.inBlock_exit ?_
    | refine Goal.inBlock_normal ?_
    | refine Goal.inBlock_ret ?_
    | refine Goal.inBlock_other rfl ?_
    | (apply Goal.condT; exact rfl)
    | (apply Goal.condF; exact rfl)
    | (refine Goal.condD rfl (fun hc => ?_) (fun hc => ?_) <;> first | (exfalso; omega) | contradiction | skip)
    | refine Goal.condB rfl (fun hc => ?_) (fun hc => ?_)
    | (apply G.load; exact rfl; exact rfl; first | exact ag3 T.agg_25 0 rfl rfl rfl rfl | exact ag3 T.agg_25 1 rfl rfl rfl rfl | exact ag3 T.agg_25 2 rfl rfl rfl rfl | exact ag3 T.agg_25 3 rfl rfl rfl rfl | exact ag3 T.agg_25 4 rfl rfl rfl rfl | exact ag3 T.agg_25 5 rfl rfl rfl rfl | exact ag3 T.agg_25 6 rfl rfl rfl rfl | exact ag3 T.agg_25 7 rfl rfl rfl rfl | exact LoadOK.agg (vs := [_, _, _, _, _, _, _]) T.agg_78 0 rfl rfl ⟨rfl, rfl, rfl, rfl, rfl, rfl, rfl, trivial⟩ | exact LoadOK.agg (vs := [_, _, _, _, _, _, _]) T.agg_78 1 rfl rfl ⟨rfl, rfl, rfl, rfl, rfl, rfl, rfl, trivial⟩ | exact LoadOK.agg (vs := [_, _, _, _, _, _, _]) T.agg_78 2 rfl rfl ⟨rfl, rfl, rfl, rfl, rfl, rfl, rfl, trivial⟩ | exact LoadOK.agg (vs := [_, _, _, _, _, _, _]) T.agg_78 3 rfl rfl ⟨rfl, rfl, rfl, rfl, rfl, rfl, rfl, trivial⟩ | exact LoadOK.agg (vs := [_, _, _, _, _, _, _]) T.agg_78 4 rfl rfl ⟨rfl, rfl, rfl, rfl, rfl, rfl, rfl, trivial⟩ | exact LoadOK.agg (vs := [_, _, _, _, _, _, _]) T.agg_78 5 rfl rfl ⟨rfl, rfl, rfl, rfl, rfl, rfl, rfl, trivial⟩ | exact LoadOK.agg (vs := [_, _, _, _, _, _, _]) T.agg_78 6 rfl rfl ⟨rfl, rfl, rfl, rfl, rfl, rfl, rfl, trivial⟩ | exact LoadOK.agg (vs := [_, _, _, _, _, _, _]) T.agg_78 7 rfl rfl ⟨rfl, rfl, rfl, rfl, rfl, rfl, rfl, trivial⟩)
    | (apply G.neq; exact rfl; exact rfl; exact rfl)
    | (apply G.build (cs := [_, _, _, _, _, _, _]); exact rfl; exact T.lay_78; exact rfl; exact rfl)
    | (apply G.makeFunc; exact rfl; exact rfl; exact rfl)
    | (refine Goal.loud rfl ?_; refine Loud.store0 rfl rfl (by first | exact T.sz_73 | exact T.sz_78) rfl rfl rfl (by first | exact Nat.le_of_ble_eq_true rfl | exact Nat.le_refl _ | decide | (simp; omega)) rfl ?_)
    | (refine Goal.loud rfl ?_; refine Loud.store1 rfl rfl (by first | exact T.sz_73 | exact T.sz_78) rfl rfl rfl (by first | exact Nat.le_of_ble_eq_true rfl | exact Nat.le_refl _ | decide | (simp; omega)) rfl ?_)
    | (refine Goal.loud rfl ?_; refine Loud.store2 rfl rfl (by first | exact T.sz_73 | exact T.sz_78) rfl rfl rfl (by first | exact Nat.le_of_ble_eq_true rfl | exact Nat.le_refl _ | decide | (simp; omega)) rfl ?_)
    | (refine Goal.loud rfl ?_; refine Loud.store3 rfl rfl (by first | exact T.sz_73 | exact T.sz_78) rfl rfl rfl (by first | exact Nat.le_of_ble_eq_true rfl | exact Nat.le_refl _ | decide | (simp; omega)) rfl ?_)
    | (refine Goal.loud rfl ?_; refine Loud.store4 rfl rfl (by first | exact T.sz_73 | exact T.sz_78) rfl rfl rfl (by first | exact Nat.le_of_ble_eq_true rfl | exact Nat.le_refl _ | decide | (simp; omega)) rfl ?_)
    | (refine Goal.loud rfl ?_; refine Loud.store5 rfl rfl (by first | exact T.sz_73 | exact T.sz_78) rfl rfl rfl (by first | exact Nat.le_of_ble_eq_true rfl | exact Nat.le_refl _ | decide | (simp; omega)) rfl ?_)
    | (refine Goal.loud rfl ?_; refine Loud.store6 rfl rfl (by first | exact T.sz_73 | exact T.sz_78) rfl rfl rfl (by first | exact Nat.le_of_ble_eq_true rfl | exact Nat.le_refl _ | decide | (simp; omega)) rfl ?_)
    | (refine Goal.loud rfl ?_; refine Loud.store7 rfl rfl (by first | exact T.sz_73 | exact T.sz_78) rfl rfl rfl (by first | exact Nat.le_of_ble_eq_true rfl | exact Nat.le_refl _ | decide | (simp; omega)) rfl ?_))
  refine Goal.done (vs := [_, _]) (by first | exact .inl rfl | exact .inr rfl) Try.results81 ⟨rfl, rfl, trivial⟩ rfl (fun w' H => ⟨rfl, H.mod⟩)
theorem path_bad (hT : TopR w vo vl tp) (hd : RdV w vd (bools dn)) (hl : tp.ls.length ≤ 1048576) (hov : tp.ov.length ≤ 140737488355328) (hc : chk tp dn [s, d] ≠ 0) : Calls Try.prog 71 #[.agg #[.int .i64 tp.n, vo, vl], vd, .int .i64 s, .int .i64 d] w fun e w' => e = .returned (.tuple #[.slice none 0 0, .int .i64 (chk tp dn [s, d])]) ∧ Mod [] w w' := by
  refine Goal.enter (args := [.agg #[.int .i64 tp.n, vo, vl], vd, .int .i64 s, .int .i64 d]) Try.func71 rfl Try.ntmps71 rfl (St.nil w) ?_
  repeat' (first
    | (refine Goal.loud (o := ⟨some 24, _, _, _, _, _⟩) rfl ?_; apply Loud.call0; exact rfl; exact rfl; exact rfl; exact rfl; exact T.bod_72; exact (fun w' H => check_ok (ns := [s, d]) (hT.keep H.mod) (hd.keep H.mod) hl hov (RdV.of_lit (vs := ints [s, d]) (H.at (i := 0) rfl)) (by simp)))
    | (refine Goal.loud (o := ⟨some 4, _, _, _, _, _⟩) rfl ?_; first | refine Loud.boxA rfl rfl (fun b4 => ?_) | refine Loud.box1 rfl rfl rfl (fun b4 => ?_))
    | (refine Goal.loud (o := ⟨some 23, _, _, _, _, _⟩) rfl ?_; refine Loud.buildSlice (cs := [_, _]) rfl T.slc_30 T.inf_3 rfl rfl (by decide) rfl rfl rfl (fun b23 => ?_))
    | (refine Goal.loud (o := ⟨some 93, _, _, _, _, _⟩) rfl ?_; refine Loud.buildSlice (cs := [_]) rfl T.slc_30 T.inf_3 rfl rfl (by decide) rfl rfl rfl (fun b93 => ?_))
    | (apply G.move; exact rfl; exact rfl)
    | (apply G.assign; exact rfl; exact rfl)
    | refine Goal.seq (fun _ _ => ?_)
    | refine Goal.next (by assumption) ?_
    | refine Goal.lnil ?_
    | refine Goal.region ?_
    | refine Goal.skip ?_
    | refine Goal.block ?_
    | refine Goal.exit ?_
    | refine Goal.ret ?_
    | refine Goal.then_exit ?_
    | refine Goal.then_ret ?_
    | refine Goal.inBlock_exit ?_
    | refine Goal.inBlock_normal ?_
    | refine Goal.inBlock_ret ?_
    | refine Goal.inBlock_other rfl ?_
    | (apply Goal.condT; exact rfl)
    | (apply Goal.condF; exact rfl)
    | (refine Goal.condD rfl (fun hc => ?_) (fun hc => ?_) <;> first | (exfalso; omega) | contradiction | skip)
    | refine Goal.condB rfl (fun hc => ?_) (fun hc => ?_)
    | refine Goal.guardT rfl rfl ?_
    | refine Goal.guardF rfl rfl rfl rfl ?_
    | refine Goal.guardU rfl rfl rfl ?_
    | (refine Goal.guardD rfl rfl (fun hc => ?_) (fun hc => ?_) <;> first | (exfalso; omega) | contradiction | skip)
    | refine Goal.guardB rfl rfl (fun hc => ?_) (fun hc => ?_)
    | (apply G.load; exact rfl; exact rfl; first | exact LoadOK.one (by first | exact T.one_3 | exact T.one_30) 0 rfl rfl | exact LoadOK.one (by first | exact T.one_3 | exact T.one_30) 1 rfl rfl | exact LoadOK.one (by first | exact T.one_3 | exact T.one_30) 2 rfl rfl | exact LoadOK.one (by first | exact T.one_3 | exact T.one_30) 3 rfl rfl | exact LoadOK.one (by first | exact T.one_3 | exact T.one_30) 4 rfl rfl | exact LoadOK.one (by first | exact T.one_3 | exact T.one_30) 5 rfl rfl | exact LoadOK.one (by first | exact T.one_3 | exact T.one_30) 6 rfl rfl | exact LoadOK.one (by first | exact T.one_3 | exact T.one_30) 7 rfl rfl | exact ag3 T.agg_25 0 rfl rfl rfl rfl | exact ag3 T.agg_25 1 rfl rfl rfl rfl | exact ag3 T.agg_25 2 rfl rfl rfl rfl | exact ag3 T.agg_25 3 rfl rfl rfl rfl | exact ag3 T.agg_25 4 rfl rfl rfl rfl | exact ag3 T.agg_25 5 rfl rfl rfl rfl | exact ag3 T.agg_25 6 rfl rfl rfl rfl | exact ag3 T.agg_25 7 rfl rfl rfl rfl)
    | (apply G.pickT; exact rfl; exact rfl; exact rfl)
    | (apply G.pickF; exact rfl; exact rfl; exact rfl)
    | (apply G.lss; exact rfl; exact rfl; exact rfl)
    | (apply G.eql; exact rfl; exact rfl; exact rfl)
    | (apply G.neq; exact rfl; exact rfl; exact rfl)
    | (apply G.add; exact rfl; exact rfl; exact rfl; exact IntWalk.i64_in _ (by omega))
    | (apply G.extract; exact rfl; exact rfl; exact rfl)
    | (apply G.len; exact rfl; exact rfl; exact T.slc_30)
    | (refine G.indexAddr1 rfl (by first | exact T.slc_30 | exact T.slc_73) (by first | exact T.sz_3 | exact T.sz_30) rfl rfl _ rfl (by omega) ?_)
    | (refine G.indexAddr1 rfl (by first | exact T.slc_30 | exact T.slc_73) (by first | exact T.sz_3 | exact T.sz_30) rfl rfl _ (Int.toNat_of_nonneg (by omega)).symm (by omega) ?_))
  refine Goal.done (vs := [_, _]) (by first | exact .inl rfl | exact .inr rfl) Try.results71 ⟨rfl, rfl, trivial⟩ rfl (fun w' H => ⟨rfl, H.mod⟩)
set_option maxHeartbeats 16000000 in
theorem path_ok (hT : TopR w vo vl tp) (hd : RdV w vd (bools dn)) (ht : tp.Ok) (hf : Fit tp dn) (hs : 0 ≤ s ∧ s < tp.n) (hr : 0 ≤ d ∧ d < tp.n) :
    Calls Try.prog 71 #[.agg #[.int .i64 tp.n, vo, vl], vd, .int .i64 s, .int .i64 d] w fun e w' => ∃ x : PR, (DL tp.n d (GD tp dn d) x.l ∧ PathS tp dn s d x.l x.p x.v x.er x.A) ∧ e = .returned (.tuple #[x.v, .int .i64 x.er]) ∧ St w [] w' x.A := by
  have hn := ht.n
  have hln := ht.ln
  have hovl := ht.ov
  have hchk : chk tp dn [s, d] = 0 := by unfold chk; rw [if_pos ⟨ht, hf⟩, if_pos (by simpa using ⟨hs, hr⟩)]
  obtain ⟨ao, co, rfl⟩ := shapeB hT.ov
  obtain ⟨al, cl, rfl⟩ := shapeL hT.ls
  obtain ⟨adn, cdn, rfl⟩ := shapeB hd
  refine Goal.enter (args := [.agg #[.int .i64 tp.n, .slice ao tp.ov.length co, .slice al tp.ls.length cl], .slice adn dn.length cdn, .int .i64 s, .int .i64 d]) Try.func71 rfl Try.ntmps71 rfl (St.nil w) ?_
  repeat' (first
    | (refine Goal.loud (o := ⟨some 24, _, _, _, _, _⟩) rfl ?_; apply Loud.call0; exact rfl; exact rfl; exact rfl; exact rfl; exact T.bod_72; exact (fun w' H => check_ok (ns := [s, d]) (hT.keep H.mod) (hd.keep H.mod) (by omega) (by omega) (RdV.of_lit (vs := ints [s, d]) (H.at (i := 0) rfl)) (by simp)); rw [hchk])
    | (refine Goal.loud (o := ⟨some 32, _, _, _, _, _⟩) rfl ?_; apply Loud.callN; exact rfl; exact rfl; exact rfl; exact rfl; exact T.bod_49; exact (fun w' H => dist_ok (hT.keep H.mod) (hd.keep H.mod) ht hf hr); rintro ⟨bl, l⟩ hl; dsimp only at hl ⊢; have hll := hl.len; have hbd := Bell.bound (GD.ok ht) (GD.cap ht) (by decide) hl.bell)
    | (refine Goal.loud (o := ⟨some 41, _, _, _, _, _⟩) rfl ?_; apply Loud.callN; exact rfl; exact rfl; exact rfl; exact rfl; exact T.bod_82; exact (fun w' H => leaving_ok (hT.keep H.mod) ht); rintro ⟨be, ve, Be⟩ hI; dsimp only at hI ⊢)
    | (refine Goal.loud (o := ⟨some 4, _, _, _, _, _⟩) rfl ?_; first | refine Loud.boxA rfl rfl (fun b4 => ?_) | refine Loud.box1 rfl rfl rfl (fun b4 => ?_))
    | (refine Goal.loud (o := ⟨some 23, _, _, _, _, _⟩) rfl ?_; refine Loud.buildSlice (cs := [_, _]) rfl T.slc_30 T.inf_3 rfl rfl (by decide) rfl rfl rfl (fun b23 => ?_))
    | (refine Goal.loud (o := ⟨some 93, _, _, _, _, _⟩) rfl ?_; refine Loud.buildSlice (cs := [_]) rfl T.slc_30 T.inf_3 rfl rfl (by decide) rfl rfl rfl (fun b93 => ?_))
    | (apply G.move; exact rfl; exact rfl)
    | (apply G.assign; exact rfl; exact rfl)
    | refine Goal.seq (fun _ _ => ?_)
    | refine Goal.next (by assumption) ?_
    | refine Goal.lnil ?_
    | refine Goal.region ?_
    | refine Goal.skip ?_
    | refine Goal.block ?_
    | refine Goal.exit ?_
    | refine Goal.ret ?_
    | refine Goal.then_exit ?_
    | refine Goal.then_ret ?_
    | refine Goal.inBlock_exit ?_
    | refine Goal.inBlock_normal ?_
    | refine Goal.inBlock_ret ?_
    | refine Goal.inBlock_other rfl ?_
    | (apply Goal.condT; exact rfl)
    | (apply Goal.condF; exact rfl)
    | (refine Goal.condD rfl (fun hc => ?_) (fun hc => ?_) <;> first | (exfalso; omega) | contradiction | skip)
    | refine Goal.condB rfl (fun hc => ?_) (fun hc => ?_)
    | refine Goal.guardT rfl rfl ?_
    | refine Goal.guardF rfl rfl rfl rfl ?_
    | refine Goal.guardU rfl rfl rfl ?_
    | (refine Goal.guardD rfl rfl (fun hc => ?_) (fun hc => ?_) <;> first | (exfalso; omega) | contradiction | skip)
    | refine Goal.guardB rfl rfl (fun hc => ?_) (fun hc => ?_)
    | (apply G.load; exact rfl; exact rfl; first | exact LoadOK.ia (l := l) (i := s) T.one_3 2 rfl (by omega) | exact LoadOK.one (by first | exact T.one_3 | exact T.one_30) 0 rfl rfl | exact LoadOK.one (by first | exact T.one_3 | exact T.one_30) 1 rfl rfl | exact LoadOK.one (by first | exact T.one_3 | exact T.one_30) 2 rfl rfl | exact LoadOK.one (by first | exact T.one_3 | exact T.one_30) 3 rfl rfl | exact LoadOK.one (by first | exact T.one_3 | exact T.one_30) 4 rfl rfl | exact LoadOK.one (by first | exact T.one_3 | exact T.one_30) 5 rfl rfl | exact LoadOK.one (by first | exact T.one_3 | exact T.one_30) 6 rfl rfl | exact LoadOK.one (by first | exact T.one_3 | exact T.one_30) 7 rfl rfl | exact ag3 T.agg_25 0 rfl rfl rfl rfl | exact ag3 T.agg_25 1 rfl rfl rfl rfl | exact ag3 T.agg_25 2 rfl rfl rfl rfl | exact ag3 T.agg_25 3 rfl rfl rfl rfl | exact ag3 T.agg_25 4 rfl rfl rfl rfl | exact ag3 T.agg_25 5 rfl rfl rfl rfl | exact ag3 T.agg_25 6 rfl rfl rfl rfl | exact ag3 T.agg_25 7 rfl rfl rfl rfl)
    | (apply G.pickT; exact rfl; exact rfl; exact rfl)
    | (apply G.pickF; exact rfl; exact rfl; exact rfl)
    | (apply G.lss; exact rfl; exact rfl; exact rfl)
    | (apply G.eql; exact rfl; exact rfl; exact rfl)
    | (apply G.neq; exact rfl; exact rfl; exact rfl)
    | (apply G.add; exact rfl; exact rfl; exact rfl; exact IntWalk.i64_in _ (by omega))
    | (apply G.extract; exact rfl; exact rfl; exact rfl)
    | (apply G.len; exact rfl; exact rfl; exact T.slc_30)
    | (refine G.indexAddr1 rfl (by first | exact T.slc_30 | exact T.slc_73) (by first | exact T.sz_3 | exact T.sz_30) rfl rfl _ rfl (by omega) ?_)
    | (refine G.indexAddr1 rfl (by first | exact T.slc_30 | exact T.slc_73) (by first | exact T.sz_3 | exact T.sz_30) rfl rfl _ (Int.toNat_of_nonneg (by omega)).symm (by omega) ?_))
  · refine Goal.done (vs := [_, _]) (by first | exact .inl rfl | exact .inr rfl) Try.results71 ⟨rfl, rfl, trivial⟩ rfl (fun w' H => ⟨⟨l, [], .slice none 0 0, 11, []⟩, ⟨hl, .inl ⟨hc, rfl, rfl, rfl, rfl⟩⟩, rfl, ⟨H.mod, trivial, List.nodup_nil, fun _ h => by cases h⟩⟩)
  · have hIl := hI.len
    rw [adjL_len] at hIl
    refine Goal.loopP (X := PO) (fun x => [(1, .slice adn dn.length cdn), (3, .int .i64 d), (4, .pointer (some ⟨b4, 0, none⟩)), (11, .slice (some ⟨bl, 0, none⟩) l.length l.length), (13, .slice (some ⟨be, 0, none⟩) (adjL tp.tl tp.n.toNat tp.arcs.toNat).length (adjL tp.tl tp.n.toNat tp.arcs.toNat).length), (14, x.v), (15, .int .i64 x.x)])
      (fun x => (b4, .cells #[.int .i64 tp.n, .slice ao tp.ov.length co, .slice al tp.ls.length cl] 25) :: (bl, .cells (ints l).toArray 3) :: (be, .cells ve.toArray 30) :: (Be ++ x.A))
      (fun x => (0 ≤ x.x ∧ x.x < tp.n) ∧ 0 ≤ ia l x.x ∧ Sl x.v 3 1 x.p.length (ints x.p) x.A ∧ (x.p.length : Int) + ia l x.x ≤ 65535 * tp.n ∧ ∀ q, FP tp dn d (ia l) x.x q → FP tp dn d (ia l) s (x.p ++ q)) (fun x => (ia l x.x).toNat) ⟨s, [], .slice none 0 0, []⟩ ⟨rfl, rfl, rfl, rfl, rfl, rfl, rfl, trivial⟩ (fun _ h => by simpa using St.drop1 h)
      ⟨hs, by dsimp only; omega, Sl.nil _ _, by have := hbd s hs.1 hs.2; simpa using this, fun q hq => hq⟩ ?_
    rintro ⟨x, p, v, Ap⟩ ⟨hx, hDx, hS, hpl, hq⟩
    dsimp only at hx hDx hS hpl hq ⊢
    obtain ⟨av, cv, rfl⟩ := hS.shape
    by_cases hxd : x = d
    · subst hxd
      repeat' (first
        | (refine Goal.loud (o := ⟨some 4, _, _, _, _, _⟩) rfl ?_; first | refine Loud.boxA rfl rfl (fun b4 => ?_) | refine Loud.box1 rfl rfl rfl (fun b4 => ?_))
        | (refine Goal.loud (o := ⟨some 23, _, _, _, _, _⟩) rfl ?_; refine Loud.buildSlice (cs := [_, _]) rfl T.slc_30 T.inf_3 rfl rfl (by decide) rfl rfl rfl (fun b23 => ?_))
        | (refine Goal.loud (o := ⟨some 93, _, _, _, _, _⟩) rfl ?_; refine Loud.buildSlice (cs := [_]) rfl T.slc_30 T.inf_3 rfl rfl (by decide) rfl rfl rfl (fun b93 => ?_))
        | (apply G.move; exact rfl; exact rfl)
        | (apply G.assign; exact rfl; exact rfl)
        | refine Goal.seq (fun _ _ => ?_)
        | refine Goal.next (by assumption) ?_
        | refine Goal.lnil ?_
        | refine Goal.region ?_
        | refine Goal.skip ?_
        | refine Goal.block ?_
        | refine Goal.exit ?_
        | refine Goal.ret ?_
        | refine Goal.then_exit ?_
        | refine Goal.then_ret ?_
        | refine Goal.inBlock_exit ?_
        | refine Goal.inBlock_normal ?_
        | refine Goal.inBlock_ret ?_
        | refine Goal.inBlock_other rfl ?_
        | (apply Goal.condT; exact rfl)
        | (apply Goal.condF; exact rfl)
        | (refine Goal.condD rfl (fun hc => ?_) (fun hc => ?_) <;> first | (exfalso; omega) | contradiction | skip)
        | refine Goal.condB rfl (fun hc => ?_) (fun hc => ?_)
        | refine Goal.guardT rfl rfl ?_
        | refine Goal.guardF rfl rfl rfl rfl ?_
        | refine Goal.guardU rfl rfl rfl ?_
        | (refine Goal.guardD rfl rfl (fun hc => ?_) (fun hc => ?_) <;> first | (exfalso; omega) | contradiction | skip)
        | refine Goal.guardB rfl rfl (fun hc => ?_) (fun hc => ?_)
        | (apply G.load; exact rfl; exact rfl; first | exact LoadOK.one (by first | exact T.one_3 | exact T.one_30) 0 rfl rfl | exact LoadOK.one (by first | exact T.one_3 | exact T.one_30) 1 rfl rfl | exact LoadOK.one (by first | exact T.one_3 | exact T.one_30) 2 rfl rfl | exact LoadOK.one (by first | exact T.one_3 | exact T.one_30) 3 rfl rfl | exact LoadOK.one (by first | exact T.one_3 | exact T.one_30) 4 rfl rfl | exact LoadOK.one (by first | exact T.one_3 | exact T.one_30) 5 rfl rfl | exact LoadOK.one (by first | exact T.one_3 | exact T.one_30) 6 rfl rfl | exact LoadOK.one (by first | exact T.one_3 | exact T.one_30) 7 rfl rfl | exact ag3 T.agg_25 0 rfl rfl rfl rfl | exact ag3 T.agg_25 1 rfl rfl rfl rfl | exact ag3 T.agg_25 2 rfl rfl rfl rfl | exact ag3 T.agg_25 3 rfl rfl rfl rfl | exact ag3 T.agg_25 4 rfl rfl rfl rfl | exact ag3 T.agg_25 5 rfl rfl rfl rfl | exact ag3 T.agg_25 6 rfl rfl rfl rfl | exact ag3 T.agg_25 7 rfl rfl rfl rfl)
        | (apply G.pickT; exact rfl; exact rfl; exact rfl)
        | (apply G.pickF; exact rfl; exact rfl; exact rfl)
        | (apply G.lss; exact rfl; exact rfl; exact rfl)
        | (apply G.eql; exact rfl; exact rfl; exact rfl)
        | (apply G.neq; exact rfl; exact rfl; exact rfl)
        | (apply G.add; exact rfl; exact rfl; exact rfl; exact IntWalk.i64_in _ (by omega))
        | (apply G.extract; exact rfl; exact rfl; exact rfl)
        | (apply G.len; exact rfl; exact rfl; exact T.slc_30)
        | (refine G.indexAddr1 rfl (by first | exact T.slc_30 | exact T.slc_73) (by first | exact T.sz_3 | exact T.sz_30) rfl rfl _ rfl (by omega) ?_)
        | (refine G.indexAddr1 rfl (by first | exact T.slc_30 | exact T.slc_73) (by first | exact T.sz_3 | exact T.sz_30) rfl rfl _ (Int.toNat_of_nonneg (by omega)).symm (by omega) ?_))
      refine Goal.done (vs := [_, _]) (by first | exact .inl rfl | exact .inr rfl) Try.results71 ⟨rfl, rfl, trivial⟩ rfl (fun w' H => ⟨⟨l, p, _, 0, Ap⟩, ⟨hl, .inr ⟨by dsimp only; omega, rfl, by have := hq [] rfl; rwa [List.append_nil] at this, hS⟩⟩, rfl, H.sub ((List.sublist_append_right Be Ap).trans (.cons _ (.cons _ (.cons _ (.refl _)))))⟩)
    · obtain ⟨a0, ha0, hta0, hon0⟩ := on_arc ht hl.bell hx hxd hDx
      have hma0 := mem_arcsAt (h := tp.tl) (k := tp.arcs.toNat) (x := x) (a := a0) |>.2 ⟨by omega, hta0⟩
      have hfl := arcsAt_len tp.tl tp.arcs.toNat x
      have har0 : tp.arcs ≤ 512 := by unfold Top.arcs; omega
      obtain ⟨u, B1, Ai, B2, hv, rfl, hSi, _⟩ := hI.split (i := x.toNat) (by rw [adjL_len]; omega)
      rw [adjL_at, Int.toNat_of_nonneg hx.1] at hSi
      obtain ⟨bi, resti, capi, rfl, rfl, _, _, _⟩ := hSi.pos (List.length_pos_of_mem hma0)
      have hv2 : ve.toArray.toList[0 + x.toNat]? = some (.slice (some ⟨bi, 0, none⟩) (arcsAt tp.tl tp.arcs.toNat x).length capi) := by rw [Nat.zero_add]; exact hv
      have hal := adjL_len tp.tl tp.n.toNat tp.arcs.toNat
      repeat' (first
        | (refine Goal.loud (o := ⟨some 4, _, _, _, _, _⟩) rfl ?_; first | refine Loud.boxA rfl rfl (fun b4 => ?_) | refine Loud.box1 rfl rfl rfl (fun b4 => ?_))
        | (refine Goal.loud (o := ⟨some 23, _, _, _, _, _⟩) rfl ?_; refine Loud.buildSlice (cs := [_, _]) rfl T.slc_30 T.inf_3 rfl rfl (by decide) rfl rfl rfl (fun b23 => ?_))
        | (refine Goal.loud (o := ⟨some 93, _, _, _, _, _⟩) rfl ?_; refine Loud.buildSlice (cs := [_]) rfl T.slc_30 T.inf_3 rfl rfl (by decide) rfl rfl rfl (fun b93 => ?_))
        | (apply G.move; exact rfl; exact rfl)
        | (apply G.assign; exact rfl; exact rfl)
        | refine Goal.seq (fun _ _ => ?_)
        | refine Goal.next (by assumption) ?_
        | refine Goal.lnil ?_
        | refine Goal.region ?_
        | refine Goal.skip ?_
        | refine Goal.block ?_
        | refine Goal.exit ?_
        | refine Goal.ret ?_
        | refine Goal.then_exit ?_
        | refine Goal.then_ret ?_
        | refine Goal.inBlock_exit ?_
        | refine Goal.inBlock_normal ?_
        | refine Goal.inBlock_ret ?_
        | refine Goal.inBlock_other rfl ?_
        | (apply Goal.condT; exact rfl)
        | (apply Goal.condF; exact rfl)
        | (refine Goal.condD rfl (fun hc => ?_) (fun hc => ?_) <;> first | (exfalso; omega) | contradiction | skip)
        | refine Goal.condB rfl (fun hc => ?_) (fun hc => ?_)
        | refine Goal.guardT rfl rfl ?_
        | refine Goal.guardF rfl rfl rfl rfl ?_
        | refine Goal.guardU rfl rfl rfl ?_
        | (refine Goal.guardD rfl rfl (fun hc => ?_) (fun hc => ?_) <;> first | (exfalso; omega) | contradiction | skip)
        | refine Goal.guardB rfl rfl (fun hc => ?_) (fun hc => ?_)
        | (apply G.load; exact rfl; exact rfl; first | exact LoadOK.one T.one_30 2 rfl hv2 | exact LoadOK.one (by first | exact T.one_3 | exact T.one_30) 0 rfl rfl | exact LoadOK.one (by first | exact T.one_3 | exact T.one_30) 1 rfl rfl | exact LoadOK.one (by first | exact T.one_3 | exact T.one_30) 2 rfl rfl | exact LoadOK.one (by first | exact T.one_3 | exact T.one_30) 3 rfl rfl | exact LoadOK.one (by first | exact T.one_3 | exact T.one_30) 4 rfl rfl | exact LoadOK.one (by first | exact T.one_3 | exact T.one_30) 5 rfl rfl | exact LoadOK.one (by first | exact T.one_3 | exact T.one_30) 6 rfl rfl | exact LoadOK.one (by first | exact T.one_3 | exact T.one_30) 7 rfl rfl | exact ag3 T.agg_25 0 rfl rfl rfl rfl | exact ag3 T.agg_25 1 rfl rfl rfl rfl | exact ag3 T.agg_25 2 rfl rfl rfl rfl | exact ag3 T.agg_25 3 rfl rfl rfl rfl | exact ag3 T.agg_25 4 rfl rfl rfl rfl | exact ag3 T.agg_25 5 rfl rfl rfl rfl | exact ag3 T.agg_25 6 rfl rfl rfl rfl | exact ag3 T.agg_25 7 rfl rfl rfl rfl)
        | (apply G.pickT; exact rfl; exact rfl; exact rfl)
        | (apply G.pickF; exact rfl; exact rfl; exact rfl)
        | (apply G.lss; exact rfl; exact rfl; exact rfl)
        | (apply G.eql; exact rfl; exact rfl; exact rfl)
        | (apply G.neq; exact rfl; exact rfl; exact rfl)
        | (apply G.add; exact rfl; exact rfl; exact rfl; exact IntWalk.i64_in _ (by omega))
        | (apply G.extract; exact rfl; exact rfl; exact rfl)
        | (apply G.len; exact rfl; exact rfl; exact T.slc_30)
        | (refine G.indexAddr1 rfl (by first | exact T.slc_30 | exact T.slc_73) (by first | exact T.sz_3 | exact T.sz_30) rfl rfl _ rfl (by omega) ?_)
        | (refine G.indexAddr1 rfl (by first | exact T.slc_30 | exact T.slc_73) (by first | exact T.sz_3 | exact T.sz_30) rfl rfl _ (Int.toNat_of_nonneg (by omega)).symm (by omega) ?_))
      refine Goal.loopP (X := Int) (fun j => [(1, .slice adn dn.length cdn), (3, .int .i64 d), (4, .pointer (some ⟨b4, 0, none⟩)), (11, .slice (some ⟨bl, 0, none⟩) l.length l.length), (13, .slice (some ⟨be, 0, none⟩) (adjL tp.tl tp.n.toNat tp.arcs.toNat).length (adjL tp.tl tp.n.toNat tp.arcs.toNat).length), (14, .slice av p.length cv), (15, .int .i64 x), (49, .slice (some ⟨bi, 0, none⟩) (arcsAt tp.tl tp.arcs.toNat x).length capi), (50, .int .i64 (arcsAt tp.tl tp.arcs.toNat x).length), (51, .int .i64 j)])
        (fun _ => (b4, .cells #[.int .i64 tp.n, .slice ao tp.ov.length co, .slice al tp.ls.length cl] 25) :: (bl, .cells (ints l).toArray 3) :: (be, .cells ve.toArray 30) :: ((B1 ++ ([(bi, .cells (ints (arcsAt tp.tl tp.arcs.toNat x) ++ resti).toArray 3)] ++ B2)) ++ Ap))
        (fun j => (0 ≤ j ∧ j ≤ (arcsAt tp.tl tp.arcs.toNat x).length) ∧ ∀ q : Int, 0 ≤ q → q < j → ¬ OnA tp dn d (ia l) (ia (arcsAt tp.tl tp.arcs.toNat x) q)) (fun j => ((arcsAt tp.tl tp.arcs.toNat x).length - j).toNat) 0 ⟨rfl, rfl, rfl, rfl, rfl, rfl, rfl, rfl, rfl, rfl, trivial⟩ (fun _ h => h) ⟨by omega, fun q q0 q1 => by omega⟩ ?_
      rintro j ⟨hj, hnot⟩
      by_cases hjl : j < (arcsAt tp.tl tp.arcs.toNat x).length
      · have hmem := mem_ia (l := arcsAt tp.tl tp.arcs.toNat x) (i := j) ⟨hj.1, hjl⟩
        have hbef := fun b => arcsAt_before (h := tp.tl) (k := tp.arcs.toNat) (x := x) (j := j) ⟨hj.1, hjl⟩ (b := b)
        generalize haa : ia (arcsAt tp.tl tp.arcs.toNat x) j = a at hmem hbef
        obtain ⟨har, hta⟩ := mem_arcsAt.1 hmem
        have har : 0 ≤ a ∧ a < tp.arcs := by omega
        obtain ⟨_, hhd, hco, _⟩ := ht.arc har
        have hneg := hl.bell.neg (tp.hd a) hhd.1 hhd.2
        have hbh := hbd (tp.hd a) hhd.1 hhd.2
        have hdm : dn.length = 0 ∨ (0 ≤ a ∧ a < dn.length) := by
          rcases hf with e | e
          · exact .inl e
          · exact .inr (by omega)
        have hdl : dn.length ≤ 1048576 := by
          rcases hf with e | e
          · omega
          · omega
        have hnx : ¬ OnA tp dn d (ia l) a → ∀ q : Int, 0 ≤ q → q < j + 1 → ¬ OnA tp dn d (ia l) (ia (arcsAt tp.tl tp.arcs.toNat x) q) := fun hno q q0 q1 => by
          by_cases e : q = j
          · rw [e, haa]; exact hno
          · exact hnot q q0 (by omega)
        cases hup : ba dn a
        · cases hov : tp.over (tp.hd a)
          · skip
            repeat' (first
              | (refine Goal.drawAll (id := 16) 13 T.mixed ?_; all_goals ((refine Goal.takeP (listed' := #[Ya,No,No,No,No,No,No,No,No,No,No,No,No]) 0 ⟨rfl, by kernel_rfl, by kernel_rfl, by kernel_rfl, by kernel_rfl⟩ rfl (fun _ _ _ _ h => h) (by intro _; exact Run.move rfl) ?_)); all_goals ((refine Goal.takeP (listed' := #[Ya,Ya,No,No,No,No,No,No,No,No,No,No,No]) 1 ⟨rfl, by kernel_rfl, by kernel_rfl, by kernel_rfl, by kernel_rfl⟩ rfl (fun _ _ _ _ h => h) (by intro _; exact Run.move rfl) ?_)); all_goals ((refine Goal.takeP (listed' := #[Ya,Ya,Ya,No,No,No,No,No,No,No,No,No,No]) 2 ⟨rfl, by kernel_rfl, by kernel_rfl, by kernel_rfl, by kernel_rfl⟩ rfl (fun _ _ _ _ h => h) (by intro _; first | exact Run.indexAddr1 T.slc_30 T.sz_3 rfl rfl rfl (by omega) | exact Run.indexAddr1 T.slc_30 T.sz_3 rfl rfl (Int.toNat_of_nonneg (by omega)).symm (by omega)) ?_)); all_goals ((refine Goal.takeP (listed' := #[Ya,Ya,Ya,No,No,Ya,No,No,No,No,No,No,No]) 5 ⟨rfl, by kernel_rfl, by kernel_rfl, by kernel_rfl, by kernel_rfl⟩ rfl (fun _ _ _ _ h => h) (by intro _; exact Run.move rfl) ?_)); all_goals ((refine Goal.takeP (listed' := #[Ya,Ya,Ya,No,No,Ya,No,No,Ya,No,No,No,No]) 8 ⟨rfl, by kernel_rfl, by kernel_rfl, by kernel_rfl, by kernel_rfl⟩ rfl (fun _ _ _ _ h => h) (by intro _; exact Run.move rfl) ?_)); all_goals ((refine Goal.takeP (listed' := #[Ya,Ya,Ya,No,No,Ya,No,No,Ya,Ya,No,No,No]) 9 ⟨rfl, by kernel_rfl, by kernel_rfl, by kernel_rfl, by kernel_rfl⟩ rfl (fun _ _ _ _ h => h) (by intro _; exact Run.move rfl) ?_)); all_goals ((refine Goal.takeP (listed' := #[Ya,Ya,Ya,No,No,Ya,No,No,Ya,Ya,Ya,No,No]) 10 ⟨rfl, by kernel_rfl, by kernel_rfl, by kernel_rfl, by kernel_rfl⟩ rfl (fun _ _ _ _ h => h) (by intro _; first | exact Run.indexAddr1 T.slc_30 T.sz_3 rfl rfl rfl (by omega) | exact Run.indexAddr1 T.slc_30 T.sz_3 rfl rfl (Int.toNat_of_nonneg (by omega)).symm (by omega)) ?_)); all_goals ((refine Goal.take (listed' := #[Ya,Ya,Ya,Ya,No,Ya,No,No,Ya,Ya,Ya,No,No]) 3 ⟨rfl, by kernel_rfl, by kernel_rfl, by kernel_rfl, by kernel_rfl, by kernel_rfl⟩ rfl (by (first | exact s0 | exact s1 | exact s2 | exact s3 | exact sd | exact sa | exact sn (by simp))) (fun _ _ _ _ h => h) (by (apply Run.load; exact rfl; first | exact LoadOK.iaMe (b := bi) (l := arcsAt tp.tl tp.arcs.toNat x) (rest := resti) (E := 3) (i := j) (x := a) T.one_3 (by simp) (by omega) haa | exact LoadOK.ia (l := l) (i := tp.hd a) T.one_3 1 rfl (by omega) | exact LoadOK.ia (l := l) (i := x) T.one_3 1 rfl (by omega) | exact LoadOK.one T.one_3 0 rfl rfl | exact LoadOK.one T.one_3 1 rfl rfl | exact LoadOK.one T.one_3 2 rfl rfl | exact LoadOK.one T.one_3 3 rfl rfl | exact LoadOK.one T.one_3 4 rfl rfl | exact LoadOK.one T.one_3 5 rfl rfl | exact LoadOK.one T.one_3 6 rfl rfl | exact LoadOK.one T.one_3 7 rfl rfl)) ?_)); all_goals ((refine Goal.take (listed' := #[Ya,Ya,Ya,Ya,Ya,Ya,No,No,Ya,Ya,Ya,No,No]) 4 ⟨rfl, by kernel_rfl, by kernel_rfl, by kernel_rfl, by kernel_rfl, by kernel_rfl⟩ rfl (by (first | exact s0 | exact s1 | exact s2 | exact s3 | exact sd | exact sa | exact sn (by simp))) (fun _ _ _ _ h => h) (by (apply Run.load; exact rfl; first | exact LoadOK.iaMe (b := bi) (l := arcsAt tp.tl tp.arcs.toNat x) (rest := resti) (E := 3) (i := j) (x := a) T.one_3 (by simp) (by omega) haa | exact LoadOK.ia (l := l) (i := tp.hd a) T.one_3 1 rfl (by omega) | exact LoadOK.ia (l := l) (i := x) T.one_3 1 rfl (by omega) | exact ag3 T.agg_25 0 rfl rfl rfl rfl | exact ag3 T.agg_25 1 rfl rfl rfl rfl | exact ag3 T.agg_25 2 rfl rfl rfl rfl | exact ag3 T.agg_25 3 rfl rfl rfl rfl | exact ag3 T.agg_25 4 rfl rfl rfl rfl | exact ag3 T.agg_25 5 rfl rfl rfl rfl | exact ag3 T.agg_25 6 rfl rfl rfl rfl | exact ag3 T.agg_25 7 rfl rfl rfl rfl)) ?_)); all_goals ((refine Goal.take (listed' := #[Ya,Ya,Ya,Ya,Ya,Ya,No,No,Ya,Ya,Ya,Ya,No]) 11 ⟨rfl, by kernel_rfl, by kernel_rfl, by kernel_rfl, by kernel_rfl, by kernel_rfl⟩ rfl (by (first | exact s0 | exact s1 | exact s2 | exact s3 | exact sd | exact sa | exact sn (by simp))) (fun _ _ _ _ h => h) (by (apply Run.load; exact rfl; first | exact LoadOK.iaMe (b := bi) (l := arcsAt tp.tl tp.arcs.toNat x) (rest := resti) (E := 3) (i := j) (x := a) T.one_3 (by simp) (by omega) haa | exact LoadOK.ia (l := l) (i := tp.hd a) T.one_3 1 rfl (by omega) | exact LoadOK.ia (l := l) (i := x) T.one_3 1 rfl (by omega) | exact LoadOK.one T.one_3 0 rfl rfl | exact LoadOK.one T.one_3 1 rfl rfl | exact LoadOK.one T.one_3 2 rfl rfl | exact LoadOK.one T.one_3 3 rfl rfl | exact LoadOK.one T.one_3 4 rfl rfl | exact LoadOK.one T.one_3 5 rfl rfl | exact LoadOK.one T.one_3 6 rfl rfl | exact LoadOK.one T.one_3 7 rfl rfl)) ?_)); all_goals (refine Goal.ready1 (i := 6) (by kernel_rfl) ?_); all_goals ((refine Goal.up (i := 6) (listed' := #[Ya,Ya,Ya,Ya,Ya,Ya,Ya,No,Ya,Ya,Ya,Ya,No]) rfl (by kernel_rfl) ?_; (apply Loud.call0; exact rfl; exact rfl; exact rfl; exact rfl; exact T.bod_48; exact (fun w' H => cost_ok (hT.keep H.mod) har (by omega))); first | refine Goal.tail rfl ?_ | refine Goal.kept (by (first | exact s0 | exact s1 | exact s2 | exact s3 | exact sd | exact sa | exact sn (by simp))) ?_)); all_goals ((refine Goal.takeP (listed' := #[Ya,Ya,Ya,Ya,Ya,Ya,Ya,Ya,Ya,Ya,Ya,Ya,No]) 7 ⟨rfl, by kernel_rfl, by kernel_rfl, by kernel_rfl, by kernel_rfl⟩ rfl (fun _ _ _ _ h => h) (by intro _; (apply Run.add; exact rfl; exact rfl; exact IntWalk.i64_in _ (by omega))) ?_)); all_goals ((refine Goal.takeP (listed' := #[Ya,Ya,Ya,Ya,Ya,Ya,Ya,Ya,Ya,Ya,Ya,Ya,Ya]) 12 ⟨rfl, by kernel_rfl, by kernel_rfl, by kernel_rfl, by kernel_rfl⟩ rfl (fun _ _ _ _ h => h) (by intro _; first | exact Run.eql rfl rfl) ?_)); all_goals (refine Goal.allUp (by kernel_rfl) ?_))
              | (refine Goal.loud (o := ⟨some 57, _, _, _, _, _⟩) rfl ?_; apply Loud.call0; exact rfl; exact rfl; exact rfl; exact rfl; exact T.bod_69; exact (fun w' H => head_ok (hT.keep H.mod) har (by omega)))
              | (refine Goal.loud (o := ⟨some 60, _, _, _, _, _⟩) rfl ?_; apply Loud.call0; exact rfl; exact rfl; exact rfl; exact rfl; exact T.bod_61; exact (fun w' H => down_ok (hd.keep H.mod) hdm hdl); rw [hup])
              | (refine Goal.loud (o := ⟨some 75, _, _, _, _, _⟩) rfl ?_; apply Loud.call0; exact rfl; exact rfl; exact rfl; exact rfl; exact T.bod_70; exact (fun w' H => over_ok (hT.keep H.mod) (by omega) (by omega)); rw [hov])
              | (refine Goal.loud (o := ⟨some 84, _, _, _, _, _⟩) rfl ?_; apply Loud.call0; exact rfl; exact rfl; exact rfl; exact rfl; exact T.bod_48; exact (fun w' H => cost_ok (hT.keep H.mod) har (by omega)))
              | (refine Goal.loud (o := ⟨some 94, _, _, _, _, _⟩) rfl ?_; refine Loud.appendT rfl T.slc_30 T.inf_3 rfl (_ :: _ :: _ :: (B1 ++ ([_] ++ B2))) rfl hS rfl rfl rfl rfl (by omega) (by omega) ?_; intro v2 A2 hA2; obtain ⟨ad2, cp2, rfl⟩ := hA2.shape)
              | (refine Goal.loud (o := ⟨some 4, _, _, _, _, _⟩) rfl ?_; first | refine Loud.boxA rfl rfl (fun b4 => ?_) | refine Loud.box1 rfl rfl rfl (fun b4 => ?_))
              | (refine Goal.loud (o := ⟨some 23, _, _, _, _, _⟩) rfl ?_; refine Loud.buildSlice (cs := [_, _]) rfl T.slc_30 T.inf_3 rfl rfl (by decide) rfl rfl rfl (fun b23 => ?_))
              | (refine Goal.loud (o := ⟨some 93, _, _, _, _, _⟩) rfl ?_; refine Loud.buildSlice (cs := [_]) rfl T.slc_30 T.inf_3 rfl rfl (by decide) rfl rfl rfl (fun b93 => ?_))
              | (apply G.move; exact rfl; exact rfl)
              | (apply G.assign; exact rfl; exact rfl)
              | refine Goal.seq (fun _ _ => ?_)
              | refine Goal.next (by assumption) ?_
              | refine Goal.lnil ?_
              | refine Goal.region ?_
              | refine Goal.skip ?_
              | refine Goal.block ?_
              | refine Goal.exit ?_
              | refine Goal.ret ?_
              | refine Goal.then_exit ?_
              | refine Goal.then_ret ?_
              | refine Goal.inBlock_exit ?_
              | refine Goal.inBlock_normal ?_
              | refine Goal.inBlock_ret ?_
              | refine Goal.inBlock_other rfl ?_
              | (apply Goal.condT; exact rfl)
              | (apply Goal.condF; exact rfl)
              | (refine Goal.condD rfl (fun hc => ?_) (fun hc => ?_) <;> first | (exfalso; omega) | contradiction | skip)
              | refine Goal.condB rfl (fun hc => ?_) (fun hc => ?_)
              | refine Goal.guardT rfl rfl ?_
              | refine Goal.guardF rfl rfl rfl rfl ?_
              | refine Goal.guardU rfl rfl rfl ?_
              | (refine Goal.guardD rfl rfl (fun hc => ?_) (fun hc => ?_) <;> first | (exfalso; omega) | contradiction | skip)
              | refine Goal.guardB rfl rfl (fun hc => ?_) (fun hc => ?_)
              | (apply G.load; exact rfl; exact rfl; first | exact LoadOK.iaMe (b := bi) (l := arcsAt tp.tl tp.arcs.toNat x) (rest := resti) (E := 3) (i := j) (x := a) T.one_3 (by simp) (by omega) haa | exact LoadOK.ia (l := l) (i := tp.hd a) T.one_3 1 rfl (by omega) | exact LoadOK.ia (l := l) (i := x) T.one_3 1 rfl (by omega) | exact LoadOK.one (by first | exact T.one_3 | exact T.one_30) 0 rfl rfl | exact LoadOK.one (by first | exact T.one_3 | exact T.one_30) 1 rfl rfl | exact LoadOK.one (by first | exact T.one_3 | exact T.one_30) 2 rfl rfl | exact LoadOK.one (by first | exact T.one_3 | exact T.one_30) 3 rfl rfl | exact LoadOK.one (by first | exact T.one_3 | exact T.one_30) 4 rfl rfl | exact LoadOK.one (by first | exact T.one_3 | exact T.one_30) 5 rfl rfl | exact LoadOK.one (by first | exact T.one_3 | exact T.one_30) 6 rfl rfl | exact LoadOK.one (by first | exact T.one_3 | exact T.one_30) 7 rfl rfl | exact ag3 T.agg_25 0 rfl rfl rfl rfl | exact ag3 T.agg_25 1 rfl rfl rfl rfl | exact ag3 T.agg_25 2 rfl rfl rfl rfl | exact ag3 T.agg_25 3 rfl rfl rfl rfl | exact ag3 T.agg_25 4 rfl rfl rfl rfl | exact ag3 T.agg_25 5 rfl rfl rfl rfl | exact ag3 T.agg_25 6 rfl rfl rfl rfl | exact ag3 T.agg_25 7 rfl rfl rfl rfl)
              | (apply G.pickT; exact rfl; exact rfl; exact rfl)
              | (apply G.pickF; exact rfl; exact rfl; exact rfl)
              | (apply G.lss; exact rfl; exact rfl; exact rfl)
              | (apply G.eql; exact rfl; exact rfl; exact rfl)
              | (apply G.neq; exact rfl; exact rfl; exact rfl)
              | (apply G.add; exact rfl; exact rfl; exact rfl; exact IntWalk.i64_in _ (by omega))
              | (apply G.extract; exact rfl; exact rfl; exact rfl)
              | (apply G.len; exact rfl; exact rfl; exact T.slc_30)
              | (refine G.indexAddr1 rfl (by first | exact T.slc_30 | exact T.slc_73) (by first | exact T.sz_3 | exact T.sz_30) rfl rfl _ rfl (by omega) ?_)
              | (refine G.indexAddr1 rfl (by first | exact T.slc_30 | exact T.slc_73) (by first | exact T.sz_3 | exact T.sz_30) rfl rfl _ (Int.toNat_of_nonneg (by omega)).symm (by omega) ?_))
            all_goals first
              | (refine Goal.again (j + 1) ⟨by omega, hnx (fun ⟨u1, u2, u3, u4, u5⟩ => by rw [hta] at u5; omega)⟩ (by omega) ⟨rfl, rfl, rfl, rfl, rfl, rfl, rfl, rfl, rfl, rfl, trivial⟩ (fun _ h => h); done)
              | (refine Goal.again ⟨tp.hd a, p ++ [a], .slice ad2 (p.length + 1) cp2, A2⟩ ⟨hhd, by dsimp only; omega, by dsimp only; rw [List.length_append, show ints (p ++ [a]) = ints p ++ [.int .i64 a] by simp [ints]]; exact hA2, by dsimp only; rw [List.length_append]; simp only [List.length_cons, List.length_nil]; omega, fun q hfp => by
                  dsimp only at hfp ⊢
                  rw [List.append_assoc]
                  exact hq (a :: q) ⟨hxd, har, ⟨hta, hup, by rw [hta]; exact hxd, by omega, by first | exact .inl (by omega) | exact .inr hov, by rw [hta]; omega⟩, fun b b0 b1 ⟨e1, e2⟩ => by
                    obtain ⟨q', hq1, hq2⟩ := hbef b (mem_arcsAt.2 ⟨by omega, e1⟩) b1
                    exact hnot q' hq1.1 hq1.2 (hq2 ▸ e2), hfp⟩⟩ (by dsimp only; omega) ⟨rfl, rfl, rfl, rfl, rfl, rfl, rfl, trivial⟩ (fun _ h => by simpa only [List.append_eq, List.append_assoc, List.cons_append, List.nil_append, List.append_nil] using h))
          · skip
            repeat' (first
              | (refine Goal.drawAll (id := 16) 13 T.mixed ?_; all_goals ((refine Goal.takeP (listed' := #[Ya,No,No,No,No,No,No,No,No,No,No,No,No]) 0 ⟨rfl, by kernel_rfl, by kernel_rfl, by kernel_rfl, by kernel_rfl⟩ rfl (fun _ _ _ _ h => h) (by intro _; exact Run.move rfl) ?_)); all_goals ((refine Goal.takeP (listed' := #[Ya,Ya,No,No,No,No,No,No,No,No,No,No,No]) 1 ⟨rfl, by kernel_rfl, by kernel_rfl, by kernel_rfl, by kernel_rfl⟩ rfl (fun _ _ _ _ h => h) (by intro _; exact Run.move rfl) ?_)); all_goals ((refine Goal.takeP (listed' := #[Ya,Ya,Ya,No,No,No,No,No,No,No,No,No,No]) 2 ⟨rfl, by kernel_rfl, by kernel_rfl, by kernel_rfl, by kernel_rfl⟩ rfl (fun _ _ _ _ h => h) (by intro _; first | exact Run.indexAddr1 T.slc_30 T.sz_3 rfl rfl rfl (by omega) | exact Run.indexAddr1 T.slc_30 T.sz_3 rfl rfl (Int.toNat_of_nonneg (by omega)).symm (by omega)) ?_)); all_goals ((refine Goal.takeP (listed' := #[Ya,Ya,Ya,No,No,Ya,No,No,No,No,No,No,No]) 5 ⟨rfl, by kernel_rfl, by kernel_rfl, by kernel_rfl, by kernel_rfl⟩ rfl (fun _ _ _ _ h => h) (by intro _; exact Run.move rfl) ?_)); all_goals ((refine Goal.takeP (listed' := #[Ya,Ya,Ya,No,No,Ya,No,No,Ya,No,No,No,No]) 8 ⟨rfl, by kernel_rfl, by kernel_rfl, by kernel_rfl, by kernel_rfl⟩ rfl (fun _ _ _ _ h => h) (by intro _; exact Run.move rfl) ?_)); all_goals ((refine Goal.takeP (listed' := #[Ya,Ya,Ya,No,No,Ya,No,No,Ya,Ya,No,No,No]) 9 ⟨rfl, by kernel_rfl, by kernel_rfl, by kernel_rfl, by kernel_rfl⟩ rfl (fun _ _ _ _ h => h) (by intro _; exact Run.move rfl) ?_)); all_goals ((refine Goal.takeP (listed' := #[Ya,Ya,Ya,No,No,Ya,No,No,Ya,Ya,Ya,No,No]) 10 ⟨rfl, by kernel_rfl, by kernel_rfl, by kernel_rfl, by kernel_rfl⟩ rfl (fun _ _ _ _ h => h) (by intro _; first | exact Run.indexAddr1 T.slc_30 T.sz_3 rfl rfl rfl (by omega) | exact Run.indexAddr1 T.slc_30 T.sz_3 rfl rfl (Int.toNat_of_nonneg (by omega)).symm (by omega)) ?_)); all_goals ((refine Goal.take (listed' := #[Ya,Ya,Ya,Ya,No,Ya,No,No,Ya,Ya,Ya,No,No]) 3 ⟨rfl, by kernel_rfl, by kernel_rfl, by kernel_rfl, by kernel_rfl, by kernel_rfl⟩ rfl (by (first | exact s0 | exact s1 | exact s2 | exact s3 | exact sd | exact sa | exact sn (by simp))) (fun _ _ _ _ h => h) (by (apply Run.load; exact rfl; first | exact LoadOK.iaMe (b := bi) (l := arcsAt tp.tl tp.arcs.toNat x) (rest := resti) (E := 3) (i := j) (x := a) T.one_3 (by simp) (by omega) haa | exact LoadOK.ia (l := l) (i := tp.hd a) T.one_3 1 rfl (by omega) | exact LoadOK.ia (l := l) (i := x) T.one_3 1 rfl (by omega) | exact LoadOK.one T.one_3 0 rfl rfl | exact LoadOK.one T.one_3 1 rfl rfl | exact LoadOK.one T.one_3 2 rfl rfl | exact LoadOK.one T.one_3 3 rfl rfl | exact LoadOK.one T.one_3 4 rfl rfl | exact LoadOK.one T.one_3 5 rfl rfl | exact LoadOK.one T.one_3 6 rfl rfl | exact LoadOK.one T.one_3 7 rfl rfl)) ?_)); all_goals ((refine Goal.take (listed' := #[Ya,Ya,Ya,Ya,Ya,Ya,No,No,Ya,Ya,Ya,No,No]) 4 ⟨rfl, by kernel_rfl, by kernel_rfl, by kernel_rfl, by kernel_rfl, by kernel_rfl⟩ rfl (by (first | exact s0 | exact s1 | exact s2 | exact s3 | exact sd | exact sa | exact sn (by simp))) (fun _ _ _ _ h => h) (by (apply Run.load; exact rfl; first | exact LoadOK.iaMe (b := bi) (l := arcsAt tp.tl tp.arcs.toNat x) (rest := resti) (E := 3) (i := j) (x := a) T.one_3 (by simp) (by omega) haa | exact LoadOK.ia (l := l) (i := tp.hd a) T.one_3 1 rfl (by omega) | exact LoadOK.ia (l := l) (i := x) T.one_3 1 rfl (by omega) | exact ag3 T.agg_25 0 rfl rfl rfl rfl | exact ag3 T.agg_25 1 rfl rfl rfl rfl | exact ag3 T.agg_25 2 rfl rfl rfl rfl | exact ag3 T.agg_25 3 rfl rfl rfl rfl | exact ag3 T.agg_25 4 rfl rfl rfl rfl | exact ag3 T.agg_25 5 rfl rfl rfl rfl | exact ag3 T.agg_25 6 rfl rfl rfl rfl | exact ag3 T.agg_25 7 rfl rfl rfl rfl)) ?_)); all_goals ((refine Goal.take (listed' := #[Ya,Ya,Ya,Ya,Ya,Ya,No,No,Ya,Ya,Ya,Ya,No]) 11 ⟨rfl, by kernel_rfl, by kernel_rfl, by kernel_rfl, by kernel_rfl, by kernel_rfl⟩ rfl (by (first | exact s0 | exact s1 | exact s2 | exact s3 | exact sd | exact sa | exact sn (by simp))) (fun _ _ _ _ h => h) (by (apply Run.load; exact rfl; first | exact LoadOK.iaMe (b := bi) (l := arcsAt tp.tl tp.arcs.toNat x) (rest := resti) (E := 3) (i := j) (x := a) T.one_3 (by simp) (by omega) haa | exact LoadOK.ia (l := l) (i := tp.hd a) T.one_3 1 rfl (by omega) | exact LoadOK.ia (l := l) (i := x) T.one_3 1 rfl (by omega) | exact LoadOK.one T.one_3 0 rfl rfl | exact LoadOK.one T.one_3 1 rfl rfl | exact LoadOK.one T.one_3 2 rfl rfl | exact LoadOK.one T.one_3 3 rfl rfl | exact LoadOK.one T.one_3 4 rfl rfl | exact LoadOK.one T.one_3 5 rfl rfl | exact LoadOK.one T.one_3 6 rfl rfl | exact LoadOK.one T.one_3 7 rfl rfl)) ?_)); all_goals (refine Goal.ready1 (i := 6) (by kernel_rfl) ?_); all_goals ((refine Goal.up (i := 6) (listed' := #[Ya,Ya,Ya,Ya,Ya,Ya,Ya,No,Ya,Ya,Ya,Ya,No]) rfl (by kernel_rfl) ?_; (apply Loud.call0; exact rfl; exact rfl; exact rfl; exact rfl; exact T.bod_48; exact (fun w' H => cost_ok (hT.keep H.mod) har (by omega))); first | refine Goal.tail rfl ?_ | refine Goal.kept (by (first | exact s0 | exact s1 | exact s2 | exact s3 | exact sd | exact sa | exact sn (by simp))) ?_)); all_goals ((refine Goal.takeP (listed' := #[Ya,Ya,Ya,Ya,Ya,Ya,Ya,Ya,Ya,Ya,Ya,Ya,No]) 7 ⟨rfl, by kernel_rfl, by kernel_rfl, by kernel_rfl, by kernel_rfl⟩ rfl (fun _ _ _ _ h => h) (by intro _; (apply Run.add; exact rfl; exact rfl; exact IntWalk.i64_in _ (by omega))) ?_)); all_goals ((refine Goal.takeP (listed' := #[Ya,Ya,Ya,Ya,Ya,Ya,Ya,Ya,Ya,Ya,Ya,Ya,Ya]) 12 ⟨rfl, by kernel_rfl, by kernel_rfl, by kernel_rfl, by kernel_rfl⟩ rfl (fun _ _ _ _ h => h) (by intro _; first | exact Run.eql rfl rfl) ?_)); all_goals (refine Goal.allUp (by kernel_rfl) ?_))
              | (refine Goal.loud (o := ⟨some 57, _, _, _, _, _⟩) rfl ?_; apply Loud.call0; exact rfl; exact rfl; exact rfl; exact rfl; exact T.bod_69; exact (fun w' H => head_ok (hT.keep H.mod) har (by omega)))
              | (refine Goal.loud (o := ⟨some 60, _, _, _, _, _⟩) rfl ?_; apply Loud.call0; exact rfl; exact rfl; exact rfl; exact rfl; exact T.bod_61; exact (fun w' H => down_ok (hd.keep H.mod) hdm hdl); rw [hup])
              | (refine Goal.loud (o := ⟨some 75, _, _, _, _, _⟩) rfl ?_; apply Loud.call0; exact rfl; exact rfl; exact rfl; exact rfl; exact T.bod_70; exact (fun w' H => over_ok (hT.keep H.mod) (by omega) (by omega)); rw [hov])
              | (refine Goal.loud (o := ⟨some 84, _, _, _, _, _⟩) rfl ?_; apply Loud.call0; exact rfl; exact rfl; exact rfl; exact rfl; exact T.bod_48; exact (fun w' H => cost_ok (hT.keep H.mod) har (by omega)))
              | (refine Goal.loud (o := ⟨some 94, _, _, _, _, _⟩) rfl ?_; refine Loud.appendT rfl T.slc_30 T.inf_3 rfl (_ :: _ :: _ :: (B1 ++ ([_] ++ B2))) rfl hS rfl rfl rfl rfl (by omega) (by omega) ?_; intro v2 A2 hA2; obtain ⟨ad2, cp2, rfl⟩ := hA2.shape)
              | (refine Goal.loud (o := ⟨some 4, _, _, _, _, _⟩) rfl ?_; first | refine Loud.boxA rfl rfl (fun b4 => ?_) | refine Loud.box1 rfl rfl rfl (fun b4 => ?_))
              | (refine Goal.loud (o := ⟨some 23, _, _, _, _, _⟩) rfl ?_; refine Loud.buildSlice (cs := [_, _]) rfl T.slc_30 T.inf_3 rfl rfl (by decide) rfl rfl rfl (fun b23 => ?_))
              | (refine Goal.loud (o := ⟨some 93, _, _, _, _, _⟩) rfl ?_; refine Loud.buildSlice (cs := [_]) rfl T.slc_30 T.inf_3 rfl rfl (by decide) rfl rfl rfl (fun b93 => ?_))
              | (apply G.move; exact rfl; exact rfl)
              | (apply G.assign; exact rfl; exact rfl)
              | refine Goal.seq (fun _ _ => ?_)
              | refine Goal.next (by assumption) ?_
              | refine Goal.lnil ?_
              | refine Goal.region ?_
              | refine Goal.skip ?_
              | refine Goal.block ?_
              | refine Goal.exit ?_
              | refine Goal.ret ?_
              | refine Goal.then_exit ?_
              | refine Goal.then_ret ?_
              | refine Goal.inBlock_exit ?_
              | refine Goal.inBlock_normal ?_
              | refine Goal.inBlock_ret ?_
              | refine Goal.inBlock_other rfl ?_
              | (apply Goal.condT; exact rfl)
              | (apply Goal.condF; exact rfl)
              | (refine Goal.condD rfl (fun hc => ?_) (fun hc => ?_) <;> first | (exfalso; omega) | contradiction | skip)
              | refine Goal.condB rfl (fun hc => ?_) (fun hc => ?_)
              | refine Goal.guardT rfl rfl ?_
              | refine Goal.guardF rfl rfl rfl rfl ?_
              | refine Goal.guardU rfl rfl rfl ?_
              | (refine Goal.guardD rfl rfl (fun hc => ?_) (fun hc => ?_) <;> first | (exfalso; omega) | contradiction | skip)
              | refine Goal.guardB rfl rfl (fun hc => ?_) (fun hc => ?_)
              | (apply G.load; exact rfl; exact rfl; first | exact LoadOK.iaMe (b := bi) (l := arcsAt tp.tl tp.arcs.toNat x) (rest := resti) (E := 3) (i := j) (x := a) T.one_3 (by simp) (by omega) haa | exact LoadOK.ia (l := l) (i := tp.hd a) T.one_3 1 rfl (by omega) | exact LoadOK.ia (l := l) (i := x) T.one_3 1 rfl (by omega) | exact LoadOK.one (by first | exact T.one_3 | exact T.one_30) 0 rfl rfl | exact LoadOK.one (by first | exact T.one_3 | exact T.one_30) 1 rfl rfl | exact LoadOK.one (by first | exact T.one_3 | exact T.one_30) 2 rfl rfl | exact LoadOK.one (by first | exact T.one_3 | exact T.one_30) 3 rfl rfl | exact LoadOK.one (by first | exact T.one_3 | exact T.one_30) 4 rfl rfl | exact LoadOK.one (by first | exact T.one_3 | exact T.one_30) 5 rfl rfl | exact LoadOK.one (by first | exact T.one_3 | exact T.one_30) 6 rfl rfl | exact LoadOK.one (by first | exact T.one_3 | exact T.one_30) 7 rfl rfl | exact ag3 T.agg_25 0 rfl rfl rfl rfl | exact ag3 T.agg_25 1 rfl rfl rfl rfl | exact ag3 T.agg_25 2 rfl rfl rfl rfl | exact ag3 T.agg_25 3 rfl rfl rfl rfl | exact ag3 T.agg_25 4 rfl rfl rfl rfl | exact ag3 T.agg_25 5 rfl rfl rfl rfl | exact ag3 T.agg_25 6 rfl rfl rfl rfl | exact ag3 T.agg_25 7 rfl rfl rfl rfl)
              | (apply G.pickT; exact rfl; exact rfl; exact rfl)
              | (apply G.pickF; exact rfl; exact rfl; exact rfl)
              | (apply G.lss; exact rfl; exact rfl; exact rfl)
              | (apply G.eql; exact rfl; exact rfl; exact rfl)
              | (apply G.neq; exact rfl; exact rfl; exact rfl)
              | (apply G.add; exact rfl; exact rfl; exact rfl; exact IntWalk.i64_in _ (by omega))
              | (apply G.extract; exact rfl; exact rfl; exact rfl)
              | (apply G.len; exact rfl; exact rfl; exact T.slc_30)
              | (refine G.indexAddr1 rfl (by first | exact T.slc_30 | exact T.slc_73) (by first | exact T.sz_3 | exact T.sz_30) rfl rfl _ rfl (by omega) ?_)
              | (refine G.indexAddr1 rfl (by first | exact T.slc_30 | exact T.slc_73) (by first | exact T.sz_3 | exact T.sz_30) rfl rfl _ (Int.toNat_of_nonneg (by omega)).symm (by omega) ?_))
            all_goals first
              | (refine Goal.again (j + 1) ⟨by omega, hnx (fun ⟨u1, u2, u3, u4, u5⟩ => by rw [hta] at u5; first | omega | (rcases u4 with u4 | u4 <;> first | omega | (rw [hov] at u4; cases u4)))⟩ (by omega) ⟨rfl, rfl, rfl, rfl, rfl, rfl, rfl, rfl, rfl, rfl, trivial⟩ (fun _ h => h); done)
              | (refine Goal.again ⟨tp.hd a, p ++ [a], .slice ad2 (p.length + 1) cp2, A2⟩ ⟨hhd, by dsimp only; omega, by dsimp only; rw [List.length_append, show ints (p ++ [a]) = ints p ++ [.int .i64 a] by simp [ints]]; exact hA2, by dsimp only; rw [List.length_append]; simp only [List.length_cons, List.length_nil]; omega, fun q hfp => by
                  dsimp only at hfp ⊢
                  rw [List.append_assoc]
                  exact hq (a :: q) ⟨hxd, har, ⟨hta, hup, by rw [hta]; exact hxd, by omega, by first | exact .inl (by omega) | exact .inr hov, by rw [hta]; omega⟩, fun b b0 b1 ⟨e1, e2⟩ => by
                    obtain ⟨q', hq1, hq2⟩ := hbef b (mem_arcsAt.2 ⟨by omega, e1⟩) b1
                    exact hnot q' hq1.1 hq1.2 (hq2 ▸ e2), hfp⟩⟩ (by dsimp only; omega) ⟨rfl, rfl, rfl, rfl, rfl, rfl, rfl, trivial⟩ (fun _ h => by simpa only [List.append_eq, List.append_assoc, List.cons_append, List.nil_append, List.append_nil] using h))
        · skip
          repeat' (first
            | (refine Goal.drawAll (id := 16) 13 T.mixed ?_; all_goals ((refine Goal.takeP (listed' := #[Ya,No,No,No,No,No,No,No,No,No,No,No,No]) 0 ⟨rfl, by kernel_rfl, by kernel_rfl, by kernel_rfl, by kernel_rfl⟩ rfl (fun _ _ _ _ h => h) (by intro _; exact Run.move rfl) ?_)); all_goals ((refine Goal.takeP (listed' := #[Ya,Ya,No,No,No,No,No,No,No,No,No,No,No]) 1 ⟨rfl, by kernel_rfl, by kernel_rfl, by kernel_rfl, by kernel_rfl⟩ rfl (fun _ _ _ _ h => h) (by intro _; exact Run.move rfl) ?_)); all_goals ((refine Goal.takeP (listed' := #[Ya,Ya,Ya,No,No,No,No,No,No,No,No,No,No]) 2 ⟨rfl, by kernel_rfl, by kernel_rfl, by kernel_rfl, by kernel_rfl⟩ rfl (fun _ _ _ _ h => h) (by intro _; first | exact Run.indexAddr1 T.slc_30 T.sz_3 rfl rfl rfl (by omega) | exact Run.indexAddr1 T.slc_30 T.sz_3 rfl rfl (Int.toNat_of_nonneg (by omega)).symm (by omega)) ?_)); all_goals ((refine Goal.takeP (listed' := #[Ya,Ya,Ya,No,No,Ya,No,No,No,No,No,No,No]) 5 ⟨rfl, by kernel_rfl, by kernel_rfl, by kernel_rfl, by kernel_rfl⟩ rfl (fun _ _ _ _ h => h) (by intro _; exact Run.move rfl) ?_)); all_goals ((refine Goal.takeP (listed' := #[Ya,Ya,Ya,No,No,Ya,No,No,Ya,No,No,No,No]) 8 ⟨rfl, by kernel_rfl, by kernel_rfl, by kernel_rfl, by kernel_rfl⟩ rfl (fun _ _ _ _ h => h) (by intro _; exact Run.move rfl) ?_)); all_goals ((refine Goal.takeP (listed' := #[Ya,Ya,Ya,No,No,Ya,No,No,Ya,Ya,No,No,No]) 9 ⟨rfl, by kernel_rfl, by kernel_rfl, by kernel_rfl, by kernel_rfl⟩ rfl (fun _ _ _ _ h => h) (by intro _; exact Run.move rfl) ?_)); all_goals ((refine Goal.takeP (listed' := #[Ya,Ya,Ya,No,No,Ya,No,No,Ya,Ya,Ya,No,No]) 10 ⟨rfl, by kernel_rfl, by kernel_rfl, by kernel_rfl, by kernel_rfl⟩ rfl (fun _ _ _ _ h => h) (by intro _; first | exact Run.indexAddr1 T.slc_30 T.sz_3 rfl rfl rfl (by omega) | exact Run.indexAddr1 T.slc_30 T.sz_3 rfl rfl (Int.toNat_of_nonneg (by omega)).symm (by omega)) ?_)); all_goals ((refine Goal.take (listed' := #[Ya,Ya,Ya,Ya,No,Ya,No,No,Ya,Ya,Ya,No,No]) 3 ⟨rfl, by kernel_rfl, by kernel_rfl, by kernel_rfl, by kernel_rfl, by kernel_rfl⟩ rfl (by (first | exact s0 | exact s1 | exact s2 | exact s3 | exact sd | exact sa | exact sn (by simp))) (fun _ _ _ _ h => h) (by (apply Run.load; exact rfl; first | exact LoadOK.iaMe (b := bi) (l := arcsAt tp.tl tp.arcs.toNat x) (rest := resti) (E := 3) (i := j) (x := a) T.one_3 (by simp) (by omega) haa | exact LoadOK.ia (l := l) (i := tp.hd a) T.one_3 1 rfl (by omega) | exact LoadOK.ia (l := l) (i := x) T.one_3 1 rfl (by omega) | exact LoadOK.one T.one_3 0 rfl rfl | exact LoadOK.one T.one_3 1 rfl rfl | exact LoadOK.one T.one_3 2 rfl rfl | exact LoadOK.one T.one_3 3 rfl rfl | exact LoadOK.one T.one_3 4 rfl rfl | exact LoadOK.one T.one_3 5 rfl rfl | exact LoadOK.one T.one_3 6 rfl rfl | exact LoadOK.one T.one_3 7 rfl rfl)) ?_)); all_goals ((refine Goal.take (listed' := #[Ya,Ya,Ya,Ya,Ya,Ya,No,No,Ya,Ya,Ya,No,No]) 4 ⟨rfl, by kernel_rfl, by kernel_rfl, by kernel_rfl, by kernel_rfl, by kernel_rfl⟩ rfl (by (first | exact s0 | exact s1 | exact s2 | exact s3 | exact sd | exact sa | exact sn (by simp))) (fun _ _ _ _ h => h) (by (apply Run.load; exact rfl; first | exact LoadOK.iaMe (b := bi) (l := arcsAt tp.tl tp.arcs.toNat x) (rest := resti) (E := 3) (i := j) (x := a) T.one_3 (by simp) (by omega) haa | exact LoadOK.ia (l := l) (i := tp.hd a) T.one_3 1 rfl (by omega) | exact LoadOK.ia (l := l) (i := x) T.one_3 1 rfl (by omega) | exact ag3 T.agg_25 0 rfl rfl rfl rfl | exact ag3 T.agg_25 1 rfl rfl rfl rfl | exact ag3 T.agg_25 2 rfl rfl rfl rfl | exact ag3 T.agg_25 3 rfl rfl rfl rfl | exact ag3 T.agg_25 4 rfl rfl rfl rfl | exact ag3 T.agg_25 5 rfl rfl rfl rfl | exact ag3 T.agg_25 6 rfl rfl rfl rfl | exact ag3 T.agg_25 7 rfl rfl rfl rfl)) ?_)); all_goals ((refine Goal.take (listed' := #[Ya,Ya,Ya,Ya,Ya,Ya,No,No,Ya,Ya,Ya,Ya,No]) 11 ⟨rfl, by kernel_rfl, by kernel_rfl, by kernel_rfl, by kernel_rfl, by kernel_rfl⟩ rfl (by (first | exact s0 | exact s1 | exact s2 | exact s3 | exact sd | exact sa | exact sn (by simp))) (fun _ _ _ _ h => h) (by (apply Run.load; exact rfl; first | exact LoadOK.iaMe (b := bi) (l := arcsAt tp.tl tp.arcs.toNat x) (rest := resti) (E := 3) (i := j) (x := a) T.one_3 (by simp) (by omega) haa | exact LoadOK.ia (l := l) (i := tp.hd a) T.one_3 1 rfl (by omega) | exact LoadOK.ia (l := l) (i := x) T.one_3 1 rfl (by omega) | exact LoadOK.one T.one_3 0 rfl rfl | exact LoadOK.one T.one_3 1 rfl rfl | exact LoadOK.one T.one_3 2 rfl rfl | exact LoadOK.one T.one_3 3 rfl rfl | exact LoadOK.one T.one_3 4 rfl rfl | exact LoadOK.one T.one_3 5 rfl rfl | exact LoadOK.one T.one_3 6 rfl rfl | exact LoadOK.one T.one_3 7 rfl rfl)) ?_)); all_goals (refine Goal.ready1 (i := 6) (by kernel_rfl) ?_); all_goals ((refine Goal.up (i := 6) (listed' := #[Ya,Ya,Ya,Ya,Ya,Ya,Ya,No,Ya,Ya,Ya,Ya,No]) rfl (by kernel_rfl) ?_; (apply Loud.call0; exact rfl; exact rfl; exact rfl; exact rfl; exact T.bod_48; exact (fun w' H => cost_ok (hT.keep H.mod) har (by omega))); first | refine Goal.tail rfl ?_ | refine Goal.kept (by (first | exact s0 | exact s1 | exact s2 | exact s3 | exact sd | exact sa | exact sn (by simp))) ?_)); all_goals ((refine Goal.takeP (listed' := #[Ya,Ya,Ya,Ya,Ya,Ya,Ya,Ya,Ya,Ya,Ya,Ya,No]) 7 ⟨rfl, by kernel_rfl, by kernel_rfl, by kernel_rfl, by kernel_rfl⟩ rfl (fun _ _ _ _ h => h) (by intro _; (apply Run.add; exact rfl; exact rfl; exact IntWalk.i64_in _ (by omega))) ?_)); all_goals ((refine Goal.takeP (listed' := #[Ya,Ya,Ya,Ya,Ya,Ya,Ya,Ya,Ya,Ya,Ya,Ya,Ya]) 12 ⟨rfl, by kernel_rfl, by kernel_rfl, by kernel_rfl, by kernel_rfl⟩ rfl (fun _ _ _ _ h => h) (by intro _; first | exact Run.eql rfl rfl) ?_)); all_goals (refine Goal.allUp (by kernel_rfl) ?_))
            | (refine Goal.loud (o := ⟨some 57, _, _, _, _, _⟩) rfl ?_; apply Loud.call0; exact rfl; exact rfl; exact rfl; exact rfl; exact T.bod_69; exact (fun w' H => head_ok (hT.keep H.mod) har (by omega)))
            | (refine Goal.loud (o := ⟨some 60, _, _, _, _, _⟩) rfl ?_; apply Loud.call0; exact rfl; exact rfl; exact rfl; exact rfl; exact T.bod_61; exact (fun w' H => down_ok (hd.keep H.mod) hdm hdl); rw [hup])
            | (refine Goal.loud (o := ⟨some 75, _, _, _, _, _⟩) rfl ?_; apply Loud.call0; exact rfl; exact rfl; exact rfl; exact rfl; exact T.bod_70; exact (fun w' H => over_ok (hT.keep H.mod) (by omega) (by omega)); rw [hov])
            | (refine Goal.loud (o := ⟨some 84, _, _, _, _, _⟩) rfl ?_; apply Loud.call0; exact rfl; exact rfl; exact rfl; exact rfl; exact T.bod_48; exact (fun w' H => cost_ok (hT.keep H.mod) har (by omega)))
            | (refine Goal.loud (o := ⟨some 94, _, _, _, _, _⟩) rfl ?_; refine Loud.appendT rfl T.slc_30 T.inf_3 rfl (_ :: _ :: _ :: (B1 ++ ([_] ++ B2))) rfl hS rfl rfl rfl rfl (by omega) (by omega) ?_; intro v2 A2 hA2; obtain ⟨ad2, cp2, rfl⟩ := hA2.shape)
            | (refine Goal.loud (o := ⟨some 4, _, _, _, _, _⟩) rfl ?_; first | refine Loud.boxA rfl rfl (fun b4 => ?_) | refine Loud.box1 rfl rfl rfl (fun b4 => ?_))
            | (refine Goal.loud (o := ⟨some 23, _, _, _, _, _⟩) rfl ?_; refine Loud.buildSlice (cs := [_, _]) rfl T.slc_30 T.inf_3 rfl rfl (by decide) rfl rfl rfl (fun b23 => ?_))
            | (refine Goal.loud (o := ⟨some 93, _, _, _, _, _⟩) rfl ?_; refine Loud.buildSlice (cs := [_]) rfl T.slc_30 T.inf_3 rfl rfl (by decide) rfl rfl rfl (fun b93 => ?_))
            | (apply G.move; exact rfl; exact rfl)
            | (apply G.assign; exact rfl; exact rfl)
            | refine Goal.seq (fun _ _ => ?_)
            | refine Goal.next (by assumption) ?_
            | refine Goal.lnil ?_
            | refine Goal.region ?_
            | refine Goal.skip ?_
            | refine Goal.block ?_
            | refine Goal.exit ?_
            | refine Goal.ret ?_
            | refine Goal.then_exit ?_
            | refine Goal.then_ret ?_
            | refine Goal.inBlock_exit ?_
            | refine Goal.inBlock_normal ?_
            | refine Goal.inBlock_ret ?_
            | refine Goal.inBlock_other rfl ?_
            | (apply Goal.condT; exact rfl)
            | (apply Goal.condF; exact rfl)
            | (refine Goal.condD rfl (fun hc => ?_) (fun hc => ?_) <;> first | (exfalso; omega) | contradiction | skip)
            | refine Goal.condB rfl (fun hc => ?_) (fun hc => ?_)
            | refine Goal.guardT rfl rfl ?_
            | refine Goal.guardF rfl rfl rfl rfl ?_
            | refine Goal.guardU rfl rfl rfl ?_
            | (refine Goal.guardD rfl rfl (fun hc => ?_) (fun hc => ?_) <;> first | (exfalso; omega) | contradiction | skip)
            | refine Goal.guardB rfl rfl (fun hc => ?_) (fun hc => ?_)
            | (apply G.load; exact rfl; exact rfl; first | exact LoadOK.iaMe (b := bi) (l := arcsAt tp.tl tp.arcs.toNat x) (rest := resti) (E := 3) (i := j) (x := a) T.one_3 (by simp) (by omega) haa | exact LoadOK.ia (l := l) (i := tp.hd a) T.one_3 1 rfl (by omega) | exact LoadOK.ia (l := l) (i := x) T.one_3 1 rfl (by omega) | exact LoadOK.one (by first | exact T.one_3 | exact T.one_30) 0 rfl rfl | exact LoadOK.one (by first | exact T.one_3 | exact T.one_30) 1 rfl rfl | exact LoadOK.one (by first | exact T.one_3 | exact T.one_30) 2 rfl rfl | exact LoadOK.one (by first | exact T.one_3 | exact T.one_30) 3 rfl rfl | exact LoadOK.one (by first | exact T.one_3 | exact T.one_30) 4 rfl rfl | exact LoadOK.one (by first | exact T.one_3 | exact T.one_30) 5 rfl rfl | exact LoadOK.one (by first | exact T.one_3 | exact T.one_30) 6 rfl rfl | exact LoadOK.one (by first | exact T.one_3 | exact T.one_30) 7 rfl rfl | exact ag3 T.agg_25 0 rfl rfl rfl rfl | exact ag3 T.agg_25 1 rfl rfl rfl rfl | exact ag3 T.agg_25 2 rfl rfl rfl rfl | exact ag3 T.agg_25 3 rfl rfl rfl rfl | exact ag3 T.agg_25 4 rfl rfl rfl rfl | exact ag3 T.agg_25 5 rfl rfl rfl rfl | exact ag3 T.agg_25 6 rfl rfl rfl rfl | exact ag3 T.agg_25 7 rfl rfl rfl rfl)
            | (apply G.pickT; exact rfl; exact rfl; exact rfl)
            | (apply G.pickF; exact rfl; exact rfl; exact rfl)
            | (apply G.lss; exact rfl; exact rfl; exact rfl)
            | (apply G.eql; exact rfl; exact rfl; exact rfl)
            | (apply G.neq; exact rfl; exact rfl; exact rfl)
            | (apply G.add; exact rfl; exact rfl; exact rfl; exact IntWalk.i64_in _ (by omega))
            | (apply G.extract; exact rfl; exact rfl; exact rfl)
            | (apply G.len; exact rfl; exact rfl; exact T.slc_30)
            | (refine G.indexAddr1 rfl (by first | exact T.slc_30 | exact T.slc_73) (by first | exact T.sz_3 | exact T.sz_30) rfl rfl _ rfl (by omega) ?_)
            | (refine G.indexAddr1 rfl (by first | exact T.slc_30 | exact T.slc_73) (by first | exact T.sz_3 | exact T.sz_30) rfl rfl _ (Int.toNat_of_nonneg (by omega)).symm (by omega) ?_))
          refine Goal.again (j + 1) ⟨by omega, hnx (fun ⟨u1, _⟩ => by rw [hup] at u1; cases u1)⟩ (by omega) ⟨rfl, rfl, rfl, rfl, rfl, rfl, rfl, rfl, rfl, rfl, trivial⟩ (fun _ h => h)
      · exfalso
        obtain ⟨q, hq1, hq2⟩ := List.getElem_of_mem hma0
        refine hnot (q : Int) (by omega) (by omega) ?_
        rw [← ia_at (i := (q : Int)) (by omega)]
        simp only [Int.toNat_natCast]
        rw [hq2]
        exact hon0
end
end Go.Proofs.Ytldoplehchngfaa
