/- Package topology: Valid; package spf: check. -/
import Derived.Test.YtldoplehchngfaaSpU
import Derived.Test.YtldoplehchngfaaRelax
namespace Go.Proofs.Ytldoplehchngfaa
open Go.Wf
set_option linter.unusedVariables false
instance decOk (tp : Top) : Decidable tp.Ok := decidable_of_iff ((1 ≤ tp.n ∧ tp.n ≤ 64) ∧ (tp.ov.length = 0 ∨ (tp.ov.length : Int) = tp.n) ∧ tp.ls.length ≤ 256 ∧ ∀ l ∈ tp.ls, lkOk tp.n l)
  ⟨fun ⟨a, b, c, d⟩ => ⟨a, b, c, d⟩, fun h => ⟨h.n, h.ov, h.ln, h.lk⟩⟩
theorem ret_no {p : Prop} [Decidable p] (h : ¬ p) : Ending.returned (.bool false) = .returned (.bool (decide p)) := by rw [decide_eq_false h]
theorem ret_yes {p : Prop} [Decidable p] (h : p) : Ending.returned (.bool true) = .returned (.bool (decide p)) := by rw [decide_eq_true h]
section
variable {w : World} {tp : Top} {vo vl : Value} {dn : List Bool} {vd : Value}
set_option maxHeartbeats 4000000 in
theorem valid_ok (hT : TopR w vo vl tp) (hl : tp.ls.length ≤ 1048576) (hov : tp.ov.length ≤ 140737488355328) : Calls Try.prog 54 #[.agg #[.int .i64 tp.n, vo, vl]] w fun e w' => e = .returned (.bool (decide tp.Ok)) ∧ Mod [] w w' := by
  obtain ⟨ao, co, rfl⟩ := shapeB hT.ov
  obtain ⟨al, cl, rfl⟩ := shapeL hT.ls
  refine Goal.enter (args := [.agg #[.int .i64 tp.n, .slice ao tp.ov.length co, .slice al tp.ls.length cl]]) Try.func54 rfl Try.ntmps54 rfl (St.nil w) ?_
  repeat' (first
    | (refine Goal.loud (o := ⟨some 7, _, _, _, _, _⟩) rfl ?_; apply Loud.call0; exact rfl; exact rfl; exact rfl; exact rfl; exact T.bod_80; exact (fun w' H => within_ok tp.n 1 64 w'))
    | (refine Goal.loud (o := ⟨some 1, _, _, _, _, _⟩) rfl ?_; first | refine Loud.boxA rfl rfl (fun b1 => ?_) | refine Loud.box1 rfl rfl rfl (fun b1 => ?_))
    | (refine Goal.cut (x := Code.seq (Code.region 3 _ _) _) (X := Unit) (fun _ => [(1, .pointer (some ⟨b1, 0, none⟩))]) (fun _ => [(b1, .cells #[.int .i64 tp.n, .slice ao tp.ov.length co, .slice al tp.ls.length cl] 25)]) (fun _ => tp.ov.length = 0 ∨ (tp.ov.length : Int) = tp.n) ?_ ?_)
    | (apply G.move; exact rfl; exact rfl)
    | (apply G.assign; exact rfl; exact rfl)
    | refine Goal.seq (fun _ _ => ?_)
    | refine Goal.next (by assumption) ?_
    | refine Goal.lnil ?_
    | refine Goal.region ?_
    | refine Goal.skip ?_
    | refine Goal.block ?_
    | refine Goal.exit ?_
    | refine Goal.ret ?_
    | refine Goal.then_exit ?_
    | refine Goal.then_ret ?_
    | refine Goal.inBlock_exit ?_
    | refine Goal.inBlock_normal ?_
    | refine Goal.inBlock_ret ?_
    | refine Goal.inBlock_other rfl ?_
    | (apply Goal.condT; exact rfl)
    | (apply Goal.condF; exact rfl)
    | (refine Goal.condD rfl (fun hc => ?_) (fun hc => ?_) <;> first | (exfalso; omega) | contradiction | skip)
    | refine Goal.condB rfl (fun hc => ?_) (fun hc => ?_)
    | refine Goal.guardT rfl rfl ?_
    | refine Goal.guardF rfl rfl rfl rfl ?_
    | refine Goal.guardU rfl rfl rfl ?_
    | (refine Goal.guardD rfl rfl (fun hc => ?_) (fun hc => ?_) <;> first | (exfalso; omega) | contradiction | skip)
    | refine Goal.guardB rfl rfl (fun hc => ?_) (fun hc => ?_)
    | (apply G.fieldAddr; exact rfl; exact rfl; (first | exact T.fld_25_0 | exact T.fld_25_1 | exact T.fld_25_2 | exact T.fld_50_0 | exact T.fld_50_1 | exact T.fld_50_2 | exact T.fld_50_3 | exact T.fld_50_4 | exact T.fld_50_5))
    | (apply G.load; exact rfl; exact rfl; first | exact LoadOK.one (by first | exact T.one_3 | exact T.one_22 | exact T.one_23) 0 rfl rfl | exact LoadOK.one (by first | exact T.one_3 | exact T.one_22 | exact T.one_23) 1 rfl rfl | exact LoadOK.one (by first | exact T.one_3 | exact T.one_22 | exact T.one_23) 2 rfl rfl | exact LoadOK.one (by first | exact T.one_3 | exact T.one_22 | exact T.one_23) 3 rfl rfl | exact LoadOK.one (by first | exact T.one_3 | exact T.one_22 | exact T.one_23) 4 rfl rfl | exact ag3 T.agg_25 0 rfl rfl rfl rfl | exact ag3 T.agg_25 1 rfl rfl rfl rfl | exact ag3 T.agg_25 2 rfl rfl rfl rfl | exact ag3 T.agg_25 3 rfl rfl rfl rfl | exact ag3 T.agg_25 4 rfl rfl rfl rfl)
    | (apply G.pickT; exact rfl; exact rfl; exact rfl)
    | (apply G.pickF; exact rfl; exact rfl; exact rfl)
    | (apply G.lss; exact rfl; exact rfl; exact rfl)
    | (apply G.gtr; exact rfl; exact rfl; exact rfl)
    | (apply G.eql; exact rfl; exact rfl; exact rfl)
    | (apply G.neq; exact rfl; exact rfl; exact rfl)
    | (apply G.add; exact rfl; exact rfl; exact rfl; exact IntWalk.i64_in _ (by omega))
    | (apply G.notT; exact rfl; exact rfl)
    | (apply G.notF; exact rfl; exact rfl)
    | (refine G.notD rfl rfl ?_)
    | (apply G.notB; exact rfl; exact rfl)
    | (apply G.len; exact rfl; exact rfl; (first | exact T.slc_22 | exact T.slc_23))
    | (apply G.nilCheckP; exact rfl; exact rfl)
    | (refine G.indexAddr1 rfl T.slc_23 T.sz_3 rfl rfl _ rfl (by omega) ?_)
    | (refine G.indexAddr1 rfl T.slc_23 T.sz_3 rfl rfl _ (Int.toNat_of_nonneg (by omega)).symm (by omega) ?_)
    | (refine G.indexAddr rfl T.slc_23 T.sz_50 rfl rfl _ rfl (by omega) ?_)
    | (refine G.indexAddr rfl T.slc_23 T.sz_50 rfl rfl _ (Int.toNat_of_nonneg (by omega)).symm (by omega) ?_)
    | (refine G.indexAddrA rfl T.arr_48 (by first | exact T.sz_3 | exact T.sz_50) rfl rfl _ rfl (by omega) ?_)
    | (refine G.indexAddrA rfl T.arr_48 (by first | exact T.sz_3 | exact T.sz_50) rfl rfl _ (Int.toNat_of_nonneg (by omega)).symm (by omega) ?_))
  · refine Goal.done (vs := [_]) (by first | exact .inl rfl | exact .inr rfl) Try.results54 ⟨rfl, trivial⟩ rfl (fun w' H => ⟨ret_no fun h => hc h.n, H.mod⟩)
  · refine Goal.done (vs := [_]) (by first | exact .inl rfl | exact .inr rfl) Try.results54 ⟨rfl, trivial⟩ rfl (fun w' H => ⟨ret_no fun h => by have := h.ln; omega, H.mod⟩)
  · intro K hk
    repeat' (first
      | (refine Goal.loud (o := ⟨some 1, _, _, _, _, _⟩) rfl ?_; first | refine Loud.boxA rfl rfl (fun b1 => ?_) | refine Loud.box1 rfl rfl rfl (fun b1 => ?_))
      | (apply G.move; exact rfl; exact rfl)
      | (apply G.assign; exact rfl; exact rfl)
      | refine Goal.seq (fun _ _ => ?_)
      | refine Goal.next (by assumption) ?_
      | refine Goal.lnil ?_
      | refine Goal.region ?_
      | refine Goal.skip ?_
      | refine Goal.block ?_
      | refine Goal.exit ?_
      | refine Goal.ret ?_
      | refine Goal.then_exit ?_
      | refine Goal.then_ret ?_
      | refine Goal.inBlock_exit ?_
      | refine Goal.inBlock_normal ?_
      | refine Goal.inBlock_ret ?_
      | refine Goal.inBlock_other rfl ?_
      | (apply Goal.condT; exact rfl)
      | (apply Goal.condF; exact rfl)
      | (refine Goal.condD rfl (fun hc => ?_) (fun hc => ?_) <;> first | (exfalso; omega) | contradiction | skip)
      | refine Goal.condB rfl (fun hc => ?_) (fun hc => ?_)
      | refine Goal.guardT rfl rfl ?_
      | refine Goal.guardF rfl rfl rfl rfl ?_
      | refine Goal.guardU rfl rfl rfl ?_
      | (refine Goal.guardD rfl rfl (fun hc => ?_) (fun hc => ?_) <;> first | (exfalso; omega) | contradiction | skip)
      | refine Goal.guardB rfl rfl (fun hc => ?_) (fun hc => ?_)
      | (apply G.fieldAddr; exact rfl; exact rfl; (first | exact T.fld_25_0 | exact T.fld_25_1 | exact T.fld_25_2 | exact T.fld_50_0 | exact T.fld_50_1 | exact T.fld_50_2 | exact T.fld_50_3 | exact T.fld_50_4 | exact T.fld_50_5))
      | (apply G.load; exact rfl; exact rfl; first | exact LoadOK.one (by first | exact T.one_3 | exact T.one_22 | exact T.one_23) 0 rfl rfl | exact LoadOK.one (by first | exact T.one_3 | exact T.one_22 | exact T.one_23) 1 rfl rfl | exact LoadOK.one (by first | exact T.one_3 | exact T.one_22 | exact T.one_23) 2 rfl rfl | exact LoadOK.one (by first | exact T.one_3 | exact T.one_22 | exact T.one_23) 3 rfl rfl | exact LoadOK.one (by first | exact T.one_3 | exact T.one_22 | exact T.one_23) 4 rfl rfl | exact ag3 T.agg_25 0 rfl rfl rfl rfl | exact ag3 T.agg_25 1 rfl rfl rfl rfl | exact ag3 T.agg_25 2 rfl rfl rfl rfl | exact ag3 T.agg_25 3 rfl rfl rfl rfl | exact ag3 T.agg_25 4 rfl rfl rfl rfl)
      | (apply G.pickT; exact rfl; exact rfl; exact rfl)
      | (apply G.pickF; exact rfl; exact rfl; exact rfl)
      | (apply G.lss; exact rfl; exact rfl; exact rfl)
      | (apply G.gtr; exact rfl; exact rfl; exact rfl)
      | (apply G.eql; exact rfl; exact rfl; exact rfl)
      | (apply G.neq; exact rfl; exact rfl; exact rfl)
      | (apply G.add; exact rfl; exact rfl; exact rfl; exact IntWalk.i64_in _ (by omega))
      | (apply G.notT; exact rfl; exact rfl)
      | (apply G.notF; exact rfl; exact rfl)
      | (refine G.notD rfl rfl ?_)
      | (apply G.notB; exact rfl; exact rfl)
      | (apply G.len; exact rfl; exact rfl; (first | exact T.slc_22 | exact T.slc_23))
      | (apply G.nilCheckP; exact rfl; exact rfl)
      | (refine G.indexAddr1 rfl T.slc_23 T.sz_3 rfl rfl _ rfl (by omega) ?_)
      | (refine G.indexAddr1 rfl T.slc_23 T.sz_3 rfl rfl _ (Int.toNat_of_nonneg (by omega)).symm (by omega) ?_)
      | (refine G.indexAddr rfl T.slc_23 T.sz_50 rfl rfl _ rfl (by omega) ?_)
      | (refine G.indexAddr rfl T.slc_23 T.sz_50 rfl rfl _ (Int.toNat_of_nonneg (by omega)).symm (by omega) ?_)
      | (refine G.indexAddrA rfl T.arr_48 (by first | exact T.sz_3 | exact T.sz_50) rfl rfl _ rfl (by omega) ?_)
      | (refine G.indexAddrA rfl T.arr_48 (by first | exact T.sz_3 | exact T.sz_50) rfl rfl _ (Int.toNat_of_nonneg (by omega)).symm (by omega) ?_))
    · refine Goal.done (vs := [_]) (by first | exact .inl rfl | exact .inr rfl) Try.results54 ⟨rfl, trivial⟩ rfl (fun w' H => ⟨ret_no fun h => by have := h.ov; omega, H.mod⟩)
    · exact Goal.meet hk () (by omega) ⟨rfl, trivial⟩ (fun _ h => h)
    · exact Goal.meet hk () (by omega) ⟨rfl, trivial⟩ (fun _ h => h)
  · rintro ⟨⟩ hovl
    have hn0 : 1 ≤ tp.n ∧ tp.n ≤ 64 := by omega
    repeat' (first
      | (refine Goal.loud (o := ⟨some 1, _, _, _, _, _⟩) rfl ?_; first | refine Loud.boxA rfl rfl (fun b1 => ?_) | refine Loud.box1 rfl rfl rfl (fun b1 => ?_))
      | (apply G.move; exact rfl; exact rfl)
      | (apply G.assign; exact rfl; exact rfl)
      | refine Goal.seq (fun _ _ => ?_)
      | refine Goal.next (by assumption) ?_
      | refine Goal.lnil ?_
      | refine Goal.region ?_
      | refine Goal.skip ?_
      | refine Goal.block ?_
      | refine Goal.exit ?_
      | refine Goal.ret ?_
      | refine Goal.then_exit ?_
      | refine Goal.then_ret ?_
      | refine Goal.inBlock_exit ?_
      | refine Goal.inBlock_normal ?_
      | refine Goal.inBlock_ret ?_
      | refine Goal.inBlock_other rfl ?_
      | (apply Goal.condT; exact rfl)
      | (apply Goal.condF; exact rfl)
      | (refine Goal.condD rfl (fun hc => ?_) (fun hc => ?_) <;> first | (exfalso; omega) | contradiction | skip)
      | refine Goal.condB rfl (fun hc => ?_) (fun hc => ?_)
      | refine Goal.guardT rfl rfl ?_
      | refine Goal.guardF rfl rfl rfl rfl ?_
      | refine Goal.guardU rfl rfl rfl ?_
      | (refine Goal.guardD rfl rfl (fun hc => ?_) (fun hc => ?_) <;> first | (exfalso; omega) | contradiction | skip)
      | refine Goal.guardB rfl rfl (fun hc => ?_) (fun hc => ?_)
      | (apply G.fieldAddr; exact rfl; exact rfl; (first | exact T.fld_25_0 | exact T.fld_25_1 | exact T.fld_25_2 | exact T.fld_50_0 | exact T.fld_50_1 | exact T.fld_50_2 | exact T.fld_50_3 | exact T.fld_50_4 | exact T.fld_50_5))
      | (apply G.load; exact rfl; exact rfl; first | exact LoadOK.one (by first | exact T.one_3 | exact T.one_22 | exact T.one_23) 0 rfl rfl | exact LoadOK.one (by first | exact T.one_3 | exact T.one_22 | exact T.one_23) 1 rfl rfl | exact LoadOK.one (by first | exact T.one_3 | exact T.one_22 | exact T.one_23) 2 rfl rfl | exact LoadOK.one (by first | exact T.one_3 | exact T.one_22 | exact T.one_23) 3 rfl rfl | exact LoadOK.one (by first | exact T.one_3 | exact T.one_22 | exact T.one_23) 4 rfl rfl | exact ag3 T.agg_25 0 rfl rfl rfl rfl | exact ag3 T.agg_25 1 rfl rfl rfl rfl | exact ag3 T.agg_25 2 rfl rfl rfl rfl | exact ag3 T.agg_25 3 rfl rfl rfl rfl | exact ag3 T.agg_25 4 rfl rfl rfl rfl)
      | (apply G.pickT; exact rfl; exact rfl; exact rfl)
      | (apply G.pickF; exact rfl; exact rfl; exact rfl)
      | (apply G.lss; exact rfl; exact rfl; exact rfl)
      | (apply G.gtr; exact rfl; exact rfl; exact rfl)
      | (apply G.eql; exact rfl; exact rfl; exact rfl)
      | (apply G.neq; exact rfl; exact rfl; exact rfl)
      | (apply G.add; exact rfl; exact rfl; exact rfl; exact IntWalk.i64_in _ (by omega))
      | (apply G.notT; exact rfl; exact rfl)
      | (apply G.notF; exact rfl; exact rfl)
      | (refine G.notD rfl rfl ?_)
      | (apply G.notB; exact rfl; exact rfl)
      | (apply G.len; exact rfl; exact rfl; (first | exact T.slc_22 | exact T.slc_23))
      | (apply G.nilCheckP; exact rfl; exact rfl)
      | (refine G.indexAddr1 rfl T.slc_23 T.sz_3 rfl rfl _ rfl (by omega) ?_)
      | (refine G.indexAddr1 rfl T.slc_23 T.sz_3 rfl rfl _ (Int.toNat_of_nonneg (by omega)).symm (by omega) ?_)
      | (refine G.indexAddr rfl T.slc_23 T.sz_50 rfl rfl _ rfl (by omega) ?_)
      | (refine G.indexAddr rfl T.slc_23 T.sz_50 rfl rfl _ (Int.toNat_of_nonneg (by omega)).symm (by omega) ?_)
      | (refine G.indexAddrA rfl T.arr_48 (by first | exact T.sz_3 | exact T.sz_50) rfl rfl _ rfl (by omega) ?_)
      | (refine G.indexAddrA rfl T.arr_48 (by first | exact T.sz_3 | exact T.sz_50) rfl rfl _ (Int.toNat_of_nonneg (by omega)).symm (by omega) ?_))
    refine Goal.loopP (X := Int) (fun x => [(1, .pointer (some ⟨b1, 0, none⟩)), (29, .int .i64 tp.ls.length), (30, .int .i64 x)]) (fun _ => [(b1, .cells #[.int .i64 tp.n, .slice ao tp.ov.length co, .slice al tp.ls.length cl] 25)])
      (fun x => (0 ≤ x ∧ x ≤ tp.ls.length) ∧ ∀ j : Int, 0 ≤ j → j < x → lkOk tp.n (el tp.ls j)) (fun x => (tp.ls.length - x).toNat) 0 ⟨rfl, rfl, rfl, trivial⟩ (fun _ h => h) ⟨by omega, fun j j0 j1 => by omega⟩ ?_
    rintro i ⟨hi, hall⟩
    by_cases h : i < tp.ls.length
    · obtain ⟨b, o, rfl, hk⟩ := rd_els hT.ls (by omega)
      have hki := hk i hi.1 h
      have hno : ¬ lkOk tp.n (el tp.ls i) → ¬ tp.Ok := fun x y => x (y.lk _ (el_mem ⟨hi.1, h⟩))
      have hyes : lkOk tp.n (el tp.ls i) → ∀ j : Int, 0 ≤ j → j < i + 1 → lkOk tp.n (el tp.ls j) := fun x j j0 j1 => by
        by_cases e : j = i
        · rw [e]; exact x
        · exact hall j j0 (by omega)
      unfold lkOk at hno hyes
      clear hall hk
      generalize el tp.ls i = l at hki hno hyes
      repeat' (first
        | (refine Goal.drawAll (id := 9) 27 T.mixed ?_; all_goals ((refine Goal.takeP (listed' := #[Ya,No,No,No,No,No,No,No,No,No,No,No,No,No,No,No,No,No,No,No,No,No,No,No,No,No,No]) 0 ⟨rfl, by kernel_rfl, by kernel_rfl, by kernel_rfl, by kernel_rfl⟩ rfl (fun _ _ _ _ h => h) (by intro _; exact Run.move rfl) ?_)); all_goals ((refine Goal.takeP (listed' := #[Ya,Ya,No,No,No,No,No,No,No,No,No,No,No,No,No,No,No,No,No,No,No,No,No,No,No,No,No]) 1 ⟨rfl, by kernel_rfl, by kernel_rfl, by kernel_rfl, by kernel_rfl⟩ rfl (fun _ _ _ _ h => h) (by intro _; exact Run.nilCheckP rfl) ?_)); all_goals ((refine Goal.takeP (listed' := #[Ya,Ya,Ya,No,No,No,No,No,No,No,No,No,No,No,No,No,No,No,No,No,No,No,No,No,No,No,No]) 2 ⟨rfl, by kernel_rfl, by kernel_rfl, by kernel_rfl, by kernel_rfl⟩ rfl (fun _ _ _ _ h => h) (by intro _; exact Run.fieldAddr T.fld_50_0 rfl) ?_)); all_goals ((refine Goal.takeP (listed' := #[Ya,Ya,Ya,No,Ya,No,No,No,No,No,No,No,No,No,No,No,No,No,No,No,No,No,No,No,No,No,No]) 4 ⟨rfl, by kernel_rfl, by kernel_rfl, by kernel_rfl, by kernel_rfl⟩ rfl (fun _ _ _ _ h => h) (by intro _; exact Run.move rfl) ?_)); all_goals ((refine Goal.takeP (listed' := #[Ya,Ya,Ya,No,Ya,Ya,No,No,No,No,No,No,No,No,No,No,No,No,No,No,No,No,No,No,No,No,No]) 5 ⟨rfl, by kernel_rfl, by kernel_rfl, by kernel_rfl, by kernel_rfl⟩ rfl (fun _ _ _ _ h => h) (by intro _; exact Run.nilCheckP rfl) ?_)); all_goals ((refine Goal.takeP (listed' := #[Ya,Ya,Ya,No,Ya,Ya,Ya,No,No,No,No,No,No,No,No,No,No,No,No,No,No,No,No,No,No,No,No]) 6 ⟨rfl, by kernel_rfl, by kernel_rfl, by kernel_rfl, by kernel_rfl⟩ rfl (fun _ _ _ _ h => h) (by intro _; exact Run.fieldAddr T.fld_50_1 rfl) ?_)); all_goals ((refine Goal.take (listed' := #[Ya,Ya,Ya,Ya,Ya,Ya,Ya,No,No,No,No,No,No,No,No,No,No,No,No,No,No,No,No,No,No,No,No]) 3 ⟨rfl, by kernel_rfl, by kernel_rfl, by kernel_rfl, by kernel_rfl, by kernel_rfl⟩ rfl (by (first | exact s0 | exact s1 | exact s2 | exact s3 | exact sd | exact sa | exact sn (by simp))) (fun _ _ _ _ h => h) (by (apply Run.load; exact rfl; first | exact LoadOK.old T.one_3 (hki 0 _ rfl) (by simp) | exact LoadOK.old T.one_3 (hki 1 _ rfl) (by simp) | exact LoadOK.old T.one_3 (hki 2 _ rfl) (by simp) | exact LoadOK.old T.one_3 (hki 3 _ rfl) (by simp) | exact LoadOK.old T.one_3 (hki 4 _ rfl) (by simp) | exact LoadOK.old T.one_3 (hki 5 _ rfl) (by simp) | exact LoadOK.old T.one_3 (hki 6 _ rfl) (by simp) | exact LoadOK.one T.one_3 0 rfl rfl | exact LoadOK.one T.one_3 1 rfl rfl | exact LoadOK.one T.one_3 2 rfl rfl | exact LoadOK.one T.one_3 3 rfl rfl | exact LoadOK.one T.one_3 4 rfl rfl)) ?_)); all_goals ((refine Goal.take (listed' := #[Ya,Ya,Ya,Ya,Ya,Ya,Ya,Ya,No,No,No,No,No,No,No,No,No,No,No,No,No,No,No,No,No,No,No]) 7 ⟨rfl, by kernel_rfl, by kernel_rfl, by kernel_rfl, by kernel_rfl, by kernel_rfl⟩ rfl (by (first | exact s0 | exact s1 | exact s2 | exact s3 | exact sd | exact sa | exact sn (by simp))) (fun _ _ _ _ h => h) (by (apply Run.load; exact rfl; first | exact LoadOK.old T.one_3 (hki 0 _ rfl) (by simp) | exact LoadOK.old T.one_3 (hki 1 _ rfl) (by simp) | exact LoadOK.old T.one_3 (hki 2 _ rfl) (by simp) | exact LoadOK.old T.one_3 (hki 3 _ rfl) (by simp) | exact LoadOK.old T.one_3 (hki 4 _ rfl) (by simp) | exact LoadOK.old T.one_3 (hki 5 _ rfl) (by simp) | exact LoadOK.old T.one_3 (hki 6 _ rfl) (by simp) | exact LoadOK.one T.one_3 0 rfl rfl | exact LoadOK.one T.one_3 1 rfl rfl | exact LoadOK.one T.one_3 2 rfl rfl | exact LoadOK.one T.one_3 3 rfl rfl | exact LoadOK.one T.one_3 4 rfl rfl)) ?_)); all_goals ((refine Goal.takeP (listed' := #[Ya,Ya,Ya,Ya,Ya,Ya,Ya,Ya,Ya,No,No,No,No,No,No,No,No,No,No,No,No,No,No,No,No,No,No]) 8 ⟨rfl, by kernel_rfl, by kernel_rfl, by kernel_rfl, by kernel_rfl⟩ rfl (fun _ _ _ _ h => h) (by intro _; first | exact Run.eql rfl rfl) ?_)); all_goals ((refine Goal.takeP (listed' := #[Ya,Ya,Ya,Ya,Ya,Ya,Ya,Ya,Ya,Ya,No,No,No,No,No,No,No,No,No,No,No,No,No,No,No,No,No]) 9 ⟨rfl, by kernel_rfl, by kernel_rfl, by kernel_rfl, by kernel_rfl⟩ rfl (fun _ _ _ _ h => h) (by intro _; exact Run.move rfl) ?_)); all_goals (first | (refine Goal.bdec 46 rfl (fun hc => ?_) (fun hc => ?_) <;> first | (exfalso; omega) | contradiction | skip) | skip); all_goals (first | (refine Goal.takePT (listed' := #[Ya,Ya,Ya,Ya,Ya,Ya,Ya,Ya,Ya,Ya,No,Ya,No,No,No,No,No,No,No,No,No,No,No,No,No,No,No]) 11 ⟨rfl, by kernel_rfl, by kernel_rfl, by kernel_rfl, by kernel_rfl⟩ rfl rfl rfl (fun _ _ _ _ h => h) (by intro _; exact Run.move rfl) ?_) | (refine Goal.takePF (listed' := #[Ya,Ya,Ya,Ya,Ya,Ya,Ya,Ya,Ya,Ya,No,Ya,No,No,No,No,No,No,No,No,No,No,No,No,No,No,No]) 11 ⟨rfl, by kernel_rfl, by kernel_rfl, by kernel_rfl, by kernel_rfl⟩ rfl rfl rfl rfl (fun _ _ _ _ h => h) ?_) | (refine Goal.takePU (listed' := #[Ya,Ya,Ya,Ya,Ya,Ya,Ya,Ya,Ya,Ya,No,Ya,No,No,No,No,No,No,No,No,No,No,No,No,No,No,No]) 11 ⟨rfl, by kernel_rfl, by kernel_rfl, by kernel_rfl, by kernel_rfl⟩ rfl rfl rfl (fun _ _ _ _ h => h) ?_)); all_goals (first | (refine Goal.takePT (listed' := #[Ya,Ya,Ya,Ya,Ya,Ya,Ya,Ya,Ya,Ya,No,Ya,Ya,No,No,No,No,No,No,No,No,No,No,No,No,No,No]) 12 ⟨rfl, by kernel_rfl, by kernel_rfl, by kernel_rfl, by kernel_rfl⟩ rfl rfl rfl (fun _ _ _ _ h => h) (by intro _; exact Run.nilCheckP rfl) ?_) | (refine Goal.takePF (listed' := #[Ya,Ya,Ya,Ya,Ya,Ya,Ya,Ya,Ya,Ya,No,Ya,Ya,No,No,No,No,No,No,No,No,No,No,No,No,No,No]) 12 ⟨rfl, by kernel_rfl, by kernel_rfl, by kernel_rfl, by kernel_rfl⟩ rfl rfl rfl rfl (fun _ _ _ _ h => h) ?_) | (refine Goal.takePU (listed' := #[Ya,Ya,Ya,Ya,Ya,Ya,Ya,Ya,Ya,Ya,No,Ya,Ya,No,No,No,No,No,No,No,No,No,No,No,No,No,No]) 12 ⟨rfl, by kernel_rfl, by kernel_rfl, by kernel_rfl, by kernel_rfl⟩ rfl rfl rfl (fun _ _ _ _ h => h) ?_)); all_goals (first | (refine Goal.takePT (listed' := #[Ya,Ya,Ya,Ya,Ya,Ya,Ya,Ya,Ya,Ya,No,Ya,Ya,Ya,No,No,No,No,No,No,No,No,No,No,No,No,No]) 13 ⟨rfl, by kernel_rfl, by kernel_rfl, by kernel_rfl, by kernel_rfl⟩ rfl rfl rfl (fun _ _ _ _ h => h) (by intro _; exact Run.fieldAddr T.fld_50_0 rfl) ?_) | (refine Goal.takePF (listed' := #[Ya,Ya,Ya,Ya,Ya,Ya,Ya,Ya,Ya,Ya,No,Ya,Ya,Ya,No,No,No,No,No,No,No,No,No,No,No,No,No]) 13 ⟨rfl, by kernel_rfl, by kernel_rfl, by kernel_rfl, by kernel_rfl⟩ rfl rfl rfl rfl (fun _ _ _ _ h => h) ?_) | (refine Goal.takePU (listed' := #[Ya,Ya,Ya,Ya,Ya,Ya,Ya,Ya,Ya,Ya,No,Ya,Ya,Ya,No,No,No,No,No,No,No,No,No,No,No,No,No]) 13 ⟨rfl, by kernel_rfl, by kernel_rfl, by kernel_rfl, by kernel_rfl⟩ rfl rfl rfl (fun _ _ _ _ h => h) ?_)); all_goals (first | (refine Goal.takeT (listed' := #[Ya,Ya,Ya,Ya,Ya,Ya,Ya,Ya,Ya,Ya,Ya,Ya,Ya,Ya,No,No,No,No,No,No,No,No,No,No,No,No,No]) 10 ⟨rfl, by kernel_rfl, by kernel_rfl, by kernel_rfl, by kernel_rfl, by kernel_rfl⟩ rfl rfl rfl (by (first | exact s0 | exact s1 | exact s2 | exact s3 | exact sd | exact sa | exact sn (by simp))) (fun _ _ _ _ h => h) (by (apply Run.load; exact rfl; first | exact LoadOK.old T.one_3 (hki 0 _ rfl) (by simp) | exact LoadOK.old T.one_3 (hki 1 _ rfl) (by simp) | exact LoadOK.old T.one_3 (hki 2 _ rfl) (by simp) | exact LoadOK.old T.one_3 (hki 3 _ rfl) (by simp) | exact LoadOK.old T.one_3 (hki 4 _ rfl) (by simp) | exact LoadOK.old T.one_3 (hki 5 _ rfl) (by simp) | exact LoadOK.old T.one_3 (hki 6 _ rfl) (by simp) | exact ag3 T.agg_25 0 rfl rfl rfl rfl | exact ag3 T.agg_25 1 rfl rfl rfl rfl | exact ag3 T.agg_25 2 rfl rfl rfl rfl | exact ag3 T.agg_25 3 rfl rfl rfl rfl | exact ag3 T.agg_25 4 rfl rfl rfl rfl)) ?_) | (refine Goal.takeF (listed' := #[Ya,Ya,Ya,Ya,Ya,Ya,Ya,Ya,Ya,Ya,Ya,Ya,Ya,Ya,No,No,No,No,No,No,No,No,No,No,No,No,No]) 10 ⟨rfl, by kernel_rfl, by kernel_rfl, by kernel_rfl, by kernel_rfl, by kernel_rfl⟩ rfl rfl rfl rfl (by (first | exact s0 | exact s1 | exact s2 | exact s3 | exact sd | exact sa | exact sn (by simp))) (fun _ _ _ _ h => h) ?_) | (refine Goal.takePU (listed' := #[Ya,Ya,Ya,Ya,Ya,Ya,Ya,Ya,Ya,Ya,Ya,Ya,Ya,Ya,No,No,No,No,No,No,No,No,No,No,No,No,No]) 10 ⟨rfl, by kernel_rfl, by kernel_rfl, by kernel_rfl, by kernel_rfl⟩ rfl rfl rfl (fun _ _ _ _ h => h) ?_)); all_goals (first | (refine Goal.takeT (listed' := #[Ya,Ya,Ya,Ya,Ya,Ya,Ya,Ya,Ya,Ya,Ya,Ya,Ya,Ya,Ya,No,No,No,No,No,No,No,No,No,No,No,No]) 14 ⟨rfl, by kernel_rfl, by kernel_rfl, by kernel_rfl, by kernel_rfl, by kernel_rfl⟩ rfl rfl rfl (by (first | exact s0 | exact s1 | exact s2 | exact s3 | exact sd | exact sa | exact sn (by simp))) (fun _ _ _ _ h => h) (by (apply Run.load; exact rfl; first | exact LoadOK.old T.one_3 (hki 0 _ rfl) (by simp) | exact LoadOK.old T.one_3 (hki 1 _ rfl) (by simp) | exact LoadOK.old T.one_3 (hki 2 _ rfl) (by simp) | exact LoadOK.old T.one_3 (hki 3 _ rfl) (by simp) | exact LoadOK.old T.one_3 (hki 4 _ rfl) (by simp) | exact LoadOK.old T.one_3 (hki 5 _ rfl) (by simp) | exact LoadOK.old T.one_3 (hki 6 _ rfl) (by simp) | exact LoadOK.one T.one_3 0 rfl rfl | exact LoadOK.one T.one_3 1 rfl rfl | exact LoadOK.one T.one_3 2 rfl rfl | exact LoadOK.one T.one_3 3 rfl rfl | exact LoadOK.one T.one_3 4 rfl rfl)) ?_) | (refine Goal.takeF (listed' := #[Ya,Ya,Ya,Ya,Ya,Ya,Ya,Ya,Ya,Ya,Ya,Ya,Ya,Ya,Ya,No,No,No,No,No,No,No,No,No,No,No,No]) 14 ⟨rfl, by kernel_rfl, by kernel_rfl, by kernel_rfl, by kernel_rfl, by kernel_rfl⟩ rfl rfl rfl rfl (by (first | exact s0 | exact s1 | exact s2 | exact s3 | exact sd | exact sa | exact sn (by simp))) (fun _ _ _ _ h => h) ?_) | (refine Goal.takePU (listed' := #[Ya,Ya,Ya,Ya,Ya,Ya,Ya,Ya,Ya,Ya,Ya,Ya,Ya,Ya,Ya,No,No,No,No,No,No,No,No,No,No,No,No]) 14 ⟨rfl, by kernel_rfl, by kernel_rfl, by kernel_rfl, by kernel_rfl⟩ rfl rfl rfl (fun _ _ _ _ h => h) ?_)); all_goals (refine Goal.ready1 (i := 15) (by kernel_rfl) ?_); all_goals ((first | (refine Goal.upT (i := 15) (listed' := #[Ya,Ya,Ya,Ya,Ya,Ya,Ya,Ya,Ya,Ya,Ya,Ya,Ya,Ya,Ya,Ya,No,No,No,No,No,No,No,No,No,No,No]) rfl (by kernel_rfl) rfl rfl ?_; (apply Loud.call0; exact rfl; exact rfl; exact rfl; exact rfl; exact T.bod_56; exact (fun w' H => node_ok l.a)); first | refine Goal.tail rfl ?_ | refine Goal.kept (by (first | exact s0 | exact s1 | exact s2 | exact s3 | exact sd | exact sa | exact sn (by simp))) ?_) | (refine Goal.upF (i := 15) (listed' := #[Ya,Ya,Ya,Ya,Ya,Ya,Ya,Ya,Ya,Ya,Ya,Ya,Ya,Ya,Ya,Ya,No,No,No,No,No,No,No,No,No,No,No]) rfl (by kernel_rfl) rfl rfl rfl rfl ?_; first | refine Goal.tail rfl ?_ | refine Goal.kept (by (first | exact s0 | exact s1 | exact s2 | exact s3 | exact sd | exact sa | exact sn (by simp))) ?_) | (refine Goal.upU (i := 15) (listed' := #[Ya,Ya,Ya,Ya,Ya,Ya,Ya,Ya,Ya,Ya,Ya,Ya,Ya,Ya,Ya,Ya,No,No,No,No,No,No,No,No,No,No,No]) rfl (by kernel_rfl) rfl rfl rfl ?_; first | refine Goal.tail rfl ?_ | refine Goal.kept (by (first | exact s0 | exact s1 | exact s2 | exact s3 | exact sd | exact sa | exact sn (by simp))) ?_))); all_goals (first | (refine Goal.takePT (listed' := #[Ya,Ya,Ya,Ya,Ya,Ya,Ya,Ya,Ya,Ya,Ya,Ya,Ya,Ya,Ya,Ya,Ya,No,No,No,No,No,No,No,No,No,No]) 16 ⟨rfl, by kernel_rfl, by kernel_rfl, by kernel_rfl, by kernel_rfl⟩ rfl rfl rfl (fun _ _ _ _ h => h) (by intro _; first | exact Run.notT rfl | exact Run.notF rfl | exact Run.notD rfl | exact Run.notB rfl) ?_) | (refine Goal.takePF (listed' := #[Ya,Ya,Ya,Ya,Ya,Ya,Ya,Ya,Ya,Ya,Ya,Ya,Ya,Ya,Ya,Ya,Ya,No,No,No,No,No,No,No,No,No,No]) 16 ⟨rfl, by kernel_rfl, by kernel_rfl, by kernel_rfl, by kernel_rfl⟩ rfl rfl rfl rfl (fun _ _ _ _ h => h) ?_) | (refine Goal.takePU (listed' := #[Ya,Ya,Ya,Ya,Ya,Ya,Ya,Ya,Ya,Ya,Ya,Ya,Ya,Ya,Ya,Ya,Ya,No,No,No,No,No,No,No,No,No,No]) 16 ⟨rfl, by kernel_rfl, by kernel_rfl, by kernel_rfl, by kernel_rfl⟩ rfl rfl rfl (fun _ _ _ _ h => h) ?_)); all_goals ((refine Goal.takeP (listed' := #[Ya,Ya,Ya,Ya,Ya,Ya,Ya,Ya,Ya,Ya,Ya,Ya,Ya,Ya,Ya,Ya,Ya,Ya,No,No,No,No,No,No,No,No,No]) 17 ⟨rfl, by kernel_rfl, by kernel_rfl, by kernel_rfl, by kernel_rfl⟩ rfl (fun _ _ _ _ h => h) (by intro _; first | exact Run.pickT rfl rfl | exact Run.pickF rfl rfl) ?_)); all_goals ((refine Goal.takeP (listed' := #[Ya,Ya,Ya,Ya,Ya,Ya,Ya,Ya,Ya,Ya,Ya,Ya,Ya,Ya,Ya,Ya,Ya,Ya,Ya,No,No,No,No,No,No,No,No]) 18 ⟨rfl, by kernel_rfl, by kernel_rfl, by kernel_rfl, by kernel_rfl⟩ rfl (fun _ _ _ _ h => h) (by intro _; exact Run.move rfl) ?_)); all_goals (first | (refine Goal.bdec 55 rfl (fun hc => ?_) (fun hc => ?_) <;> first | (exfalso; omega) | contradiction | skip) | skip); all_goals (first | (refine Goal.takePT (listed' := #[Ya,Ya,Ya,Ya,Ya,Ya,Ya,Ya,Ya,Ya,Ya,Ya,Ya,Ya,Ya,Ya,Ya,Ya,Ya,No,Ya,No,No,No,No,No,No]) 20 ⟨rfl, by kernel_rfl, by kernel_rfl, by kernel_rfl, by kernel_rfl⟩ rfl rfl rfl (fun _ _ _ _ h => h) (by intro _; exact Run.move rfl) ?_) | (refine Goal.takePF (listed' := #[Ya,Ya,Ya,Ya,Ya,Ya,Ya,Ya,Ya,Ya,Ya,Ya,Ya,Ya,Ya,Ya,Ya,Ya,Ya,No,Ya,No,No,No,No,No,No]) 20 ⟨rfl, by kernel_rfl, by kernel_rfl, by kernel_rfl, by kernel_rfl⟩ rfl rfl rfl rfl (fun _ _ _ _ h => h) ?_) | (refine Goal.takePU (listed' := #[Ya,Ya,Ya,Ya,Ya,Ya,Ya,Ya,Ya,Ya,Ya,Ya,Ya,Ya,Ya,Ya,Ya,Ya,Ya,No,Ya,No,No,No,No,No,No]) 20 ⟨rfl, by kernel_rfl, by kernel_rfl, by kernel_rfl, by kernel_rfl⟩ rfl rfl rfl (fun _ _ _ _ h => h) ?_)); all_goals (first | (refine Goal.takePT (listed' := #[Ya,Ya,Ya,Ya,Ya,Ya,Ya,Ya,Ya,Ya,Ya,Ya,Ya,Ya,Ya,Ya,Ya,Ya,Ya,No,Ya,Ya,No,No,No,No,No]) 21 ⟨rfl, by kernel_rfl, by kernel_rfl, by kernel_rfl, by kernel_rfl⟩ rfl rfl rfl (fun _ _ _ _ h => h) (by intro _; exact Run.nilCheckP rfl) ?_) | (refine Goal.takePF (listed' := #[Ya,Ya,Ya,Ya,Ya,Ya,Ya,Ya,Ya,Ya,Ya,Ya,Ya,Ya,Ya,Ya,Ya,Ya,Ya,No,Ya,Ya,No,No,No,No,No]) 21 ⟨rfl, by kernel_rfl, by kernel_rfl, by kernel_rfl, by kernel_rfl⟩ rfl rfl rfl rfl (fun _ _ _ _ h => h) ?_) | (refine Goal.takePU (listed' := #[Ya,Ya,Ya,Ya,Ya,Ya,Ya,Ya,Ya,Ya,Ya,Ya,Ya,Ya,Ya,Ya,Ya,Ya,Ya,No,Ya,Ya,No,No,No,No,No]) 21 ⟨rfl, by kernel_rfl, by kernel_rfl, by kernel_rfl, by kernel_rfl⟩ rfl rfl rfl (fun _ _ _ _ h => h) ?_)); all_goals (first | (refine Goal.takePT (listed' := #[Ya,Ya,Ya,Ya,Ya,Ya,Ya,Ya,Ya,Ya,Ya,Ya,Ya,Ya,Ya,Ya,Ya,Ya,Ya,No,Ya,Ya,Ya,No,No,No,No]) 22 ⟨rfl, by kernel_rfl, by kernel_rfl, by kernel_rfl, by kernel_rfl⟩ rfl rfl rfl (fun _ _ _ _ h => h) (by intro _; exact Run.fieldAddr T.fld_50_1 rfl) ?_) | (refine Goal.takePF (listed' := #[Ya,Ya,Ya,Ya,Ya,Ya,Ya,Ya,Ya,Ya,Ya,Ya,Ya,Ya,Ya,Ya,Ya,Ya,Ya,No,Ya,Ya,Ya,No,No,No,No]) 22 ⟨rfl, by kernel_rfl, by kernel_rfl, by kernel_rfl, by kernel_rfl⟩ rfl rfl rfl rfl (fun _ _ _ _ h => h) ?_) | (refine Goal.takePU (listed' := #[Ya,Ya,Ya,Ya,Ya,Ya,Ya,Ya,Ya,Ya,Ya,Ya,Ya,Ya,Ya,Ya,Ya,Ya,Ya,No,Ya,Ya,Ya,No,No,No,No]) 22 ⟨rfl, by kernel_rfl, by kernel_rfl, by kernel_rfl, by kernel_rfl⟩ rfl rfl rfl (fun _ _ _ _ h => h) ?_)); all_goals (first | (refine Goal.takeT (listed' := #[Ya,Ya,Ya,Ya,Ya,Ya,Ya,Ya,Ya,Ya,Ya,Ya,Ya,Ya,Ya,Ya,Ya,Ya,Ya,Ya,Ya,Ya,Ya,No,No,No,No]) 19 ⟨rfl, by kernel_rfl, by kernel_rfl, by kernel_rfl, by kernel_rfl, by kernel_rfl⟩ rfl rfl rfl (by (first | exact s0 | exact s1 | exact s2 | exact s3 | exact sd | exact sa | exact sn (by simp))) (fun _ _ _ _ h => h) (by (apply Run.load; exact rfl; first | exact LoadOK.old T.one_3 (hki 0 _ rfl) (by simp) | exact LoadOK.old T.one_3 (hki 1 _ rfl) (by simp) | exact LoadOK.old T.one_3 (hki 2 _ rfl) (by simp) | exact LoadOK.old T.one_3 (hki 3 _ rfl) (by simp) | exact LoadOK.old T.one_3 (hki 4 _ rfl) (by simp) | exact LoadOK.old T.one_3 (hki 5 _ rfl) (by simp) | exact LoadOK.old T.one_3 (hki 6 _ rfl) (by simp) | exact ag3 T.agg_25 0 rfl rfl rfl rfl | exact ag3 T.agg_25 1 rfl rfl rfl rfl | exact ag3 T.agg_25 2 rfl rfl rfl rfl | exact ag3 T.agg_25 3 rfl rfl rfl rfl | exact ag3 T.agg_25 4 rfl rfl rfl rfl)) ?_) | (refine Goal.takeF (listed' := #[Ya,Ya,Ya,Ya,Ya,Ya,Ya,Ya,Ya,Ya,Ya,Ya,Ya,Ya,Ya,Ya,Ya,Ya,Ya,Ya,Ya,Ya,Ya,No,No,No,No]) 19 ⟨rfl, by kernel_rfl, by kernel_rfl, by kernel_rfl, by kernel_rfl, by kernel_rfl⟩ rfl rfl rfl rfl (by (first | exact s0 | exact s1 | exact s2 | exact s3 | exact sd | exact sa | exact sn (by simp))) (fun _ _ _ _ h => h) ?_) | (refine Goal.takePU (listed' := #[Ya,Ya,Ya,Ya,Ya,Ya,Ya,Ya,Ya,Ya,Ya,Ya,Ya,Ya,Ya,Ya,Ya,Ya,Ya,Ya,Ya,Ya,Ya,No,No,No,No]) 19 ⟨rfl, by kernel_rfl, by kernel_rfl, by kernel_rfl, by kernel_rfl⟩ rfl rfl rfl (fun _ _ _ _ h => h) ?_)); all_goals (first | (refine Goal.takeT (listed' := #[Ya,Ya,Ya,Ya,Ya,Ya,Ya,Ya,Ya,Ya,Ya,Ya,Ya,Ya,Ya,Ya,Ya,Ya,Ya,Ya,Ya,Ya,Ya,Ya,No,No,No]) 23 ⟨rfl, by kernel_rfl, by kernel_rfl, by kernel_rfl, by kernel_rfl, by kernel_rfl⟩ rfl rfl rfl (by (first | exact s0 | exact s1 | exact s2 | exact s3 | exact sd | exact sa | exact sn (by simp))) (fun _ _ _ _ h => h) (by (apply Run.load; exact rfl; first | exact LoadOK.old T.one_3 (hki 0 _ rfl) (by simp) | exact LoadOK.old T.one_3 (hki 1 _ rfl) (by simp) | exact LoadOK.old T.one_3 (hki 2 _ rfl) (by simp) | exact LoadOK.old T.one_3 (hki 3 _ rfl) (by simp) | exact LoadOK.old T.one_3 (hki 4 _ rfl) (by simp) | exact LoadOK.old T.one_3 (hki 5 _ rfl) (by simp) | exact LoadOK.old T.one_3 (hki 6 _ rfl) (by simp) | exact LoadOK.one T.one_3 0 rfl rfl | exact LoadOK.one T.one_3 1 rfl rfl | exact LoadOK.one T.one_3 2 rfl rfl | exact LoadOK.one T.one_3 3 rfl rfl | exact LoadOK.one T.one_3 4 rfl rfl)) ?_) | (refine Goal.takeF (listed' := #[Ya,Ya,Ya,Ya,Ya,Ya,Ya,Ya,Ya,Ya,Ya,Ya,Ya,Ya,Ya,Ya,Ya,Ya,Ya,Ya,Ya,Ya,Ya,Ya,No,No,No]) 23 ⟨rfl, by kernel_rfl, by kernel_rfl, by kernel_rfl, by kernel_rfl, by kernel_rfl⟩ rfl rfl rfl rfl (by (first | exact s0 | exact s1 | exact s2 | exact s3 | exact sd | exact sa | exact sn (by simp))) (fun _ _ _ _ h => h) ?_) | (refine Goal.takePU (listed' := #[Ya,Ya,Ya,Ya,Ya,Ya,Ya,Ya,Ya,Ya,Ya,Ya,Ya,Ya,Ya,Ya,Ya,Ya,Ya,Ya,Ya,Ya,Ya,Ya,No,No,No]) 23 ⟨rfl, by kernel_rfl, by kernel_rfl, by kernel_rfl, by kernel_rfl⟩ rfl rfl rfl (fun _ _ _ _ h => h) ?_)); all_goals (refine Goal.ready1 (i := 24) (by kernel_rfl) ?_); all_goals ((first | (refine Goal.upT (i := 24) (listed' := #[Ya,Ya,Ya,Ya,Ya,Ya,Ya,Ya,Ya,Ya,Ya,Ya,Ya,Ya,Ya,Ya,Ya,Ya,Ya,Ya,Ya,Ya,Ya,Ya,Ya,No,No]) rfl (by kernel_rfl) rfl rfl ?_; (apply Loud.call0; exact rfl; exact rfl; exact rfl; exact rfl; exact T.bod_56; exact (fun w' H => node_ok l.b)); first | refine Goal.tail rfl ?_ | refine Goal.kept (by (first | exact s0 | exact s1 | exact s2 | exact s3 | exact sd | exact sa | exact sn (by simp))) ?_) | (refine Goal.upF (i := 24) (listed' := #[Ya,Ya,Ya,Ya,Ya,Ya,Ya,Ya,Ya,Ya,Ya,Ya,Ya,Ya,Ya,Ya,Ya,Ya,Ya,Ya,Ya,Ya,Ya,Ya,Ya,No,No]) rfl (by kernel_rfl) rfl rfl rfl rfl ?_; first | refine Goal.tail rfl ?_ | refine Goal.kept (by (first | exact s0 | exact s1 | exact s2 | exact s3 | exact sd | exact sa | exact sn (by simp))) ?_) | (refine Goal.upU (i := 24) (listed' := #[Ya,Ya,Ya,Ya,Ya,Ya,Ya,Ya,Ya,Ya,Ya,Ya,Ya,Ya,Ya,Ya,Ya,Ya,Ya,Ya,Ya,Ya,Ya,Ya,Ya,No,No]) rfl (by kernel_rfl) rfl rfl rfl ?_; first | refine Goal.tail rfl ?_ | refine Goal.kept (by (first | exact s0 | exact s1 | exact s2 | exact s3 | exact sd | exact sa | exact sn (by simp))) ?_))); all_goals (first | (refine Goal.takePT (listed' := #[Ya,Ya,Ya,Ya,Ya,Ya,Ya,Ya,Ya,Ya,Ya,Ya,Ya,Ya,Ya,Ya,Ya,Ya,Ya,Ya,Ya,Ya,Ya,Ya,Ya,Ya,No]) 25 ⟨rfl, by kernel_rfl, by kernel_rfl, by kernel_rfl, by kernel_rfl⟩ rfl rfl rfl (fun _ _ _ _ h => h) (by intro _; first | exact Run.notT rfl | exact Run.notF rfl | exact Run.notD rfl | exact Run.notB rfl) ?_) | (refine Goal.takePF (listed' := #[Ya,Ya,Ya,Ya,Ya,Ya,Ya,Ya,Ya,Ya,Ya,Ya,Ya,Ya,Ya,Ya,Ya,Ya,Ya,Ya,Ya,Ya,Ya,Ya,Ya,Ya,No]) 25 ⟨rfl, by kernel_rfl, by kernel_rfl, by kernel_rfl, by kernel_rfl⟩ rfl rfl rfl rfl (fun _ _ _ _ h => h) ?_) | (refine Goal.takePU (listed' := #[Ya,Ya,Ya,Ya,Ya,Ya,Ya,Ya,Ya,Ya,Ya,Ya,Ya,Ya,Ya,Ya,Ya,Ya,Ya,Ya,Ya,Ya,Ya,Ya,Ya,Ya,No]) 25 ⟨rfl, by kernel_rfl, by kernel_rfl, by kernel_rfl, by kernel_rfl⟩ rfl rfl rfl (fun _ _ _ _ h => h) ?_)); all_goals ((refine Goal.takeP (listed' := #[Ya,Ya,Ya,Ya,Ya,Ya,Ya,Ya,Ya,Ya,Ya,Ya,Ya,Ya,Ya,Ya,Ya,Ya,Ya,Ya,Ya,Ya,Ya,Ya,Ya,Ya,Ya]) 26 ⟨rfl, by kernel_rfl, by kernel_rfl, by kernel_rfl, by kernel_rfl⟩ rfl (fun _ _ _ _ h => h) (by intro _; first | exact Run.pickT rfl rfl | exact Run.pickF rfl rfl) ?_)); all_goals (refine Goal.allUp (by kernel_rfl) ?_))
        | (refine Goal.loud (o := ⟨some 52, _, _, _, _, _⟩) rfl ?_; apply Loud.call0; exact rfl; exact rfl; exact rfl; exact rfl; exact T.bod_56; exact (fun w' H => node_ok l.a))
        | (refine Goal.loud (o := ⟨some 61, _, _, _, _, _⟩) rfl ?_; apply Loud.call0; exact rfl; exact rfl; exact rfl; exact rfl; exact T.bod_56; exact (fun w' H => node_ok l.b))
        | (refine Goal.loud (o := ⟨some 69, _, _, _, _, _⟩) rfl ?_; apply Loud.call0; exact rfl; exact rfl; exact rfl; exact rfl; exact T.bod_80; exact (fun w' H => within_ok l.c0 1 65535 w'))
        | (refine Goal.loud (o := ⟨some 77, _, _, _, _, _⟩) rfl ?_; apply Loud.call0; exact rfl; exact rfl; exact rfl; exact rfl; exact T.bod_80; exact (fun w' H => within_ok l.c1 1 65535 w'))
        | (refine Goal.loud (o := ⟨some 84, _, _, _, _, _⟩) rfl ?_; apply Loud.call0; exact rfl; exact rfl; exact rfl; exact rfl; exact T.bod_80; exact (fun w' H => within_ok l.cap 0 1048576 w'))
        | (refine Goal.loud (o := ⟨some 91, _, _, _, _, _⟩) rfl ?_; apply Loud.call0; exact rfl; exact rfl; exact rfl; exact rfl; exact T.bod_80; exact (fun w' H => within_ok l.dl 1 65536 w'))
        | (refine Goal.loud (o := ⟨some 99, _, _, _, _, _⟩) rfl ?_; apply Loud.call0; exact rfl; exact rfl; exact rfl; exact rfl; exact T.bod_80; exact (fun w' H => within_ok l.gp 0 64 w'))
        | (refine Goal.loud (o := ⟨some 1, _, _, _, _, _⟩) rfl ?_; first | refine Loud.boxA rfl rfl (fun b1 => ?_) | refine Loud.box1 rfl rfl rfl (fun b1 => ?_))
        | (apply G.move; exact rfl; exact rfl)
        | (apply G.assign; exact rfl; exact rfl)
        | refine Goal.seq (fun _ _ => ?_)
        | refine Goal.next (by assumption) ?_
        | refine Goal.lnil ?_
        | refine Goal.region ?_
        | refine Goal.skip ?_
        | refine Goal.block ?_
        | refine Goal.exit ?_
        | refine Goal.ret ?_
        | refine Goal.then_exit ?_
        | refine Goal.then_ret ?_
        | refine Goal.inBlock_exit ?_
        | refine Goal.inBlock_normal ?_
        | refine Goal.inBlock_ret ?_
        | refine Goal.inBlock_other rfl ?_
        | (apply Goal.condT; exact rfl)
        | (apply Goal.condF; exact rfl)
        | (refine Goal.condD rfl (fun hc => ?_) (fun hc => ?_) <;> first | (exfalso; omega) | contradiction | skip)
        | refine Goal.condB rfl (fun hc => ?_) (fun hc => ?_)
        | refine Goal.guardT rfl rfl ?_
        | refine Goal.guardF rfl rfl rfl rfl ?_
        | refine Goal.guardU rfl rfl rfl ?_
        | (refine Goal.guardD rfl rfl (fun hc => ?_) (fun hc => ?_) <;> first | (exfalso; omega) | contradiction | skip)
        | refine Goal.guardB rfl rfl (fun hc => ?_) (fun hc => ?_)
        | (apply G.fieldAddr; exact rfl; exact rfl; (first | exact T.fld_25_0 | exact T.fld_25_1 | exact T.fld_25_2 | exact T.fld_50_0 | exact T.fld_50_1 | exact T.fld_50_2 | exact T.fld_50_3 | exact T.fld_50_4 | exact T.fld_50_5))
        | (apply G.load; exact rfl; exact rfl; first | exact LoadOK.old T.one_3 (hki 0 _ rfl) (by simp) | exact LoadOK.old T.one_3 (hki 1 _ rfl) (by simp) | exact LoadOK.old T.one_3 (hki 2 _ rfl) (by simp) | exact LoadOK.old T.one_3 (hki 3 _ rfl) (by simp) | exact LoadOK.old T.one_3 (hki 4 _ rfl) (by simp) | exact LoadOK.old T.one_3 (hki 5 _ rfl) (by simp) | exact LoadOK.old T.one_3 (hki 6 _ rfl) (by simp) | exact LoadOK.one (by first | exact T.one_3 | exact T.one_22 | exact T.one_23) 0 rfl rfl | exact LoadOK.one (by first | exact T.one_3 | exact T.one_22 | exact T.one_23) 1 rfl rfl | exact LoadOK.one (by first | exact T.one_3 | exact T.one_22 | exact T.one_23) 2 rfl rfl | exact LoadOK.one (by first | exact T.one_3 | exact T.one_22 | exact T.one_23) 3 rfl rfl | exact LoadOK.one (by first | exact T.one_3 | exact T.one_22 | exact T.one_23) 4 rfl rfl | exact ag3 T.agg_25 0 rfl rfl rfl rfl | exact ag3 T.agg_25 1 rfl rfl rfl rfl | exact ag3 T.agg_25 2 rfl rfl rfl rfl | exact ag3 T.agg_25 3 rfl rfl rfl rfl | exact ag3 T.agg_25 4 rfl rfl rfl rfl)
        | (apply G.pickT; exact rfl; exact rfl; exact rfl)
        | (apply G.pickF; exact rfl; exact rfl; exact rfl)
        | (apply G.lss; exact rfl; exact rfl; exact rfl)
        | (apply G.gtr; exact rfl; exact rfl; exact rfl)
        | (apply G.eql; exact rfl; exact rfl; exact rfl)
        | (apply G.neq; exact rfl; exact rfl; exact rfl)
        | (apply G.add; exact rfl; exact rfl; exact rfl; exact IntWalk.i64_in _ (by omega))
        | (apply G.notT; exact rfl; exact rfl)
        | (apply G.notF; exact rfl; exact rfl)
        | (refine G.notD rfl rfl ?_)
        | (apply G.notB; exact rfl; exact rfl)
        | (apply G.len; exact rfl; exact rfl; (first | exact T.slc_22 | exact T.slc_23))
        | (apply G.nilCheckP; exact rfl; exact rfl)
        | (refine G.indexAddr1 rfl T.slc_23 T.sz_3 rfl rfl _ rfl (by omega) ?_)
        | (refine G.indexAddr1 rfl T.slc_23 T.sz_3 rfl rfl _ (Int.toNat_of_nonneg (by omega)).symm (by omega) ?_)
        | (refine G.indexAddr rfl T.slc_23 T.sz_50 rfl rfl _ rfl (by omega) ?_)
        | (refine G.indexAddr rfl T.slc_23 T.sz_50 rfl rfl _ (Int.toNat_of_nonneg (by omega)).symm (by omega) ?_)
        | (refine G.indexAddrA rfl T.arr_48 (by first | exact T.sz_3 | exact T.sz_50) rfl rfl _ rfl (by omega) ?_)
        | (refine G.indexAddrA rfl T.arr_48 (by first | exact T.sz_3 | exact T.sz_50) rfl rfl _ (Int.toNat_of_nonneg (by omega)).symm (by omega) ?_))
      all_goals first
        | (refine Goal.done (vs := [_]) (by first | exact .inl rfl | exact .inr rfl) Try.results54 ⟨rfl, trivial⟩ rfl (fun w' H => ⟨ret_no (hno fun x => by omega), H.mod⟩))
        | (refine Goal.again (i + 1) ⟨by omega, hyes (by omega)⟩ (by omega) ⟨rfl, rfl, rfl, trivial⟩ (fun _ h => h))
    · obtain hil : i = tp.ls.length := by omega
      subst hil
      repeat' (first
        | (refine Goal.loud (o := ⟨some 1, _, _, _, _, _⟩) rfl ?_; first | refine Loud.boxA rfl rfl (fun b1 => ?_) | refine Loud.box1 rfl rfl rfl (fun b1 => ?_))
        | (apply G.move; exact rfl; exact rfl)
        | (apply G.assign; exact rfl; exact rfl)
        | refine Goal.seq (fun _ _ => ?_)
        | refine Goal.next (by assumption) ?_
        | refine Goal.lnil ?_
        | refine Goal.region ?_
        | refine Goal.skip ?_
        | refine Goal.block ?_
        | refine Goal.exit ?_
        | refine Goal.ret ?_
        | refine Goal.then_exit ?_
        | refine Goal.then_ret ?_
        | refine Goal.inBlock_exit ?_
        | refine Goal.inBlock_normal ?_
        | refine Goal.inBlock_ret ?_
        | refine Goal.inBlock_other rfl ?_
        | (apply Goal.condT; exact rfl)
        | (apply Goal.condF; exact rfl)
        | (refine Goal.condD rfl (fun hc => ?_) (fun hc => ?_) <;> first | (exfalso; omega) | contradiction | skip)
        | refine Goal.condB rfl (fun hc => ?_) (fun hc => ?_)
        | refine Goal.guardT rfl rfl ?_
        | refine Goal.guardF rfl rfl rfl rfl ?_
        | refine Goal.guardU rfl rfl rfl ?_
        | (refine Goal.guardD rfl rfl (fun hc => ?_) (fun hc => ?_) <;> first | (exfalso; omega) | contradiction | skip)
        | refine Goal.guardB rfl rfl (fun hc => ?_) (fun hc => ?_)
        | (apply G.fieldAddr; exact rfl; exact rfl; (first | exact T.fld_25_0 | exact T.fld_25_1 | exact T.fld_25_2 | exact T.fld_50_0 | exact T.fld_50_1 | exact T.fld_50_2 | exact T.fld_50_3 | exact T.fld_50_4 | exact T.fld_50_5))
        | (apply G.load; exact rfl; exact rfl; first | exact LoadOK.one (by first | exact T.one_3 | exact T.one_22 | exact T.one_23) 0 rfl rfl | exact LoadOK.one (by first | exact T.one_3 | exact T.one_22 | exact T.one_23) 1 rfl rfl | exact LoadOK.one (by first | exact T.one_3 | exact T.one_22 | exact T.one_23) 2 rfl rfl | exact LoadOK.one (by first | exact T.one_3 | exact T.one_22 | exact T.one_23) 3 rfl rfl | exact LoadOK.one (by first | exact T.one_3 | exact T.one_22 | exact T.one_23) 4 rfl rfl | exact ag3 T.agg_25 0 rfl rfl rfl rfl | exact ag3 T.agg_25 1 rfl rfl rfl rfl | exact ag3 T.agg_25 2 rfl rfl rfl rfl | exact ag3 T.agg_25 3 rfl rfl rfl rfl | exact ag3 T.agg_25 4 rfl rfl rfl rfl)
        | (apply G.pickT; exact rfl; exact rfl; exact rfl)
        | (apply G.pickF; exact rfl; exact rfl; exact rfl)
        | (apply G.lss; exact rfl; exact rfl; exact rfl)
        | (apply G.gtr; exact rfl; exact rfl; exact rfl)
        | (apply G.eql; exact rfl; exact rfl; exact rfl)
        | (apply G.neq; exact rfl; exact rfl; exact rfl)
        | (apply G.add; exact rfl; exact rfl; exact rfl; exact IntWalk.i64_in _ (by omega))
        | (apply G.notT; exact rfl; exact rfl)
        | (apply G.notF; exact rfl; exact rfl)
        | (refine G.notD rfl rfl ?_)
        | (apply G.notB; exact rfl; exact rfl)
        | (apply G.len; exact rfl; exact rfl; (first | exact T.slc_22 | exact T.slc_23))
        | (apply G.nilCheckP; exact rfl; exact rfl)
        | (refine G.indexAddr1 rfl T.slc_23 T.sz_3 rfl rfl _ rfl (by omega) ?_)
        | (refine G.indexAddr1 rfl T.slc_23 T.sz_3 rfl rfl _ (Int.toNat_of_nonneg (by omega)).symm (by omega) ?_)
        | (refine G.indexAddr rfl T.slc_23 T.sz_50 rfl rfl _ rfl (by omega) ?_)
        | (refine G.indexAddr rfl T.slc_23 T.sz_50 rfl rfl _ (Int.toNat_of_nonneg (by omega)).symm (by omega) ?_)
        | (refine G.indexAddrA rfl T.arr_48 (by first | exact T.sz_3 | exact T.sz_50) rfl rfl _ rfl (by omega) ?_)
        | (refine G.indexAddrA rfl T.arr_48 (by first | exact T.sz_3 | exact T.sz_50) rfl rfl _ (Int.toNat_of_nonneg (by omega)).symm (by omega) ?_))
      refine Goal.done (vs := [_]) (by first | exact .inl rfl | exact .inr rfl) Try.results54 ⟨rfl, trivial⟩ rfl (fun w' H => ⟨ret_yes ⟨hn0, hovl, by omega, fun l hl => ?_⟩, H.mod⟩)
      obtain ⟨j, hj, rfl⟩ := List.getElem_of_mem hl
      have := hall j (by omega) (by omega)
      rwa [el_get (i := (j : Int)) (by omega)] at this
/-- What check is to return. -/
def chk (tp : Top) (dn : List Bool) (ns : List Int) : Int := if tp.Ok ∧ Fit tp dn then (if ∀ x ∈ ns, 0 ≤ x ∧ x < tp.n then 0 else 2) else 1
set_option maxHeartbeats 4000000 in
theorem check_ok (hT : TopR w vo vl tp) (hd : RdV w vd (bools dn)) (hl : tp.ls.length ≤ 1048576) (hov : tp.ov.length ≤ 140737488355328) {vn : Value} {ns : List Int} (hn : RdV w vn (ints ns)) (hns : ns.length ≤ 1048576) : Calls Try.prog 72 #[.agg #[.int .i64 tp.n, vo, vl], vd, vn] w fun e w' => e = .returned (.int .i64 (chk tp dn ns)) ∧ Mod [] w w' := by
  obtain ⟨ad, cp, rfl, hn'⟩ := id hn
  rw [ints_len] at hn ⊢
  unfold chk
  by_cases hok : tp.Ok
  · by_cases hf : Fit tp dn
    · rw [if_pos ⟨hok, hf⟩]
      refine Goal.enter (args := [.agg #[.int .i64 tp.n, vo, vl], vd, .slice ad ns.length cp]) Try.func72 rfl Try.ntmps72 rfl (St.nil w) ?_
      repeat' (first
        | (refine Goal.loud (o := ⟨some 10, _, _, _, _, _⟩) rfl ?_; apply Loud.call0; exact rfl; exact rfl; exact rfl; exact rfl; exact T.bod_54; exact (fun w' H => valid_ok (hT.keep H.mod) hl hov); rw [decide_eq_true hok])
        | (refine Goal.loud (o := ⟨some 15, _, _, _, _, _⟩) rfl ?_; apply Loud.call0; exact rfl; exact rfl; exact rfl; exact rfl; exact T.bod_55; exact (fun w' H => fits_ok (hT.keep H.mod) (hd.keep H.mod) hl); rw [decide_eq_true hf])
        | (refine Goal.loud (o := ⟨some 3, _, _, _, _, _⟩) rfl ?_; first | refine Loud.boxA rfl rfl (fun b3 => ?_) | refine Loud.box1 rfl rfl rfl (fun b3 => ?_))
        | (apply G.move; exact rfl; exact rfl)
        | (apply G.assign; exact rfl; exact rfl)
        | refine Goal.seq (fun _ _ => ?_)
        | refine Goal.next (by assumption) ?_
        | refine Goal.lnil ?_
        | refine Goal.region ?_
        | refine Goal.skip ?_
        | refine Goal.block ?_
        | refine Goal.exit ?_
        | refine Goal.ret ?_
        | refine Goal.then_exit ?_
        | refine Goal.then_ret ?_
        | refine Goal.inBlock_exit ?_
        | refine Goal.inBlock_normal ?_
        | refine Goal.inBlock_ret ?_
        | refine Goal.inBlock_other rfl ?_
        | (apply Goal.condT; exact rfl)
        | (apply Goal.condF; exact rfl)
        | (refine Goal.condD rfl (fun hc => ?_) (fun hc => ?_) <;> first | (exfalso; omega) | contradiction | skip)
        | refine Goal.condB rfl (fun hc => ?_) (fun hc => ?_)
        | refine Goal.guardT rfl rfl ?_
        | refine Goal.guardF rfl rfl rfl rfl ?_
        | refine Goal.guardU rfl rfl rfl ?_
        | (refine Goal.guardD rfl rfl (fun hc => ?_) (fun hc => ?_) <;> first | (exfalso; omega) | contradiction | skip)
        | refine Goal.guardB rfl rfl (fun hc => ?_) (fun hc => ?_)
        | (apply G.load; exact rfl; exact rfl; first | exact LoadOK.one T.one_3 0 rfl rfl | exact LoadOK.one T.one_3 1 rfl rfl | exact LoadOK.one T.one_3 2 rfl rfl | exact LoadOK.one T.one_3 3 rfl rfl | exact LoadOK.one T.one_3 4 rfl rfl | exact ag3 T.agg_25 0 rfl rfl rfl rfl | exact ag3 T.agg_25 1 rfl rfl rfl rfl | exact ag3 T.agg_25 2 rfl rfl rfl rfl | exact ag3 T.agg_25 3 rfl rfl rfl rfl | exact ag3 T.agg_25 4 rfl rfl rfl rfl)
        | (apply G.pickT; exact rfl; exact rfl; exact rfl)
        | (apply G.pickF; exact rfl; exact rfl; exact rfl)
        | (apply G.lss; exact rfl; exact rfl; exact rfl)
        | (apply G.add; exact rfl; exact rfl; exact rfl; exact IntWalk.i64_in _ (by omega))
        | (apply G.notT; exact rfl; exact rfl)
        | (apply G.notF; exact rfl; exact rfl)
        | (refine G.notD rfl rfl ?_)
        | (apply G.notB; exact rfl; exact rfl)
        | (apply G.len; exact rfl; exact rfl; exact T.slc_30)
        | (refine G.indexAddr1 rfl T.slc_30 T.sz_3 rfl rfl _ rfl (by omega) ?_)
        | (refine G.indexAddr1 rfl T.slc_30 T.sz_3 rfl rfl _ (Int.toNat_of_nonneg (by omega)).symm (by omega) ?_))
      refine Goal.loopP (X := Int) (fun x => [(3, .pointer (some ⟨b3, 0, none⟩)), (18, .slice ad ns.length cp), (19, .int .i64 ns.length), (20, .int .i64 x)]) (fun _ => [(b3, .cells #[.int .i64 tp.n, vo, vl] 25)])
        (fun x => (0 ≤ x ∧ x ≤ ns.length) ∧ ∀ j : Int, 0 ≤ j → j < x → 0 ≤ ia ns j ∧ ia ns j < tp.n) (fun x => (ns.length - x).toNat) 0 ⟨rfl, rfl, rfl, rfl, trivial⟩ (fun _ h => h) ⟨by omega, fun j j0 j1 => by omega⟩ ?_
      rintro i ⟨hi, hall⟩
      by_cases h : i < ns.length
      · obtain ⟨b, o, rfl, hk⟩ := rd_nums hn (by omega)
        repeat' (first
          | (refine Goal.loud (o := ⟨some 26, _, _, _, _, _⟩) rfl ?_; apply Loud.call0; exact rfl; exact rfl; exact rfl; exact rfl; exact T.bod_56; exact (fun w' H => node_ok (ia ns i)))
          | (refine Goal.loud (o := ⟨some 3, _, _, _, _, _⟩) rfl ?_; first | refine Loud.boxA rfl rfl (fun b3 => ?_) | refine Loud.box1 rfl rfl rfl (fun b3 => ?_))
          | (apply G.move; exact rfl; exact rfl)
          | (apply G.assign; exact rfl; exact rfl)
          | refine Goal.seq (fun _ _ => ?_)
          | refine Goal.next (by assumption) ?_
          | refine Goal.lnil ?_
          | refine Goal.region ?_
          | refine Goal.skip ?_
          | refine Goal.block ?_
          | refine Goal.exit ?_
          | refine Goal.ret ?_
          | refine Goal.then_exit ?_
          | refine Goal.then_ret ?_
          | refine Goal.inBlock_exit ?_
          | refine Goal.inBlock_normal ?_
          | refine Goal.inBlock_ret ?_
          | refine Goal.inBlock_other rfl ?_
          | (apply Goal.condT; exact rfl)
          | (apply Goal.condF; exact rfl)
          | (refine Goal.condD rfl (fun hc => ?_) (fun hc => ?_) <;> first | (exfalso; omega) | contradiction | skip)
          | refine Goal.condB rfl (fun hc => ?_) (fun hc => ?_)
          | refine Goal.guardT rfl rfl ?_
          | refine Goal.guardF rfl rfl rfl rfl ?_
          | refine Goal.guardU rfl rfl rfl ?_
          | (refine Goal.guardD rfl rfl (fun hc => ?_) (fun hc => ?_) <;> first | (exfalso; omega) | contradiction | skip)
          | refine Goal.guardB rfl rfl (fun hc => ?_) (fun hc => ?_)
          | (apply G.load; exact rfl; exact rfl; first | exact LoadOK.old T.one_3 (hk i (by omega) (by omega)) (by simp) | exact LoadOK.one T.one_3 0 rfl rfl | exact LoadOK.one T.one_3 1 rfl rfl | exact LoadOK.one T.one_3 2 rfl rfl | exact LoadOK.one T.one_3 3 rfl rfl | exact LoadOK.one T.one_3 4 rfl rfl | exact ag3 T.agg_25 0 rfl rfl rfl rfl | exact ag3 T.agg_25 1 rfl rfl rfl rfl | exact ag3 T.agg_25 2 rfl rfl rfl rfl | exact ag3 T.agg_25 3 rfl rfl rfl rfl | exact ag3 T.agg_25 4 rfl rfl rfl rfl)
          | (apply G.pickT; exact rfl; exact rfl; exact rfl)
          | (apply G.pickF; exact rfl; exact rfl; exact rfl)
          | (apply G.lss; exact rfl; exact rfl; exact rfl)
          | (apply G.add; exact rfl; exact rfl; exact rfl; exact IntWalk.i64_in _ (by omega))
          | (apply G.notT; exact rfl; exact rfl)
          | (apply G.notF; exact rfl; exact rfl)
          | (refine G.notD rfl rfl ?_)
          | (apply G.notB; exact rfl; exact rfl)
          | (apply G.len; exact rfl; exact rfl; exact T.slc_30)
          | (refine G.indexAddr1 rfl T.slc_30 T.sz_3 rfl rfl _ rfl (by omega) ?_)
          | (refine G.indexAddr1 rfl T.slc_30 T.sz_3 rfl rfl _ (Int.toNat_of_nonneg (by omega)).symm (by omega) ?_))
        · rw [if_neg (fun x => hc (x _ (mem_ia ⟨hi.1, h⟩)))]
          refine Goal.done (vs := [_]) (by first | exact .inl rfl | exact .inr rfl) Try.results72 ⟨rfl, trivial⟩ rfl (fun w' H => ⟨rfl, H.mod⟩)
        · refine Goal.again (i + 1) ⟨by omega, fun j j0 j1 => ?_⟩ (by omega) ⟨rfl, rfl, rfl, rfl, trivial⟩ (fun _ h => h)
          by_cases e : j = i
          · rw [e]; omega
          · exact hall j j0 (by omega)
      · have hall2 : ∀ x ∈ ns, 0 ≤ x ∧ x < tp.n := fun x hx => by
          obtain ⟨j, hj, rfl⟩ := List.getElem_of_mem hx
          have := hall j (by omega) (by omega)
          rwa [← ia_at (i := (j : Int)) (by omega)] at this
        repeat' (first
          | (refine Goal.loud (o := ⟨some 3, _, _, _, _, _⟩) rfl ?_; first | refine Loud.boxA rfl rfl (fun b3 => ?_) | refine Loud.box1 rfl rfl rfl (fun b3 => ?_))
          | (apply G.move; exact rfl; exact rfl)
          | (apply G.assign; exact rfl; exact rfl)
          | refine Goal.seq (fun _ _ => ?_)
          | refine Goal.next (by assumption) ?_
          | refine Goal.lnil ?_
          | refine Goal.region ?_
          | refine Goal.skip ?_
          | refine Goal.block ?_
          | refine Goal.exit ?_
          | refine Goal.ret ?_
          | refine Goal.then_exit ?_
          | refine Goal.then_ret ?_
          | refine Goal.inBlock_exit ?_
          | refine Goal.inBlock_normal ?_
          | refine Goal.inBlock_ret ?_
          | refine Goal.inBlock_other rfl ?_
          | (apply Goal.condT; exact rfl)
          | (apply Goal.condF; exact rfl)
          | (refine Goal.condD rfl (fun hc => ?_) (fun hc => ?_) <;> first | (exfalso; omega) | contradiction | skip)
          | refine Goal.condB rfl (fun hc => ?_) (fun hc => ?_)
          | refine Goal.guardT rfl rfl ?_
          | refine Goal.guardF rfl rfl rfl rfl ?_
          | refine Goal.guardU rfl rfl rfl ?_
          | (refine Goal.guardD rfl rfl (fun hc => ?_) (fun hc => ?_) <;> first | (exfalso; omega) | contradiction | skip)
          | refine Goal.guardB rfl rfl (fun hc => ?_) (fun hc => ?_)
          | (apply G.load; exact rfl; exact rfl; first | exact LoadOK.one T.one_3 0 rfl rfl | exact LoadOK.one T.one_3 1 rfl rfl | exact LoadOK.one T.one_3 2 rfl rfl | exact LoadOK.one T.one_3 3 rfl rfl | exact LoadOK.one T.one_3 4 rfl rfl | exact ag3 T.agg_25 0 rfl rfl rfl rfl | exact ag3 T.agg_25 1 rfl rfl rfl rfl | exact ag3 T.agg_25 2 rfl rfl rfl rfl | exact ag3 T.agg_25 3 rfl rfl rfl rfl | exact ag3 T.agg_25 4 rfl rfl rfl rfl)
          | (apply G.pickT; exact rfl; exact rfl; exact rfl)
          | (apply G.pickF; exact rfl; exact rfl; exact rfl)
          | (apply G.lss; exact rfl; exact rfl; exact rfl)
          | (apply G.add; exact rfl; exact rfl; exact rfl; exact IntWalk.i64_in _ (by omega))
          | (apply G.notT; exact rfl; exact rfl)
          | (apply G.notF; exact rfl; exact rfl)
          | (refine G.notD rfl rfl ?_)
          | (apply G.notB; exact rfl; exact rfl)
          | (apply G.len; exact rfl; exact rfl; exact T.slc_30)
          | (refine G.indexAddr1 rfl T.slc_30 T.sz_3 rfl rfl _ rfl (by omega) ?_)
          | (refine G.indexAddr1 rfl T.slc_30 T.sz_3 rfl rfl _ (Int.toNat_of_nonneg (by omega)).symm (by omega) ?_))
        refine Goal.done (vs := [_]) (by first | exact .inl rfl | exact .inr rfl) Try.results72 ⟨rfl, trivial⟩ rfl (fun w' H => ⟨by rw [if_pos hall2], H.mod⟩)
    · rw [if_neg (fun x => hf x.2)]
      refine Goal.enter (args := [.agg #[.int .i64 tp.n, vo, vl], vd, .slice ad ns.length cp]) Try.func72 rfl Try.ntmps72 rfl (St.nil w) ?_
      repeat' (first
        | (refine Goal.loud (o := ⟨some 10, _, _, _, _, _⟩) rfl ?_; apply Loud.call0; exact rfl; exact rfl; exact rfl; exact rfl; exact T.bod_54; exact (fun w' H => valid_ok (hT.keep H.mod) hl hov); rw [decide_eq_true hok])
        | (refine Goal.loud (o := ⟨some 15, _, _, _, _, _⟩) rfl ?_; apply Loud.call0; exact rfl; exact rfl; exact rfl; exact rfl; exact T.bod_55; exact (fun w' H => fits_ok (hT.keep H.mod) (hd.keep H.mod) hl); rw [decide_eq_false hf])
        | (refine Goal.loud (o := ⟨some 3, _, _, _, _, _⟩) rfl ?_; first | refine Loud.boxA rfl rfl (fun b3 => ?_) | refine Loud.box1 rfl rfl rfl (fun b3 => ?_))
        | (apply G.move; exact rfl; exact rfl)
        | (apply G.assign; exact rfl; exact rfl)
        | refine Goal.seq (fun _ _ => ?_)
        | refine Goal.next (by assumption) ?_
        | refine Goal.lnil ?_
        | refine Goal.region ?_
        | refine Goal.skip ?_
        | refine Goal.block ?_
        | refine Goal.exit ?_
        | refine Goal.ret ?_
        | refine Goal.then_exit ?_
        | refine Goal.then_ret ?_
        | refine Goal.inBlock_exit ?_
        | refine Goal.inBlock_normal ?_
        | refine Goal.inBlock_ret ?_
        | refine Goal.inBlock_other rfl ?_
        | (apply Goal.condT; exact rfl)
        | (apply Goal.condF; exact rfl)
        | (refine Goal.condD rfl (fun hc => ?_) (fun hc => ?_) <;> first | (exfalso; omega) | contradiction | skip)
        | refine Goal.condB rfl (fun hc => ?_) (fun hc => ?_)
        | refine Goal.guardT rfl rfl ?_
        | refine Goal.guardF rfl rfl rfl rfl ?_
        | refine Goal.guardU rfl rfl rfl ?_
        | (refine Goal.guardD rfl rfl (fun hc => ?_) (fun hc => ?_) <;> first | (exfalso; omega) | contradiction | skip)
        | refine Goal.guardB rfl rfl (fun hc => ?_) (fun hc => ?_)
        | (apply G.load; exact rfl; exact rfl; first | exact LoadOK.one T.one_3 0 rfl rfl | exact LoadOK.one T.one_3 1 rfl rfl | exact LoadOK.one T.one_3 2 rfl rfl | exact LoadOK.one T.one_3 3 rfl rfl | exact LoadOK.one T.one_3 4 rfl rfl | exact ag3 T.agg_25 0 rfl rfl rfl rfl | exact ag3 T.agg_25 1 rfl rfl rfl rfl | exact ag3 T.agg_25 2 rfl rfl rfl rfl | exact ag3 T.agg_25 3 rfl rfl rfl rfl | exact ag3 T.agg_25 4 rfl rfl rfl rfl)
        | (apply G.pickT; exact rfl; exact rfl; exact rfl)
        | (apply G.pickF; exact rfl; exact rfl; exact rfl)
        | (apply G.lss; exact rfl; exact rfl; exact rfl)
        | (apply G.add; exact rfl; exact rfl; exact rfl; exact IntWalk.i64_in _ (by omega))
        | (apply G.notT; exact rfl; exact rfl)
        | (apply G.notF; exact rfl; exact rfl)
        | (refine G.notD rfl rfl ?_)
        | (apply G.notB; exact rfl; exact rfl)
        | (apply G.len; exact rfl; exact rfl; exact T.slc_30)
        | (refine G.indexAddr1 rfl T.slc_30 T.sz_3 rfl rfl _ rfl (by omega) ?_)
        | (refine G.indexAddr1 rfl T.slc_30 T.sz_3 rfl rfl _ (Int.toNat_of_nonneg (by omega)).symm (by omega) ?_))
      refine Goal.done (vs := [_]) (by first | exact .inl rfl | exact .inr rfl) Try.results72 ⟨rfl, trivial⟩ rfl (fun w' H => ⟨rfl, H.mod⟩)
  · rw [if_neg (fun x => hok x.1)]
    refine Goal.enter (args := [.agg #[.int .i64 tp.n, vo, vl], vd, .slice ad ns.length cp]) Try.func72 rfl Try.ntmps72 rfl (St.nil w) ?_
    repeat' (first
      | (refine Goal.loud (o := ⟨some 10, _, _, _, _, _⟩) rfl ?_; apply Loud.call0; exact rfl; exact rfl; exact rfl; exact rfl; exact T.bod_54; exact (fun w' H => valid_ok (hT.keep H.mod) hl hov); rw [decide_eq_false hok])
      | (refine Goal.loud (o := ⟨some 3, _, _, _, _, _⟩) rfl ?_; first | refine Loud.boxA rfl rfl (fun b3 => ?_) | refine Loud.box1 rfl rfl rfl (fun b3 => ?_))
      | (apply G.move; exact rfl; exact rfl)
      | (apply G.assign; exact rfl; exact rfl)
      | refine Goal.seq (fun _ _ => ?_)
      | refine Goal.next (by assumption) ?_
      | refine Goal.lnil ?_
      | refine Goal.region ?_
      | refine Goal.skip ?_
      | refine Goal.block ?_
      | refine Goal.exit ?_
      | refine Goal.ret ?_
      | refine Goal.then_exit ?_
      | refine Goal.then_ret ?_
      | refine Goal.inBlock_exit ?_
      | refine Goal.inBlock_normal ?_
      | refine Goal.inBlock_ret ?_
      | refine Goal.inBlock_other rfl ?_
      | (apply Goal.condT; exact rfl)
      | (apply Goal.condF; exact rfl)
      | (refine Goal.condD rfl (fun hc => ?_) (fun hc => ?_) <;> first | (exfalso; omega) | contradiction | skip)
      | refine Goal.condB rfl (fun hc => ?_) (fun hc => ?_)
      | refine Goal.guardT rfl rfl ?_
      | refine Goal.guardF rfl rfl rfl rfl ?_
      | refine Goal.guardU rfl rfl rfl ?_
      | (refine Goal.guardD rfl rfl (fun hc => ?_) (fun hc => ?_) <;> first | (exfalso; omega) | contradiction | skip)
      | refine Goal.guardB rfl rfl (fun hc => ?_) (fun hc => ?_)
      | (apply G.load; exact rfl; exact rfl; first | exact LoadOK.one T.one_3 0 rfl rfl | exact LoadOK.one T.one_3 1 rfl rfl | exact LoadOK.one T.one_3 2 rfl rfl | exact LoadOK.one T.one_3 3 rfl rfl | exact LoadOK.one T.one_3 4 rfl rfl | exact ag3 T.agg_25 0 rfl rfl rfl rfl | exact ag3 T.agg_25 1 rfl rfl rfl rfl | exact ag3 T.agg_25 2 rfl rfl rfl rfl | exact ag3 T.agg_25 3 rfl rfl rfl rfl | exact ag3 T.agg_25 4 rfl rfl rfl rfl)
      | (apply G.pickT; exact rfl; exact rfl; exact rfl)
      | (apply G.pickF; exact rfl; exact rfl; exact rfl)
      | (apply G.lss; exact rfl; exact rfl; exact rfl)
      | (apply G.add; exact rfl; exact rfl; exact rfl; exact IntWalk.i64_in _ (by omega))
      | (apply G.notT; exact rfl; exact rfl)
      | (apply G.notF; exact rfl; exact rfl)
      | (refine G.notD rfl rfl ?_)
      | (apply G.notB; exact rfl; exact rfl)
      | (apply G.len; exact rfl; exact rfl; exact T.slc_30)
      | (refine G.indexAddr1 rfl T.slc_30 T.sz_3 rfl rfl _ rfl (by omega) ?_)
      | (refine G.indexAddr1 rfl T.slc_30 T.sz_3 rfl rfl _ (Int.toNat_of_nonneg (by omega)).symm (by omega) ?_))
    refine Goal.done (vs := [_]) (by first | exact .inl rfl | exact .inr rfl) Try.results72 ⟨rfl, trivial⟩ rfl (fun w' H => ⟨rfl, H.mod⟩)
end
end Go.Proofs.Ytldoplehchngfaa
