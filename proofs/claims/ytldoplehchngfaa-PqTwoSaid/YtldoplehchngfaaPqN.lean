/- Package waypointlaw26: PqTwo. -/
import Derived.Test.YtldoplehchngfaaPqH
namespace Go.Proofs.Ytldoplehchngfaa
open Go.Wf
set_option linter.unusedVariables false
def evc (l : Lk) : Lk := ⟨l.a, l.b, l.c0, l.c0, l.cap, l.dl, l.gp⟩
/-- The topology without overloaded nodes, with the first cost both ways. -/
def ev (T : Top) : Top := ⟨T.n, [], T.ls.map evc⟩
theorem el_evc {l : List Lk} {i : Int} : el (l.map evc) i = evc (el l i) := by
  unfold el
  rw [List.getD_eq_getElem?_getD, List.getD_eq_getElem?_getD, List.getElem?_map]
  cases l[i.toNat]? <;> rfl
theorem ev_ok {T : Top} (h : T.Ok) : (ev T).Ok := by
  refine ⟨h.n, .inl rfl, by unfold ev; simpa using h.ln, fun l hl => ?_⟩
  simp only [ev, List.mem_map] at hl
  obtain ⟨k, hk, rfl⟩ := hl
  obtain ⟨p, q, r, u, v, z⟩ := h.lk k hk
  exact ⟨p, q, r, u, u, z⟩
theorem ev_even (T : Top) : Even (ev T) := ⟨fun x => ba_nil x, fun i => by
  show (el (T.ls.map evc) i).c0 = (el (T.ls.map evc) i).c1
  rw [el_evc]
  rfl⟩
theorem el_ext6 {l m : List Lk} (hl : l.length = m.length) (h : ∀ j : Int, 0 ≤ j → j < l.length → el l j = el m j) : l = m := by
  apply List.ext_getElem hl
  intro i h1 h2
  have := h i (by omega) (by omega)
  rw [el_get (by omega), el_get (by omega)] at this
  simpa using this
structure EI6 where
  (i : Int) (ls : List Lk) (A : List Blk)
/-- The mask of one link. -/
def mk2 (k : Nat) (l : Int) : List Bool := ((List.replicate k false).set (2 * l).toNat true).set (2 * l + 1).toNat true
theorem mk2_len (k : Nat) (l : Int) : (mk2 k l).length = k := by unfold mk2; simp
theorem mk2_at {k : Nat} {l a : Int} (hl : 0 ≤ l ∧ 2 * l + 1 < k) (ha : 0 ≤ a) : ba (mk2 k l) a = true ↔ a / 2 = l := by
  unfold mk2
  rw [ba_set (by simp; omega) ha, ba_set (by simp; omega) ha, ba_rep]
  split
  · simp; omega
  · split
    · simp; omega
    · simp; omega
section
variable {w : World} {tp : Top} {vo vl : Value}
set_option maxHeartbeats 16000000 in
theorem law26_two (link d : Int) (hT : TopR w vo vl tp) (hov : tp.ov.length ≤ 140737488355328) : Calls Try.prog 11 #[.agg #[.int .i64 tp.n, vo, vl], .int .i64 link, .int .i64 d] w fun e w' => e = .returned (.bool true) ∧ Mod [] w w' := by
  obtain ⟨ao, co, rfl⟩ := shapeB hT.ov
  obtain ⟨al, cl, rfl⟩ := shapeL hT.ls
  by_cases hlg : 12 < tp.n ∨ 20 < tp.ls.length
  · skip
    refine Goal.enter (args := [.agg #[.int .i64 tp.n, .slice ao tp.ov.length co, .slice al tp.ls.length cl], .int .i64 link, .int .i64 d]) Try.func11 rfl Try.ntmps11 rfl (St.nil w) ?_
    repeat' (first
      | (refine Goal.loud (o := ⟨some 20, _, _, _, _, _⟩) rfl ?_; apply Loud.call0; exact rfl; exact rfl; exact rfl; exact rfl; exact T.bod_29; exact (fun w' H => awake26_ok w'))
      | (refine Goal.loud (o := ⟨some 59, _, _, _, _, _⟩) rfl ?_; apply Loud.call0; exact rfl; exact rfl; exact rfl; exact rfl; exact T.bod_29; exact (fun w' H => awake26_ok w'))
      | (refine Goal.loud (o := ⟨some 3, _, _, _, _, _⟩) rfl ?_; first | refine Loud.boxA rfl rfl (fun b3 => ?_) | refine Loud.box1 rfl rfl rfl (fun b3 => ?_))
      | (refine Goal.loud (o := ⟨some 61, _, _, _, _, _⟩) rfl ?_; refine Loud.buildSlice (cs := []) rfl T.slc_23 T.inf_50 rfl rfl (by decide) rfl rfl rfl (fun b61 => ?_))
      | (refine Goal.loud (o := ⟨some 87, _, _, _, _, _⟩) rfl ?_; first | refine Loud.makeSlice rfl T.slc_22 T.inf_4 rfl rfl (by decide) rfl rfl rfl rfl (by omega) (by omega) (by omega) (fun b87 => ?_) | refine Loud.makeSlice rfl T.slc_22 T.inf_4 rfl rfl (by decide) rfl rfl (Int.toNat_of_nonneg (by omega)).symm (Int.toNat_of_nonneg (by omega)).symm (by omega) (by omega) (by omega) (fun b87 => ?_))
      | (apply G.move; exact rfl; exact rfl)
      | (apply G.assign; exact rfl; exact rfl)
      | refine Goal.seq (fun _ _ => ?_)
      | refine Goal.next (by assumption) ?_
      | refine Goal.lnil ?_
      | refine Goal.region ?_
      | refine Goal.skip ?_
      | refine Goal.block ?_
      | refine Goal.exit ?_
      | refine Goal.ret ?_
      | refine Goal.then_exit ?_
      | refine Goal.then_ret ?_
      | refine Goal.inBlock_exit ?_
      | refine Goal.inBlock_normal ?_
      | refine Goal.inBlock_ret ?_
      | refine Goal.inBlock_other rfl ?_
      | (apply Goal.condT; exact rfl)
      | (apply Goal.condF; exact rfl)
      | (refine Goal.condD rfl (fun hc => ?_) (fun hc => ?_) <;> first | (exfalso; omega) | contradiction | skip)
      | refine Goal.condB rfl (fun hc => ?_) (fun hc => ?_)
      | refine Goal.guardT rfl rfl ?_
      | refine Goal.guardF rfl rfl rfl rfl ?_
      | refine Goal.guardU rfl rfl rfl ?_
      | (refine Goal.guardD rfl rfl (fun hc => ?_) (fun hc => ?_) <;> first | (exfalso; omega) | contradiction | skip)
      | refine Goal.guardB rfl rfl (fun hc => ?_) (fun hc => ?_)
      | (apply G.fieldAddr; exact rfl; exact rfl; (first | exact T.fld_25_0 | exact T.fld_25_1 | exact T.fld_25_2 | exact T.fld_50_0 | exact T.fld_50_2))
      | (apply G.load; exact rfl; exact rfl; first | exact LoadOK.one (by first | exact T.one_3 | exact T.one_23) 0 rfl rfl | exact LoadOK.one (by first | exact T.one_3 | exact T.one_23) 1 rfl rfl | exact LoadOK.one (by first | exact T.one_3 | exact T.one_23) 2 rfl rfl | exact LoadOK.one (by first | exact T.one_3 | exact T.one_23) 3 rfl rfl | exact LoadOK.one (by first | exact T.one_3 | exact T.one_23) 4 rfl rfl | exact ag3 T.agg_25 0 rfl rfl rfl rfl | exact ag3 T.agg_25 1 rfl rfl rfl rfl | exact ag3 T.agg_25 2 rfl rfl rfl rfl | exact ag3 T.agg_25 3 rfl rfl rfl rfl | exact ag3 T.agg_25 4 rfl rfl rfl rfl)
      | (apply G.pickT; exact rfl; exact rfl; exact rfl)
      | (apply G.pickF; exact rfl; exact rfl; exact rfl)
      | (apply G.lss; exact rfl; exact rfl; exact rfl)
      | (apply G.gtr; exact rfl; exact rfl; exact rfl)
      | (apply G.geq; exact rfl; exact rfl; exact rfl)
      | (apply G.neq; exact rfl; exact rfl; exact rfl)
      | (apply G.add; exact rfl; exact rfl; exact rfl; exact IntWalk.i64_in _ (by omega))
      | (apply G.mul; exact rfl; exact rfl; exact rfl; exact IntWalk.i64_in _ (by omega))
      | (apply G.notT; exact rfl; exact rfl)
      | (apply G.notF; exact rfl; exact rfl)
      | (refine G.notD rfl rfl ?_)
      | (apply G.notB; exact rfl; exact rfl)
      | (apply G.extract; exact rfl; exact rfl; exact rfl)
      | (apply G.len; exact rfl; exact rfl; exact T.slc_23)
      | (refine G.indexAddr1 rfl (by first | exact T.slc_22 | exact T.slc_23 | exact T.slc_30) (by first | exact T.sz_3 | exact T.sz_4) rfl rfl _ rfl (by omega) ?_)
      | (refine G.indexAddr1 rfl (by first | exact T.slc_22 | exact T.slc_23 | exact T.slc_30) (by first | exact T.sz_3 | exact T.sz_4) rfl rfl _ (Int.toNat_of_nonneg (by omega)).symm (by omega) ?_)
      | (refine G.indexAddr rfl (by first | exact T.slc_22 | exact T.slc_23 | exact T.slc_30) T.sz_50 rfl rfl _ rfl (by omega) ?_)
      | (refine G.indexAddr rfl (by first | exact T.slc_22 | exact T.slc_23 | exact T.slc_30) T.sz_50 rfl rfl _ (Int.toNat_of_nonneg (by omega)).symm (by omega) ?_)
      | (refine G.indexAddrA rfl T.arr_48 (by first | exact T.sz_3 | exact T.sz_4 | exact T.sz_50) rfl rfl _ rfl (by omega) ?_)
      | (refine G.indexAddrA rfl T.arr_48 (by first | exact T.sz_3 | exact T.sz_4 | exact T.sz_50) rfl rfl _ (Int.toNat_of_nonneg (by omega)).symm (by omega) ?_)
      | (refine Goal.loud rfl ?_; refine Loud.store0 rfl rfl (by first | exact T.sz_3 | exact T.sz_4 | exact T.sz_22 | exact T.sz_23) rfl rfl rfl (by first | exact Nat.le_of_ble_eq_true rfl | exact Nat.le_refl _ | decide | (simp; omega)) rfl ?_)
      | (refine Goal.loud rfl ?_; refine Loud.store1 rfl rfl (by first | exact T.sz_3 | exact T.sz_4 | exact T.sz_22 | exact T.sz_23) rfl rfl rfl (by first | exact Nat.le_of_ble_eq_true rfl | exact Nat.le_refl _ | decide | (simp; omega)) rfl ?_)
      | (refine Goal.loud rfl ?_; refine Loud.store2 rfl rfl (by first | exact T.sz_3 | exact T.sz_4 | exact T.sz_22 | exact T.sz_23) rfl rfl rfl (by first | exact Nat.le_of_ble_eq_true rfl | exact Nat.le_refl _ | decide | (simp; omega)) rfl ?_)
      | (refine Goal.loud rfl ?_; refine Loud.store3 rfl rfl (by first | exact T.sz_3 | exact T.sz_4 | exact T.sz_22 | exact T.sz_23) rfl rfl rfl (by first | exact Nat.le_of_ble_eq_true rfl | exact Nat.le_refl _ | decide | (simp; omega)) rfl ?_)
      | (refine Goal.loud rfl ?_; refine Loud.store4 rfl rfl (by first | exact T.sz_3 | exact T.sz_4 | exact T.sz_22 | exact T.sz_23) rfl rfl rfl (by first | exact Nat.le_of_ble_eq_true rfl | exact Nat.le_refl _ | decide | (simp; omega)) rfl ?_))
    all_goals
      refine Goal.done (vs := [_]) (by first | exact .inl rfl | exact .inr rfl) Try.results11 ⟨rfl, trivial⟩ rfl (fun w' H => ⟨rfl, H.mod⟩)
  by_cases ht0 : tp.Ok
  rotate_left
  · skip
    refine Goal.enter (args := [.agg #[.int .i64 tp.n, .slice ao tp.ov.length co, .slice al tp.ls.length cl], .int .i64 link, .int .i64 d]) Try.func11 rfl Try.ntmps11 rfl (St.nil w) ?_
    repeat' (first
      | (refine Goal.loud (o := ⟨some 20, _, _, _, _, _⟩) rfl ?_; apply Loud.call0; exact rfl; exact rfl; exact rfl; exact rfl; exact T.bod_29; exact (fun w' H => awake26_ok w'))
      | (refine Goal.loud (o := ⟨some 35, _, _, _, _, _⟩) rfl ?_; apply Loud.call0; exact rfl; exact rfl; exact rfl; exact rfl; exact T.bod_40; exact (fun w' H => rvalid_ok (hT.keep H.mod) (by omega) hov); rw [decide_eq_false ht0])
      | (refine Goal.loud (o := ⟨some 59, _, _, _, _, _⟩) rfl ?_; apply Loud.call0; exact rfl; exact rfl; exact rfl; exact rfl; exact T.bod_29; exact (fun w' H => awake26_ok w'))
      | (refine Goal.loud (o := ⟨some 3, _, _, _, _, _⟩) rfl ?_; first | refine Loud.boxA rfl rfl (fun b3 => ?_) | refine Loud.box1 rfl rfl rfl (fun b3 => ?_))
      | (refine Goal.loud (o := ⟨some 61, _, _, _, _, _⟩) rfl ?_; refine Loud.buildSlice (cs := []) rfl T.slc_23 T.inf_50 rfl rfl (by decide) rfl rfl rfl (fun b61 => ?_))
      | (refine Goal.loud (o := ⟨some 87, _, _, _, _, _⟩) rfl ?_; first | refine Loud.makeSlice rfl T.slc_22 T.inf_4 rfl rfl (by decide) rfl rfl rfl rfl (by omega) (by omega) (by omega) (fun b87 => ?_) | refine Loud.makeSlice rfl T.slc_22 T.inf_4 rfl rfl (by decide) rfl rfl (Int.toNat_of_nonneg (by omega)).symm (Int.toNat_of_nonneg (by omega)).symm (by omega) (by omega) (by omega) (fun b87 => ?_))
      | (apply G.move; exact rfl; exact rfl)
      | (apply G.assign; exact rfl; exact rfl)
      | refine Goal.seq (fun _ _ => ?_)
      | refine Goal.next (by assumption) ?_
      | refine Goal.lnil ?_
      | refine Goal.region ?_
      | refine Goal.skip ?_
      | refine Goal.block ?_
      | refine Goal.exit ?_
      | refine Goal.ret ?_
      | refine Goal.then_exit ?_
      | refine Goal.then_ret ?_
      | refine Goal.inBlock_exit ?_
      | refine Goal.inBlock_normal ?_
      | refine Goal.inBlock_ret ?_
      | refine Goal.inBlock_other rfl ?_
      | (apply Goal.condT; exact rfl)
      | (apply Goal.condF; exact rfl)
      | (refine Goal.condD rfl (fun hc => ?_) (fun hc => ?_) <;> first | (exfalso; omega) | contradiction | skip)
      | refine Goal.condB rfl (fun hc => ?_) (fun hc => ?_)
      | refine Goal.guardT rfl rfl ?_
      | refine Goal.guardF rfl rfl rfl rfl ?_
      | refine Goal.guardU rfl rfl rfl ?_
      | (refine Goal.guardD rfl rfl (fun hc => ?_) (fun hc => ?_) <;> first | (exfalso; omega) | contradiction | skip)
      | refine Goal.guardB rfl rfl (fun hc => ?_) (fun hc => ?_)
      | (apply G.fieldAddr; exact rfl; exact rfl; (first | exact T.fld_25_0 | exact T.fld_25_1 | exact T.fld_25_2 | exact T.fld_50_0 | exact T.fld_50_2))
      | (apply G.load; exact rfl; exact rfl; first | exact LoadOK.one (by first | exact T.one_3 | exact T.one_23) 0 rfl rfl | exact LoadOK.one (by first | exact T.one_3 | exact T.one_23) 1 rfl rfl | exact LoadOK.one (by first | exact T.one_3 | exact T.one_23) 2 rfl rfl | exact LoadOK.one (by first | exact T.one_3 | exact T.one_23) 3 rfl rfl | exact LoadOK.one (by first | exact T.one_3 | exact T.one_23) 4 rfl rfl | exact ag3 T.agg_25 0 rfl rfl rfl rfl | exact ag3 T.agg_25 1 rfl rfl rfl rfl | exact ag3 T.agg_25 2 rfl rfl rfl rfl | exact ag3 T.agg_25 3 rfl rfl rfl rfl | exact ag3 T.agg_25 4 rfl rfl rfl rfl)
      | (apply G.pickT; exact rfl; exact rfl; exact rfl)
      | (apply G.pickF; exact rfl; exact rfl; exact rfl)
      | (apply G.lss; exact rfl; exact rfl; exact rfl)
      | (apply G.gtr; exact rfl; exact rfl; exact rfl)
      | (apply G.geq; exact rfl; exact rfl; exact rfl)
      | (apply G.neq; exact rfl; exact rfl; exact rfl)
      | (apply G.add; exact rfl; exact rfl; exact rfl; exact IntWalk.i64_in _ (by omega))
      | (apply G.mul; exact rfl; exact rfl; exact rfl; exact IntWalk.i64_in _ (by omega))
      | (apply G.notT; exact rfl; exact rfl)
      | (apply G.notF; exact rfl; exact rfl)
      | (refine G.notD rfl rfl ?_)
      | (apply G.notB; exact rfl; exact rfl)
      | (apply G.extract; exact rfl; exact rfl; exact rfl)
      | (apply G.len; exact rfl; exact rfl; exact T.slc_23)
      | (refine G.indexAddr1 rfl (by first | exact T.slc_22 | exact T.slc_23 | exact T.slc_30) (by first | exact T.sz_3 | exact T.sz_4) rfl rfl _ rfl (by omega) ?_)
      | (refine G.indexAddr1 rfl (by first | exact T.slc_22 | exact T.slc_23 | exact T.slc_30) (by first | exact T.sz_3 | exact T.sz_4) rfl rfl _ (Int.toNat_of_nonneg (by omega)).symm (by omega) ?_)
      | (refine G.indexAddr rfl (by first | exact T.slc_22 | exact T.slc_23 | exact T.slc_30) T.sz_50 rfl rfl _ rfl (by omega) ?_)
      | (refine G.indexAddr rfl (by first | exact T.slc_22 | exact T.slc_23 | exact T.slc_30) T.sz_50 rfl rfl _ (Int.toNat_of_nonneg (by omega)).symm (by omega) ?_)
      | (refine G.indexAddrA rfl T.arr_48 (by first | exact T.sz_3 | exact T.sz_4 | exact T.sz_50) rfl rfl _ rfl (by omega) ?_)
      | (refine G.indexAddrA rfl T.arr_48 (by first | exact T.sz_3 | exact T.sz_4 | exact T.sz_50) rfl rfl _ (Int.toNat_of_nonneg (by omega)).symm (by omega) ?_)
      | (refine Goal.loud rfl ?_; refine Loud.store0 rfl rfl (by first | exact T.sz_3 | exact T.sz_4 | exact T.sz_22 | exact T.sz_23) rfl rfl rfl (by first | exact Nat.le_of_ble_eq_true rfl | exact Nat.le_refl _ | decide | (simp; omega)) rfl ?_)
      | (refine Goal.loud rfl ?_; refine Loud.store1 rfl rfl (by first | exact T.sz_3 | exact T.sz_4 | exact T.sz_22 | exact T.sz_23) rfl rfl rfl (by first | exact Nat.le_of_ble_eq_true rfl | exact Nat.le_refl _ | decide | (simp; omega)) rfl ?_)
      | (refine Goal.loud rfl ?_; refine Loud.store2 rfl rfl (by first | exact T.sz_3 | exact T.sz_4 | exact T.sz_22 | exact T.sz_23) rfl rfl rfl (by first | exact Nat.le_of_ble_eq_true rfl | exact Nat.le_refl _ | decide | (simp; omega)) rfl ?_)
      | (refine Goal.loud rfl ?_; refine Loud.store3 rfl rfl (by first | exact T.sz_3 | exact T.sz_4 | exact T.sz_22 | exact T.sz_23) rfl rfl rfl (by first | exact Nat.le_of_ble_eq_true rfl | exact Nat.le_refl _ | decide | (simp; omega)) rfl ?_)
      | (refine Goal.loud rfl ?_; refine Loud.store4 rfl rfl (by first | exact T.sz_3 | exact T.sz_4 | exact T.sz_22 | exact T.sz_23) rfl rfl rfl (by first | exact Nat.le_of_ble_eq_true rfl | exact Nat.le_refl _ | decide | (simp; omega)) rfl ?_))
    all_goals
      refine Goal.done (vs := [_]) (by first | exact .inl rfl | exact .inr rfl) Try.results11 ⟨rfl, trivial⟩ rfl (fun w' H => ⟨rfl, H.mod⟩)
  by_cases hrg : (0 ≤ link ∧ link < tp.ls.length) ∧ (0 ≤ d ∧ d < tp.n)
  rotate_left
  · skip
    refine Goal.enter (args := [.agg #[.int .i64 tp.n, .slice ao tp.ov.length co, .slice al tp.ls.length cl], .int .i64 link, .int .i64 d]) Try.func11 rfl Try.ntmps11 rfl (St.nil w) ?_
    repeat' (first
      | (refine Goal.loud (o := ⟨some 20, _, _, _, _, _⟩) rfl ?_; apply Loud.call0; exact rfl; exact rfl; exact rfl; exact rfl; exact T.bod_29; exact (fun w' H => awake26_ok w'))
      | (refine Goal.loud (o := ⟨some 35, _, _, _, _, _⟩) rfl ?_; apply Loud.call0; exact rfl; exact rfl; exact rfl; exact rfl; exact T.bod_40; exact (fun w' H => rvalid_ok (hT.keep H.mod) (by omega) hov); rw [decide_eq_true ht0])
      | (refine Goal.loud (o := ⟨some 59, _, _, _, _, _⟩) rfl ?_; apply Loud.call0; exact rfl; exact rfl; exact rfl; exact rfl; exact T.bod_29; exact (fun w' H => awake26_ok w'))
      | (refine Goal.loud (o := ⟨some 3, _, _, _, _, _⟩) rfl ?_; first | refine Loud.boxA rfl rfl (fun b3 => ?_) | refine Loud.box1 rfl rfl rfl (fun b3 => ?_))
      | (refine Goal.loud (o := ⟨some 61, _, _, _, _, _⟩) rfl ?_; refine Loud.buildSlice (cs := []) rfl T.slc_23 T.inf_50 rfl rfl (by decide) rfl rfl rfl (fun b61 => ?_))
      | (refine Goal.loud (o := ⟨some 87, _, _, _, _, _⟩) rfl ?_; first | refine Loud.makeSlice rfl T.slc_22 T.inf_4 rfl rfl (by decide) rfl rfl rfl rfl (by omega) (by omega) (by omega) (fun b87 => ?_) | refine Loud.makeSlice rfl T.slc_22 T.inf_4 rfl rfl (by decide) rfl rfl (Int.toNat_of_nonneg (by omega)).symm (Int.toNat_of_nonneg (by omega)).symm (by omega) (by omega) (by omega) (fun b87 => ?_))
      | (apply G.move; exact rfl; exact rfl)
      | (apply G.assign; exact rfl; exact rfl)
      | refine Goal.seq (fun _ _ => ?_)
      | refine Goal.next (by assumption) ?_
      | refine Goal.lnil ?_
      | refine Goal.region ?_
      | refine Goal.skip ?_
      | refine Goal.block ?_
      | refine Goal.exit ?_
      | refine Goal.ret ?_
      | refine Goal.then_exit ?_
      | refine Goal.then_ret ?_
      | refine Goal.inBlock_exit ?_
      | refine Goal.inBlock_normal ?_
      | refine Goal.inBlock_ret ?_
      | refine Goal.inBlock_other rfl ?_
      | (apply Goal.condT; exact rfl)
      | (apply Goal.condF; exact rfl)
      | (refine Goal.condD rfl (fun hc => ?_) (fun hc => ?_) <;> first | (exfalso; omega) | contradiction | skip)
      | refine Goal.condB rfl (fun hc => ?_) (fun hc => ?_)
      | refine Goal.guardT rfl rfl ?_
      | refine Goal.guardF rfl rfl rfl rfl ?_
      | refine Goal.guardU rfl rfl rfl ?_
      | (refine Goal.guardD rfl rfl (fun hc => ?_) (fun hc => ?_) <;> first | (exfalso; omega) | contradiction | skip)
      | refine Goal.guardB rfl rfl (fun hc => ?_) (fun hc => ?_)
      | (apply G.fieldAddr; exact rfl; exact rfl; (first | exact T.fld_25_0 | exact T.fld_25_1 | exact T.fld_25_2 | exact T.fld_50_0 | exact T.fld_50_2))
      | (apply G.load; exact rfl; exact rfl; first | exact LoadOK.one (by first | exact T.one_3 | exact T.one_23) 0 rfl rfl | exact LoadOK.one (by first | exact T.one_3 | exact T.one_23) 1 rfl rfl | exact LoadOK.one (by first | exact T.one_3 | exact T.one_23) 2 rfl rfl | exact LoadOK.one (by first | exact T.one_3 | exact T.one_23) 3 rfl rfl | exact LoadOK.one (by first | exact T.one_3 | exact T.one_23) 4 rfl rfl | exact ag3 T.agg_25 0 rfl rfl rfl rfl | exact ag3 T.agg_25 1 rfl rfl rfl rfl | exact ag3 T.agg_25 2 rfl rfl rfl rfl | exact ag3 T.agg_25 3 rfl rfl rfl rfl | exact ag3 T.agg_25 4 rfl rfl rfl rfl)
      | (apply G.pickT; exact rfl; exact rfl; exact rfl)
      | (apply G.pickF; exact rfl; exact rfl; exact rfl)
      | (apply G.lss; exact rfl; exact rfl; exact rfl)
      | (apply G.gtr; exact rfl; exact rfl; exact rfl)
      | (apply G.geq; exact rfl; exact rfl; exact rfl)
      | (apply G.neq; exact rfl; exact rfl; exact rfl)
      | (apply G.add; exact rfl; exact rfl; exact rfl; exact IntWalk.i64_in _ (by omega))
      | (apply G.mul; exact rfl; exact rfl; exact rfl; exact IntWalk.i64_in _ (by omega))
      | (apply G.notT; exact rfl; exact rfl)
      | (apply G.notF; exact rfl; exact rfl)
      | (refine G.notD rfl rfl ?_)
      | (apply G.notB; exact rfl; exact rfl)
      | (apply G.extract; exact rfl; exact rfl; exact rfl)
      | (apply G.len; exact rfl; exact rfl; exact T.slc_23)
      | (refine G.indexAddr1 rfl (by first | exact T.slc_22 | exact T.slc_23 | exact T.slc_30) (by first | exact T.sz_3 | exact T.sz_4) rfl rfl _ rfl (by omega) ?_)
      | (refine G.indexAddr1 rfl (by first | exact T.slc_22 | exact T.slc_23 | exact T.slc_30) (by first | exact T.sz_3 | exact T.sz_4) rfl rfl _ (Int.toNat_of_nonneg (by omega)).symm (by omega) ?_)
      | (refine G.indexAddr rfl (by first | exact T.slc_22 | exact T.slc_23 | exact T.slc_30) T.sz_50 rfl rfl _ rfl (by omega) ?_)
      | (refine G.indexAddr rfl (by first | exact T.slc_22 | exact T.slc_23 | exact T.slc_30) T.sz_50 rfl rfl _ (Int.toNat_of_nonneg (by omega)).symm (by omega) ?_)
      | (refine G.indexAddrA rfl T.arr_48 (by first | exact T.sz_3 | exact T.sz_4 | exact T.sz_50) rfl rfl _ rfl (by omega) ?_)
      | (refine G.indexAddrA rfl T.arr_48 (by first | exact T.sz_3 | exact T.sz_4 | exact T.sz_50) rfl rfl _ (Int.toNat_of_nonneg (by omega)).symm (by omega) ?_)
      | (refine Goal.loud rfl ?_; refine Loud.store0 rfl rfl (by first | exact T.sz_3 | exact T.sz_4 | exact T.sz_22 | exact T.sz_23) rfl rfl rfl (by first | exact Nat.le_of_ble_eq_true rfl | exact Nat.le_refl _ | decide | (simp; omega)) rfl ?_)
      | (refine Goal.loud rfl ?_; refine Loud.store1 rfl rfl (by first | exact T.sz_3 | exact T.sz_4 | exact T.sz_22 | exact T.sz_23) rfl rfl rfl (by first | exact Nat.le_of_ble_eq_true rfl | exact Nat.le_refl _ | decide | (simp; omega)) rfl ?_)
      | (refine Goal.loud rfl ?_; refine Loud.store2 rfl rfl (by first | exact T.sz_3 | exact T.sz_4 | exact T.sz_22 | exact T.sz_23) rfl rfl rfl (by first | exact Nat.le_of_ble_eq_true rfl | exact Nat.le_refl _ | decide | (simp; omega)) rfl ?_)
      | (refine Goal.loud rfl ?_; refine Loud.store3 rfl rfl (by first | exact T.sz_3 | exact T.sz_4 | exact T.sz_22 | exact T.sz_23) rfl rfl rfl (by first | exact Nat.le_of_ble_eq_true rfl | exact Nat.le_refl _ | decide | (simp; omega)) rfl ?_)
      | (refine Goal.loud rfl ?_; refine Loud.store4 rfl rfl (by first | exact T.sz_3 | exact T.sz_4 | exact T.sz_22 | exact T.sz_23) rfl rfl rfl (by first | exact Nat.le_of_ble_eq_true rfl | exact Nat.le_refl _ | decide | (simp; omega)) rfl ?_))
    all_goals
      refine Goal.done (vs := [_]) (by first | exact .inl rfl | exact .inr rfl) Try.results11 ⟨rfl, trivial⟩ rfl (fun w' H => ⟨rfl, H.mod⟩)
  obtain ⟨hlk, hd⟩ := hrg
  have hn := ht0.n
  have hfl := lkc_len
  refine Goal.enter (args := [.agg #[.int .i64 tp.n, .slice ao tp.ov.length co, .slice al tp.ls.length cl], .int .i64 link, .int .i64 d]) Try.func11 rfl Try.ntmps11 rfl (St.nil w) ?_
  repeat' (first
    | (refine Goal.loud (o := ⟨some 20, _, _, _, _, _⟩) rfl ?_; apply Loud.call0; exact rfl; exact rfl; exact rfl; exact rfl; exact T.bod_29; exact (fun w' H => awake26_ok w'))
    | (refine Goal.loud (o := ⟨some 35, _, _, _, _, _⟩) rfl ?_; apply Loud.call0; exact rfl; exact rfl; exact rfl; exact rfl; exact T.bod_40; exact (fun w' H => rvalid_ok (hT.keep H.mod) (by omega) hov); rw [decide_eq_true ht0])
    | (refine Goal.loud (o := ⟨some 64, _, _, _, _, _⟩) rfl ?_; refine Loud.appendRdE (l := tp.ls) (f := lkc) rfl T.slc_23 T.inf_50 rfl (by decide) lkc_len lkc_one rfl (Sl.full (n := 0) (vs := []) rfl) rfl (by omega) (by omega) (fun w' H => (hT.keep H.mod).ls) (fun _ h => h) ?_; intro v2 A2 hA2; rw [Nat.zero_add, List.nil_append] at hA2; obtain ⟨ad2, cp2, rfl⟩ := hA2.shape; refine Goal.reL (L' := _ :: A2) (fun _ h => h.perm (List.perm_append_comm (l₁ := A2) (l₂ := [_]))) ?_)
    | (refine Goal.loud (o := ⟨some 3, _, _, _, _, _⟩) rfl ?_; first | refine Loud.boxA rfl rfl (fun b3 => ?_) | refine Loud.box1 rfl rfl rfl (fun b3 => ?_))
    | (refine Goal.loud (o := ⟨some 61, _, _, _, _, _⟩) rfl ?_; refine Loud.buildSlice (cs := []) rfl T.slc_23 T.inf_50 rfl rfl (by decide) rfl rfl rfl (fun b61 => ?_))
    | (refine Goal.loud (o := ⟨some 87, _, _, _, _, _⟩) rfl ?_; first | refine Loud.makeSlice rfl T.slc_22 T.inf_4 rfl rfl (by decide) rfl rfl rfl rfl (by omega) (by omega) (by omega) (fun b87 => ?_) | refine Loud.makeSlice rfl T.slc_22 T.inf_4 rfl rfl (by decide) rfl rfl (Int.toNat_of_nonneg (by omega)).symm (Int.toNat_of_nonneg (by omega)).symm (by omega) (by omega) (by omega) (fun b87 => ?_))
    | (apply G.move; exact rfl; exact rfl)
    | (apply G.assign; exact rfl; exact rfl)
    | refine Goal.seq (fun _ _ => ?_)
    | refine Goal.next (by assumption) ?_
    | refine Goal.lnil ?_
    | refine Goal.region ?_
    | refine Goal.skip ?_
    | refine Goal.block ?_
    | refine Goal.exit ?_
    | refine Goal.ret ?_
    | refine Goal.then_exit ?_
    | refine Goal.then_ret ?_
    | refine Goal.inBlock_exit ?_
    | refine Goal.inBlock_normal ?_
    | refine Goal.inBlock_ret ?_
    | refine Goal.inBlock_other rfl ?_
    | (apply Goal.condT; exact rfl)
    | (apply Goal.condF; exact rfl)
    | (refine Goal.condD rfl (fun hc => ?_) (fun hc => ?_) <;> first | (exfalso; omega) | contradiction | skip)
    | refine Goal.condB rfl (fun hc => ?_) (fun hc => ?_)
    | refine Goal.guardT rfl rfl ?_
    | refine Goal.guardF rfl rfl rfl rfl ?_
    | refine Goal.guardU rfl rfl rfl ?_
    | (refine Goal.guardD rfl rfl (fun hc => ?_) (fun hc => ?_) <;> first | (exfalso; omega) | contradiction | skip)
    | refine Goal.guardB rfl rfl (fun hc => ?_) (fun hc => ?_)
    | (apply G.fieldAddr; exact rfl; exact rfl; (first | exact T.fld_25_0 | exact T.fld_25_1 | exact T.fld_25_2 | exact T.fld_50_0 | exact T.fld_50_2))
    | (apply G.load; exact rfl; exact rfl; first | exact LoadOK.one (by first | exact T.one_3 | exact T.one_23) 0 rfl rfl | exact LoadOK.one (by first | exact T.one_3 | exact T.one_23) 1 rfl rfl | exact LoadOK.one (by first | exact T.one_3 | exact T.one_23) 2 rfl rfl | exact LoadOK.one (by first | exact T.one_3 | exact T.one_23) 3 rfl rfl | exact LoadOK.one (by first | exact T.one_3 | exact T.one_23) 4 rfl rfl | exact ag3 T.agg_25 0 rfl rfl rfl rfl | exact ag3 T.agg_25 1 rfl rfl rfl rfl | exact ag3 T.agg_25 2 rfl rfl rfl rfl | exact ag3 T.agg_25 3 rfl rfl rfl rfl | exact ag3 T.agg_25 4 rfl rfl rfl rfl)
    | (apply G.pickT; exact rfl; exact rfl; exact rfl)
    | (apply G.pickF; exact rfl; exact rfl; exact rfl)
    | (apply G.lss; exact rfl; exact rfl; exact rfl)
    | (apply G.gtr; exact rfl; exact rfl; exact rfl)
    | (apply G.geq; exact rfl; exact rfl; exact rfl)
    | (apply G.neq; exact rfl; exact rfl; exact rfl)
    | (apply G.add; exact rfl; exact rfl; exact rfl; exact IntWalk.i64_in _ (by omega))
    | (apply G.mul; exact rfl; exact rfl; exact rfl; exact IntWalk.i64_in _ (by omega))
    | (apply G.notT; exact rfl; exact rfl)
    | (apply G.notF; exact rfl; exact rfl)
    | (refine G.notD rfl rfl ?_)
    | (apply G.notB; exact rfl; exact rfl)
    | (apply G.extract; exact rfl; exact rfl; exact rfl)
    | (apply G.len; exact rfl; exact rfl; exact T.slc_23)
    | (refine G.indexAddr1 rfl (by first | exact T.slc_22 | exact T.slc_23 | exact T.slc_30) (by first | exact T.sz_3 | exact T.sz_4) rfl rfl _ rfl (by omega) ?_)
    | (refine G.indexAddr1 rfl (by first | exact T.slc_22 | exact T.slc_23 | exact T.slc_30) (by first | exact T.sz_3 | exact T.sz_4) rfl rfl _ (Int.toNat_of_nonneg (by omega)).symm (by omega) ?_)
    | (refine G.indexAddr rfl (by first | exact T.slc_22 | exact T.slc_23 | exact T.slc_30) T.sz_50 rfl rfl _ rfl (by omega) ?_)
    | (refine G.indexAddr rfl (by first | exact T.slc_22 | exact T.slc_23 | exact T.slc_30) T.sz_50 rfl rfl _ (Int.toNat_of_nonneg (by omega)).symm (by omega) ?_)
    | (refine G.indexAddrA rfl T.arr_48 (by first | exact T.sz_3 | exact T.sz_4 | exact T.sz_50) rfl rfl _ rfl (by omega) ?_)
    | (refine G.indexAddrA rfl T.arr_48 (by first | exact T.sz_3 | exact T.sz_4 | exact T.sz_50) rfl rfl _ (Int.toNat_of_nonneg (by omega)).symm (by omega) ?_)
    | (refine Goal.loud rfl ?_; refine Loud.store0 rfl rfl (by first | exact T.sz_3 | exact T.sz_4 | exact T.sz_22 | exact T.sz_23) rfl rfl rfl (by first | exact Nat.le_of_ble_eq_true rfl | exact Nat.le_refl _ | decide | (simp; omega)) rfl ?_)
    | (refine Goal.loud rfl ?_; refine Loud.store1 rfl rfl (by first | exact T.sz_3 | exact T.sz_4 | exact T.sz_22 | exact T.sz_23) rfl rfl rfl (by first | exact Nat.le_of_ble_eq_true rfl | exact Nat.le_refl _ | decide | (simp; omega)) rfl ?_)
    | (refine Goal.loud rfl ?_; refine Loud.store2 rfl rfl (by first | exact T.sz_3 | exact T.sz_4 | exact T.sz_22 | exact T.sz_23) rfl rfl rfl (by first | exact Nat.le_of_ble_eq_true rfl | exact Nat.le_refl _ | decide | (simp; omega)) rfl ?_)
    | (refine Goal.loud rfl ?_; refine Loud.store3 rfl rfl (by first | exact T.sz_3 | exact T.sz_4 | exact T.sz_22 | exact T.sz_23) rfl rfl rfl (by first | exact Nat.le_of_ble_eq_true rfl | exact Nat.le_refl _ | decide | (simp; omega)) rfl ?_)
    | (refine Goal.loud rfl ?_; refine Loud.store4 rfl rfl (by first | exact T.sz_3 | exact T.sz_4 | exact T.sz_22 | exact T.sz_23) rfl rfl rfl (by first | exact Nat.le_of_ble_eq_true rfl | exact Nat.le_refl _ | decide | (simp; omega)) rfl ?_))
  refine Goal.loopP (X := EI6) (fun x => [(1, .int .i64 link), (2, .int .i64 d), (3, .pointer (some ⟨b3, 0, none⟩)), (7, .slice ad2 tp.ls.length cp2), (65, .slice ad2 tp.ls.length cp2), (66, .int .i64 tp.ls.length), (67, .int .i64 x.i)])
    (fun x => (b3, .cells #[.int .i64 tp.n, .slice none 0 0, .slice al tp.ls.length cl] 25) :: x.A)
    (fun x => (0 ≤ x.i ∧ x.i ≤ tp.ls.length) ∧ (x.ls.length = tp.ls.length ∧ ∀ j : Int, 0 ≤ j → j < tp.ls.length → el x.ls j = if j < x.i then evc (el tp.ls j) else el tp.ls j) ∧ Sl (.slice ad2 tp.ls.length cp2) 50 7 tp.ls.length (Els lkc x.ls) x.A) (fun x => (tp.ls.length - x.i).toNat) ⟨0, tp.ls, A2⟩ ⟨rfl, rfl, rfl, rfl, rfl, rfl, rfl, trivial⟩ (fun _ h => h)
    ⟨by dsimp only; omega, ⟨rfl, fun j j0 j1 => by dsimp only; rw [if_neg (by omega)]⟩, hA2⟩ ?_
  rintro ⟨i, ls, A⟩ ⟨hi, ⟨hll, hls⟩, hS⟩
  dsimp only at hi hll hls hS ⊢
  obtain ⟨bb, rest, capb, e, rfl, _, hcap1, hcap2⟩ := hS.pos (by omega)
  injection e with e1 e2 e3
  subst e1 e3
  by_cases h : i < tp.ls.length
  · have hcur : el ls i = el tp.ls i := by rw [hls i hi.1 h, if_neg (by omega)]
    have hset : ∀ j : Int, 0 ≤ j → j < tp.ls.length → el (ls.set i.toNat (evc (el tp.ls i))) j = if j < i + 1 then evc (el tp.ls j) else el tp.ls j := fun j j0 j1 => by
      rw [el_set (by omega) (by omega)]
      by_cases e : i = j
      · subst e; rw [if_pos rfl, if_pos (by omega)]
      · rw [if_neg e, hls j j0 j1]
        by_cases hj : j < i
        · rw [if_pos hj, if_pos (by omega)]
        · rw [if_neg hj, if_neg (by omega)]
    rw [← hcur] at hset
    have hlen2 : (ls.set i.toNat (evc (el ls i))).length = tp.ls.length := by rw [List.length_set]; exact hll
    have hf := lkc_len
    repeat' (first
      | (refine Goal.drawAll (id := 8) 11 T.mixed ?_; all_goals ((refine Goal.takeP (listed' := #[Ya,No,No,No,No,No,No,No,No,No,No,No]) 0 ⟨rfl, by kernel_rfl, by kernel_rfl, by kernel_rfl, by kernel_rfl⟩ rfl (fun _ _ _ _ h => h) (by intro _; exact Run.move rfl) ?_)); all_goals ((refine Goal.takeP (listed' := #[Ya,Ya,No,No,No,No,No,No,No,No,No,No]) 1 ⟨rfl, by kernel_rfl, by kernel_rfl, by kernel_rfl, by kernel_rfl⟩ rfl (fun _ _ _ _ h => h) (by intro _; exact Run.move rfl) ?_)); all_goals ((refine Goal.takeP (listed' := #[Ya,Ya,Ya,No,No,No,No,No,No,No,No,No]) 2 ⟨rfl, by kernel_rfl, by kernel_rfl, by kernel_rfl, by kernel_rfl⟩ rfl (fun _ _ _ _ h => h) (by intro _; exact Run.move rfl) ?_)); all_goals ((refine Goal.takeP (listed' := #[Ya,Ya,Ya,Ya,No,No,No,No,No,No,No,No]) 3 ⟨rfl, by kernel_rfl, by kernel_rfl, by kernel_rfl, by kernel_rfl⟩ rfl (fun _ _ _ _ h => h) (by intro _; exact Run.move rfl) ?_)); all_goals ((refine Goal.takeP (listed' := #[Ya,Ya,Ya,Ya,Ya,No,No,No,No,No,No,No]) 4 ⟨rfl, by kernel_rfl, by kernel_rfl, by kernel_rfl, by kernel_rfl⟩ rfl (fun _ _ _ _ h => h) (by intro _; first | exact Run.indexAddr T.slc_23 T.sz_50 rfl rfl rfl (by omega) | exact Run.indexAddr T.slc_23 T.sz_50 rfl rfl (Int.toNat_of_nonneg (by omega)).symm (by omega)) ?_)); all_goals ((refine Goal.takeP (listed' := #[Ya,Ya,Ya,Ya,Ya,Ya,No,No,No,No,No,No]) 5 ⟨rfl, by kernel_rfl, by kernel_rfl, by kernel_rfl, by kernel_rfl⟩ rfl (fun _ _ _ _ h => h) (by intro _; exact Run.fieldAddr T.fld_50_2 rfl) ?_)); all_goals ((refine Goal.takeP (listed' := #[Ya,Ya,Ya,Ya,Ya,Ya,Ya,No,No,No,No,No]) 6 ⟨rfl, by kernel_rfl, by kernel_rfl, by kernel_rfl, by kernel_rfl⟩ rfl (fun _ _ _ _ h => h) (by intro _; first | exact Run.indexAddrA T.arr_48 T.sz_3 rfl rfl rfl (by omega) | exact Run.indexAddrA T.arr_48 T.sz_3 rfl rfl (Int.toNat_of_nonneg (by omega)).symm (by omega)) ?_)); all_goals ((refine Goal.takeP (listed' := #[Ya,Ya,Ya,Ya,Ya,Ya,Ya,No,Ya,No,No,No]) 8 ⟨rfl, by kernel_rfl, by kernel_rfl, by kernel_rfl, by kernel_rfl⟩ rfl (fun _ _ _ _ h => h) (by intro _; first | exact Run.indexAddr T.slc_23 T.sz_50 rfl rfl rfl (by omega) | exact Run.indexAddr T.slc_23 T.sz_50 rfl rfl (Int.toNat_of_nonneg (by omega)).symm (by omega)) ?_)); all_goals ((refine Goal.takeP (listed' := #[Ya,Ya,Ya,Ya,Ya,Ya,Ya,No,Ya,Ya,No,No]) 9 ⟨rfl, by kernel_rfl, by kernel_rfl, by kernel_rfl, by kernel_rfl⟩ rfl (fun _ _ _ _ h => h) (by intro _; exact Run.fieldAddr T.fld_50_2 rfl) ?_)); all_goals ((refine Goal.take (listed' := #[Ya,Ya,Ya,Ya,Ya,Ya,Ya,Ya,Ya,Ya,No,No]) 7 ⟨rfl, by kernel_rfl, by kernel_rfl, by kernel_rfl, by kernel_rfl, by kernel_rfl⟩ rfl (by (first | exact s0 | exact s1 | exact s2 | exact s3 | exact sd | exact sa | exact sn (by simp))) (fun _ _ _ _ h => h) (by (apply Run.load; exact rfl; first | exact LoadOK.elFR (f := lkc) (v := .int .i64 (el ls i).c0) (fz := (0, 0)) T.one_3 1 2 lkc_len rfl (by omega) rfl | exact LoadOK.one T.one_3 0 rfl rfl | exact LoadOK.one T.one_3 1 rfl rfl | exact LoadOK.one T.one_3 2 rfl rfl | exact LoadOK.one T.one_3 3 rfl rfl | exact LoadOK.one T.one_3 4 rfl rfl)) ?_)); all_goals ((refine Goal.takeP (listed' := #[Ya,Ya,Ya,Ya,Ya,Ya,Ya,Ya,Ya,Ya,Ya,No]) 10 ⟨rfl, by kernel_rfl, by kernel_rfl, by kernel_rfl, by kernel_rfl⟩ rfl (fun _ _ _ _ h => h) (by intro _; first | exact Run.indexAddrA T.arr_48 T.sz_3 rfl rfl rfl (by omega) | exact Run.indexAddrA T.arr_48 T.sz_3 rfl rfl (Int.toNat_of_nonneg (by omega)).symm (by omega)) ?_)); all_goals (refine Goal.ready1 (i := 11) (by kernel_rfl) ?_); all_goals ((refine Goal.up (i := 11) (listed' := #[Ya,Ya,Ya,Ya,Ya,Ya,Ya,Ya,Ya,Ya,Ya,Ya]) rfl (by kernel_rfl) ?_; (first | refine Loud.store1 rfl rfl T.sz_3 rfl rfl rfl (by rw [List.size_toArray, List.length_append, Els_len hf]; omega) (wr_elFR (j := 3) (x := (evc (el ls i))) hf (by omega) (by decide) rfl) ?_ | refine Loud.store0 rfl rfl T.sz_3 rfl rfl rfl (by first | exact Nat.le_of_ble_eq_true rfl | exact Nat.le_refl _ | decide | (simp; omega)) rfl ?_ | refine Loud.store1 rfl rfl T.sz_3 rfl rfl rfl (by first | exact Nat.le_of_ble_eq_true rfl | exact Nat.le_refl _ | decide | (simp; omega)) rfl ?_ | refine Loud.store2 rfl rfl T.sz_3 rfl rfl rfl (by first | exact Nat.le_of_ble_eq_true rfl | exact Nat.le_refl _ | decide | (simp; omega)) rfl ?_ | refine Loud.store3 rfl rfl T.sz_3 rfl rfl rfl (by first | exact Nat.le_of_ble_eq_true rfl | exact Nat.le_refl _ | decide | (simp; omega)) rfl ?_ | refine Loud.store4 rfl rfl T.sz_3 rfl rfl rfl (by first | exact Nat.le_of_ble_eq_true rfl | exact Nat.le_refl _ | decide | (simp; omega)) rfl ?_); first | refine Goal.tail rfl ?_ | refine Goal.kept (by (first | exact s0 | exact s1 | exact s2 | exact s3 | exact sd | exact sa | exact sn (by simp))) ?_)); all_goals (refine Goal.allUp (by kernel_rfl) ?_))
      | (refine Goal.loud (o := ⟨some 3, _, _, _, _, _⟩) rfl ?_; first | refine Loud.boxA rfl rfl (fun b3 => ?_) | refine Loud.box1 rfl rfl rfl (fun b3 => ?_))
      | (refine Goal.loud (o := ⟨some 61, _, _, _, _, _⟩) rfl ?_; refine Loud.buildSlice (cs := []) rfl T.slc_23 T.inf_50 rfl rfl (by decide) rfl rfl rfl (fun b61 => ?_))
      | (refine Goal.loud (o := ⟨some 87, _, _, _, _, _⟩) rfl ?_; first | refine Loud.makeSlice rfl T.slc_22 T.inf_4 rfl rfl (by decide) rfl rfl rfl rfl (by omega) (by omega) (by omega) (fun b87 => ?_) | refine Loud.makeSlice rfl T.slc_22 T.inf_4 rfl rfl (by decide) rfl rfl (Int.toNat_of_nonneg (by omega)).symm (Int.toNat_of_nonneg (by omega)).symm (by omega) (by omega) (by omega) (fun b87 => ?_))
      | (apply G.move; exact rfl; exact rfl)
      | (apply G.assign; exact rfl; exact rfl)
      | refine Goal.seq (fun _ _ => ?_)
      | refine Goal.next (by assumption) ?_
      | refine Goal.lnil ?_
      | refine Goal.region ?_
      | refine Goal.skip ?_
      | refine Goal.block ?_
      | refine Goal.exit ?_
      | refine Goal.ret ?_
      | refine Goal.then_exit ?_
      | refine Goal.then_ret ?_
      | refine Goal.inBlock_exit ?_
      | refine Goal.inBlock_normal ?_
      | refine Goal.inBlock_ret ?_
      | refine Goal.inBlock_other rfl ?_
      | (apply Goal.condT; exact rfl)
      | (apply Goal.condF; exact rfl)
      | (refine Goal.condD rfl (fun hc => ?_) (fun hc => ?_) <;> first | (exfalso; omega) | contradiction | skip)
      | refine Goal.condB rfl (fun hc => ?_) (fun hc => ?_)
      | refine Goal.guardT rfl rfl ?_
      | refine Goal.guardF rfl rfl rfl rfl ?_
      | refine Goal.guardU rfl rfl rfl ?_
      | (refine Goal.guardD rfl rfl (fun hc => ?_) (fun hc => ?_) <;> first | (exfalso; omega) | contradiction | skip)
      | refine Goal.guardB rfl rfl (fun hc => ?_) (fun hc => ?_)
      | (apply G.fieldAddr; exact rfl; exact rfl; (first | exact T.fld_25_0 | exact T.fld_25_1 | exact T.fld_25_2 | exact T.fld_50_0 | exact T.fld_50_2))
      | (apply G.load; exact rfl; exact rfl; first | exact LoadOK.elFR (f := lkc) (v := .int .i64 (el ls i).c0) (fz := (0, 0)) T.one_3 1 2 lkc_len rfl (by omega) rfl | exact LoadOK.one (by first | exact T.one_3 | exact T.one_23) 0 rfl rfl | exact LoadOK.one (by first | exact T.one_3 | exact T.one_23) 1 rfl rfl | exact LoadOK.one (by first | exact T.one_3 | exact T.one_23) 2 rfl rfl | exact LoadOK.one (by first | exact T.one_3 | exact T.one_23) 3 rfl rfl | exact LoadOK.one (by first | exact T.one_3 | exact T.one_23) 4 rfl rfl | exact ag3 T.agg_25 0 rfl rfl rfl rfl | exact ag3 T.agg_25 1 rfl rfl rfl rfl | exact ag3 T.agg_25 2 rfl rfl rfl rfl | exact ag3 T.agg_25 3 rfl rfl rfl rfl | exact ag3 T.agg_25 4 rfl rfl rfl rfl)
      | (apply G.pickT; exact rfl; exact rfl; exact rfl)
      | (apply G.pickF; exact rfl; exact rfl; exact rfl)
      | (apply G.lss; exact rfl; exact rfl; exact rfl)
      | (apply G.gtr; exact rfl; exact rfl; exact rfl)
      | (apply G.geq; exact rfl; exact rfl; exact rfl)
      | (apply G.neq; exact rfl; exact rfl; exact rfl)
      | (apply G.add; exact rfl; exact rfl; exact rfl; exact IntWalk.i64_in _ (by omega))
      | (apply G.mul; exact rfl; exact rfl; exact rfl; exact IntWalk.i64_in _ (by omega))
      | (apply G.notT; exact rfl; exact rfl)
      | (apply G.notF; exact rfl; exact rfl)
      | (refine G.notD rfl rfl ?_)
      | (apply G.notB; exact rfl; exact rfl)
      | (apply G.extract; exact rfl; exact rfl; exact rfl)
      | (apply G.len; exact rfl; exact rfl; exact T.slc_23)
      | (refine G.indexAddr1 rfl (by first | exact T.slc_22 | exact T.slc_23 | exact T.slc_30) (by first | exact T.sz_3 | exact T.sz_4) rfl rfl _ rfl (by omega) ?_)
      | (refine G.indexAddr1 rfl (by first | exact T.slc_22 | exact T.slc_23 | exact T.slc_30) (by first | exact T.sz_3 | exact T.sz_4) rfl rfl _ (Int.toNat_of_nonneg (by omega)).symm (by omega) ?_)
      | (refine G.indexAddr rfl (by first | exact T.slc_22 | exact T.slc_23 | exact T.slc_30) T.sz_50 rfl rfl _ rfl (by omega) ?_)
      | (refine G.indexAddr rfl (by first | exact T.slc_22 | exact T.slc_23 | exact T.slc_30) T.sz_50 rfl rfl _ (Int.toNat_of_nonneg (by omega)).symm (by omega) ?_)
      | (refine G.indexAddrA rfl T.arr_48 (by first | exact T.sz_3 | exact T.sz_4 | exact T.sz_50) rfl rfl _ rfl (by omega) ?_)
      | (refine G.indexAddrA rfl T.arr_48 (by first | exact T.sz_3 | exact T.sz_4 | exact T.sz_50) rfl rfl _ (Int.toNat_of_nonneg (by omega)).symm (by omega) ?_)
      | (refine Goal.loud rfl ?_; refine Loud.store1 rfl rfl T.sz_3 rfl rfl rfl (by rw [List.size_toArray, List.length_append, Els_len hf]; omega) (wr_elFR (j := 3) (x := (evc (el ls i))) hf (by omega) (by decide) rfl) ?_)
      | (refine Goal.loud rfl ?_; refine Loud.store1 rfl rfl T.sz_4 rfl rfl rfl (by rw [List.size_toArray, List.length_append, Els_len hf]; omega) (wr_elFR (j := 3) (x := (evc (el ls i))) hf (by omega) (by decide) rfl) ?_)
      | (refine Goal.loud rfl ?_; refine Loud.store1 rfl rfl T.sz_22 rfl rfl rfl (by rw [List.size_toArray, List.length_append, Els_len hf]; omega) (wr_elFR (j := 3) (x := (evc (el ls i))) hf (by omega) (by decide) rfl) ?_)
      | (refine Goal.loud rfl ?_; refine Loud.store1 rfl rfl T.sz_23 rfl rfl rfl (by rw [List.size_toArray, List.length_append, Els_len hf]; omega) (wr_elFR (j := 3) (x := (evc (el ls i))) hf (by omega) (by decide) rfl) ?_)
      | (refine Goal.loud rfl ?_; refine Loud.store0 rfl rfl (by first | exact T.sz_3 | exact T.sz_4 | exact T.sz_22 | exact T.sz_23) rfl rfl rfl (by first | exact Nat.le_of_ble_eq_true rfl | exact Nat.le_refl _ | decide | (simp; omega)) rfl ?_)
      | (refine Goal.loud rfl ?_; refine Loud.store1 rfl rfl (by first | exact T.sz_3 | exact T.sz_4 | exact T.sz_22 | exact T.sz_23) rfl rfl rfl (by first | exact Nat.le_of_ble_eq_true rfl | exact Nat.le_refl _ | decide | (simp; omega)) rfl ?_)
      | (refine Goal.loud rfl ?_; refine Loud.store2 rfl rfl (by first | exact T.sz_3 | exact T.sz_4 | exact T.sz_22 | exact T.sz_23) rfl rfl rfl (by first | exact Nat.le_of_ble_eq_true rfl | exact Nat.le_refl _ | decide | (simp; omega)) rfl ?_)
      | (refine Goal.loud rfl ?_; refine Loud.store3 rfl rfl (by first | exact T.sz_3 | exact T.sz_4 | exact T.sz_22 | exact T.sz_23) rfl rfl rfl (by first | exact Nat.le_of_ble_eq_true rfl | exact Nat.le_refl _ | decide | (simp; omega)) rfl ?_)
      | (refine Goal.loud rfl ?_; refine Loud.store4 rfl rfl (by first | exact T.sz_3 | exact T.sz_4 | exact T.sz_22 | exact T.sz_23) rfl rfl rfl (by first | exact Nat.le_of_ble_eq_true rfl | exact Nat.le_refl _ | decide | (simp; omega)) rfl ?_))
    refine Goal.again ⟨i + 1, ls.set i.toNat (evc (el ls i)), [(bb, .cells (Els lkc (ls.set i.toNat (evc (el ls i))) ++ rest).toArray 50)]⟩ ⟨by dsimp only; omega, ⟨hlen2, hset⟩, Sl.mk (by dsimp only; rw [Els_len lkc_len]; omega) (by dsimp only; rw [Els_len lkc_len] at hcap1 ⊢; omega) (by omega)⟩ (by dsimp only; omega) ⟨rfl, rfl, rfl, rfl, rfl, rfl, rfl, trivial⟩ (fun _ h => h)
  · obtain rfl : i = tp.ls.length := by omega
    have hlse : ls = tp.ls.map evc := el_ext6 (by rw [List.length_map]; exact hll) fun j j0 j1 => by rw [hls j j0 (by omega), if_pos (by omega), el_evc]
    subst hlse
    clear hls hll
    have ht := ev_ok ht0
    have hE := ev_even tp
    generalize hK : (2 * (tp.ls.length : Int)).toNat = K at *
    have hKK : (K : Int) = 2 * tp.ls.length := by omega
    have hk1 : ((List.replicate K false).set (2 * link).toNat true).length = K := by simp
    have hk0 : (List.replicate K false).length = K := by simp
    obtain ⟨A, B, hA, hB⟩ := dists ht
    have harc : (ev tp).arcs = 2 * (tp.ls.length : Int) := by unfold Top.arcs ev; simp
    have hfit : Fit (ev tp) (mk2 K link) := .inr (by rw [mk2_len, harc]; omega)
    have hlo := ht0.lk _ (el_mem hlk)
    obtain ⟨lo1, lo2, lo3, lo4, _⟩ := hlo
    have htl : ∀ a, 0 ≤ a → a / 2 = link → (ev tp).co a = (el tp.ls link).c0 ∧ (((ev tp).tl a = (el tp.ls link).a ∧ (ev tp).hd a = (el tp.ls link).b) ∨ ((ev tp).tl a = (el tp.ls link).b ∧ (ev tp).hd a = (el tp.ls link).a)) := fun a a0 e => by
      unfold Top.co Top.tl Top.hd ev
      simp only [el_evc, e]
      by_cases h2 : a % 2 = 0
      · simp only [if_pos h2]; exact ⟨rfl, .inl ⟨rfl, rfl⟩⟩
      · simp only [if_neg h2]; exact ⟨rfl, .inr ⟨rfl, rfl⟩⟩
    have hdn : ∀ a, 0 ≤ a → a < (ev tp).arcs → ba (mk2 K link) a = true → (ev tp).co a = (el tp.ls link).c0 ∧ (((ev tp).tl a = (el tp.ls link).a ∧ (ev tp).hd a = (el tp.ls link).b) ∨ ((ev tp).tl a = (el tp.ls link).b ∧ (ev tp).hd a = (el tp.ls link).a)) := fun a a0 a1 hb => htl a a0 ((mk2_at (by omega) a0).1 hb)
    obtain ⟨p, hp⟩ := pred_of (fun k => FreeP (ev tp) (mk2 K link) (A (el tp.ls link).a) (B k) (el tp.ls link).a k)
    obtain ⟨q, hq⟩ := pred_of (fun k => FreeP (ev tp) (mk2 K link) (A k) (B d) k d)
    obtain ⟨af, haf⟩ := pred_of (fun k => AffP (ev tp) (mk2 K link) (B k) (el tp.ls link).a k)
    have hPl := selL_len tp.n.toNat p
    have hQl := selL_len tp.n.toNat q
    have hRl := selL_len tp.n.toNat af
    have hTb : ∀ (w' : World) (Lx : List Blk), St w [] w' Lx → (bb, Obj.cells (Els lkc (tp.ls.map evc) ++ rest).toArray 50) ∈ Lx → TopR w' (.slice none 0 0) (.slice (some ⟨bb, 0, none⟩) tp.ls.length cp2) (ev tp) := fun w' Lx H hm => ⟨RdV.nil w', RdE.of_sl (f := lkc) (l := tp.ls.map evc) (A := [(bb, Obj.cells (Els lkc (tp.ls.map evc) ++ rest).toArray 50)]) (E := 50) lkc_len (by rw [List.length_map]; exact hS) (Own.mk fun q h => H.own.get (by rw [List.mem_singleton] at h; rw [h]; exact hm))⟩
    repeat' (first
      | (refine Goal.loud (o := ⟨some 3, _, _, _, _, _⟩) rfl ?_; first | refine Loud.boxA rfl rfl (fun b3 => ?_) | refine Loud.box1 rfl rfl rfl (fun b3 => ?_))
      | (refine Goal.loud (o := ⟨some 61, _, _, _, _, _⟩) rfl ?_; refine Loud.buildSlice (cs := []) rfl T.slc_23 T.inf_50 rfl rfl (by decide) rfl rfl rfl (fun b61 => ?_))
      | (refine Goal.loud (o := ⟨some 87, _, _, _, _, _⟩) rfl ?_; first | refine Loud.makeSlice rfl T.slc_22 T.inf_4 rfl rfl (by decide) rfl rfl rfl rfl (by omega) (by omega) (by omega) (fun b87 => ?_) | refine Loud.makeSlice rfl T.slc_22 T.inf_4 rfl rfl (by decide) rfl rfl (Int.toNat_of_nonneg (by omega)).symm (Int.toNat_of_nonneg (by omega)).symm (by omega) (by omega) (by omega) (fun b87 => ?_))
      | (apply G.move; exact rfl; exact rfl)
      | (apply G.assign; exact rfl; exact rfl)
      | refine Goal.seq (fun _ _ => ?_)
      | refine Goal.next (by assumption) ?_
      | refine Goal.lnil ?_
      | refine Goal.region ?_
      | refine Goal.skip ?_
      | refine Goal.block ?_
      | refine Goal.exit ?_
      | refine Goal.ret ?_
      | refine Goal.then_exit ?_
      | refine Goal.then_ret ?_
      | refine Goal.inBlock_exit ?_
      | refine Goal.inBlock_normal ?_
      | refine Goal.inBlock_ret ?_
      | refine Goal.inBlock_other rfl ?_
      | (apply Goal.condT; exact rfl)
      | (apply Goal.condF; exact rfl)
      | (refine Goal.condD rfl (fun hc => ?_) (fun hc => ?_) <;> first | (exfalso; omega) | contradiction | skip)
      | refine Goal.condB rfl (fun hc => ?_) (fun hc => ?_)
      | refine Goal.guardT rfl rfl ?_
      | refine Goal.guardF rfl rfl rfl rfl ?_
      | refine Goal.guardU rfl rfl rfl ?_
      | (refine Goal.guardD rfl rfl (fun hc => ?_) (fun hc => ?_) <;> first | (exfalso; omega) | contradiction | skip)
      | refine Goal.guardB rfl rfl (fun hc => ?_) (fun hc => ?_)
      | (apply G.fieldAddr; exact rfl; exact rfl; (first | exact T.fld_25_0 | exact T.fld_25_1 | exact T.fld_25_2 | exact T.fld_50_0 | exact T.fld_50_2))
      | (apply G.load; exact rfl; exact rfl; first | exact LoadOK.one (by first | exact T.one_3 | exact T.one_23) 0 rfl rfl | exact LoadOK.one (by first | exact T.one_3 | exact T.one_23) 1 rfl rfl | exact LoadOK.one (by first | exact T.one_3 | exact T.one_23) 2 rfl rfl | exact LoadOK.one (by first | exact T.one_3 | exact T.one_23) 3 rfl rfl | exact LoadOK.one (by first | exact T.one_3 | exact T.one_23) 4 rfl rfl | exact ag3 T.agg_25 0 rfl rfl rfl rfl | exact ag3 T.agg_25 1 rfl rfl rfl rfl | exact ag3 T.agg_25 2 rfl rfl rfl rfl | exact ag3 T.agg_25 3 rfl rfl rfl rfl | exact ag3 T.agg_25 4 rfl rfl rfl rfl)
      | (apply G.pickT; exact rfl; exact rfl; exact rfl)
      | (apply G.pickF; exact rfl; exact rfl; exact rfl)
      | (apply G.lss; exact rfl; exact rfl; exact rfl)
      | (apply G.gtr; exact rfl; exact rfl; exact rfl)
      | (apply G.geq; exact rfl; exact rfl; exact rfl)
      | (apply G.neq; exact rfl; exact rfl; exact rfl)
      | (apply G.add; exact rfl; exact rfl; exact rfl; exact IntWalk.i64_in _ (by omega))
      | (apply G.mul; exact rfl; exact rfl; exact rfl; exact IntWalk.i64_in _ (by omega))
      | (apply G.notT; exact rfl; exact rfl)
      | (apply G.notF; exact rfl; exact rfl)
      | (refine G.notD rfl rfl ?_)
      | (apply G.notB; exact rfl; exact rfl)
      | (apply G.extract; exact rfl; exact rfl; exact rfl)
      | (apply G.len; exact rfl; exact rfl; exact T.slc_23)
      | (refine G.indexAddr1 rfl (by first | exact T.slc_22 | exact T.slc_23 | exact T.slc_30) (by first | exact T.sz_3 | exact T.sz_4) rfl rfl _ rfl (by omega) ?_)
      | (refine G.indexAddr1 rfl (by first | exact T.slc_22 | exact T.slc_23 | exact T.slc_30) (by first | exact T.sz_3 | exact T.sz_4) rfl rfl _ (Int.toNat_of_nonneg (by omega)).symm (by omega) ?_)
      | (refine G.indexAddr rfl (by first | exact T.slc_22 | exact T.slc_23 | exact T.slc_30) T.sz_50 rfl rfl _ rfl (by omega) ?_)
      | (refine G.indexAddr rfl (by first | exact T.slc_22 | exact T.slc_23 | exact T.slc_30) T.sz_50 rfl rfl _ (Int.toNat_of_nonneg (by omega)).symm (by omega) ?_)
      | (refine G.indexAddrA rfl T.arr_48 (by first | exact T.sz_3 | exact T.sz_4 | exact T.sz_50) rfl rfl _ rfl (by omega) ?_)
      | (refine G.indexAddrA rfl T.arr_48 (by first | exact T.sz_3 | exact T.sz_4 | exact T.sz_50) rfl rfl _ (Int.toNat_of_nonneg (by omega)).symm (by omega) ?_)
      | (refine Goal.loud rfl ?_; refine Loud.store0 rfl rfl (by first | exact T.sz_3 | exact T.sz_4 | exact T.sz_22 | exact T.sz_23) rfl rfl rfl (by first | exact Nat.le_of_ble_eq_true rfl | exact Nat.le_refl _ | decide | (simp; omega)) rfl ?_)
      | (refine Goal.loud rfl ?_; refine Loud.store1 rfl rfl (by first | exact T.sz_3 | exact T.sz_4 | exact T.sz_22 | exact T.sz_23) rfl rfl rfl (by first | exact Nat.le_of_ble_eq_true rfl | exact Nat.le_refl _ | decide | (simp; omega)) rfl ?_)
      | (refine Goal.loud rfl ?_; refine Loud.store2 rfl rfl (by first | exact T.sz_3 | exact T.sz_4 | exact T.sz_22 | exact T.sz_23) rfl rfl rfl (by first | exact Nat.le_of_ble_eq_true rfl | exact Nat.le_refl _ | decide | (simp; omega)) rfl ?_)
      | (refine Goal.loud rfl ?_; refine Loud.store3 rfl rfl (by first | exact T.sz_3 | exact T.sz_4 | exact T.sz_22 | exact T.sz_23) rfl rfl rfl (by first | exact Nat.le_of_ble_eq_true rfl | exact Nat.le_refl _ | decide | (simp; omega)) rfl ?_)
      | (refine Goal.loud rfl ?_; refine Loud.store4 rfl rfl (by first | exact T.sz_3 | exact T.sz_4 | exact T.sz_22 | exact T.sz_23) rfl rfl rfl (by first | exact Nat.le_of_ble_eq_true rfl | exact Nat.le_refl _ | decide | (simp; omega)) rfl ?_))
    refine Goal.reL (L' := (b87, .cells (bools (List.replicate K false)).toArray 4) :: (b3, .cells #[.int .i64 tp.n, .slice none 0 0, .slice (some ⟨bb, 0, none⟩) tp.ls.length cp2] 25) :: [(bb, .cells (Els lkc (tp.ls.map evc) ++ rest).toArray 50)]) (fun _ h => by rw [← rep_bools, ← hK]; exact h) ?_
    have hn1 : 0 ≤ (el tp.ls link).a ∧ (el tp.ls link).a < (ev tp).n := lo1
    have hm1 : 0 ≤ (el tp.ls link).b ∧ (el tp.ls link).b < (ev tp).n := lo2
    have hd1 : 0 ≤ d ∧ d < (ev tp).n := hd
    have hml : (mk2 K link).length = (2 * (tp.ls.length : Int)).toNat := by rw [mk2_len, hK]
    repeat' (first
      | (refine Goal.loud (o := ⟨some 106, _, _, _, _, _⟩) rfl ?_; apply Loud.callN; exact rfl; exact rfl; exact rfl; exact rfl; exact T.bod_31; exact (fun w' H => affected_ok (tp := ev tp) (dn := mk2 K link) (hTb _ _ H (by simp)) (rdb H (l := mk2 K link) (b := b87) (E := 4) (by simp [mk2]) hml) ht hfit hn1 hA hB haf); rintro ⟨v1, A1⟩ hS1; dsimp only at hS1 ⊢)
      | (refine Goal.loud (o := ⟨some 113, _, _, _, _, _⟩) rfl ?_; apply Loud.callN; exact rfl; exact rfl; exact rfl; exact rfl; exact T.bod_33; exact (fun w' H => pspace_ok (tp := ev tp) (dn := mk2 K link) (hTb _ _ H (by simp)) (rdb H (l := mk2 K link) (b := b87) (E := 4) (by simp [mk2]) hml) ht hfit hn1 hA hB hp); rintro ⟨v2, A2⟩ hS2; dsimp only at hS2 ⊢)
      | (refine Goal.loud (o := ⟨some 120, _, _, _, _, _⟩) rfl ?_; apply Loud.callN; exact rfl; exact rfl; exact rfl; exact rfl; exact T.bod_39; exact (fun w' H => qspace_ok (tp := ev tp) (dn := mk2 K link) (hTb _ _ H (by simp)) (rdb H (l := mk2 K link) (b := b87) (E := 4) (by simp [mk2]) hml) ht hfit hd1 hA hB hq); rintro ⟨v3, A3⟩ hS3; dsimp only at hS3 ⊢)
      | (refine Goal.loud (o := ⟨some 135, _, _, _, _, _⟩) rfl ?_; apply Loud.call0; exact rfl; exact rfl; exact rfl; exact rfl; exact T.bod_34; exact (fun w' H => has_ok (n := d) (rds H hS1 (fun p hp => by simp [hp])) (by show (selL tp.n.toNat af).length ≤ _; omega)))
      | (refine Goal.loud (o := ⟨some 140, _, _, _, _, _⟩) rfl ?_; apply Loud.callN; exact rfl; exact rfl; exact rfl; exact rfl; exact T.bod_35; exact (fun w' H => rfrom_ok (tp := ev tp) (dn := []) (hTb _ _ H (by simp)) (RdV.nil w') ht (.inl rfl) hn1); rintro ⟨bf, f⟩ hfd; dsimp only at hfd ⊢)
      | (refine Goal.loud (o := ⟨some 3, _, _, _, _, _⟩) rfl ?_; first | refine Loud.boxA rfl rfl (fun b3 => ?_) | refine Loud.box1 rfl rfl rfl (fun b3 => ?_))
      | (refine Goal.loud (o := ⟨some 61, _, _, _, _, _⟩) rfl ?_; refine Loud.buildSlice (cs := []) rfl T.slc_23 T.inf_50 rfl rfl (by decide) rfl rfl rfl (fun b61 => ?_))
      | (refine Goal.loud (o := ⟨some 87, _, _, _, _, _⟩) rfl ?_; first | refine Loud.makeSlice rfl T.slc_22 T.inf_4 rfl rfl (by decide) rfl rfl rfl rfl (by omega) (by omega) (by omega) (fun b87 => ?_) | refine Loud.makeSlice rfl T.slc_22 T.inf_4 rfl rfl (by decide) rfl rfl (Int.toNat_of_nonneg (by omega)).symm (Int.toNat_of_nonneg (by omega)).symm (by omega) (by omega) (by omega) (fun b87 => ?_))
      | (apply G.move; exact rfl; exact rfl)
      | (apply G.assign; exact rfl; exact rfl)
      | refine Goal.seq (fun _ _ => ?_)
      | refine Goal.next (by assumption) ?_
      | refine Goal.lnil ?_
      | refine Goal.region ?_
      | refine Goal.skip ?_
      | refine Goal.block ?_
      | refine Goal.exit ?_
      | refine Goal.ret ?_
      | refine Goal.then_exit ?_
      | refine Goal.then_ret ?_
      | refine Goal.inBlock_exit ?_
      | refine Goal.inBlock_normal ?_
      | refine Goal.inBlock_ret ?_
      | refine Goal.inBlock_other rfl ?_
      | (apply Goal.condT; exact rfl)
      | (apply Goal.condF; exact rfl)
      | (refine Goal.condD rfl (fun hc => ?_) (fun hc => ?_) <;> first | (exfalso; omega) | contradiction | skip)
      | refine Goal.condB rfl (fun hc => ?_) (fun hc => ?_)
      | refine Goal.guardT rfl rfl ?_
      | refine Goal.guardF rfl rfl rfl rfl ?_
      | refine Goal.guardU rfl rfl rfl ?_
      | (refine Goal.guardD rfl rfl (fun hc => ?_) (fun hc => ?_) <;> first | (exfalso; omega) | contradiction | skip)
      | refine Goal.guardB rfl rfl (fun hc => ?_) (fun hc => ?_)
      | (apply G.fieldAddr; exact rfl; exact rfl; (first | exact T.fld_25_0 | exact T.fld_25_1 | exact T.fld_25_2 | exact T.fld_50_0 | exact T.fld_50_2))
      | (apply G.load; exact rfl; exact rfl; first | exact LoadOK.elFM (f := lkc) (b := bb) (l := tp.ls.map evc) (rest := rest) (E := 50) (i := link) (v := .int .i64 (el tp.ls link).a) (fz := (0, 0)) T.one_3 0 lkc_len (by simp) (by rw [List.length_map]; omega) (by rw [el_evc]; rfl) | exact LoadOK.one (by first | exact T.one_3 | exact T.one_23) 0 rfl rfl | exact LoadOK.one (by first | exact T.one_3 | exact T.one_23) 1 rfl rfl | exact LoadOK.one (by first | exact T.one_3 | exact T.one_23) 2 rfl rfl | exact LoadOK.one (by first | exact T.one_3 | exact T.one_23) 3 rfl rfl | exact LoadOK.one (by first | exact T.one_3 | exact T.one_23) 4 rfl rfl | exact ag3 T.agg_25 0 rfl rfl rfl rfl | exact ag3 T.agg_25 1 rfl rfl rfl rfl | exact ag3 T.agg_25 2 rfl rfl rfl rfl | exact ag3 T.agg_25 3 rfl rfl rfl rfl | exact ag3 T.agg_25 4 rfl rfl rfl rfl)
      | (apply G.pickT; exact rfl; exact rfl; exact rfl)
      | (apply G.pickF; exact rfl; exact rfl; exact rfl)
      | (apply G.lss; exact rfl; exact rfl; exact rfl)
      | (apply G.gtr; exact rfl; exact rfl; exact rfl)
      | (apply G.geq; exact rfl; exact rfl; exact rfl)
      | (apply G.neq; exact rfl; exact rfl; exact rfl)
      | (apply G.add; exact rfl; exact rfl; exact rfl; exact IntWalk.i64_in _ (by omega))
      | (apply G.mul; exact rfl; exact rfl; exact rfl; exact IntWalk.i64_in _ (by omega))
      | (apply G.notT; exact rfl; exact rfl)
      | (apply G.notF; exact rfl; exact rfl)
      | (refine G.notD rfl rfl ?_)
      | (apply G.notB; exact rfl; exact rfl)
      | (apply G.extract; exact rfl; exact rfl; exact rfl)
      | (apply G.len; exact rfl; exact rfl; exact T.slc_23)
      | (refine G.indexAddr1 rfl (by first | exact T.slc_22 | exact T.slc_23 | exact T.slc_30) (by first | exact T.sz_3 | exact T.sz_4) rfl rfl _ rfl (by omega) ?_)
      | (refine G.indexAddr1 rfl (by first | exact T.slc_22 | exact T.slc_23 | exact T.slc_30) (by first | exact T.sz_3 | exact T.sz_4) rfl rfl _ (Int.toNat_of_nonneg (by omega)).symm (by omega) ?_)
      | (refine G.indexAddr rfl (by first | exact T.slc_22 | exact T.slc_23 | exact T.slc_30) T.sz_50 rfl rfl _ rfl (by omega) ?_)
      | (refine G.indexAddr rfl (by first | exact T.slc_22 | exact T.slc_23 | exact T.slc_30) T.sz_50 rfl rfl _ (Int.toNat_of_nonneg (by omega)).symm (by omega) ?_)
      | (refine G.indexAddrA rfl T.arr_48 (by first | exact T.sz_3 | exact T.sz_4 | exact T.sz_50) rfl rfl _ rfl (by omega) ?_)
      | (refine G.indexAddrA rfl T.arr_48 (by first | exact T.sz_3 | exact T.sz_4 | exact T.sz_50) rfl rfl _ (Int.toNat_of_nonneg (by omega)).symm (by omega) ?_)
      | (refine Goal.loud rfl ?_; refine Loud.store0 rfl rfl T.sz_4 rfl rfl rfl (by rw [List.size_toArray, bools_len]; omega) (wr_bools (by omega)) ?_)
      | (refine Goal.loud rfl ?_; refine Loud.store0 rfl rfl (by first | exact T.sz_3 | exact T.sz_4 | exact T.sz_22 | exact T.sz_23) rfl rfl rfl (by first | exact Nat.le_of_ble_eq_true rfl | exact Nat.le_refl _ | decide | (simp; omega)) rfl ?_)
      | (refine Goal.loud rfl ?_; refine Loud.store1 rfl rfl (by first | exact T.sz_3 | exact T.sz_4 | exact T.sz_22 | exact T.sz_23) rfl rfl rfl (by first | exact Nat.le_of_ble_eq_true rfl | exact Nat.le_refl _ | decide | (simp; omega)) rfl ?_)
      | (refine Goal.loud rfl ?_; refine Loud.store2 rfl rfl (by first | exact T.sz_3 | exact T.sz_4 | exact T.sz_22 | exact T.sz_23) rfl rfl rfl (by first | exact Nat.le_of_ble_eq_true rfl | exact Nat.le_refl _ | decide | (simp; omega)) rfl ?_)
      | (refine Goal.loud rfl ?_; refine Loud.store3 rfl rfl (by first | exact T.sz_3 | exact T.sz_4 | exact T.sz_22 | exact T.sz_23) rfl rfl rfl (by first | exact Nat.le_of_ble_eq_true rfl | exact Nat.le_refl _ | decide | (simp; omega)) rfl ?_)
      | (refine Goal.loud rfl ?_; refine Loud.store4 rfl rfl (by first | exact T.sz_3 | exact T.sz_4 | exact T.sz_22 | exact T.sz_23) rfl rfl rfl (by first | exact Nat.le_of_ble_eq_true rfl | exact Nat.le_refl _ | decide | (simp; omega)) rfl ?_))
    · refine Goal.done (vs := [_]) (by first | exact .inl rfl | exact .inr rfl) Try.results11 ⟨rfl, trivial⟩ rfl (fun w' H => ⟨rfl, H.mod⟩)
    rename_i hcd
    have hcd2 : d ∈ selL (ev tp).n.toNat af := Decidable.not_not.1 (by first | exact hcd | assumption)
    have haff : 0 ≤ A (el tp.ls link).a (el tp.ls link).b ∧ 0 ≤ B d (el tp.ls link).b ∧ (el tp.ls link).c0 + B d (el tp.ls link).b = A (el tp.ls link).a d := by
      obtain ⟨a, har, g1, g2, _, o2, o3, _, o5⟩ := (haf d).1 (mem_selL.1 hcd2).2
      obtain ⟨e1, e2⟩ := hdn a har.1 har.2 g2
      have hb := both ht hn1 hd1 (hA _) (hB d)
      have hle := (hA (el tp.ls link).a).le ((ev tp).hd a) ((ev tp).tl a) ((ev tp).co a) ⟨a, har, ba_nil a, .inl g1, rfl, rfl, rfl⟩ (by rw [g1, (hA _).root]; omega)
      rcases e2 with ⟨e2, e3⟩ | ⟨e2, e3⟩
      · rw [e3] at hle o3 o5
        rw [g1] at o5
        omega
      · rw [g1] at e2
        exact absurd e2 lo3
    have hfl := hfd.len
    have hfx : ∀ v, 0 ≤ v → v < (ev tp).n → 0 ≤ ia f v → v ∈ selL (ev tp).n.toNat p ∨ v ∈ selL (ev tp).n.toNat q := fun v v0 v1 h0 => by
      rw [Bell.one (GF.ok ht) hfd.bell (hA _) v v0 v1] at h0
      rcases two ht hE hn1 hm1 hd1 ⟨v0, v1⟩ lo4.1 hA hB hdn haff h0 with h | h
      · exact .inl (mem_selL.2 ⟨by omega, (hp v).2 h⟩)
      · exact .inr (mem_selL.2 ⟨by omega, (hq v).2 h⟩)
    have hnn : (ev tp).n = tp.n := rfl
    have hP2 : (selL (ev tp).n.toNat p).length ≤ 4294967296 := by show (selL tp.n.toNat p).length ≤ _; omega
    have hQ2 : (selL (ev tp).n.toNat q).length ≤ 4294967296 := by show (selL tp.n.toNat q).length ≤ _; omega
    generalize selL (ev tp).n.toNat p = P at hS2 hfx hP2
    generalize selL (ev tp).n.toNat q = Qs at hS3 hfx hQ2
    refine Goal.loopP (X := Int) (fun v => [(3, .pointer (some ⟨b3, 0, none⟩)), (13, v2), (15, v3), (17, .slice (some ⟨bf, 0, none⟩) f.length f.length), (19, .int .i64 v)])
      (fun _ => (b3, .cells #[.int .i64 tp.n, .slice none 0 0, .slice (some ⟨bb, 0, none⟩) tp.ls.length cp2] 25) :: (A2 ++ (A3 ++ [(bf, .cells (ints f).toArray 3)])))
      (fun v => 0 ≤ v ∧ v ≤ tp.n) (fun v => (tp.n - v).toNat) 0 ⟨rfl, rfl, rfl, rfl, rfl, trivial⟩ (fun _ h => by simp only [List.append_assoc, List.cons_append, List.nil_append] at h; exact h.sub (.cons _ (.cons_cons _ (.cons _ (List.sublist_append_right A1 _))))) ⟨by omega, by omega⟩ ?_
    rintro v hv
    by_cases h2 : v < tp.n
    · have hv2 := hfx v hv.1 (by omega)
      repeat' (first
        | (refine Goal.loud (o := ⟨some 157, _, _, _, _, _⟩) rfl ?_; apply Loud.call0; exact rfl; exact rfl; exact rfl; exact rfl; exact T.bod_34; exact (fun w' H => has_ok (n := v) (rds H hS2 (fun p hp => by simp [hp])) hP2))
        | (refine Goal.loud (o := ⟨some 163, _, _, _, _, _⟩) rfl ?_; apply Loud.call0; exact rfl; exact rfl; exact rfl; exact rfl; exact T.bod_34; exact (fun w' H => has_ok (n := v) (rds H hS3 (fun p hp => by simp [hp])) hQ2))
        | (refine Goal.loud (o := ⟨some 3, _, _, _, _, _⟩) rfl ?_; first | refine Loud.boxA rfl rfl (fun b3 => ?_) | refine Loud.box1 rfl rfl rfl (fun b3 => ?_))
        | (refine Goal.loud (o := ⟨some 61, _, _, _, _, _⟩) rfl ?_; refine Loud.buildSlice (cs := []) rfl T.slc_23 T.inf_50 rfl rfl (by decide) rfl rfl rfl (fun b61 => ?_))
        | (refine Goal.loud (o := ⟨some 87, _, _, _, _, _⟩) rfl ?_; first | refine Loud.makeSlice rfl T.slc_22 T.inf_4 rfl rfl (by decide) rfl rfl rfl rfl (by omega) (by omega) (by omega) (fun b87 => ?_) | refine Loud.makeSlice rfl T.slc_22 T.inf_4 rfl rfl (by decide) rfl rfl (Int.toNat_of_nonneg (by omega)).symm (Int.toNat_of_nonneg (by omega)).symm (by omega) (by omega) (by omega) (fun b87 => ?_))
        | (apply G.move; exact rfl; exact rfl)
        | (apply G.assign; exact rfl; exact rfl)
        | refine Goal.seq (fun _ _ => ?_)
        | refine Goal.next (by assumption) ?_
        | refine Goal.lnil ?_
        | refine Goal.region ?_
        | refine Goal.skip ?_
        | refine Goal.block ?_
        | refine Goal.exit ?_
        | refine Goal.ret ?_
        | refine Goal.then_exit ?_
        | refine Goal.then_ret ?_
        | refine Goal.inBlock_exit ?_
        | refine Goal.inBlock_normal ?_
        | refine Goal.inBlock_ret ?_
        | refine Goal.inBlock_other rfl ?_
        | (apply Goal.condT; exact rfl)
        | (apply Goal.condF; exact rfl)
        | (refine Goal.condD rfl (fun hc => ?_) (fun hc => ?_) <;> first | (exfalso; omega) | contradiction | skip)
        | refine Goal.condB rfl (fun hc => ?_) (fun hc => ?_)
        | refine Goal.guardT rfl rfl ?_
        | refine Goal.guardF rfl rfl rfl rfl ?_
        | refine Goal.guardU rfl rfl rfl ?_
        | (refine Goal.guardD rfl rfl (fun hc => ?_) (fun hc => ?_) <;> first | (exfalso; omega) | contradiction | skip)
        | refine Goal.guardB rfl rfl (fun hc => ?_) (fun hc => ?_)
        | (apply G.fieldAddr; exact rfl; exact rfl; (first | exact T.fld_25_0 | exact T.fld_25_1 | exact T.fld_25_2 | exact T.fld_50_0 | exact T.fld_50_2))
        | (apply G.load; exact rfl; exact rfl; first | exact LoadOK.iaM (b := bf) (l := f) (E := 3) (i := v) (x := ia f v) T.one_3 (by simp) (by omega) rfl | exact LoadOK.one (by first | exact T.one_3 | exact T.one_23) 0 rfl rfl | exact LoadOK.one (by first | exact T.one_3 | exact T.one_23) 1 rfl rfl | exact LoadOK.one (by first | exact T.one_3 | exact T.one_23) 2 rfl rfl | exact LoadOK.one (by first | exact T.one_3 | exact T.one_23) 3 rfl rfl | exact LoadOK.one (by first | exact T.one_3 | exact T.one_23) 4 rfl rfl | exact ag3 T.agg_25 0 rfl rfl rfl rfl | exact ag3 T.agg_25 1 rfl rfl rfl rfl | exact ag3 T.agg_25 2 rfl rfl rfl rfl | exact ag3 T.agg_25 3 rfl rfl rfl rfl | exact ag3 T.agg_25 4 rfl rfl rfl rfl)
        | (apply G.pickT; exact rfl; exact rfl; exact rfl)
        | (apply G.pickF; exact rfl; exact rfl; exact rfl)
        | (apply G.lss; exact rfl; exact rfl; exact rfl)
        | (apply G.gtr; exact rfl; exact rfl; exact rfl)
        | (apply G.geq; exact rfl; exact rfl; exact rfl)
        | (apply G.neq; exact rfl; exact rfl; exact rfl)
        | (apply G.add; exact rfl; exact rfl; exact rfl; exact IntWalk.i64_in _ (by omega))
        | (apply G.mul; exact rfl; exact rfl; exact rfl; exact IntWalk.i64_in _ (by omega))
        | (apply G.notT; exact rfl; exact rfl)
        | (apply G.notF; exact rfl; exact rfl)
        | (refine G.notD rfl rfl ?_)
        | (apply G.notB; exact rfl; exact rfl)
        | (apply G.extract; exact rfl; exact rfl; exact rfl)
        | (apply G.len; exact rfl; exact rfl; exact T.slc_23)
        | (refine G.indexAddr1 rfl (by first | exact T.slc_22 | exact T.slc_23 | exact T.slc_30) (by first | exact T.sz_3 | exact T.sz_4) rfl rfl _ rfl (by omega) ?_)
        | (refine G.indexAddr1 rfl (by first | exact T.slc_22 | exact T.slc_23 | exact T.slc_30) (by first | exact T.sz_3 | exact T.sz_4) rfl rfl _ (Int.toNat_of_nonneg (by omega)).symm (by omega) ?_)
        | (refine G.indexAddr rfl (by first | exact T.slc_22 | exact T.slc_23 | exact T.slc_30) T.sz_50 rfl rfl _ rfl (by omega) ?_)
        | (refine G.indexAddr rfl (by first | exact T.slc_22 | exact T.slc_23 | exact T.slc_30) T.sz_50 rfl rfl _ (Int.toNat_of_nonneg (by omega)).symm (by omega) ?_)
        | (refine G.indexAddrA rfl T.arr_48 (by first | exact T.sz_3 | exact T.sz_4 | exact T.sz_50) rfl rfl _ rfl (by omega) ?_)
        | (refine G.indexAddrA rfl T.arr_48 (by first | exact T.sz_3 | exact T.sz_4 | exact T.sz_50) rfl rfl _ (Int.toNat_of_nonneg (by omega)).symm (by omega) ?_)
        | (refine Goal.loud rfl ?_; refine Loud.store0 rfl rfl (by first | exact T.sz_3 | exact T.sz_4 | exact T.sz_22 | exact T.sz_23) rfl rfl rfl (by first | exact Nat.le_of_ble_eq_true rfl | exact Nat.le_refl _ | decide | (simp; omega)) rfl ?_)
        | (refine Goal.loud rfl ?_; refine Loud.store1 rfl rfl (by first | exact T.sz_3 | exact T.sz_4 | exact T.sz_22 | exact T.sz_23) rfl rfl rfl (by first | exact Nat.le_of_ble_eq_true rfl | exact Nat.le_refl _ | decide | (simp; omega)) rfl ?_)
        | (refine Goal.loud rfl ?_; refine Loud.store2 rfl rfl (by first | exact T.sz_3 | exact T.sz_4 | exact T.sz_22 | exact T.sz_23) rfl rfl rfl (by first | exact Nat.le_of_ble_eq_true rfl | exact Nat.le_refl _ | decide | (simp; omega)) rfl ?_)
        | (refine Goal.loud rfl ?_; refine Loud.store3 rfl rfl (by first | exact T.sz_3 | exact T.sz_4 | exact T.sz_22 | exact T.sz_23) rfl rfl rfl (by first | exact Nat.le_of_ble_eq_true rfl | exact Nat.le_refl _ | decide | (simp; omega)) rfl ?_)
        | (refine Goal.loud rfl ?_; refine Loud.store4 rfl rfl (by first | exact T.sz_3 | exact T.sz_4 | exact T.sz_22 | exact T.sz_23) rfl rfl rfl (by first | exact Nat.le_of_ble_eq_true rfl | exact Nat.le_refl _ | decide | (simp; omega)) rfl ?_))
      all_goals first
        | (refine Goal.again (v + 1) ⟨by omega, by omega⟩ (by omega) ⟨rfl, rfl, rfl, rfl, rfl, trivial⟩ (fun _ h => h); done)
        | (exfalso
           rcases hv2 (by omega) with h | h <;> first | contradiction | (simp_all; done))
    · skip
      repeat' (first
        | (refine Goal.loud (o := ⟨some 3, _, _, _, _, _⟩) rfl ?_; first | refine Loud.boxA rfl rfl (fun b3 => ?_) | refine Loud.box1 rfl rfl rfl (fun b3 => ?_))
        | (refine Goal.loud (o := ⟨some 61, _, _, _, _, _⟩) rfl ?_; refine Loud.buildSlice (cs := []) rfl T.slc_23 T.inf_50 rfl rfl (by decide) rfl rfl rfl (fun b61 => ?_))
        | (refine Goal.loud (o := ⟨some 87, _, _, _, _, _⟩) rfl ?_; first | refine Loud.makeSlice rfl T.slc_22 T.inf_4 rfl rfl (by decide) rfl rfl rfl rfl (by omega) (by omega) (by omega) (fun b87 => ?_) | refine Loud.makeSlice rfl T.slc_22 T.inf_4 rfl rfl (by decide) rfl rfl (Int.toNat_of_nonneg (by omega)).symm (Int.toNat_of_nonneg (by omega)).symm (by omega) (by omega) (by omega) (fun b87 => ?_))
        | (apply G.move; exact rfl; exact rfl)
        | (apply G.assign; exact rfl; exact rfl)
        | refine Goal.seq (fun _ _ => ?_)
        | refine Goal.next (by assumption) ?_
        | refine Goal.lnil ?_
        | refine Goal.region ?_
        | refine Goal.skip ?_
        | refine Goal.block ?_
        | refine Goal.exit ?_
        | refine Goal.ret ?_
        | refine Goal.then_exit ?_
        | refine Goal.then_ret ?_
        | refine Goal.inBlock_exit ?_
        | refine Goal.inBlock_normal ?_
        | refine Goal.inBlock_ret ?_
        | refine Goal.inBlock_other rfl ?_
        | (apply Goal.condT; exact rfl)
        | (apply Goal.condF; exact rfl)
        | (refine Goal.condD rfl (fun hc => ?_) (fun hc => ?_) <;> first | (exfalso; omega) | contradiction | skip)
        | refine Goal.condB rfl (fun hc => ?_) (fun hc => ?_)
        | refine Goal.guardT rfl rfl ?_
        | refine Goal.guardF rfl rfl rfl rfl ?_
        | refine Goal.guardU rfl rfl rfl ?_
        | (refine Goal.guardD rfl rfl (fun hc => ?_) (fun hc => ?_) <;> first | (exfalso; omega) | contradiction | skip)
        | refine Goal.guardB rfl rfl (fun hc => ?_) (fun hc => ?_)
        | (apply G.fieldAddr; exact rfl; exact rfl; (first | exact T.fld_25_0 | exact T.fld_25_1 | exact T.fld_25_2 | exact T.fld_50_0 | exact T.fld_50_2))
        | (apply G.load; exact rfl; exact rfl; first | exact LoadOK.one (by first | exact T.one_3 | exact T.one_23) 0 rfl rfl | exact LoadOK.one (by first | exact T.one_3 | exact T.one_23) 1 rfl rfl | exact LoadOK.one (by first | exact T.one_3 | exact T.one_23) 2 rfl rfl | exact LoadOK.one (by first | exact T.one_3 | exact T.one_23) 3 rfl rfl | exact LoadOK.one (by first | exact T.one_3 | exact T.one_23) 4 rfl rfl | exact ag3 T.agg_25 0 rfl rfl rfl rfl | exact ag3 T.agg_25 1 rfl rfl rfl rfl | exact ag3 T.agg_25 2 rfl rfl rfl rfl | exact ag3 T.agg_25 3 rfl rfl rfl rfl | exact ag3 T.agg_25 4 rfl rfl rfl rfl)
        | (apply G.pickT; exact rfl; exact rfl; exact rfl)
        | (apply G.pickF; exact rfl; exact rfl; exact rfl)
        | (apply G.lss; exact rfl; exact rfl; exact rfl)
        | (apply G.gtr; exact rfl; exact rfl; exact rfl)
        | (apply G.geq; exact rfl; exact rfl; exact rfl)
        | (apply G.neq; exact rfl; exact rfl; exact rfl)
        | (apply G.add; exact rfl; exact rfl; exact rfl; exact IntWalk.i64_in _ (by omega))
        | (apply G.mul; exact rfl; exact rfl; exact rfl; exact IntWalk.i64_in _ (by omega))
        | (apply G.notT; exact rfl; exact rfl)
        | (apply G.notF; exact rfl; exact rfl)
        | (refine G.notD rfl rfl ?_)
        | (apply G.notB; exact rfl; exact rfl)
        | (apply G.extract; exact rfl; exact rfl; exact rfl)
        | (apply G.len; exact rfl; exact rfl; exact T.slc_23)
        | (refine G.indexAddr1 rfl (by first | exact T.slc_22 | exact T.slc_23 | exact T.slc_30) (by first | exact T.sz_3 | exact T.sz_4) rfl rfl _ rfl (by omega) ?_)
        | (refine G.indexAddr1 rfl (by first | exact T.slc_22 | exact T.slc_23 | exact T.slc_30) (by first | exact T.sz_3 | exact T.sz_4) rfl rfl _ (Int.toNat_of_nonneg (by omega)).symm (by omega) ?_)
        | (refine G.indexAddr rfl (by first | exact T.slc_22 | exact T.slc_23 | exact T.slc_30) T.sz_50 rfl rfl _ rfl (by omega) ?_)
        | (refine G.indexAddr rfl (by first | exact T.slc_22 | exact T.slc_23 | exact T.slc_30) T.sz_50 rfl rfl _ (Int.toNat_of_nonneg (by omega)).symm (by omega) ?_)
        | (refine G.indexAddrA rfl T.arr_48 (by first | exact T.sz_3 | exact T.sz_4 | exact T.sz_50) rfl rfl _ rfl (by omega) ?_)
        | (refine G.indexAddrA rfl T.arr_48 (by first | exact T.sz_3 | exact T.sz_4 | exact T.sz_50) rfl rfl _ (Int.toNat_of_nonneg (by omega)).symm (by omega) ?_)
        | (refine Goal.loud rfl ?_; refine Loud.store0 rfl rfl (by first | exact T.sz_3 | exact T.sz_4 | exact T.sz_22 | exact T.sz_23) rfl rfl rfl (by first | exact Nat.le_of_ble_eq_true rfl | exact Nat.le_refl _ | decide | (simp; omega)) rfl ?_)
        | (refine Goal.loud rfl ?_; refine Loud.store1 rfl rfl (by first | exact T.sz_3 | exact T.sz_4 | exact T.sz_22 | exact T.sz_23) rfl rfl rfl (by first | exact Nat.le_of_ble_eq_true rfl | exact Nat.le_refl _ | decide | (simp; omega)) rfl ?_)
        | (refine Goal.loud rfl ?_; refine Loud.store2 rfl rfl (by first | exact T.sz_3 | exact T.sz_4 | exact T.sz_22 | exact T.sz_23) rfl rfl rfl (by first | exact Nat.le_of_ble_eq_true rfl | exact Nat.le_refl _ | decide | (simp; omega)) rfl ?_)
        | (refine Goal.loud rfl ?_; refine Loud.store3 rfl rfl (by first | exact T.sz_3 | exact T.sz_4 | exact T.sz_22 | exact T.sz_23) rfl rfl rfl (by first | exact Nat.le_of_ble_eq_true rfl | exact Nat.le_refl _ | decide | (simp; omega)) rfl ?_)
        | (refine Goal.loud rfl ?_; refine Loud.store4 rfl rfl (by first | exact T.sz_3 | exact T.sz_4 | exact T.sz_22 | exact T.sz_23) rfl rfl rfl (by first | exact Nat.le_of_ble_eq_true rfl | exact Nat.le_refl _ | decide | (simp; omega)) rfl ?_))
      refine Goal.done (vs := [_]) (by first | exact .inl rfl | exact .inr rfl) Try.results11 ⟨rfl, trivial⟩ rfl (fun w' H => ⟨rfl, H.mod⟩)
end
end Go.Proofs.Ytldoplehchngfaa
