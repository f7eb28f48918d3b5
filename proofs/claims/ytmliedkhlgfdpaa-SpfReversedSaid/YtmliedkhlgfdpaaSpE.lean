/- Package waypointlaw11: SpfReversed. -/
import Derived.Test.YtmliedkhlgfdpaaSpA
import Derived.Test.YtmliedkhlgfdpaaMask
namespace Go.Proofs.Ytmliedkhlgfdpaa
open Go.Wf
set_option linter.unusedVariables false
def swc (l : Lk) : Lk := ⟨l.a, l.b, l.c1, l.c0, l.cap, l.dl, l.gp⟩
/-- The reversed topology, and the arc that an arc becomes. -/
def bk (T : Top) : Top := ⟨T.n, T.ov, T.ls.map swc⟩
def fl (a : Int) : Int := a / 2 * 2 + 1 - a % 2
theorem fl_fl (a : Int) : fl (fl a) = a := by unfold fl; omega
theorem el_swc {l : List Lk} {i : Int} : el (l.map swc) i = swc (el l i) := by
  unfold el
  rw [List.getD_eq_getElem?_getD, List.getD_eq_getElem?_getD, List.getElem?_map]
  cases l[i.toNat]? <;> rfl
theorem el_ext {l m : List Lk} (hl : l.length = m.length) (h : ∀ j : Int, 0 ≤ j → j < l.length → el l j = el m j) : l = m := by
  apply List.ext_getElem hl
  intro i h1 h2
  have := h i (by omega) (by omega)
  rw [el_get (by omega), el_get (by omega)] at this
  simpa using this
section
variable {T : Top} {dn mk : List Bool} {s : Int}
theorem fl_range {a : Int} (h : 0 ≤ a ∧ a < T.arcs) : 0 ≤ fl a ∧ fl a < T.arcs := by
  unfold Top.arcs at h ⊢
  unfold fl
  omega
theorem bk_arcs : (bk T).arcs = T.arcs := by unfold Top.arcs bk; simp
theorem tl_fl {a : Int} (h : 0 ≤ a) : T.tl (fl a) = T.hd a := hd_tl2 h
theorem bk_tl {a : Int} (h : 0 ≤ a) : (bk T).tl a = T.hd (fl a) := by
  rw [← tl_fl (by unfold fl; omega), fl_fl]
  unfold Top.tl bk
  simp only [el_swc]
  rfl
theorem bk_hd {a : Int} (h : 0 ≤ a) : (bk T).hd a = T.tl (fl a) := by
  rw [tl_fl h]
  unfold Top.hd bk
  simp only [el_swc]
  rfl
theorem bk_co {a : Int} (h : 0 ≤ a) : (bk T).co a = T.co (fl a) := by
  unfold Top.co bk fl
  simp only [el_swc]
  by_cases e : a % 2 = 0
  · rw [if_pos e, if_neg (by omega), show (a / 2 * 2 + 1 - a % 2) / 2 = a / 2 by omega]
    rfl
  · rw [if_neg e, if_pos (by omega), show (a / 2 * 2 + 1 - a % 2) / 2 = a / 2 by omega]
    rfl
theorem bk_ok (h : T.Ok) : (bk T).Ok := by
  refine ⟨h.n, h.ov, by unfold bk; simpa using h.ln, fun l hl => ?_⟩
  simp only [bk, List.mem_map] at hl
  obtain ⟨k, hk, rfl⟩ := hl
  obtain ⟨p, q, r, u, v, z⟩ := h.lk k hk
  exact ⟨p, q, r, v, u, z⟩
/-- Distances to a node in the reversed topology are distances from it. -/
theorem bk_gr (hm : ∀ a, 0 ≤ a → a < T.arcs → ba mk a = ba dn (fl a)) : GD (bk T) mk s = GF T dn s := by
  funext x y c
  refine propext ⟨fun ⟨a, ha, h1, h2, h3, h4, h5⟩ => ?_, fun ⟨a, ha, h1, h2, h3, h4, h5⟩ => ?_⟩
  · rw [bk_arcs] at ha
    rw [hm a ha.1 ha.2] at h1
    exact ⟨fl a, fl_range ha, h1, h2, by rw [h3, bk_tl ha.1], by rw [h4, bk_hd ha.1], by rw [h5, bk_co ha.1]⟩
  · have hr := fl_range ha
    exact ⟨fl a, by rw [bk_arcs]; exact hr, by rw [hm _ hr.1 hr.2, fl_fl]; exact h1, h2, by rw [bk_tl hr.1, fl_fl]; exact h3, by rw [bk_hd hr.1, fl_fl]; exact h4, by rw [bk_co hr.1, fl_fl]; exact h5⟩
end
theorem wr_swc {ls : List Lk} {rest : List Value} {i : Int} {l : Lk} (hi : 0 ≤ i ∧ i < ls.length) (hl : el ls i = l) : wr (Els lkc ls ++ rest).toArray (0 + i.toNat * 7 + 2) [.int .i64 l.c1, .int .i64 l.c0] = (Els lkc (ls.set i.toNat (swc l)) ++ rest).toArray := by
  have hg : ls[i.toNat]'(by omega) = l := by rw [← hl, el_get hi]
  rw [Els_split lkc (l := ls) (i := i.toNat) (by omega), Els_set (by omega), hg]
  have := wr_mid (a := Els lkc (ls.take i.toNat) ++ [.int .i64 l.a, .int .i64 l.b]) (b := [.int .i64 l.c0, .int .i64 l.c1]) (c := [.int .i64 l.c1, .int .i64 l.c0]) (d := [.int .i64 l.cap, .int .i64 l.dl, .int .i64 l.gp] ++ (Els lkc (ls.drop (i.toNat + 1)) ++ rest)) (off := 0 + i.toNat * 7 + 2) (by rw [List.length_append, Els_len lkc_len, List.length_take, Nat.min_eq_left (by omega)]; simp) rfl
  simp only [List.append_assoc, lkc, swc, List.cons_append, List.nil_append] at this ⊢
  exact this
structure RI where
  (i : Int) (ls : List Lk) (ks : List Bool) (A : List Blk)
set_option maxHeartbeats 8000000 in
theorem law_reversed {w : World} {tp : Top} {dn : List Bool} {vo vl vd : Value} (s : Int) (hT : TopR w vo vl tp) (hd : RdV w vd (bools dn)) : Calls Try.prog 10 #[.agg #[.int .i64 tp.n, vo, vl], vd, .int .i64 s] w fun e w' => e = .returned (.bool true) ∧ Mod [] w w' := by
  obtain ⟨ao, co, rfl⟩ := shapeB hT.ov
  obtain ⟨al, cl, rfl⟩ := shapeL hT.ls
  obtain ⟨ad, cd, rfl⟩ := shapeB hd
  have har0 : tp.arcs = 2 * (tp.ls.length : Int) := rfl
  by_cases hlg : 100 < tp.ov.length ∨ 40 < tp.ls.length ∨ 100 < dn.length
  · skip
    refine Goal.enter (args := [.agg #[.int .i64 tp.n, .slice ao tp.ov.length co, .slice al tp.ls.length cl], .slice ad dn.length cd, .int .i64 s]) Try.func10 rfl Try.ntmps10 rfl (St.nil w) ?_
    repeat' (first
      | (refine Goal.loud (o := ⟨some 15, _, _, _, _, _⟩) rfl ?_; apply Loud.call0; exact rfl; exact rfl; exact rfl; exact rfl; exact T.bod_11; exact (fun w' H => awake_ok w'))
      | (refine Goal.loud (o := ⟨some 19, _, _, _, _, _⟩) rfl ?_; apply Loud.call0; exact rfl; exact rfl; exact rfl; exact rfl; exact T.bod_12; exact (fun w' H => large_ok (tp := tp) (dn := dn) ao al ad co cl cd w'); rw [decide_eq_true hlg])
      | (refine Goal.loud (o := ⟨some 3, _, _, _, _, _⟩) rfl ?_; first | refine Loud.boxA rfl rfl (fun b3 => ?_) | refine Loud.box1 rfl rfl rfl (fun b3 => ?_))
      | (refine Goal.loud (o := ⟨some 7, _, _, _, _, _⟩) rfl ?_; refine Loud.allocA rfl T.inf_25 (fun b7 => ?_))
      | (refine Goal.loud (o := ⟨some 27, _, _, _, _, _⟩) rfl ?_; refine Loud.buildSlice (cs := []) rfl T.slc_23 T.inf_45 rfl rfl (by decide) rfl rfl rfl (fun b27 => ?_))
      | (refine Goal.loud (o := ⟨some 36, _, _, _, _, _⟩) rfl ?_; first | refine Loud.makeSlice rfl T.slc_22 T.inf_4 rfl rfl (by decide) rfl rfl rfl rfl (by omega) (by omega) (by omega) (fun b36 => ?_) | refine Loud.makeSlice rfl T.slc_22 T.inf_4 rfl rfl (by decide) rfl rfl (Int.toNat_of_nonneg (by omega)).symm (Int.toNat_of_nonneg (by omega)).symm (by omega) (by omega) (by omega) (fun b36 => ?_))
      | (refine Goal.loud (o := ⟨some 10, _, _, _, _, _⟩) rfl ?_; refine Loud.allocA rfl T.inf_45 (fun b10 => ?_))
      | (apply G.move; exact rfl; exact rfl)
      | (apply G.assign; exact rfl; exact rfl)
      | refine Goal.seq (fun _ _ => ?_)
      | refine Goal.next (by assumption) ?_
      | refine Goal.lnil ?_
      | refine Goal.region ?_
      | refine Goal.skip ?_
      | refine Goal.block ?_
      | refine Goal.exit ?_
      | refine Goal.ret ?_
      | refine Goal.then_exit ?_
      | refine Goal.then_ret ?_
      | refine Goal.inBlock_exit ?_
      | refine Goal.inBlock_normal ?_
      | refine Goal.inBlock_ret ?_
      | refine Goal.inBlock_other rfl ?_
      | (apply Goal.condT; exact rfl)
      | (apply Goal.condF; exact rfl)
      | (refine Goal.condD rfl (fun hc => ?_) (fun hc => ?_) <;> first | (exfalso; omega) | contradiction | skip)
      | refine Goal.condB rfl (fun hc => ?_) (fun hc => ?_)
      | refine Goal.guardT rfl rfl ?_
      | refine Goal.guardF rfl rfl rfl rfl ?_
      | refine Goal.guardU rfl rfl rfl ?_
      | (refine Goal.guardD rfl rfl (fun hc => ?_) (fun hc => ?_) <;> first | (exfalso; omega) | contradiction | skip)
      | refine Goal.guardB rfl rfl (fun hc => ?_) (fun hc => ?_)
      | (apply G.fieldAddr; exact rfl; exact rfl; (first | exact T.fld_25_2 | exact T.fld_45_2))
      | (apply G.load; exact rfl; exact rfl; first | exact LoadOK.one (by first | exact T.one_3 | exact T.one_23) 0 rfl rfl | exact LoadOK.one (by first | exact T.one_3 | exact T.one_23) 1 rfl rfl | exact LoadOK.one (by first | exact T.one_3 | exact T.one_23) 2 rfl rfl | exact LoadOK.one (by first | exact T.one_3 | exact T.one_23) 3 rfl rfl | exact LoadOK.one (by first | exact T.one_3 | exact T.one_23) 4 rfl rfl | exact LoadOK.one (by first | exact T.one_3 | exact T.one_23) 5 rfl rfl | exact LoadOK.one (by first | exact T.one_3 | exact T.one_23) 6 rfl rfl | exact LoadOK.one (by first | exact T.one_3 | exact T.one_23) 7 rfl rfl | exact ag3 T.agg_25 0 rfl rfl rfl rfl | exact ag3 T.agg_25 1 rfl rfl rfl rfl | exact ag3 T.agg_25 2 rfl rfl rfl rfl | exact ag3 T.agg_25 3 rfl rfl rfl rfl | exact ag3 T.agg_25 4 rfl rfl rfl rfl | exact ag3 T.agg_25 5 rfl rfl rfl rfl | exact ag3 T.agg_25 6 rfl rfl rfl rfl | exact ag3 T.agg_25 7 rfl rfl rfl rfl | exact LoadOK.agg (vs := [_, _, _, _, _, _, _]) T.agg_45 0 rfl rfl ⟨rfl, rfl, rfl, rfl, rfl, rfl, rfl, trivial⟩ | exact LoadOK.agg (vs := [_, _, _, _, _, _, _]) T.agg_45 1 rfl rfl ⟨rfl, rfl, rfl, rfl, rfl, rfl, rfl, trivial⟩ | exact LoadOK.agg (vs := [_, _, _, _, _, _, _]) T.agg_45 2 rfl rfl ⟨rfl, rfl, rfl, rfl, rfl, rfl, rfl, trivial⟩ | exact LoadOK.agg (vs := [_, _, _, _, _, _, _]) T.agg_45 3 rfl rfl ⟨rfl, rfl, rfl, rfl, rfl, rfl, rfl, trivial⟩ | exact LoadOK.agg (vs := [_, _, _, _, _, _, _]) T.agg_45 4 rfl rfl ⟨rfl, rfl, rfl, rfl, rfl, rfl, rfl, trivial⟩ | exact LoadOK.agg (vs := [_, _, _, _, _, _, _]) T.agg_45 5 rfl rfl ⟨rfl, rfl, rfl, rfl, rfl, rfl, rfl, trivial⟩ | exact LoadOK.agg (vs := [_, _, _, _, _, _, _]) T.agg_45 6 rfl rfl ⟨rfl, rfl, rfl, rfl, rfl, rfl, rfl, trivial⟩ | exact LoadOK.agg (vs := [_, _, _, _, _, _, _]) T.agg_45 7 rfl rfl ⟨rfl, rfl, rfl, rfl, rfl, rfl, rfl, trivial⟩)
      | (apply G.pickT; exact rfl; exact rfl; exact rfl)
      | (apply G.pickF; exact rfl; exact rfl; exact rfl)
      | (apply G.lss; exact rfl; exact rfl; exact rfl)
      | (apply G.eql; exact rfl; exact rfl; exact rfl)
      | (apply G.add; exact rfl; exact rfl; exact rfl; exact IntWalk.i64_in _ (by omega))
      | (apply G.mul; exact rfl; exact rfl; exact rfl; exact IntWalk.i64_in _ (by omega))
      | (apply G.notT; exact rfl; exact rfl)
      | (apply G.notF; exact rfl; exact rfl)
      | (refine G.notD rfl rfl ?_)
      | (apply G.notB; exact rfl; exact rfl)
      | (apply G.extract; exact rfl; exact rfl; exact rfl)
      | (apply G.build (cs := [_, _]); exact rfl; exact T.lay_34; exact rfl; exact rfl)
      | (apply G.len; exact rfl; exact rfl; exact T.slc_23)
      | (refine G.indexAddr1 rfl (by first | exact T.slc_22 | exact T.slc_23) (by first | exact T.sz_3 | exact T.sz_4) rfl rfl _ rfl (by omega) ?_)
      | (refine G.indexAddr1 rfl (by first | exact T.slc_22 | exact T.slc_23) (by first | exact T.sz_3 | exact T.sz_4) rfl rfl _ (Int.toNat_of_nonneg (by omega)).symm (by omega) ?_)
      | (refine G.indexAddr rfl (by first | exact T.slc_22 | exact T.slc_23) T.sz_45 rfl rfl _ rfl (by omega) ?_)
      | (refine G.indexAddr rfl (by first | exact T.slc_22 | exact T.slc_23) T.sz_45 rfl rfl _ (Int.toNat_of_nonneg (by omega)).symm (by omega) ?_)
      | (refine G.indexAddrA rfl T.arr_34 (by first | exact T.sz_3 | exact T.sz_4 | exact T.sz_45) rfl rfl _ rfl (by omega) ?_)
      | (refine G.indexAddrA rfl T.arr_34 (by first | exact T.sz_3 | exact T.sz_4 | exact T.sz_45) rfl rfl _ (Int.toNat_of_nonneg (by omega)).symm (by omega) ?_)
      | (refine Goal.loud rfl ?_; refine Loud.store0 rfl rfl (by first | exact T.sz_4 | exact T.sz_23 | exact T.sz_25 | exact T.sz_34 | exact T.sz_45) rfl rfl rfl (by first | exact Nat.le_of_ble_eq_true rfl | exact Nat.le_refl _ | decide | (simp; omega)) rfl ?_)
      | (refine Goal.loud rfl ?_; refine Loud.store1 rfl rfl (by first | exact T.sz_4 | exact T.sz_23 | exact T.sz_25 | exact T.sz_34 | exact T.sz_45) rfl rfl rfl (by first | exact Nat.le_of_ble_eq_true rfl | exact Nat.le_refl _ | decide | (simp; omega)) rfl ?_)
      | (refine Goal.loud rfl ?_; refine Loud.store2 rfl rfl (by first | exact T.sz_4 | exact T.sz_23 | exact T.sz_25 | exact T.sz_34 | exact T.sz_45) rfl rfl rfl (by first | exact Nat.le_of_ble_eq_true rfl | exact Nat.le_refl _ | decide | (simp; omega)) rfl ?_)
      | (refine Goal.loud rfl ?_; refine Loud.store3 rfl rfl (by first | exact T.sz_4 | exact T.sz_23 | exact T.sz_25 | exact T.sz_34 | exact T.sz_45) rfl rfl rfl (by first | exact Nat.le_of_ble_eq_true rfl | exact Nat.le_refl _ | decide | (simp; omega)) rfl ?_)
      | (refine Goal.loud rfl ?_; refine Loud.store4 rfl rfl (by first | exact T.sz_4 | exact T.sz_23 | exact T.sz_25 | exact T.sz_34 | exact T.sz_45) rfl rfl rfl (by first | exact Nat.le_of_ble_eq_true rfl | exact Nat.le_refl _ | decide | (simp; omega)) rfl ?_)
      | (refine Goal.loud rfl ?_; refine Loud.store5 rfl rfl (by first | exact T.sz_4 | exact T.sz_23 | exact T.sz_25 | exact T.sz_34 | exact T.sz_45) rfl rfl rfl (by first | exact Nat.le_of_ble_eq_true rfl | exact Nat.le_refl _ | decide | (simp; omega)) rfl ?_)
      | (refine Goal.loud rfl ?_; refine Loud.store6 rfl rfl (by first | exact T.sz_4 | exact T.sz_23 | exact T.sz_25 | exact T.sz_34 | exact T.sz_45) rfl rfl rfl (by first | exact Nat.le_of_ble_eq_true rfl | exact Nat.le_refl _ | decide | (simp; omega)) rfl ?_)
      | (refine Goal.loud rfl ?_; refine Loud.store7 rfl rfl (by first | exact T.sz_4 | exact T.sz_23 | exact T.sz_25 | exact T.sz_34 | exact T.sz_45) rfl rfl rfl (by first | exact Nat.le_of_ble_eq_true rfl | exact Nat.le_refl _ | decide | (simp; omega)) rfl ?_))
    refine Goal.done (vs := [_]) (by first | exact .inl rfl | exact .inr rfl) Try.results10 ⟨rfl, trivial⟩ rfl (fun w' H => ⟨rfl, H.mod⟩)
  by_cases hk : tp.Ok ∧ Fit tp dn
  rotate_left
  · skip
    refine Goal.enter (args := [.agg #[.int .i64 tp.n, .slice ao tp.ov.length co, .slice al tp.ls.length cl], .slice ad dn.length cd, .int .i64 s]) Try.func10 rfl Try.ntmps10 rfl (St.nil w) ?_
    repeat' (first
      | (refine Goal.loud (o := ⟨some 15, _, _, _, _, _⟩) rfl ?_; apply Loud.call0; exact rfl; exact rfl; exact rfl; exact rfl; exact T.bod_11; exact (fun w' H => awake_ok w'))
      | (refine Goal.loud (o := ⟨some 19, _, _, _, _, _⟩) rfl ?_; apply Loud.call0; exact rfl; exact rfl; exact rfl; exact rfl; exact T.bod_12; exact (fun w' H => large_ok (tp := tp) (dn := dn) ao al ad co cl cd w'); rw [decide_eq_false hlg])
      | (refine Goal.loud (o := ⟨some 23, _, _, _, _, _⟩) rfl ?_; apply Loud.call0; exact rfl; exact rfl; exact rfl; exact rfl; exact T.bod_18; exact (fun w' H => rfits_ok (hT.keep H.mod) (hd.keep H.mod) (by omega) (by omega) (by omega)); rw [decide_eq_false hk])
      | (refine Goal.loud (o := ⟨some 3, _, _, _, _, _⟩) rfl ?_; first | refine Loud.boxA rfl rfl (fun b3 => ?_) | refine Loud.box1 rfl rfl rfl (fun b3 => ?_))
      | (refine Goal.loud (o := ⟨some 7, _, _, _, _, _⟩) rfl ?_; refine Loud.allocA rfl T.inf_25 (fun b7 => ?_))
      | (refine Goal.loud (o := ⟨some 27, _, _, _, _, _⟩) rfl ?_; refine Loud.buildSlice (cs := []) rfl T.slc_23 T.inf_45 rfl rfl (by decide) rfl rfl rfl (fun b27 => ?_))
      | (refine Goal.loud (o := ⟨some 36, _, _, _, _, _⟩) rfl ?_; first | refine Loud.makeSlice rfl T.slc_22 T.inf_4 rfl rfl (by decide) rfl rfl rfl rfl (by omega) (by omega) (by omega) (fun b36 => ?_) | refine Loud.makeSlice rfl T.slc_22 T.inf_4 rfl rfl (by decide) rfl rfl (Int.toNat_of_nonneg (by omega)).symm (Int.toNat_of_nonneg (by omega)).symm (by omega) (by omega) (by omega) (fun b36 => ?_))
      | (refine Goal.loud (o := ⟨some 10, _, _, _, _, _⟩) rfl ?_; refine Loud.allocA rfl T.inf_45 (fun b10 => ?_))
      | (apply G.move; exact rfl; exact rfl)
      | (apply G.assign; exact rfl; exact rfl)
      | refine Goal.seq (fun _ _ => ?_)
      | refine Goal.next (by assumption) ?_
      | refine Goal.lnil ?_
      | refine Goal.region ?_
      | refine Goal.skip ?_
      | refine Goal.block ?_
      | refine Goal.exit ?_
      | refine Goal.ret ?_
      | refine Goal.then_exit ?_
      | refine Goal.then_ret ?_
      | refine Goal.inBlock_exit ?_
      | refine Goal.inBlock_normal ?_
      | refine Goal.inBlock_ret ?_
      | refine Goal.inBlock_other rfl ?_
      | (apply Goal.condT; exact rfl)
      | (apply Goal.condF; exact rfl)
      | (refine Goal.condD rfl (fun hc => ?_) (fun hc => ?_) <;> first | (exfalso; omega) | contradiction | skip)
      | refine Goal.condB rfl (fun hc => ?_) (fun hc => ?_)
      | refine Goal.guardT rfl rfl ?_
      | refine Goal.guardF rfl rfl rfl rfl ?_
      | refine Goal.guardU rfl rfl rfl ?_
      | (refine Goal.guardD rfl rfl (fun hc => ?_) (fun hc => ?_) <;> first | (exfalso; omega) | contradiction | skip)
      | refine Goal.guardB rfl rfl (fun hc => ?_) (fun hc => ?_)
      | (apply G.fieldAddr; exact rfl; exact rfl; (first | exact T.fld_25_2 | exact T.fld_45_2))
      | (apply G.load; exact rfl; exact rfl; first | exact LoadOK.one (by first | exact T.one_3 | exact T.one_23) 0 rfl rfl | exact LoadOK.one (by first | exact T.one_3 | exact T.one_23) 1 rfl rfl | exact LoadOK.one (by first | exact T.one_3 | exact T.one_23) 2 rfl rfl | exact LoadOK.one (by first | exact T.one_3 | exact T.one_23) 3 rfl rfl | exact LoadOK.one (by first | exact T.one_3 | exact T.one_23) 4 rfl rfl | exact LoadOK.one (by first | exact T.one_3 | exact T.one_23) 5 rfl rfl | exact LoadOK.one (by first | exact T.one_3 | exact T.one_23) 6 rfl rfl | exact LoadOK.one (by first | exact T.one_3 | exact T.one_23) 7 rfl rfl | exact ag3 T.agg_25 0 rfl rfl rfl rfl | exact ag3 T.agg_25 1 rfl rfl rfl rfl | exact ag3 T.agg_25 2 rfl rfl rfl rfl | exact ag3 T.agg_25 3 rfl rfl rfl rfl | exact ag3 T.agg_25 4 rfl rfl rfl rfl | exact ag3 T.agg_25 5 rfl rfl rfl rfl | exact ag3 T.agg_25 6 rfl rfl rfl rfl | exact ag3 T.agg_25 7 rfl rfl rfl rfl | exact LoadOK.agg (vs := [_, _, _, _, _, _, _]) T.agg_45 0 rfl rfl ⟨rfl, rfl, rfl, rfl, rfl, rfl, rfl, trivial⟩ | exact LoadOK.agg (vs := [_, _, _, _, _, _, _]) T.agg_45 1 rfl rfl ⟨rfl, rfl, rfl, rfl, rfl, rfl, rfl, trivial⟩ | exact LoadOK.agg (vs := [_, _, _, _, _, _, _]) T.agg_45 2 rfl rfl ⟨rfl, rfl, rfl, rfl, rfl, rfl, rfl, trivial⟩ | exact LoadOK.agg (vs := [_, _, _, _, _, _, _]) T.agg_45 3 rfl rfl ⟨rfl, rfl, rfl, rfl, rfl, rfl, rfl, trivial⟩ | exact LoadOK.agg (vs := [_, _, _, _, _, _, _]) T.agg_45 4 rfl rfl ⟨rfl, rfl, rfl, rfl, rfl, rfl, rfl, trivial⟩ | exact LoadOK.agg (vs := [_, _, _, _, _, _, _]) T.agg_45 5 rfl rfl ⟨rfl, rfl, rfl, rfl, rfl, rfl, rfl, trivial⟩ | exact LoadOK.agg (vs := [_, _, _, _, _, _, _]) T.agg_45 6 rfl rfl ⟨rfl, rfl, rfl, rfl, rfl, rfl, rfl, trivial⟩ | exact LoadOK.agg (vs := [_, _, _, _, _, _, _]) T.agg_45 7 rfl rfl ⟨rfl, rfl, rfl, rfl, rfl, rfl, rfl, trivial⟩)
      | (apply G.pickT; exact rfl; exact rfl; exact rfl)
      | (apply G.pickF; exact rfl; exact rfl; exact rfl)
      | (apply G.lss; exact rfl; exact rfl; exact rfl)
      | (apply G.eql; exact rfl; exact rfl; exact rfl)
      | (apply G.add; exact rfl; exact rfl; exact rfl; exact IntWalk.i64_in _ (by omega))
      | (apply G.mul; exact rfl; exact rfl; exact rfl; exact IntWalk.i64_in _ (by omega))
      | (apply G.notT; exact rfl; exact rfl)
      | (apply G.notF; exact rfl; exact rfl)
      | (refine G.notD rfl rfl ?_)
      | (apply G.notB; exact rfl; exact rfl)
      | (apply G.extract; exact rfl; exact rfl; exact rfl)
      | (apply G.build (cs := [_, _]); exact rfl; exact T.lay_34; exact rfl; exact rfl)
      | (apply G.len; exact rfl; exact rfl; exact T.slc_23)
      | (refine G.indexAddr1 rfl (by first | exact T.slc_22 | exact T.slc_23) (by first | exact T.sz_3 | exact T.sz_4) rfl rfl _ rfl (by omega) ?_)
      | (refine G.indexAddr1 rfl (by first | exact T.slc_22 | exact T.slc_23) (by first | exact T.sz_3 | exact T.sz_4) rfl rfl _ (Int.toNat_of_nonneg (by omega)).symm (by omega) ?_)
      | (refine G.indexAddr rfl (by first | exact T.slc_22 | exact T.slc_23) T.sz_45 rfl rfl _ rfl (by omega) ?_)
      | (refine G.indexAddr rfl (by first | exact T.slc_22 | exact T.slc_23) T.sz_45 rfl rfl _ (Int.toNat_of_nonneg (by omega)).symm (by omega) ?_)
      | (refine G.indexAddrA rfl T.arr_34 (by first | exact T.sz_3 | exact T.sz_4 | exact T.sz_45) rfl rfl _ rfl (by omega) ?_)
      | (refine G.indexAddrA rfl T.arr_34 (by first | exact T.sz_3 | exact T.sz_4 | exact T.sz_45) rfl rfl _ (Int.toNat_of_nonneg (by omega)).symm (by omega) ?_)
      | (refine Goal.loud rfl ?_; refine Loud.store0 rfl rfl (by first | exact T.sz_4 | exact T.sz_23 | exact T.sz_25 | exact T.sz_34 | exact T.sz_45) rfl rfl rfl (by first | exact Nat.le_of_ble_eq_true rfl | exact Nat.le_refl _ | decide | (simp; omega)) rfl ?_)
      | (refine Goal.loud rfl ?_; refine Loud.store1 rfl rfl (by first | exact T.sz_4 | exact T.sz_23 | exact T.sz_25 | exact T.sz_34 | exact T.sz_45) rfl rfl rfl (by first | exact Nat.le_of_ble_eq_true rfl | exact Nat.le_refl _ | decide | (simp; omega)) rfl ?_)
      | (refine Goal.loud rfl ?_; refine Loud.store2 rfl rfl (by first | exact T.sz_4 | exact T.sz_23 | exact T.sz_25 | exact T.sz_34 | exact T.sz_45) rfl rfl rfl (by first | exact Nat.le_of_ble_eq_true rfl | exact Nat.le_refl _ | decide | (simp; omega)) rfl ?_)
      | (refine Goal.loud rfl ?_; refine Loud.store3 rfl rfl (by first | exact T.sz_4 | exact T.sz_23 | exact T.sz_25 | exact T.sz_34 | exact T.sz_45) rfl rfl rfl (by first | exact Nat.le_of_ble_eq_true rfl | exact Nat.le_refl _ | decide | (simp; omega)) rfl ?_)
      | (refine Goal.loud rfl ?_; refine Loud.store4 rfl rfl (by first | exact T.sz_4 | exact T.sz_23 | exact T.sz_25 | exact T.sz_34 | exact T.sz_45) rfl rfl rfl (by first | exact Nat.le_of_ble_eq_true rfl | exact Nat.le_refl _ | decide | (simp; omega)) rfl ?_)
      | (refine Goal.loud rfl ?_; refine Loud.store5 rfl rfl (by first | exact T.sz_4 | exact T.sz_23 | exact T.sz_25 | exact T.sz_34 | exact T.sz_45) rfl rfl rfl (by first | exact Nat.le_of_ble_eq_true rfl | exact Nat.le_refl _ | decide | (simp; omega)) rfl ?_)
      | (refine Goal.loud rfl ?_; refine Loud.store6 rfl rfl (by first | exact T.sz_4 | exact T.sz_23 | exact T.sz_25 | exact T.sz_34 | exact T.sz_45) rfl rfl rfl (by first | exact Nat.le_of_ble_eq_true rfl | exact Nat.le_refl _ | decide | (simp; omega)) rfl ?_)
      | (refine Goal.loud rfl ?_; refine Loud.store7 rfl rfl (by first | exact T.sz_4 | exact T.sz_23 | exact T.sz_25 | exact T.sz_34 | exact T.sz_45) rfl rfl rfl (by first | exact Nat.le_of_ble_eq_true rfl | exact Nat.le_refl _ | decide | (simp; omega)) rfl ?_))
    refine Goal.done (vs := [_]) (by first | exact .inl rfl | exact .inr rfl) Try.results10 ⟨rfl, trivial⟩ rfl (fun w' H => ⟨rfl, H.mod⟩)
  obtain ⟨ht, hf⟩ := id hk
  have hn := ht.n
  refine Goal.enter (args := [.agg #[.int .i64 tp.n, .slice ao tp.ov.length co, .slice al tp.ls.length cl], .slice ad dn.length cd, .int .i64 s]) Try.func10 rfl Try.ntmps10 rfl (St.nil w) ?_
  repeat' (first
    | (refine Goal.loud (o := ⟨some 15, _, _, _, _, _⟩) rfl ?_; apply Loud.call0; exact rfl; exact rfl; exact rfl; exact rfl; exact T.bod_11; exact (fun w' H => awake_ok w'))
    | (refine Goal.loud (o := ⟨some 19, _, _, _, _, _⟩) rfl ?_; apply Loud.call0; exact rfl; exact rfl; exact rfl; exact rfl; exact T.bod_12; exact (fun w' H => large_ok (tp := tp) (dn := dn) ao al ad co cl cd w'); rw [decide_eq_false hlg])
    | (refine Goal.loud (o := ⟨some 23, _, _, _, _, _⟩) rfl ?_; apply Loud.call0; exact rfl; exact rfl; exact rfl; exact rfl; exact T.bod_18; exact (fun w' H => rfits_ok (hT.keep H.mod) (hd.keep H.mod) (by omega) (by omega) (by omega)); rw [decide_eq_true hk])
    | (refine Goal.loud (o := ⟨some 30, _, _, _, _, _⟩) rfl ?_; refine Loud.appendRdE (l := tp.ls) (f := lkc) rfl T.slc_23 T.inf_45 rfl (by decide) lkc_len lkc_one rfl (Sl.full (n := 0) (vs := []) rfl) rfl (by omega) (by omega) (fun w' H => (hT.keep H.mod).ls) (fun _ h => h) ?_; intro v2 A2 hA2; rw [Nat.zero_add, List.nil_append] at hA2; obtain ⟨ad2, cp2, rfl⟩ := hA2.shape; refine Goal.reL (L' := _ :: _ :: A2) (fun _ h => h.perm (List.perm_append_comm (l₁ := A2) (l₂ := [_, _]))) ?_)
    | (refine Goal.loud (o := ⟨some 3, _, _, _, _, _⟩) rfl ?_; first | refine Loud.boxA rfl rfl (fun b3 => ?_) | refine Loud.box1 rfl rfl rfl (fun b3 => ?_))
    | (refine Goal.loud (o := ⟨some 7, _, _, _, _, _⟩) rfl ?_; refine Loud.allocA rfl T.inf_25 (fun b7 => ?_))
    | (refine Goal.loud (o := ⟨some 27, _, _, _, _, _⟩) rfl ?_; refine Loud.buildSlice (cs := []) rfl T.slc_23 T.inf_45 rfl rfl (by decide) rfl rfl rfl (fun b27 => ?_))
    | (refine Goal.loud (o := ⟨some 36, _, _, _, _, _⟩) rfl ?_; first | refine Loud.makeSlice rfl T.slc_22 T.inf_4 rfl rfl (by decide) rfl rfl rfl rfl (by omega) (by omega) (by omega) (fun b36 => ?_) | refine Loud.makeSlice rfl T.slc_22 T.inf_4 rfl rfl (by decide) rfl rfl (Int.toNat_of_nonneg (by omega)).symm (Int.toNat_of_nonneg (by omega)).symm (by omega) (by omega) (by omega) (fun b36 => ?_))
    | (refine Goal.loud (o := ⟨some 10, _, _, _, _, _⟩) rfl ?_; refine Loud.allocA rfl T.inf_45 (fun b10 => ?_))
    | (apply G.move; exact rfl; exact rfl)
    | (apply G.assign; exact rfl; exact rfl)
    | refine Goal.seq (fun _ _ => ?_)
    | refine Goal.next (by assumption) ?_
    | refine Goal.lnil ?_
    | refine Goal.region ?_
    | refine Goal.skip ?_
    | refine Goal.block ?_
    | refine Goal.exit ?_
    | refine Goal.ret ?_
    | refine Goal.then_exit ?_
    | refine Goal.then_ret ?_
    | refine Goal.inBlock_exit ?_
    | refine Goal.inBlock_normal ?_
    | refine Goal.inBlock_ret ?_
    | refine Goal.inBlock_other rfl ?_
    | (apply Goal.condT; exact rfl)
    | (apply Goal.condF; exact rfl)
    | (refine Goal.condD rfl (fun hc => ?_) (fun hc => ?_) <;> first | (exfalso; omega) | contradiction | skip)
    | refine Goal.condB rfl (fun hc => ?_) (fun hc => ?_)
    | refine Goal.guardT rfl rfl ?_
    | refine Goal.guardF rfl rfl rfl rfl ?_
    | refine Goal.guardU rfl rfl rfl ?_
    | (refine Goal.guardD rfl rfl (fun hc => ?_) (fun hc => ?_) <;> first | (exfalso; omega) | contradiction | skip)
    | refine Goal.guardB rfl rfl (fun hc => ?_) (fun hc => ?_)
    | (apply G.fieldAddr; exact rfl; exact rfl; (first | exact T.fld_25_2 | exact T.fld_45_2))
    | (apply G.load; exact rfl; exact rfl; first | exact LoadOK.one (by first | exact T.one_3 | exact T.one_23) 0 rfl rfl | exact LoadOK.one (by first | exact T.one_3 | exact T.one_23) 1 rfl rfl | exact LoadOK.one (by first | exact T.one_3 | exact T.one_23) 2 rfl rfl | exact LoadOK.one (by first | exact T.one_3 | exact T.one_23) 3 rfl rfl | exact LoadOK.one (by first | exact T.one_3 | exact T.one_23) 4 rfl rfl | exact LoadOK.one (by first | exact T.one_3 | exact T.one_23) 5 rfl rfl | exact LoadOK.one (by first | exact T.one_3 | exact T.one_23) 6 rfl rfl | exact LoadOK.one (by first | exact T.one_3 | exact T.one_23) 7 rfl rfl | exact ag3 T.agg_25 0 rfl rfl rfl rfl | exact ag3 T.agg_25 1 rfl rfl rfl rfl | exact ag3 T.agg_25 2 rfl rfl rfl rfl | exact ag3 T.agg_25 3 rfl rfl rfl rfl | exact ag3 T.agg_25 4 rfl rfl rfl rfl | exact ag3 T.agg_25 5 rfl rfl rfl rfl | exact ag3 T.agg_25 6 rfl rfl rfl rfl | exact ag3 T.agg_25 7 rfl rfl rfl rfl | exact LoadOK.agg (vs := [_, _, _, _, _, _, _]) T.agg_45 0 rfl rfl ⟨rfl, rfl, rfl, rfl, rfl, rfl, rfl, trivial⟩ | exact LoadOK.agg (vs := [_, _, _, _, _, _, _]) T.agg_45 1 rfl rfl ⟨rfl, rfl, rfl, rfl, rfl, rfl, rfl, trivial⟩ | exact LoadOK.agg (vs := [_, _, _, _, _, _, _]) T.agg_45 2 rfl rfl ⟨rfl, rfl, rfl, rfl, rfl, rfl, rfl, trivial⟩ | exact LoadOK.agg (vs := [_, _, _, _, _, _, _]) T.agg_45 3 rfl rfl ⟨rfl, rfl, rfl, rfl, rfl, rfl, rfl, trivial⟩ | exact LoadOK.agg (vs := [_, _, _, _, _, _, _]) T.agg_45 4 rfl rfl ⟨rfl, rfl, rfl, rfl, rfl, rfl, rfl, trivial⟩ | exact LoadOK.agg (vs := [_, _, _, _, _, _, _]) T.agg_45 5 rfl rfl ⟨rfl, rfl, rfl, rfl, rfl, rfl, rfl, trivial⟩ | exact LoadOK.agg (vs := [_, _, _, _, _, _, _]) T.agg_45 6 rfl rfl ⟨rfl, rfl, rfl, rfl, rfl, rfl, rfl, trivial⟩ | exact LoadOK.agg (vs := [_, _, _, _, _, _, _]) T.agg_45 7 rfl rfl ⟨rfl, rfl, rfl, rfl, rfl, rfl, rfl, trivial⟩)
    | (apply G.pickT; exact rfl; exact rfl; exact rfl)
    | (apply G.pickF; exact rfl; exact rfl; exact rfl)
    | (apply G.lss; exact rfl; exact rfl; exact rfl)
    | (apply G.eql; exact rfl; exact rfl; exact rfl)
    | (apply G.add; exact rfl; exact rfl; exact rfl; exact IntWalk.i64_in _ (by omega))
    | (apply G.mul; exact rfl; exact rfl; exact rfl; exact IntWalk.i64_in _ (by omega))
    | (apply G.notT; exact rfl; exact rfl)
    | (apply G.notF; exact rfl; exact rfl)
    | (refine G.notD rfl rfl ?_)
    | (apply G.notB; exact rfl; exact rfl)
    | (apply G.extract; exact rfl; exact rfl; exact rfl)
    | (apply G.build (cs := [_, _]); exact rfl; exact T.lay_34; exact rfl; exact rfl)
    | (apply G.len; exact rfl; exact rfl; exact T.slc_23)
    | (refine G.indexAddr1 rfl (by first | exact T.slc_22 | exact T.slc_23) (by first | exact T.sz_3 | exact T.sz_4) rfl rfl _ rfl (by omega) ?_)
    | (refine G.indexAddr1 rfl (by first | exact T.slc_22 | exact T.slc_23) (by first | exact T.sz_3 | exact T.sz_4) rfl rfl _ (Int.toNat_of_nonneg (by omega)).symm (by omega) ?_)
    | (refine G.indexAddr rfl (by first | exact T.slc_22 | exact T.slc_23) T.sz_45 rfl rfl _ rfl (by omega) ?_)
    | (refine G.indexAddr rfl (by first | exact T.slc_22 | exact T.slc_23) T.sz_45 rfl rfl _ (Int.toNat_of_nonneg (by omega)).symm (by omega) ?_)
    | (refine G.indexAddrA rfl T.arr_34 (by first | exact T.sz_3 | exact T.sz_4 | exact T.sz_45) rfl rfl _ rfl (by omega) ?_)
    | (refine G.indexAddrA rfl T.arr_34 (by first | exact T.sz_3 | exact T.sz_4 | exact T.sz_45) rfl rfl _ (Int.toNat_of_nonneg (by omega)).symm (by omega) ?_)
    | (refine Goal.loud rfl ?_; refine Loud.store0 rfl rfl (by first | exact T.sz_4 | exact T.sz_23 | exact T.sz_25 | exact T.sz_34 | exact T.sz_45) rfl rfl rfl (by first | exact Nat.le_of_ble_eq_true rfl | exact Nat.le_refl _ | decide | (simp; omega)) rfl ?_)
    | (refine Goal.loud rfl ?_; refine Loud.store1 rfl rfl (by first | exact T.sz_4 | exact T.sz_23 | exact T.sz_25 | exact T.sz_34 | exact T.sz_45) rfl rfl rfl (by first | exact Nat.le_of_ble_eq_true rfl | exact Nat.le_refl _ | decide | (simp; omega)) rfl ?_)
    | (refine Goal.loud rfl ?_; refine Loud.store2 rfl rfl (by first | exact T.sz_4 | exact T.sz_23 | exact T.sz_25 | exact T.sz_34 | exact T.sz_45) rfl rfl rfl (by first | exact Nat.le_of_ble_eq_true rfl | exact Nat.le_refl _ | decide | (simp; omega)) rfl ?_)
    | (refine Goal.loud rfl ?_; refine Loud.store3 rfl rfl (by first | exact T.sz_4 | exact T.sz_23 | exact T.sz_25 | exact T.sz_34 | exact T.sz_45) rfl rfl rfl (by first | exact Nat.le_of_ble_eq_true rfl | exact Nat.le_refl _ | decide | (simp; omega)) rfl ?_)
    | (refine Goal.loud rfl ?_; refine Loud.store4 rfl rfl (by first | exact T.sz_4 | exact T.sz_23 | exact T.sz_25 | exact T.sz_34 | exact T.sz_45) rfl rfl rfl (by first | exact Nat.le_of_ble_eq_true rfl | exact Nat.le_refl _ | decide | (simp; omega)) rfl ?_)
    | (refine Goal.loud rfl ?_; refine Loud.store5 rfl rfl (by first | exact T.sz_4 | exact T.sz_23 | exact T.sz_25 | exact T.sz_34 | exact T.sz_45) rfl rfl rfl (by first | exact Nat.le_of_ble_eq_true rfl | exact Nat.le_refl _ | decide | (simp; omega)) rfl ?_)
    | (refine Goal.loud rfl ?_; refine Loud.store6 rfl rfl (by first | exact T.sz_4 | exact T.sz_23 | exact T.sz_25 | exact T.sz_34 | exact T.sz_45) rfl rfl rfl (by first | exact Nat.le_of_ble_eq_true rfl | exact Nat.le_refl _ | decide | (simp; omega)) rfl ?_)
    | (refine Goal.loud rfl ?_; refine Loud.store7 rfl rfl (by first | exact T.sz_4 | exact T.sz_23 | exact T.sz_25 | exact T.sz_34 | exact T.sz_45) rfl rfl rfl (by first | exact Nat.le_of_ble_eq_true rfl | exact Nat.le_refl _ | decide | (simp; omega)) rfl ?_))
  refine Goal.loopP (X := RI) (fun x => [(1, .slice ad dn.length cd), (2, .int .i64 s), (3, .pointer (some ⟨b3, 0, none⟩)), (7, .pointer (some ⟨b7, 0, none⟩)), (8, .slice (some ⟨b36, 0, none⟩) (2 * (tp.ls.length : Int)).toNat (2 * (tp.ls.length : Int)).toNat), (38, .slice al tp.ls.length cl), (39, .int .i64 tp.ls.length), (40, .int .i64 x.i)])
    (fun x => (b36, .cells (bools x.ks).toArray 4) :: (b7, .cells #[.int .i64 tp.n, .slice ao tp.ov.length co, .slice ad2 tp.ls.length cp2] 25) :: (b3, .cells #[.int .i64 tp.n, .slice ao tp.ov.length co, .slice al tp.ls.length cl] 25) :: x.A)
    (fun x => (0 ≤ x.i ∧ x.i ≤ tp.ls.length) ∧ (x.ls.length = tp.ls.length ∧ ∀ j : Int, 0 ≤ j → j < tp.ls.length → el x.ls j = if j < x.i then swc (el tp.ls j) else el tp.ls j) ∧ (x.ks.length = (2 * (tp.ls.length : Int)).toNat ∧ ∀ b : Int, 0 ≤ b → b < 2 * x.i → ba x.ks b = ba dn (fl b)) ∧ Sl (.slice ad2 tp.ls.length cp2) 45 7 tp.ls.length (Els lkc x.ls) x.A) (fun x => (tp.ls.length - x.i).toNat) ⟨0, tp.ls, List.replicate (2 * (tp.ls.length : Int)).toNat false, A2⟩ ⟨rfl, rfl, rfl, rfl, rfl, rfl, rfl, rfl, trivial⟩ (fun _ h => by rw [← rep_bools]; exact h)
    ⟨by dsimp only; omega, ⟨rfl, fun j j0 j1 => by dsimp only; rw [if_neg (by omega)]⟩, ⟨by simp, fun b b0 b1 => by dsimp only at b1; omega⟩, hA2⟩ ?_
  rintro ⟨i, ls, mk, A⟩ ⟨hi, ⟨hll, hls⟩, ⟨hml, hmk⟩, hS⟩
  dsimp only at hi hll hls hml hmk hS ⊢
  by_cases h : i < tp.ls.length
  · obtain ⟨b, o, rfl, hkk⟩ := rd_els hT.ls (by omega)
    have hki := hkk i hi.1 h
    obtain ⟨bb, rest, capb, e, rfl, _, hcap1, hcap2⟩ := hS.pos (by omega)
    injection e with e1 e2 e3
    subst e1 e3
    have hcur : el ls i = el tp.ls i := by rw [hls i hi.1 h, if_neg (by omega)]
    have hset : ∀ j : Int, 0 ≤ j → j < tp.ls.length → el (ls.set i.toNat (swc (el tp.ls i))) j = if j < i + 1 then swc (el tp.ls j) else el tp.ls j := fun j j0 j1 => by
      rw [el_set (by omega) (by omega)]
      by_cases e : i = j
      · subst e; rw [if_pos rfl, if_pos (by omega)]
      · rw [if_neg e, hls j j0 j1]
        by_cases hj : j < i
        · rw [if_pos hj, if_pos (by omega)]
        · rw [if_neg hj, if_neg (by omega)]
    have hd1 : dn.length = 0 ∨ (0 ≤ 2 * i + 1 ∧ 2 * i + 1 < dn.length) := by
      rcases hf with e | e
      · exact .inl e
      · exact .inr (by omega)
    have hd2 : dn.length = 0 ∨ (0 ≤ 2 * i ∧ 2 * i < dn.length) := by
      rcases hf with e | e
      · exact .inl e
      · exact .inr (by omega)
    have hml2 : (mk.set (2 * i).toNat (!(!ba dn (2 * i + 1)))).length = (2 * (tp.ls.length : Int)).toNat := by rw [List.length_set]; exact hml
    have hmk2 : ∀ b : Int, 0 ≤ b → b < 2 * (i + 1) → ba ((mk.set (2 * i).toNat (!(!ba dn (2 * i + 1)))).set (2 * i + 1).toNat (!(!ba dn (2 * i)))) b = ba dn (fl b) := fun b b0 b1 => by
      rw [ba_set (by omega) b0, ba_set (by omega) b0]
      by_cases e : b = 2 * i + 1
      · rw [if_pos e, e, Bool.not_not]; congr 1; unfold fl; omega
      · rw [if_neg e]
        by_cases e2 : b = 2 * i
        · rw [if_pos e2, e2, Bool.not_not]; congr 1; unfold fl; omega
        · rw [if_neg e2]; exact hmk b b0 (by omega)
    generalize hli : el tp.ls i = l at hki hcur hset
    repeat' (first
      | (refine Goal.loud (o := ⟨some 68, _, _, _, _, _⟩) rfl ?_; apply Loud.call0; exact rfl; exact rfl; exact rfl; exact rfl; exact T.bod_20; exact (fun w' H => rup_ok (hd.keep H.mod) hd1 (by omega)))
      | (refine Goal.loud (o := ⟨some 73, _, _, _, _, _⟩) rfl ?_; apply Loud.call0; exact rfl; exact rfl; exact rfl; exact rfl; exact T.bod_20; exact (fun w' H => rup_ok (hd.keep H.mod) hd2 (by omega)))
      | (refine Goal.loud (o := ⟨some 3, _, _, _, _, _⟩) rfl ?_; first | refine Loud.boxA rfl rfl (fun b3 => ?_) | refine Loud.box1 rfl rfl rfl (fun b3 => ?_))
      | (refine Goal.loud (o := ⟨some 7, _, _, _, _, _⟩) rfl ?_; refine Loud.allocA rfl T.inf_25 (fun b7 => ?_))
      | (refine Goal.loud (o := ⟨some 27, _, _, _, _, _⟩) rfl ?_; refine Loud.buildSlice (cs := []) rfl T.slc_23 T.inf_45 rfl rfl (by decide) rfl rfl rfl (fun b27 => ?_))
      | (refine Goal.loud (o := ⟨some 36, _, _, _, _, _⟩) rfl ?_; first | refine Loud.makeSlice rfl T.slc_22 T.inf_4 rfl rfl (by decide) rfl rfl rfl rfl (by omega) (by omega) (by omega) (fun b36 => ?_) | refine Loud.makeSlice rfl T.slc_22 T.inf_4 rfl rfl (by decide) rfl rfl (Int.toNat_of_nonneg (by omega)).symm (Int.toNat_of_nonneg (by omega)).symm (by omega) (by omega) (by omega) (fun b36 => ?_))
      | (refine Goal.loud (o := ⟨some 10, _, _, _, _, _⟩) rfl ?_; refine Loud.allocA rfl T.inf_45 (fun b10 => ?_))
      | (refine Goal.loud rfl ?_; refine Loud.store4 rfl rfl T.sz_34 rfl rfl rfl (by rw [List.size_toArray, List.length_append, Els_len lkc_len]; omega) (wr_swc (by omega) hcur) ?_)
      | (apply G.move; exact rfl; exact rfl)
      | (apply G.assign; exact rfl; exact rfl)
      | refine Goal.seq (fun _ _ => ?_)
      | refine Goal.next (by assumption) ?_
      | refine Goal.lnil ?_
      | refine Goal.region ?_
      | refine Goal.skip ?_
      | refine Goal.block ?_
      | refine Goal.exit ?_
      | refine Goal.ret ?_
      | refine Goal.then_exit ?_
      | refine Goal.then_ret ?_
      | refine Goal.inBlock_exit ?_
      | refine Goal.inBlock_normal ?_
      | refine Goal.inBlock_ret ?_
      | refine Goal.inBlock_other rfl ?_
      | (apply Goal.condT; exact rfl)
      | (apply Goal.condF; exact rfl)
      | (refine Goal.condD rfl (fun hc => ?_) (fun hc => ?_) <;> first | (exfalso; omega) | contradiction | skip)
      | refine Goal.condB rfl (fun hc => ?_) (fun hc => ?_)
      | refine Goal.guardT rfl rfl ?_
      | refine Goal.guardF rfl rfl rfl rfl ?_
      | refine Goal.guardU rfl rfl rfl ?_
      | (refine Goal.guardD rfl rfl (fun hc => ?_) (fun hc => ?_) <;> first | (exfalso; omega) | contradiction | skip)
      | refine Goal.guardB rfl rfl (fun hc => ?_) (fun hc => ?_)
      | (apply G.fieldAddr; exact rfl; exact rfl; (first | exact T.fld_25_2 | exact T.fld_45_2))
      | (apply G.load; exact rfl; exact rfl; first | exact LoadOK.oldAgg (vs := [.int .i64 l.a, .int .i64 l.b, .int .i64 l.c0, .int .i64 l.c1, .int .i64 l.cap, .int .i64 l.dl, .int .i64 l.gp]) T.agg_45 rfl (fun j v hv => hki j v hv) (by simp) | exact LoadOK.one (by first | exact T.one_3 | exact T.one_23) 0 rfl rfl | exact LoadOK.one (by first | exact T.one_3 | exact T.one_23) 1 rfl rfl | exact LoadOK.one (by first | exact T.one_3 | exact T.one_23) 2 rfl rfl | exact LoadOK.one (by first | exact T.one_3 | exact T.one_23) 3 rfl rfl | exact LoadOK.one (by first | exact T.one_3 | exact T.one_23) 4 rfl rfl | exact LoadOK.one (by first | exact T.one_3 | exact T.one_23) 5 rfl rfl | exact LoadOK.one (by first | exact T.one_3 | exact T.one_23) 6 rfl rfl | exact LoadOK.one (by first | exact T.one_3 | exact T.one_23) 7 rfl rfl | exact ag3 T.agg_25 0 rfl rfl rfl rfl | exact ag3 T.agg_25 1 rfl rfl rfl rfl | exact ag3 T.agg_25 2 rfl rfl rfl rfl | exact ag3 T.agg_25 3 rfl rfl rfl rfl | exact ag3 T.agg_25 4 rfl rfl rfl rfl | exact ag3 T.agg_25 5 rfl rfl rfl rfl | exact ag3 T.agg_25 6 rfl rfl rfl rfl | exact ag3 T.agg_25 7 rfl rfl rfl rfl | exact LoadOK.agg (vs := [_, _, _, _, _, _, _]) T.agg_45 0 rfl rfl ⟨rfl, rfl, rfl, rfl, rfl, rfl, rfl, trivial⟩ | exact LoadOK.agg (vs := [_, _, _, _, _, _, _]) T.agg_45 1 rfl rfl ⟨rfl, rfl, rfl, rfl, rfl, rfl, rfl, trivial⟩ | exact LoadOK.agg (vs := [_, _, _, _, _, _, _]) T.agg_45 2 rfl rfl ⟨rfl, rfl, rfl, rfl, rfl, rfl, rfl, trivial⟩ | exact LoadOK.agg (vs := [_, _, _, _, _, _, _]) T.agg_45 3 rfl rfl ⟨rfl, rfl, rfl, rfl, rfl, rfl, rfl, trivial⟩ | exact LoadOK.agg (vs := [_, _, _, _, _, _, _]) T.agg_45 4 rfl rfl ⟨rfl, rfl, rfl, rfl, rfl, rfl, rfl, trivial⟩ | exact LoadOK.agg (vs := [_, _, _, _, _, _, _]) T.agg_45 5 rfl rfl ⟨rfl, rfl, rfl, rfl, rfl, rfl, rfl, trivial⟩ | exact LoadOK.agg (vs := [_, _, _, _, _, _, _]) T.agg_45 6 rfl rfl ⟨rfl, rfl, rfl, rfl, rfl, rfl, rfl, trivial⟩ | exact LoadOK.agg (vs := [_, _, _, _, _, _, _]) T.agg_45 7 rfl rfl ⟨rfl, rfl, rfl, rfl, rfl, rfl, rfl, trivial⟩)
      | (apply G.pickT; exact rfl; exact rfl; exact rfl)
      | (apply G.pickF; exact rfl; exact rfl; exact rfl)
      | (apply G.lss; exact rfl; exact rfl; exact rfl)
      | (apply G.eql; exact rfl; exact rfl; exact rfl)
      | (apply G.add; exact rfl; exact rfl; exact rfl; exact IntWalk.i64_in _ (by omega))
      | (apply G.mul; exact rfl; exact rfl; exact rfl; exact IntWalk.i64_in _ (by omega))
      | (apply G.notT; exact rfl; exact rfl)
      | (apply G.notF; exact rfl; exact rfl)
      | (refine G.notD rfl rfl ?_)
      | (apply G.notB; exact rfl; exact rfl)
      | (apply G.extract; exact rfl; exact rfl; exact rfl)
      | (apply G.build (cs := [_, _]); exact rfl; exact T.lay_34; exact rfl; exact rfl)
      | (apply G.len; exact rfl; exact rfl; exact T.slc_23)
      | (refine G.indexAddr1 rfl (by first | exact T.slc_22 | exact T.slc_23) (by first | exact T.sz_3 | exact T.sz_4) rfl rfl _ rfl (by omega) ?_)
      | (refine G.indexAddr1 rfl (by first | exact T.slc_22 | exact T.slc_23) (by first | exact T.sz_3 | exact T.sz_4) rfl rfl _ (Int.toNat_of_nonneg (by omega)).symm (by omega) ?_)
      | (refine G.indexAddr rfl (by first | exact T.slc_22 | exact T.slc_23) T.sz_45 rfl rfl _ rfl (by omega) ?_)
      | (refine G.indexAddr rfl (by first | exact T.slc_22 | exact T.slc_23) T.sz_45 rfl rfl _ (Int.toNat_of_nonneg (by omega)).symm (by omega) ?_)
      | (refine G.indexAddrA rfl T.arr_34 (by first | exact T.sz_3 | exact T.sz_4 | exact T.sz_45) rfl rfl _ rfl (by omega) ?_)
      | (refine G.indexAddrA rfl T.arr_34 (by first | exact T.sz_3 | exact T.sz_4 | exact T.sz_45) rfl rfl _ (Int.toNat_of_nonneg (by omega)).symm (by omega) ?_)
      | (refine Goal.loud rfl ?_; refine Loud.store1 rfl rfl T.sz_4 rfl rfl rfl (by rw [List.size_toArray, bools_len]; omega) (wr_bools (by omega)) ?_)
      | (refine Goal.loud rfl ?_; refine Loud.store0 rfl rfl (by first | exact T.sz_4 | exact T.sz_23 | exact T.sz_25 | exact T.sz_34 | exact T.sz_45) rfl rfl rfl (by first | exact Nat.le_of_ble_eq_true rfl | exact Nat.le_refl _ | decide | (simp; omega)) rfl ?_)
      | (refine Goal.loud rfl ?_; refine Loud.store1 rfl rfl (by first | exact T.sz_4 | exact T.sz_23 | exact T.sz_25 | exact T.sz_34 | exact T.sz_45) rfl rfl rfl (by first | exact Nat.le_of_ble_eq_true rfl | exact Nat.le_refl _ | decide | (simp; omega)) rfl ?_)
      | (refine Goal.loud rfl ?_; refine Loud.store2 rfl rfl (by first | exact T.sz_4 | exact T.sz_23 | exact T.sz_25 | exact T.sz_34 | exact T.sz_45) rfl rfl rfl (by first | exact Nat.le_of_ble_eq_true rfl | exact Nat.le_refl _ | decide | (simp; omega)) rfl ?_)
      | (refine Goal.loud rfl ?_; refine Loud.store3 rfl rfl (by first | exact T.sz_4 | exact T.sz_23 | exact T.sz_25 | exact T.sz_34 | exact T.sz_45) rfl rfl rfl (by first | exact Nat.le_of_ble_eq_true rfl | exact Nat.le_refl _ | decide | (simp; omega)) rfl ?_)
      | (refine Goal.loud rfl ?_; refine Loud.store4 rfl rfl (by first | exact T.sz_4 | exact T.sz_23 | exact T.sz_25 | exact T.sz_34 | exact T.sz_45) rfl rfl rfl (by first | exact Nat.le_of_ble_eq_true rfl | exact Nat.le_refl _ | decide | (simp; omega)) rfl ?_)
      | (refine Goal.loud rfl ?_; refine Loud.store5 rfl rfl (by first | exact T.sz_4 | exact T.sz_23 | exact T.sz_25 | exact T.sz_34 | exact T.sz_45) rfl rfl rfl (by first | exact Nat.le_of_ble_eq_true rfl | exact Nat.le_refl _ | decide | (simp; omega)) rfl ?_)
      | (refine Goal.loud rfl ?_; refine Loud.store6 rfl rfl (by first | exact T.sz_4 | exact T.sz_23 | exact T.sz_25 | exact T.sz_34 | exact T.sz_45) rfl rfl rfl (by first | exact Nat.le_of_ble_eq_true rfl | exact Nat.le_refl _ | decide | (simp; omega)) rfl ?_)
      | (refine Goal.loud rfl ?_; refine Loud.store7 rfl rfl (by first | exact T.sz_4 | exact T.sz_23 | exact T.sz_25 | exact T.sz_34 | exact T.sz_45) rfl rfl rfl (by first | exact Nat.le_of_ble_eq_true rfl | exact Nat.le_refl _ | decide | (simp; omega)) rfl ?_))
    have hlen2 : (ls.set i.toNat (swc l)).length = tp.ls.length := by rw [List.length_set]; exact hll
    refine Goal.again ⟨i + 1, ls.set i.toNat (swc l), (mk.set (2 * i).toNat (!(!ba dn (2 * i + 1)))).set (2 * i + 1).toNat (!(!ba dn (2 * i))), [(bb, .cells (Els lkc (ls.set i.toNat (swc l)) ++ rest).toArray 45)]⟩ ⟨by dsimp only; omega, ⟨hlen2, hset⟩, ⟨by rw [List.length_set]; exact hml2, hmk2⟩, Sl.mk (by dsimp only; rw [Els_len lkc_len]; omega) (by dsimp only; rw [Els_len lkc_len] at hcap1 ⊢; omega) (by omega)⟩ (by dsimp only; omega) ⟨rfl, rfl, rfl, rfl, rfl, rfl, rfl, rfl, trivial⟩ (fun _ h => St.drop1 h)
  · obtain rfl : i = tp.ls.length := by omega
    have hmb : ∀ a, 0 ≤ a → a < tp.arcs → ba mk a = ba dn (fl a) := fun a a0 a1 => hmk a a0 (by omega)
    have hlse : ls = tp.ls.map swc := el_ext (by rw [List.length_map]; exact hll) fun j j0 j1 => by rw [hls j j0 (by omega), if_pos (by omega), el_swc]
    have hfb : Fit (bk tp) mk := .inr (by rw [bk_arcs]; omega)
    subst hlse
    have hTb : ∀ w', St w [] w' ((b36, .cells (bools mk).toArray 4) :: (b7, .cells #[.int .i64 tp.n, .slice ao tp.ov.length co, .slice ad2 tp.ls.length cp2] 25) :: (b3, .cells #[.int .i64 tp.n, .slice ao tp.ov.length co, .slice al tp.ls.length cl] 25) :: A) → TopR w' (.slice ao tp.ov.length co) (.slice ad2 tp.ls.length cp2) (bk tp) := fun w' H => ⟨(hT.keep H.mod).ov, RdE.of_sl (f := lkc) (l := tp.ls.map swc) (A := A) (E := 45) lkc_len (by rw [List.length_map]; exact hS) (Own.mk fun q h => H.own.get (by simp [h]))⟩
    by_cases hs : 0 ≤ s ∧ s < tp.n
    · skip
      repeat' (first
        | (refine Goal.loud (o := ⟨some 82, _, _, _, _, _⟩) rfl ?_; apply Loud.callN; exact rfl; exact rfl; exact rfl; exact rfl; exact T.bod_23; exact (fun w' H => from_ok (hT.keep H.mod) (hd.keep H.mod) ht hf hs); rintro ⟨bl, l⟩ hl; dsimp only at hl ⊢)
        | (refine Goal.loud (o := ⟨some 89, _, _, _, _, _⟩) rfl ?_; apply Loud.callN; exact rfl; exact rfl; exact rfl; exact rfl; exact T.bod_13; exact (fun w' H => dist_ok (tp := bk tp) (dn := mk) (hTb _ (H.sub (by simp))) (rdb H (l := mk) (b := b36) (E := 4) (by simp) hml) (bk_ok ht) hfb hs); rintro ⟨bm, m⟩ hm; dsimp only at hm ⊢; rw [bk_gr hmb] at hm; obtain rfl := DL.one (GF.ok ht) hl hm; have hll := hl.len)
        | (refine Goal.loud (o := ⟨some 98, _, _, _, _, _⟩) rfl ?_; apply Loud.call0; exact rfl; exact rfl; exact rfl; exact rfl; exact T.bod_15; exact (fun w' H => same_yes (l := l) (rdm H (l := l) (b := bl) (E := 3) (by simp)) (rdm H (l := l) (b := bm) (E := 3) (by simp)) (by omega)))
        | (refine Goal.loud (o := ⟨some 3, _, _, _, _, _⟩) rfl ?_; first | refine Loud.boxA rfl rfl (fun b3 => ?_) | refine Loud.box1 rfl rfl rfl (fun b3 => ?_))
        | (refine Goal.loud (o := ⟨some 7, _, _, _, _, _⟩) rfl ?_; refine Loud.allocA rfl T.inf_25 (fun b7 => ?_))
        | (refine Goal.loud (o := ⟨some 27, _, _, _, _, _⟩) rfl ?_; refine Loud.buildSlice (cs := []) rfl T.slc_23 T.inf_45 rfl rfl (by decide) rfl rfl rfl (fun b27 => ?_))
        | (refine Goal.loud (o := ⟨some 36, _, _, _, _, _⟩) rfl ?_; first | refine Loud.makeSlice rfl T.slc_22 T.inf_4 rfl rfl (by decide) rfl rfl rfl rfl (by omega) (by omega) (by omega) (fun b36 => ?_) | refine Loud.makeSlice rfl T.slc_22 T.inf_4 rfl rfl (by decide) rfl rfl (Int.toNat_of_nonneg (by omega)).symm (Int.toNat_of_nonneg (by omega)).symm (by omega) (by omega) (by omega) (fun b36 => ?_))
        | (refine Goal.loud (o := ⟨some 10, _, _, _, _, _⟩) rfl ?_; refine Loud.allocA rfl T.inf_45 (fun b10 => ?_))
        | (apply G.move; exact rfl; exact rfl)
        | (apply G.assign; exact rfl; exact rfl)
        | refine Goal.seq (fun _ _ => ?_)
        | refine Goal.next (by assumption) ?_
        | refine Goal.lnil ?_
        | refine Goal.region ?_
        | refine Goal.skip ?_
        | refine Goal.block ?_
        | refine Goal.exit ?_
        | refine Goal.ret ?_
        | refine Goal.then_exit ?_
        | refine Goal.then_ret ?_
        | refine Goal.inBlock_exit ?_
        | refine Goal.inBlock_normal ?_
        | refine Goal.inBlock_ret ?_
        | refine Goal.inBlock_other rfl ?_
        | (apply Goal.condT; exact rfl)
        | (apply Goal.condF; exact rfl)
        | (refine Goal.condD rfl (fun hc => ?_) (fun hc => ?_) <;> first | (exfalso; omega) | contradiction | skip)
        | refine Goal.condB rfl (fun hc => ?_) (fun hc => ?_)
        | refine Goal.guardT rfl rfl ?_
        | refine Goal.guardF rfl rfl rfl rfl ?_
        | refine Goal.guardU rfl rfl rfl ?_
        | (refine Goal.guardD rfl rfl (fun hc => ?_) (fun hc => ?_) <;> first | (exfalso; omega) | contradiction | skip)
        | refine Goal.guardB rfl rfl (fun hc => ?_) (fun hc => ?_)
        | (apply G.fieldAddr; exact rfl; exact rfl; (first | exact T.fld_25_2 | exact T.fld_45_2))
        | (apply G.load; exact rfl; exact rfl; first | exact LoadOK.one (by first | exact T.one_3 | exact T.one_23) 0 rfl rfl | exact LoadOK.one (by first | exact T.one_3 | exact T.one_23) 1 rfl rfl | exact LoadOK.one (by first | exact T.one_3 | exact T.one_23) 2 rfl rfl | exact LoadOK.one (by first | exact T.one_3 | exact T.one_23) 3 rfl rfl | exact LoadOK.one (by first | exact T.one_3 | exact T.one_23) 4 rfl rfl | exact LoadOK.one (by first | exact T.one_3 | exact T.one_23) 5 rfl rfl | exact LoadOK.one (by first | exact T.one_3 | exact T.one_23) 6 rfl rfl | exact LoadOK.one (by first | exact T.one_3 | exact T.one_23) 7 rfl rfl | exact ag3 T.agg_25 0 rfl rfl rfl rfl | exact ag3 T.agg_25 1 rfl rfl rfl rfl | exact ag3 T.agg_25 2 rfl rfl rfl rfl | exact ag3 T.agg_25 3 rfl rfl rfl rfl | exact ag3 T.agg_25 4 rfl rfl rfl rfl | exact ag3 T.agg_25 5 rfl rfl rfl rfl | exact ag3 T.agg_25 6 rfl rfl rfl rfl | exact ag3 T.agg_25 7 rfl rfl rfl rfl | exact LoadOK.agg (vs := [_, _, _, _, _, _, _]) T.agg_45 0 rfl rfl ⟨rfl, rfl, rfl, rfl, rfl, rfl, rfl, trivial⟩ | exact LoadOK.agg (vs := [_, _, _, _, _, _, _]) T.agg_45 1 rfl rfl ⟨rfl, rfl, rfl, rfl, rfl, rfl, rfl, trivial⟩ | exact LoadOK.agg (vs := [_, _, _, _, _, _, _]) T.agg_45 2 rfl rfl ⟨rfl, rfl, rfl, rfl, rfl, rfl, rfl, trivial⟩ | exact LoadOK.agg (vs := [_, _, _, _, _, _, _]) T.agg_45 3 rfl rfl ⟨rfl, rfl, rfl, rfl, rfl, rfl, rfl, trivial⟩ | exact LoadOK.agg (vs := [_, _, _, _, _, _, _]) T.agg_45 4 rfl rfl ⟨rfl, rfl, rfl, rfl, rfl, rfl, rfl, trivial⟩ | exact LoadOK.agg (vs := [_, _, _, _, _, _, _]) T.agg_45 5 rfl rfl ⟨rfl, rfl, rfl, rfl, rfl, rfl, rfl, trivial⟩ | exact LoadOK.agg (vs := [_, _, _, _, _, _, _]) T.agg_45 6 rfl rfl ⟨rfl, rfl, rfl, rfl, rfl, rfl, rfl, trivial⟩ | exact LoadOK.agg (vs := [_, _, _, _, _, _, _]) T.agg_45 7 rfl rfl ⟨rfl, rfl, rfl, rfl, rfl, rfl, rfl, trivial⟩)
        | (apply G.pickT; exact rfl; exact rfl; exact rfl)
        | (apply G.pickF; exact rfl; exact rfl; exact rfl)
        | (apply G.lss; exact rfl; exact rfl; exact rfl)
        | (apply G.eql; exact rfl; exact rfl; exact rfl)
        | (apply G.add; exact rfl; exact rfl; exact rfl; exact IntWalk.i64_in _ (by omega))
        | (apply G.mul; exact rfl; exact rfl; exact rfl; exact IntWalk.i64_in _ (by omega))
        | (apply G.notT; exact rfl; exact rfl)
        | (apply G.notF; exact rfl; exact rfl)
        | (refine G.notD rfl rfl ?_)
        | (apply G.notB; exact rfl; exact rfl)
        | (apply G.extract; exact rfl; exact rfl; exact rfl)
        | (apply G.build (cs := [_, _]); exact rfl; exact T.lay_34; exact rfl; exact rfl)
        | (apply G.len; exact rfl; exact rfl; exact T.slc_23)
        | (refine G.indexAddr1 rfl (by first | exact T.slc_22 | exact T.slc_23) (by first | exact T.sz_3 | exact T.sz_4) rfl rfl _ rfl (by omega) ?_)
        | (refine G.indexAddr1 rfl (by first | exact T.slc_22 | exact T.slc_23) (by first | exact T.sz_3 | exact T.sz_4) rfl rfl _ (Int.toNat_of_nonneg (by omega)).symm (by omega) ?_)
        | (refine G.indexAddr rfl (by first | exact T.slc_22 | exact T.slc_23) T.sz_45 rfl rfl _ rfl (by omega) ?_)
        | (refine G.indexAddr rfl (by first | exact T.slc_22 | exact T.slc_23) T.sz_45 rfl rfl _ (Int.toNat_of_nonneg (by omega)).symm (by omega) ?_)
        | (refine G.indexAddrA rfl T.arr_34 (by first | exact T.sz_3 | exact T.sz_4 | exact T.sz_45) rfl rfl _ rfl (by omega) ?_)
        | (refine G.indexAddrA rfl T.arr_34 (by first | exact T.sz_3 | exact T.sz_4 | exact T.sz_45) rfl rfl _ (Int.toNat_of_nonneg (by omega)).symm (by omega) ?_)
        | (refine Goal.loud rfl ?_; refine Loud.store0 rfl rfl (by first | exact T.sz_4 | exact T.sz_23 | exact T.sz_25 | exact T.sz_34 | exact T.sz_45) rfl rfl rfl (by first | exact Nat.le_of_ble_eq_true rfl | exact Nat.le_refl _ | decide | (simp; omega)) rfl ?_)
        | (refine Goal.loud rfl ?_; refine Loud.store1 rfl rfl (by first | exact T.sz_4 | exact T.sz_23 | exact T.sz_25 | exact T.sz_34 | exact T.sz_45) rfl rfl rfl (by first | exact Nat.le_of_ble_eq_true rfl | exact Nat.le_refl _ | decide | (simp; omega)) rfl ?_)
        | (refine Goal.loud rfl ?_; refine Loud.store2 rfl rfl (by first | exact T.sz_4 | exact T.sz_23 | exact T.sz_25 | exact T.sz_34 | exact T.sz_45) rfl rfl rfl (by first | exact Nat.le_of_ble_eq_true rfl | exact Nat.le_refl _ | decide | (simp; omega)) rfl ?_)
        | (refine Goal.loud rfl ?_; refine Loud.store3 rfl rfl (by first | exact T.sz_4 | exact T.sz_23 | exact T.sz_25 | exact T.sz_34 | exact T.sz_45) rfl rfl rfl (by first | exact Nat.le_of_ble_eq_true rfl | exact Nat.le_refl _ | decide | (simp; omega)) rfl ?_)
        | (refine Goal.loud rfl ?_; refine Loud.store4 rfl rfl (by first | exact T.sz_4 | exact T.sz_23 | exact T.sz_25 | exact T.sz_34 | exact T.sz_45) rfl rfl rfl (by first | exact Nat.le_of_ble_eq_true rfl | exact Nat.le_refl _ | decide | (simp; omega)) rfl ?_)
        | (refine Goal.loud rfl ?_; refine Loud.store5 rfl rfl (by first | exact T.sz_4 | exact T.sz_23 | exact T.sz_25 | exact T.sz_34 | exact T.sz_45) rfl rfl rfl (by first | exact Nat.le_of_ble_eq_true rfl | exact Nat.le_refl _ | decide | (simp; omega)) rfl ?_)
        | (refine Goal.loud rfl ?_; refine Loud.store6 rfl rfl (by first | exact T.sz_4 | exact T.sz_23 | exact T.sz_25 | exact T.sz_34 | exact T.sz_45) rfl rfl rfl (by first | exact Nat.le_of_ble_eq_true rfl | exact Nat.le_refl _ | decide | (simp; omega)) rfl ?_)
        | (refine Goal.loud rfl ?_; refine Loud.store7 rfl rfl (by first | exact T.sz_4 | exact T.sz_23 | exact T.sz_25 | exact T.sz_34 | exact T.sz_45) rfl rfl rfl (by first | exact Nat.le_of_ble_eq_true rfl | exact Nat.le_refl _ | decide | (simp; omega)) rfl ?_))
      refine Goal.done (vs := [_]) (by first | exact .inl rfl | exact .inr rfl) Try.results10 ⟨rfl, trivial⟩ rfl (fun w' H => ⟨rfl, H.mod⟩)
    · have hc1 : chk tp dn [s] = 2 := by
        unfold chk
        rw [if_pos ⟨ht, hf⟩, if_neg (fun h => hs (h s (by simp)))]
      have hc2 : chk (bk tp) mk [s] = 2 := by
        unfold chk
        rw [if_pos ⟨bk_ok ht, hfb⟩, if_neg (fun h => hs (h s (by simp)))]
      have hovl := ht.ov
      repeat' (first
        | (refine Goal.loud (o := ⟨some 82, _, _, _, _, _⟩) rfl ?_; apply Loud.call0; exact rfl; exact rfl; exact rfl; exact rfl; exact T.bod_23; exact (fun w' H => from_bad (d := s) (hT.keep H.mod) (hd.keep H.mod) (by omega) (by omega) (by omega)); rw [hc1])
        | (refine Goal.loud (o := ⟨some 89, _, _, _, _, _⟩) rfl ?_; apply Loud.call0; exact rfl; exact rfl; exact rfl; exact rfl; exact T.bod_13; exact (fun w' H => dist_bad (tp := bk tp) (dn := mk) (d := s) (hTb _ (H.sub (by simp))) (rdb H (l := mk) (b := b36) (E := 4) (by simp) hml) (by unfold bk; rw [List.length_map]; omega) (by unfold bk; dsimp only; omega) (by omega)); rw [hc2])
        | (refine Goal.loud (o := ⟨some 98, _, _, _, _, _⟩) rfl ?_; apply Loud.call0; exact rfl; exact rfl; exact rfl; exact rfl; exact T.bod_15; exact (fun w' H => same_yes (l := []) (RdV.nil w') (RdV.nil w') (by decide)))
        | (refine Goal.loud (o := ⟨some 3, _, _, _, _, _⟩) rfl ?_; first | refine Loud.boxA rfl rfl (fun b3 => ?_) | refine Loud.box1 rfl rfl rfl (fun b3 => ?_))
        | (refine Goal.loud (o := ⟨some 7, _, _, _, _, _⟩) rfl ?_; refine Loud.allocA rfl T.inf_25 (fun b7 => ?_))
        | (refine Goal.loud (o := ⟨some 27, _, _, _, _, _⟩) rfl ?_; refine Loud.buildSlice (cs := []) rfl T.slc_23 T.inf_45 rfl rfl (by decide) rfl rfl rfl (fun b27 => ?_))
        | (refine Goal.loud (o := ⟨some 36, _, _, _, _, _⟩) rfl ?_; first | refine Loud.makeSlice rfl T.slc_22 T.inf_4 rfl rfl (by decide) rfl rfl rfl rfl (by omega) (by omega) (by omega) (fun b36 => ?_) | refine Loud.makeSlice rfl T.slc_22 T.inf_4 rfl rfl (by decide) rfl rfl (Int.toNat_of_nonneg (by omega)).symm (Int.toNat_of_nonneg (by omega)).symm (by omega) (by omega) (by omega) (fun b36 => ?_))
        | (refine Goal.loud (o := ⟨some 10, _, _, _, _, _⟩) rfl ?_; refine Loud.allocA rfl T.inf_45 (fun b10 => ?_))
        | (apply G.move; exact rfl; exact rfl)
        | (apply G.assign; exact rfl; exact rfl)
        | refine Goal.seq (fun _ _ => ?_)
        | refine Goal.next (by assumption) ?_
        | refine Goal.lnil ?_
        | refine Goal.region ?_
        | refine Goal.skip ?_
        | refine Goal.block ?_
        | refine Goal.exit ?_
        | refine Goal.ret ?_
        | refine Goal.then_exit ?_
        | refine Goal.then_ret ?_
        | refine Goal.inBlock_exit ?_
        | refine Goal.inBlock_normal ?_
        | refine Goal.inBlock_ret ?_
        | refine Goal.inBlock_other rfl ?_
        | (apply Goal.condT; exact rfl)
        | (apply Goal.condF; exact rfl)
        | (refine Goal.condD rfl (fun hc => ?_) (fun hc => ?_) <;> first | (exfalso; omega) | contradiction | skip)
        | refine Goal.condB rfl (fun hc => ?_) (fun hc => ?_)
        | refine Goal.guardT rfl rfl ?_
        | refine Goal.guardF rfl rfl rfl rfl ?_
        | refine Goal.guardU rfl rfl rfl ?_
        | (refine Goal.guardD rfl rfl (fun hc => ?_) (fun hc => ?_) <;> first | (exfalso; omega) | contradiction | skip)
        | refine Goal.guardB rfl rfl (fun hc => ?_) (fun hc => ?_)
        | (apply G.fieldAddr; exact rfl; exact rfl; (first | exact T.fld_25_2 | exact T.fld_45_2))
        | (apply G.load; exact rfl; exact rfl; first | exact LoadOK.one (by first | exact T.one_3 | exact T.one_23) 0 rfl rfl | exact LoadOK.one (by first | exact T.one_3 | exact T.one_23) 1 rfl rfl | exact LoadOK.one (by first | exact T.one_3 | exact T.one_23) 2 rfl rfl | exact LoadOK.one (by first | exact T.one_3 | exact T.one_23) 3 rfl rfl | exact LoadOK.one (by first | exact T.one_3 | exact T.one_23) 4 rfl rfl | exact LoadOK.one (by first | exact T.one_3 | exact T.one_23) 5 rfl rfl | exact LoadOK.one (by first | exact T.one_3 | exact T.one_23) 6 rfl rfl | exact LoadOK.one (by first | exact T.one_3 | exact T.one_23) 7 rfl rfl | exact ag3 T.agg_25 0 rfl rfl rfl rfl | exact ag3 T.agg_25 1 rfl rfl rfl rfl | exact ag3 T.agg_25 2 rfl rfl rfl rfl | exact ag3 T.agg_25 3 rfl rfl rfl rfl | exact ag3 T.agg_25 4 rfl rfl rfl rfl | exact ag3 T.agg_25 5 rfl rfl rfl rfl | exact ag3 T.agg_25 6 rfl rfl rfl rfl | exact ag3 T.agg_25 7 rfl rfl rfl rfl | exact LoadOK.agg (vs := [_, _, _, _, _, _, _]) T.agg_45 0 rfl rfl ⟨rfl, rfl, rfl, rfl, rfl, rfl, rfl, trivial⟩ | exact LoadOK.agg (vs := [_, _, _, _, _, _, _]) T.agg_45 1 rfl rfl ⟨rfl, rfl, rfl, rfl, rfl, rfl, rfl, trivial⟩ | exact LoadOK.agg (vs := [_, _, _, _, _, _, _]) T.agg_45 2 rfl rfl ⟨rfl, rfl, rfl, rfl, rfl, rfl, rfl, trivial⟩ | exact LoadOK.agg (vs := [_, _, _, _, _, _, _]) T.agg_45 3 rfl rfl ⟨rfl, rfl, rfl, rfl, rfl, rfl, rfl, trivial⟩ | exact LoadOK.agg (vs := [_, _, _, _, _, _, _]) T.agg_45 4 rfl rfl ⟨rfl, rfl, rfl, rfl, rfl, rfl, rfl, trivial⟩ | exact LoadOK.agg (vs := [_, _, _, _, _, _, _]) T.agg_45 5 rfl rfl ⟨rfl, rfl, rfl, rfl, rfl, rfl, rfl, trivial⟩ | exact LoadOK.agg (vs := [_, _, _, _, _, _, _]) T.agg_45 6 rfl rfl ⟨rfl, rfl, rfl, rfl, rfl, rfl, rfl, trivial⟩ | exact LoadOK.agg (vs := [_, _, _, _, _, _, _]) T.agg_45 7 rfl rfl ⟨rfl, rfl, rfl, rfl, rfl, rfl, rfl, trivial⟩)
        | (apply G.pickT; exact rfl; exact rfl; exact rfl)
        | (apply G.pickF; exact rfl; exact rfl; exact rfl)
        | (apply G.lss; exact rfl; exact rfl; exact rfl)
        | (apply G.eql; exact rfl; exact rfl; exact rfl)
        | (apply G.add; exact rfl; exact rfl; exact rfl; exact IntWalk.i64_in _ (by omega))
        | (apply G.mul; exact rfl; exact rfl; exact rfl; exact IntWalk.i64_in _ (by omega))
        | (apply G.notT; exact rfl; exact rfl)
        | (apply G.notF; exact rfl; exact rfl)
        | (refine G.notD rfl rfl ?_)
        | (apply G.notB; exact rfl; exact rfl)
        | (apply G.extract; exact rfl; exact rfl; exact rfl)
        | (apply G.build (cs := [_, _]); exact rfl; exact T.lay_34; exact rfl; exact rfl)
        | (apply G.len; exact rfl; exact rfl; exact T.slc_23)
        | (refine G.indexAddr1 rfl (by first | exact T.slc_22 | exact T.slc_23) (by first | exact T.sz_3 | exact T.sz_4) rfl rfl _ rfl (by omega) ?_)
        | (refine G.indexAddr1 rfl (by first | exact T.slc_22 | exact T.slc_23) (by first | exact T.sz_3 | exact T.sz_4) rfl rfl _ (Int.toNat_of_nonneg (by omega)).symm (by omega) ?_)
        | (refine G.indexAddr rfl (by first | exact T.slc_22 | exact T.slc_23) T.sz_45 rfl rfl _ rfl (by omega) ?_)
        | (refine G.indexAddr rfl (by first | exact T.slc_22 | exact T.slc_23) T.sz_45 rfl rfl _ (Int.toNat_of_nonneg (by omega)).symm (by omega) ?_)
        | (refine G.indexAddrA rfl T.arr_34 (by first | exact T.sz_3 | exact T.sz_4 | exact T.sz_45) rfl rfl _ rfl (by omega) ?_)
        | (refine G.indexAddrA rfl T.arr_34 (by first | exact T.sz_3 | exact T.sz_4 | exact T.sz_45) rfl rfl _ (Int.toNat_of_nonneg (by omega)).symm (by omega) ?_)
        | (refine Goal.loud rfl ?_; refine Loud.store0 rfl rfl (by first | exact T.sz_4 | exact T.sz_23 | exact T.sz_25 | exact T.sz_34 | exact T.sz_45) rfl rfl rfl (by first | exact Nat.le_of_ble_eq_true rfl | exact Nat.le_refl _ | decide | (simp; omega)) rfl ?_)
        | (refine Goal.loud rfl ?_; refine Loud.store1 rfl rfl (by first | exact T.sz_4 | exact T.sz_23 | exact T.sz_25 | exact T.sz_34 | exact T.sz_45) rfl rfl rfl (by first | exact Nat.le_of_ble_eq_true rfl | exact Nat.le_refl _ | decide | (simp; omega)) rfl ?_)
        | (refine Goal.loud rfl ?_; refine Loud.store2 rfl rfl (by first | exact T.sz_4 | exact T.sz_23 | exact T.sz_25 | exact T.sz_34 | exact T.sz_45) rfl rfl rfl (by first | exact Nat.le_of_ble_eq_true rfl | exact Nat.le_refl _ | decide | (simp; omega)) rfl ?_)
        | (refine Goal.loud rfl ?_; refine Loud.store3 rfl rfl (by first | exact T.sz_4 | exact T.sz_23 | exact T.sz_25 | exact T.sz_34 | exact T.sz_45) rfl rfl rfl (by first | exact Nat.le_of_ble_eq_true rfl | exact Nat.le_refl _ | decide | (simp; omega)) rfl ?_)
        | (refine Goal.loud rfl ?_; refine Loud.store4 rfl rfl (by first | exact T.sz_4 | exact T.sz_23 | exact T.sz_25 | exact T.sz_34 | exact T.sz_45) rfl rfl rfl (by first | exact Nat.le_of_ble_eq_true rfl | exact Nat.le_refl _ | decide | (simp; omega)) rfl ?_)
        | (refine Goal.loud rfl ?_; refine Loud.store5 rfl rfl (by first | exact T.sz_4 | exact T.sz_23 | exact T.sz_25 | exact T.sz_34 | exact T.sz_45) rfl rfl rfl (by first | exact Nat.le_of_ble_eq_true rfl | exact Nat.le_refl _ | decide | (simp; omega)) rfl ?_)
        | (refine Goal.loud rfl ?_; refine Loud.store6 rfl rfl (by first | exact T.sz_4 | exact T.sz_23 | exact T.sz_25 | exact T.sz_34 | exact T.sz_45) rfl rfl rfl (by first | exact Nat.le_of_ble_eq_true rfl | exact Nat.le_refl _ | decide | (simp; omega)) rfl ?_)
        | (refine Goal.loud rfl ?_; refine Loud.store7 rfl rfl (by first | exact T.sz_4 | exact T.sz_23 | exact T.sz_25 | exact T.sz_34 | exact T.sz_45) rfl rfl rfl (by first | exact Nat.le_of_ble_eq_true rfl | exact Nat.le_refl _ | decide | (simp; omega)) rfl ?_))
      refine Goal.done (vs := [_]) (by first | exact .inl rfl | exact .inr rfl) Try.results10 ⟨rfl, trivial⟩ rfl (fun w' H => ⟨rfl, H.mod⟩)
end Go.Proofs.Ytmliedkhlgfdpaa
