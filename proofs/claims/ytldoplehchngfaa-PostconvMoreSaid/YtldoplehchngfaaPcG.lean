/- Package waypointlaw27: PostconvMore. -/
import Derived.Test.YtldoplehchngfaaPcF
namespace Go.Proofs.Ytldoplehchngfaa
open Go.Wf
set_option linter.unusedVariables false
theorem bools_one (l : List Bool) : (bools l).all Value.oneCell' = true := by
  unfold bools
  rw [List.all_map, List.all_eq_true]
  intro x _
  rfl
theorem wr_boolsR {l : List Bool} {rest : List Value} {i : Int} {x : Bool} (h : 0 ≤ i ∧ i < l.length) : wr (bools l ++ rest).toArray (0 + i.toNat) [.bool x] = (bools (l.set i.toNat x) ++ rest).toArray := by
  rw [wr_list (by rw [List.length_append, bools_len]; omega), List.set_append_left _ _ (by rw [bools_len]; omega)]; simp [bools, List.map_set]
theorem chk_len {tp : Top} {dn dn2 : List Bool} {ns : List Int} (h : dn2.length = dn.length) : chk tp dn2 ns = chk tp dn ns := by
  have hF : Fit tp dn2 ↔ Fit tp dn := by unfold Fit; rw [h]
  unfold chk
  simp only [hF]
/-- One more arc goes down. -/
theorem ExS.more {tp : Top} {dn dn2 : List Bool} {s d ex er ex2 er2 : Int} (ht : tp.Ok) (hs : 0 ≤ s ∧ s < tp.n) (hle : ∀ b, 0 ≤ b → b < tp.arcs → ba dn2 b = false → ba dn b = false) (h : ExS tp dn s d ex er) (h2 : ExS tp dn2 s d ex2 er2) : (er = 11 ∧ er2 = 11) ∨ (er = 0 ∧ er2 = 11) ∨ (er = 0 ∧ er2 = 0 ∧ ex ≤ ex2) := by
  obtain ⟨l, hl, h⟩ := h
  obtain ⟨l2, hl2, h2⟩ := h2
  have hm := Bell.mono (GD.ok ht) (fun x y c ⟨b, hb, h1, h⟩ => ⟨b, hb, hle b hb.1 hb.2 h1, h⟩) hl.bell hl2.bell s hs.1 hs.2
  rcases h with ⟨h, rfl, _⟩ | ⟨h, rfl, m, hm1, rfl⟩
  · rcases h2 with ⟨_, rfl, _⟩ | ⟨h2, _⟩
    · exact .inl ⟨rfl, rfl⟩
    · omega
  · rcases h2 with ⟨_, rfl, _⟩ | ⟨h2, rfl, m2, hm2, rfl⟩
    · exact .inr (.inl ⟨rfl, rfl⟩)
    · obtain rfl := DL.one (GD.ok ht) hm1 hm2
      exact .inr (.inr ⟨rfl, rfl, by omega⟩)
section
variable {w : World} {tp : Top} {dn : List Bool} {vo vl vd : Value}
set_option maxHeartbeats 8000000 in
theorem law27_more (x y a : Int) (hT : TopR w vo vl tp) (hd : RdV w vd (bools dn)) (hov : tp.ov.length ≤ 140737488355328) : Calls Try.prog 6 #[.agg #[.int .i64 tp.n, vo, vl, vd, .int .i64 x, .int .i64 y], .int .i64 a] w fun e w' => e = .returned (.bool true) ∧ Mod [] w w' := by
  obtain ⟨ao, co, rfl⟩ := shapeB hT.ov
  obtain ⟨al, cl, rfl⟩ := shapeL hT.ls
  obtain ⟨ad, cd, rfl⟩ := shapeB hd
  by_cases hlg : 12 < tp.n ∨ 20 < tp.ls.length ∨ 60 < dn.length
  · skip
    refine Goal.enter (args := [.agg #[.int .i64 tp.n, .slice ao tp.ov.length co, .slice al tp.ls.length cl, .slice ad dn.length cd, .int .i64 x, .int .i64 y], .int .i64 a]) Try.func6 rfl Try.ntmps6 rfl (St.nil w) ?_
    repeat' (first
      | (refine Goal.loud (o := ⟨some 10, _, _, _, _, _⟩) rfl ?_; apply Loud.call0; exact rfl; exact rfl; exact rfl; exact rfl; exact T.bod_14; exact (fun w' H => awake27_ok w'))
      | (refine Goal.loud (o := ⟨some 14, _, _, _, _, _⟩) rfl ?_; apply Loud.call0; exact rfl; exact rfl; exact rfl; exact rfl; exact T.bod_15; exact (fun w' H => large27_ok (tp := tp) (dn := dn) ao al ad co cl cd x y w'); rw [decide_eq_true hlg])
      | (refine Goal.loud (o := ⟨some 27, _, _, _, _, _⟩) rfl ?_; apply Loud.call0; exact rfl; exact rfl; exact rfl; exact rfl; exact T.bod_14; exact (fun w' H => awake27_ok w'))
      | (refine Goal.loud (o := ⟨some 2, _, _, _, _, _⟩) rfl ?_; first | refine Loud.boxA rfl rfl (fun b2 => ?_) | refine Loud.box1 rfl rfl rfl (fun b2 => ?_))
      | (refine Goal.loud (o := ⟨some 28, _, _, _, _, _⟩) rfl ?_; refine Loud.buildSlice (cs := []) rfl T.slc_22 T.inf_4 rfl rfl (by decide) rfl rfl rfl (fun b28 => ?_))
      | (apply G.move; exact rfl; exact rfl)
      | (apply G.assign; exact rfl; exact rfl)
      | refine Goal.seq (fun _ _ => ?_)
      | refine Goal.next (by assumption) ?_
      | refine Goal.lnil ?_
      | refine Goal.region ?_
      | refine Goal.skip ?_
      | refine Goal.block ?_
      | refine Goal.exit ?_
      | refine Goal.ret ?_
      | refine Goal.then_exit ?_
      | refine Goal.then_ret ?_
      | refine Goal.inBlock_exit ?_
      | refine Goal.inBlock_normal ?_
      | refine Goal.inBlock_ret ?_
      | refine Goal.inBlock_other rfl ?_
      | (apply Goal.condT; exact rfl)
      | (apply Goal.condF; exact rfl)
      | (refine Goal.condD rfl (fun hc => ?_) (fun hc => ?_) <;> first | (exfalso; omega) | contradiction | skip)
      | refine Goal.condB rfl (fun hc => ?_) (fun hc => ?_)
      | refine Goal.guardT rfl rfl ?_
      | refine Goal.guardF rfl rfl rfl rfl ?_
      | refine Goal.guardU rfl rfl rfl ?_
      | (refine Goal.guardD rfl rfl (fun hc => ?_) (fun hc => ?_) <;> first | (exfalso; omega) | contradiction | skip)
      | refine Goal.guardB rfl rfl (fun hc => ?_) (fun hc => ?_)
      | (apply G.fieldAddr; exact rfl; exact rfl; (first | exact T.fld_27_0 | exact T.fld_27_1 | exact T.fld_27_2 | exact T.fld_27_3))
      | (apply G.load; exact rfl; exact rfl; first | exact LoadOK.one (by first | exact T.one_3 | exact T.one_22) 0 rfl rfl | exact LoadOK.one (by first | exact T.one_3 | exact T.one_22) 1 rfl rfl | exact LoadOK.one (by first | exact T.one_3 | exact T.one_22) 2 rfl rfl | exact LoadOK.one (by first | exact T.one_3 | exact T.one_22) 3 rfl rfl | exact LoadOK.one (by first | exact T.one_3 | exact T.one_22) 4 rfl rfl | exact LoadOK.one (by first | exact T.one_3 | exact T.one_22) 5 rfl rfl | exact LoadOK.one (by first | exact T.one_3 | exact T.one_22) 6 rfl rfl | exact LoadOK.one (by first | exact T.one_3 | exact T.one_22) 7 rfl rfl | exact ag3 T.agg_25 0 rfl rfl rfl rfl | exact ag3 T.agg_25 1 rfl rfl rfl rfl | exact ag3 T.agg_25 2 rfl rfl rfl rfl | exact ag3 T.agg_25 3 rfl rfl rfl rfl | exact ag3 T.agg_25 4 rfl rfl rfl rfl | exact ag3 T.agg_25 5 rfl rfl rfl rfl | exact ag3 T.agg_25 6 rfl rfl rfl rfl | exact ag3 T.agg_25 7 rfl rfl rfl rfl | exact LoadOK.agg (vs := [_, _, _, _, _, _]) T.agg_27 0 rfl rfl ⟨rfl, rfl, rfl, rfl, rfl, rfl, trivial⟩ | exact LoadOK.agg (vs := [_, _, _, _, _, _]) T.agg_27 1 rfl rfl ⟨rfl, rfl, rfl, rfl, rfl, rfl, trivial⟩ | exact LoadOK.agg (vs := [_, _, _, _, _, _]) T.agg_27 2 rfl rfl ⟨rfl, rfl, rfl, rfl, rfl, rfl, trivial⟩ | exact LoadOK.agg (vs := [_, _, _, _, _, _]) T.agg_27 3 rfl rfl ⟨rfl, rfl, rfl, rfl, rfl, rfl, trivial⟩ | exact LoadOK.agg (vs := [_, _, _, _, _, _]) T.agg_27 4 rfl rfl ⟨rfl, rfl, rfl, rfl, rfl, rfl, trivial⟩ | exact LoadOK.agg (vs := [_, _, _, _, _, _]) T.agg_27 5 rfl rfl ⟨rfl, rfl, rfl, rfl, rfl, rfl, trivial⟩ | exact LoadOK.agg (vs := [_, _, _, _, _, _]) T.agg_27 6 rfl rfl ⟨rfl, rfl, rfl, rfl, rfl, rfl, trivial⟩ | exact LoadOK.agg (vs := [_, _, _, _, _, _]) T.agg_27 7 rfl rfl ⟨rfl, rfl, rfl, rfl, rfl, rfl, trivial⟩)
      | (apply G.pickT; exact rfl; exact rfl; exact rfl)
      | (apply G.pickF; exact rfl; exact rfl; exact rfl)
      | (apply G.lss; exact rfl; exact rfl; exact rfl)
      | (apply G.geq; exact rfl; exact rfl; exact rfl)
      | (apply G.eql; exact rfl; exact rfl; exact rfl)
      | (apply G.neq; exact rfl; exact rfl; exact rfl)
      | (apply G.notT; exact rfl; exact rfl)
      | (apply G.notF; exact rfl; exact rfl)
      | (refine G.notD rfl rfl ?_)
      | (apply G.notB; exact rfl; exact rfl)
      | (apply G.extract; exact rfl; exact rfl; exact rfl)
      | (apply G.len; exact rfl; exact rfl; exact T.slc_22)
      | (refine G.indexAddr1 rfl T.slc_22 T.sz_4 rfl rfl _ rfl (by omega) ?_)
      | (refine G.indexAddr1 rfl T.slc_22 T.sz_4 rfl rfl _ (Int.toNat_of_nonneg (by omega)).symm (by omega) ?_)
      | (refine Goal.loud rfl ?_; refine Loud.store0 rfl rfl T.sz_4 rfl rfl rfl (by first | exact Nat.le_of_ble_eq_true rfl | exact Nat.le_refl _ | decide | (simp; omega)) rfl ?_)
      | (refine Goal.loud rfl ?_; refine Loud.store1 rfl rfl T.sz_4 rfl rfl rfl (by first | exact Nat.le_of_ble_eq_true rfl | exact Nat.le_refl _ | decide | (simp; omega)) rfl ?_)
      | (refine Goal.loud rfl ?_; refine Loud.store2 rfl rfl T.sz_4 rfl rfl rfl (by first | exact Nat.le_of_ble_eq_true rfl | exact Nat.le_refl _ | decide | (simp; omega)) rfl ?_)
      | (refine Goal.loud rfl ?_; refine Loud.store3 rfl rfl T.sz_4 rfl rfl rfl (by first | exact Nat.le_of_ble_eq_true rfl | exact Nat.le_refl _ | decide | (simp; omega)) rfl ?_)
      | (refine Goal.loud rfl ?_; refine Loud.store4 rfl rfl T.sz_4 rfl rfl rfl (by first | exact Nat.le_of_ble_eq_true rfl | exact Nat.le_refl _ | decide | (simp; omega)) rfl ?_)
      | (refine Goal.loud rfl ?_; refine Loud.store5 rfl rfl T.sz_4 rfl rfl rfl (by first | exact Nat.le_of_ble_eq_true rfl | exact Nat.le_refl _ | decide | (simp; omega)) rfl ?_)
      | (refine Goal.loud rfl ?_; refine Loud.store6 rfl rfl T.sz_4 rfl rfl rfl (by first | exact Nat.le_of_ble_eq_true rfl | exact Nat.le_refl _ | decide | (simp; omega)) rfl ?_)
      | (refine Goal.loud rfl ?_; refine Loud.store7 rfl rfl T.sz_4 rfl rfl rfl (by first | exact Nat.le_of_ble_eq_true rfl | exact Nat.le_refl _ | decide | (simp; omega)) rfl ?_))
    refine Goal.done (vs := [_]) (by first | exact .inl rfl | exact .inr rfl) Try.results6 ⟨rfl, trivial⟩ rfl (fun w' H => ⟨rfl, H.mod⟩)
  by_cases hra : 0 ≤ a ∧ a < dn.length
  rotate_left
  · skip
    refine Goal.enter (args := [.agg #[.int .i64 tp.n, .slice ao tp.ov.length co, .slice al tp.ls.length cl, .slice ad dn.length cd, .int .i64 x, .int .i64 y], .int .i64 a]) Try.func6 rfl Try.ntmps6 rfl (St.nil w) ?_
    repeat' (first
      | (refine Goal.loud (o := ⟨some 10, _, _, _, _, _⟩) rfl ?_; apply Loud.call0; exact rfl; exact rfl; exact rfl; exact rfl; exact T.bod_14; exact (fun w' H => awake27_ok w'))
      | (refine Goal.loud (o := ⟨some 14, _, _, _, _, _⟩) rfl ?_; apply Loud.call0; exact rfl; exact rfl; exact rfl; exact rfl; exact T.bod_15; exact (fun w' H => large27_ok (tp := tp) (dn := dn) ao al ad co cl cd x y w'); rw [decide_eq_false hlg])
      | (refine Goal.loud (o := ⟨some 27, _, _, _, _, _⟩) rfl ?_; apply Loud.call0; exact rfl; exact rfl; exact rfl; exact rfl; exact T.bod_14; exact (fun w' H => awake27_ok w'))
      | (refine Goal.loud (o := ⟨some 2, _, _, _, _, _⟩) rfl ?_; first | refine Loud.boxA rfl rfl (fun b2 => ?_) | refine Loud.box1 rfl rfl rfl (fun b2 => ?_))
      | (refine Goal.loud (o := ⟨some 28, _, _, _, _, _⟩) rfl ?_; refine Loud.buildSlice (cs := []) rfl T.slc_22 T.inf_4 rfl rfl (by decide) rfl rfl rfl (fun b28 => ?_))
      | (apply G.move; exact rfl; exact rfl)
      | (apply G.assign; exact rfl; exact rfl)
      | refine Goal.seq (fun _ _ => ?_)
      | refine Goal.next (by assumption) ?_
      | refine Goal.lnil ?_
      | refine Goal.region ?_
      | refine Goal.skip ?_
      | refine Goal.block ?_
      | refine Goal.exit ?_
      | refine Goal.ret ?_
      | refine Goal.then_exit ?_
      | refine Goal.then_ret ?_
      | refine Goal.inBlock_exit ?_
      | refine Goal.inBlock_normal ?_
      | refine Goal.inBlock_ret ?_
      | refine Goal.inBlock_other rfl ?_
      | (apply Goal.condT; exact rfl)
      | (apply Goal.condF; exact rfl)
      | (refine Goal.condD rfl (fun hc => ?_) (fun hc => ?_) <;> first | (exfalso; omega) | contradiction | skip)
      | refine Goal.condB rfl (fun hc => ?_) (fun hc => ?_)
      | refine Goal.guardT rfl rfl ?_
      | refine Goal.guardF rfl rfl rfl rfl ?_
      | refine Goal.guardU rfl rfl rfl ?_
      | (refine Goal.guardD rfl rfl (fun hc => ?_) (fun hc => ?_) <;> first | (exfalso; omega) | contradiction | skip)
      | refine Goal.guardB rfl rfl (fun hc => ?_) (fun hc => ?_)
      | (apply G.fieldAddr; exact rfl; exact rfl; (first | exact T.fld_27_0 | exact T.fld_27_1 | exact T.fld_27_2 | exact T.fld_27_3))
      | (apply G.load; exact rfl; exact rfl; first | exact LoadOK.one (by first | exact T.one_3 | exact T.one_22) 0 rfl rfl | exact LoadOK.one (by first | exact T.one_3 | exact T.one_22) 1 rfl rfl | exact LoadOK.one (by first | exact T.one_3 | exact T.one_22) 2 rfl rfl | exact LoadOK.one (by first | exact T.one_3 | exact T.one_22) 3 rfl rfl | exact LoadOK.one (by first | exact T.one_3 | exact T.one_22) 4 rfl rfl | exact LoadOK.one (by first | exact T.one_3 | exact T.one_22) 5 rfl rfl | exact LoadOK.one (by first | exact T.one_3 | exact T.one_22) 6 rfl rfl | exact LoadOK.one (by first | exact T.one_3 | exact T.one_22) 7 rfl rfl | exact ag3 T.agg_25 0 rfl rfl rfl rfl | exact ag3 T.agg_25 1 rfl rfl rfl rfl | exact ag3 T.agg_25 2 rfl rfl rfl rfl | exact ag3 T.agg_25 3 rfl rfl rfl rfl | exact ag3 T.agg_25 4 rfl rfl rfl rfl | exact ag3 T.agg_25 5 rfl rfl rfl rfl | exact ag3 T.agg_25 6 rfl rfl rfl rfl | exact ag3 T.agg_25 7 rfl rfl rfl rfl | exact LoadOK.agg (vs := [_, _, _, _, _, _]) T.agg_27 0 rfl rfl ⟨rfl, rfl, rfl, rfl, rfl, rfl, trivial⟩ | exact LoadOK.agg (vs := [_, _, _, _, _, _]) T.agg_27 1 rfl rfl ⟨rfl, rfl, rfl, rfl, rfl, rfl, trivial⟩ | exact LoadOK.agg (vs := [_, _, _, _, _, _]) T.agg_27 2 rfl rfl ⟨rfl, rfl, rfl, rfl, rfl, rfl, trivial⟩ | exact LoadOK.agg (vs := [_, _, _, _, _, _]) T.agg_27 3 rfl rfl ⟨rfl, rfl, rfl, rfl, rfl, rfl, trivial⟩ | exact LoadOK.agg (vs := [_, _, _, _, _, _]) T.agg_27 4 rfl rfl ⟨rfl, rfl, rfl, rfl, rfl, rfl, trivial⟩ | exact LoadOK.agg (vs := [_, _, _, _, _, _]) T.agg_27 5 rfl rfl ⟨rfl, rfl, rfl, rfl, rfl, rfl, trivial⟩ | exact LoadOK.agg (vs := [_, _, _, _, _, _]) T.agg_27 6 rfl rfl ⟨rfl, rfl, rfl, rfl, rfl, rfl, trivial⟩ | exact LoadOK.agg (vs := [_, _, _, _, _, _]) T.agg_27 7 rfl rfl ⟨rfl, rfl, rfl, rfl, rfl, rfl, trivial⟩)
      | (apply G.pickT; exact rfl; exact rfl; exact rfl)
      | (apply G.pickF; exact rfl; exact rfl; exact rfl)
      | (apply G.lss; exact rfl; exact rfl; exact rfl)
      | (apply G.geq; exact rfl; exact rfl; exact rfl)
      | (apply G.eql; exact rfl; exact rfl; exact rfl)
      | (apply G.neq; exact rfl; exact rfl; exact rfl)
      | (apply G.notT; exact rfl; exact rfl)
      | (apply G.notF; exact rfl; exact rfl)
      | (refine G.notD rfl rfl ?_)
      | (apply G.notB; exact rfl; exact rfl)
      | (apply G.extract; exact rfl; exact rfl; exact rfl)
      | (apply G.len; exact rfl; exact rfl; exact T.slc_22)
      | (refine G.indexAddr1 rfl T.slc_22 T.sz_4 rfl rfl _ rfl (by omega) ?_)
      | (refine G.indexAddr1 rfl T.slc_22 T.sz_4 rfl rfl _ (Int.toNat_of_nonneg (by omega)).symm (by omega) ?_)
      | (refine Goal.loud rfl ?_; refine Loud.store0 rfl rfl T.sz_4 rfl rfl rfl (by first | exact Nat.le_of_ble_eq_true rfl | exact Nat.le_refl _ | decide | (simp; omega)) rfl ?_)
      | (refine Goal.loud rfl ?_; refine Loud.store1 rfl rfl T.sz_4 rfl rfl rfl (by first | exact Nat.le_of_ble_eq_true rfl | exact Nat.le_refl _ | decide | (simp; omega)) rfl ?_)
      | (refine Goal.loud rfl ?_; refine Loud.store2 rfl rfl T.sz_4 rfl rfl rfl (by first | exact Nat.le_of_ble_eq_true rfl | exact Nat.le_refl _ | decide | (simp; omega)) rfl ?_)
      | (refine Goal.loud rfl ?_; refine Loud.store3 rfl rfl T.sz_4 rfl rfl rfl (by first | exact Nat.le_of_ble_eq_true rfl | exact Nat.le_refl _ | decide | (simp; omega)) rfl ?_)
      | (refine Goal.loud rfl ?_; refine Loud.store4 rfl rfl T.sz_4 rfl rfl rfl (by first | exact Nat.le_of_ble_eq_true rfl | exact Nat.le_refl _ | decide | (simp; omega)) rfl ?_)
      | (refine Goal.loud rfl ?_; refine Loud.store5 rfl rfl T.sz_4 rfl rfl rfl (by first | exact Nat.le_of_ble_eq_true rfl | exact Nat.le_refl _ | decide | (simp; omega)) rfl ?_)
      | (refine Goal.loud rfl ?_; refine Loud.store6 rfl rfl T.sz_4 rfl rfl rfl (by first | exact Nat.le_of_ble_eq_true rfl | exact Nat.le_refl _ | decide | (simp; omega)) rfl ?_)
      | (refine Goal.loud rfl ?_; refine Loud.store7 rfl rfl T.sz_4 rfl rfl rfl (by first | exact Nat.le_of_ble_eq_true rfl | exact Nat.le_refl _ | decide | (simp; omega)) rfl ?_))
    all_goals
      refine Goal.done (vs := [_]) (by first | exact .inl rfl | exact .inr rfl) Try.results6 ⟨rfl, trivial⟩ rfl (fun w' H => ⟨rfl, H.mod⟩)
  have hln2 : (dn.set a.toNat true).length = dn.length := List.length_set
  by_cases hk : chk tp dn [x, y] = 0
  · obtain ⟨ht, hf, hs, hr⟩ := chk_all hk
    have hf2 : Fit tp (dn.set a.toNat true) := by unfold Fit at hf ⊢; rw [hln2]; exact hf
    have hle : ∀ b, 0 ≤ b → b < tp.arcs → ba (dn.set a.toNat true) b = false → ba dn b = false := fun b b0 b1 hb => by
      rw [ba_set hra b0] at hb
      split at hb
      · cases hb
      · exact hb
    refine Goal.enter (args := [.agg #[.int .i64 tp.n, .slice ao tp.ov.length co, .slice al tp.ls.length cl, .slice ad dn.length cd, .int .i64 x, .int .i64 y], .int .i64 a]) Try.func6 rfl Try.ntmps6 rfl (St.nil w) ?_
    repeat' (first
      | (refine Goal.loud (o := ⟨some 10, _, _, _, _, _⟩) rfl ?_; apply Loud.call0; exact rfl; exact rfl; exact rfl; exact rfl; exact T.bod_14; exact (fun w' H => awake27_ok w'))
      | (refine Goal.loud (o := ⟨some 14, _, _, _, _, _⟩) rfl ?_; apply Loud.call0; exact rfl; exact rfl; exact rfl; exact rfl; exact T.bod_15; exact (fun w' H => large27_ok (tp := tp) (dn := dn) ao al ad co cl cd x y w'); rw [decide_eq_false hlg])
      | (refine Goal.loud (o := ⟨some 31, _, _, _, _, _⟩) rfl ?_; refine Loud.appendRd (news := bools dn) rfl T.slc_22 T.inf_4 rfl rfl (Sl.full (n := 0) (vs := []) rfl) rfl (bools_one dn) (by rw [bools_len]; omega) (by rw [bools_len]; omega) (fun w' H => hd.keep H.mod) (fun _ h => h) ?_; intro v2 A2 hA2; rw [Nat.zero_add, List.nil_append, bools_len] at hA2; obtain ⟨bb, rest, capb, rfl, rfl, _, hcap1, hcap2⟩ := hA2.pos (by omega))
      | (refine Goal.loud (o := ⟨some 44, _, _, _, _, _⟩) rfl ?_; apply Loud.callN; exact rfl; exact rfl; exact rfl; exact rfl; exact T.bod_18; exact (fun w' H => pextra_ok (hT.keep H.mod) (hd.keep H.mod) ht hf hs hr); rintro ⟨ex, e1⟩ hE; dsimp only at hE ⊢)
      | (refine Goal.loud (o := ⟨some 55, _, _, _, _, _⟩) rfl ?_; apply Loud.callN; exact rfl; exact rfl; exact rfl; exact rfl; exact T.bod_18; exact (fun w' H => pextra_ok (dn := dn.set a.toNat true) (hT.keep H.mod) (RdV.of_sl (Sl.mk (n := dn.length) (cap := capb) (b := bb) (E := 4) (sz := 1) (vs := bools (dn.set a.toNat true)) (rest := rest) (by rw [bools_len, hln2]; omega) (by rw [bools_len] at hcap1 ⊢; rw [hln2]; exact hcap1) hcap2) (Own.mk fun p hp => H.own.get (by simp at hp; simp [hp]))) ht hf2 hs hr); rintro ⟨ex2, e2⟩ hE2; dsimp only at hE2 ⊢; have hm := hE.more ht hs hle hE2)
      | (refine Goal.loud (o := ⟨some 2, _, _, _, _, _⟩) rfl ?_; first | refine Loud.boxA rfl rfl (fun b2 => ?_) | refine Loud.box1 rfl rfl rfl (fun b2 => ?_))
      | (refine Goal.loud (o := ⟨some 28, _, _, _, _, _⟩) rfl ?_; refine Loud.buildSlice (cs := []) rfl T.slc_22 T.inf_4 rfl rfl (by decide) rfl rfl rfl (fun b28 => ?_))
      | (refine Goal.loud rfl ?_; refine Loud.store0 rfl rfl T.sz_4 rfl rfl rfl (by rw [List.size_toArray, List.length_append, bools_len]; omega) (wr_boolsR hra) ?_)
      | (apply G.move; exact rfl; exact rfl)
      | (apply G.assign; exact rfl; exact rfl)
      | refine Goal.seq (fun _ _ => ?_)
      | refine Goal.next (by assumption) ?_
      | refine Goal.lnil ?_
      | refine Goal.region ?_
      | refine Goal.skip ?_
      | refine Goal.block ?_
      | refine Goal.exit ?_
      | refine Goal.ret ?_
      | refine Goal.then_exit ?_
      | refine Goal.then_ret ?_
      | refine Goal.inBlock_exit ?_
      | refine Goal.inBlock_normal ?_
      | refine Goal.inBlock_ret ?_
      | refine Goal.inBlock_other rfl ?_
      | (apply Goal.condT; exact rfl)
      | (apply Goal.condF; exact rfl)
      | (refine Goal.condD rfl (fun hc => ?_) (fun hc => ?_) <;> first | (exfalso; omega) | contradiction | skip)
      | refine Goal.condB rfl (fun hc => ?_) (fun hc => ?_)
      | refine Goal.guardT rfl rfl ?_
      | refine Goal.guardF rfl rfl rfl rfl ?_
      | refine Goal.guardU rfl rfl rfl ?_
      | (refine Goal.guardD rfl rfl (fun hc => ?_) (fun hc => ?_) <;> first | (exfalso; omega) | contradiction | skip)
      | refine Goal.guardB rfl rfl (fun hc => ?_) (fun hc => ?_)
      | (apply G.fieldAddr; exact rfl; exact rfl; (first | exact T.fld_27_0 | exact T.fld_27_1 | exact T.fld_27_2 | exact T.fld_27_3))
      | (apply G.load; exact rfl; exact rfl; first | exact LoadOK.one (by first | exact T.one_3 | exact T.one_22) 0 rfl rfl | exact LoadOK.one (by first | exact T.one_3 | exact T.one_22) 1 rfl rfl | exact LoadOK.one (by first | exact T.one_3 | exact T.one_22) 2 rfl rfl | exact LoadOK.one (by first | exact T.one_3 | exact T.one_22) 3 rfl rfl | exact LoadOK.one (by first | exact T.one_3 | exact T.one_22) 4 rfl rfl | exact LoadOK.one (by first | exact T.one_3 | exact T.one_22) 5 rfl rfl | exact LoadOK.one (by first | exact T.one_3 | exact T.one_22) 6 rfl rfl | exact LoadOK.one (by first | exact T.one_3 | exact T.one_22) 7 rfl rfl | exact ag3 T.agg_25 0 rfl rfl rfl rfl | exact ag3 T.agg_25 1 rfl rfl rfl rfl | exact ag3 T.agg_25 2 rfl rfl rfl rfl | exact ag3 T.agg_25 3 rfl rfl rfl rfl | exact ag3 T.agg_25 4 rfl rfl rfl rfl | exact ag3 T.agg_25 5 rfl rfl rfl rfl | exact ag3 T.agg_25 6 rfl rfl rfl rfl | exact ag3 T.agg_25 7 rfl rfl rfl rfl | exact LoadOK.agg (vs := [_, _, _, _, _, _]) T.agg_27 0 rfl rfl ⟨rfl, rfl, rfl, rfl, rfl, rfl, trivial⟩ | exact LoadOK.agg (vs := [_, _, _, _, _, _]) T.agg_27 1 rfl rfl ⟨rfl, rfl, rfl, rfl, rfl, rfl, trivial⟩ | exact LoadOK.agg (vs := [_, _, _, _, _, _]) T.agg_27 2 rfl rfl ⟨rfl, rfl, rfl, rfl, rfl, rfl, trivial⟩ | exact LoadOK.agg (vs := [_, _, _, _, _, _]) T.agg_27 3 rfl rfl ⟨rfl, rfl, rfl, rfl, rfl, rfl, trivial⟩ | exact LoadOK.agg (vs := [_, _, _, _, _, _]) T.agg_27 4 rfl rfl ⟨rfl, rfl, rfl, rfl, rfl, rfl, trivial⟩ | exact LoadOK.agg (vs := [_, _, _, _, _, _]) T.agg_27 5 rfl rfl ⟨rfl, rfl, rfl, rfl, rfl, rfl, trivial⟩ | exact LoadOK.agg (vs := [_, _, _, _, _, _]) T.agg_27 6 rfl rfl ⟨rfl, rfl, rfl, rfl, rfl, rfl, trivial⟩ | exact LoadOK.agg (vs := [_, _, _, _, _, _]) T.agg_27 7 rfl rfl ⟨rfl, rfl, rfl, rfl, rfl, rfl, trivial⟩)
      | (apply G.pickT; exact rfl; exact rfl; exact rfl)
      | (apply G.pickF; exact rfl; exact rfl; exact rfl)
      | (apply G.lss; exact rfl; exact rfl; exact rfl)
      | (apply G.geq; exact rfl; exact rfl; exact rfl)
      | (apply G.eql; exact rfl; exact rfl; exact rfl)
      | (apply G.neq; exact rfl; exact rfl; exact rfl)
      | (apply G.notT; exact rfl; exact rfl)
      | (apply G.notF; exact rfl; exact rfl)
      | (refine G.notD rfl rfl ?_)
      | (apply G.notB; exact rfl; exact rfl)
      | (apply G.extract; exact rfl; exact rfl; exact rfl)
      | (apply G.len; exact rfl; exact rfl; exact T.slc_22)
      | (refine G.indexAddr1 rfl T.slc_22 T.sz_4 rfl rfl _ rfl (by omega) ?_)
      | (refine G.indexAddr1 rfl T.slc_22 T.sz_4 rfl rfl _ (Int.toNat_of_nonneg (by omega)).symm (by omega) ?_)
      | (refine Goal.loud rfl ?_; refine Loud.store0 rfl rfl T.sz_4 rfl rfl rfl (by first | exact Nat.le_of_ble_eq_true rfl | exact Nat.le_refl _ | decide | (simp; omega)) rfl ?_)
      | (refine Goal.loud rfl ?_; refine Loud.store1 rfl rfl T.sz_4 rfl rfl rfl (by first | exact Nat.le_of_ble_eq_true rfl | exact Nat.le_refl _ | decide | (simp; omega)) rfl ?_)
      | (refine Goal.loud rfl ?_; refine Loud.store2 rfl rfl T.sz_4 rfl rfl rfl (by first | exact Nat.le_of_ble_eq_true rfl | exact Nat.le_refl _ | decide | (simp; omega)) rfl ?_)
      | (refine Goal.loud rfl ?_; refine Loud.store3 rfl rfl T.sz_4 rfl rfl rfl (by first | exact Nat.le_of_ble_eq_true rfl | exact Nat.le_refl _ | decide | (simp; omega)) rfl ?_)
      | (refine Goal.loud rfl ?_; refine Loud.store4 rfl rfl T.sz_4 rfl rfl rfl (by first | exact Nat.le_of_ble_eq_true rfl | exact Nat.le_refl _ | decide | (simp; omega)) rfl ?_)
      | (refine Goal.loud rfl ?_; refine Loud.store5 rfl rfl T.sz_4 rfl rfl rfl (by first | exact Nat.le_of_ble_eq_true rfl | exact Nat.le_refl _ | decide | (simp; omega)) rfl ?_)
      | (refine Goal.loud rfl ?_; refine Loud.store6 rfl rfl T.sz_4 rfl rfl rfl (by first | exact Nat.le_of_ble_eq_true rfl | exact Nat.le_refl _ | decide | (simp; omega)) rfl ?_)
      | (refine Goal.loud rfl ?_; refine Loud.store7 rfl rfl T.sz_4 rfl rfl rfl (by first | exact Nat.le_of_ble_eq_true rfl | exact Nat.le_refl _ | decide | (simp; omega)) rfl ?_))
    all_goals
      refine Goal.done (vs := [_]) (by first | exact .inl rfl | exact .inr rfl) Try.results6 ⟨rfl, trivial⟩ rfl (fun w' H => ⟨by first | rfl | (simp; done) | (simp; omega), H.mod⟩)
  · have hk2 : chk tp (dn.set a.toNat true) [x, y] ≠ 0 := by rw [chk_len hln2]; exact hk
    have hb1 := fun w' (hT : TopR w' (.slice ao tp.ov.length co) (.slice al tp.ls.length cl) tp) (hd : RdV w' (.slice ad dn.length cd) (bools dn)) => pextra_bad (s := x) (d := y) hT hd (by omega) hov hk
    have hb2 := fun w' v2 (hT : TopR w' (.slice ao tp.ov.length co) (.slice al tp.ls.length cl) tp) (hd : RdV w' v2 (bools (dn.set a.toNat true))) => pextra_bad (s := x) (d := y) hT hd (by omega) hov hk2
    rw [chk_len hln2] at hb2
    generalize chk tp dn [x, y] = k at hb1 hb2 hk
    refine Goal.enter (args := [.agg #[.int .i64 tp.n, .slice ao tp.ov.length co, .slice al tp.ls.length cl, .slice ad dn.length cd, .int .i64 x, .int .i64 y], .int .i64 a]) Try.func6 rfl Try.ntmps6 rfl (St.nil w) ?_
    repeat' (first
      | (refine Goal.loud (o := ⟨some 10, _, _, _, _, _⟩) rfl ?_; apply Loud.call0; exact rfl; exact rfl; exact rfl; exact rfl; exact T.bod_14; exact (fun w' H => awake27_ok w'))
      | (refine Goal.loud (o := ⟨some 14, _, _, _, _, _⟩) rfl ?_; apply Loud.call0; exact rfl; exact rfl; exact rfl; exact rfl; exact T.bod_15; exact (fun w' H => large27_ok (tp := tp) (dn := dn) ao al ad co cl cd x y w'); rw [decide_eq_false hlg])
      | (refine Goal.loud (o := ⟨some 31, _, _, _, _, _⟩) rfl ?_; refine Loud.appendRd (news := bools dn) rfl T.slc_22 T.inf_4 rfl rfl (Sl.full (n := 0) (vs := []) rfl) rfl (bools_one dn) (by rw [bools_len]; omega) (by rw [bools_len]; omega) (fun w' H => hd.keep H.mod) (fun _ h => h) ?_; intro v2 A2 hA2; rw [Nat.zero_add, List.nil_append, bools_len] at hA2; obtain ⟨bb, rest, capb, rfl, rfl, _, hcap1, hcap2⟩ := hA2.pos (by omega))
      | (refine Goal.loud (o := ⟨some 44, _, _, _, _, _⟩) rfl ?_; apply Loud.call0; exact rfl; exact rfl; exact rfl; exact rfl; exact T.bod_18; exact (fun w' H => hb1 w' (hT.keep H.mod) (hd.keep H.mod)))
      | (refine Goal.loud (o := ⟨some 55, _, _, _, _, _⟩) rfl ?_; apply Loud.call0; exact rfl; exact rfl; exact rfl; exact rfl; exact T.bod_18; exact (fun w' H => hb2 w' _ (hT.keep H.mod) (RdV.of_sl (Sl.mk (n := dn.length) (cap := capb) (b := bb) (E := 4) (sz := 1) (vs := bools (dn.set a.toNat true)) (rest := rest) (by rw [bools_len, hln2]; omega) (by rw [bools_len] at hcap1 ⊢; rw [hln2]; exact hcap1) hcap2) (Own.mk fun p hp => H.own.get (by simp at hp; simp [hp])))))
      | (refine Goal.loud (o := ⟨some 2, _, _, _, _, _⟩) rfl ?_; first | refine Loud.boxA rfl rfl (fun b2 => ?_) | refine Loud.box1 rfl rfl rfl (fun b2 => ?_))
      | (refine Goal.loud (o := ⟨some 28, _, _, _, _, _⟩) rfl ?_; refine Loud.buildSlice (cs := []) rfl T.slc_22 T.inf_4 rfl rfl (by decide) rfl rfl rfl (fun b28 => ?_))
      | (refine Goal.loud rfl ?_; refine Loud.store0 rfl rfl T.sz_4 rfl rfl rfl (by rw [List.size_toArray, List.length_append, bools_len]; omega) (wr_boolsR hra) ?_)
      | (apply G.move; exact rfl; exact rfl)
      | (apply G.assign; exact rfl; exact rfl)
      | refine Goal.seq (fun _ _ => ?_)
      | refine Goal.next (by assumption) ?_
      | refine Goal.lnil ?_
      | refine Goal.region ?_
      | refine Goal.skip ?_
      | refine Goal.block ?_
      | refine Goal.exit ?_
      | refine Goal.ret ?_
      | refine Goal.then_exit ?_
      | refine Goal.then_ret ?_
      | refine Goal.inBlock_exit ?_
      | refine Goal.inBlock_normal ?_
      | refine Goal.inBlock_ret ?_
      | refine Goal.inBlock_other rfl ?_
      | (apply Goal.condT; exact rfl)
      | (apply Goal.condF; exact rfl)
      | (refine Goal.condD rfl (fun hc => ?_) (fun hc => ?_) <;> first | (exfalso; omega) | contradiction | skip)
      | refine Goal.condB rfl (fun hc => ?_) (fun hc => ?_)
      | refine Goal.guardT rfl rfl ?_
      | refine Goal.guardF rfl rfl rfl rfl ?_
      | refine Goal.guardU rfl rfl rfl ?_
      | (refine Goal.guardD rfl rfl (fun hc => ?_) (fun hc => ?_) <;> first | (exfalso; omega) | contradiction | skip)
      | refine Goal.guardB rfl rfl (fun hc => ?_) (fun hc => ?_)
      | (apply G.fieldAddr; exact rfl; exact rfl; (first | exact T.fld_27_0 | exact T.fld_27_1 | exact T.fld_27_2 | exact T.fld_27_3))
      | (apply G.load; exact rfl; exact rfl; first | exact LoadOK.one (by first | exact T.one_3 | exact T.one_22) 0 rfl rfl | exact LoadOK.one (by first | exact T.one_3 | exact T.one_22) 1 rfl rfl | exact LoadOK.one (by first | exact T.one_3 | exact T.one_22) 2 rfl rfl | exact LoadOK.one (by first | exact T.one_3 | exact T.one_22) 3 rfl rfl | exact LoadOK.one (by first | exact T.one_3 | exact T.one_22) 4 rfl rfl | exact LoadOK.one (by first | exact T.one_3 | exact T.one_22) 5 rfl rfl | exact LoadOK.one (by first | exact T.one_3 | exact T.one_22) 6 rfl rfl | exact LoadOK.one (by first | exact T.one_3 | exact T.one_22) 7 rfl rfl | exact ag3 T.agg_25 0 rfl rfl rfl rfl | exact ag3 T.agg_25 1 rfl rfl rfl rfl | exact ag3 T.agg_25 2 rfl rfl rfl rfl | exact ag3 T.agg_25 3 rfl rfl rfl rfl | exact ag3 T.agg_25 4 rfl rfl rfl rfl | exact ag3 T.agg_25 5 rfl rfl rfl rfl | exact ag3 T.agg_25 6 rfl rfl rfl rfl | exact ag3 T.agg_25 7 rfl rfl rfl rfl | exact LoadOK.agg (vs := [_, _, _, _, _, _]) T.agg_27 0 rfl rfl ⟨rfl, rfl, rfl, rfl, rfl, rfl, trivial⟩ | exact LoadOK.agg (vs := [_, _, _, _, _, _]) T.agg_27 1 rfl rfl ⟨rfl, rfl, rfl, rfl, rfl, rfl, trivial⟩ | exact LoadOK.agg (vs := [_, _, _, _, _, _]) T.agg_27 2 rfl rfl ⟨rfl, rfl, rfl, rfl, rfl, rfl, trivial⟩ | exact LoadOK.agg (vs := [_, _, _, _, _, _]) T.agg_27 3 rfl rfl ⟨rfl, rfl, rfl, rfl, rfl, rfl, trivial⟩ | exact LoadOK.agg (vs := [_, _, _, _, _, _]) T.agg_27 4 rfl rfl ⟨rfl, rfl, rfl, rfl, rfl, rfl, trivial⟩ | exact LoadOK.agg (vs := [_, _, _, _, _, _]) T.agg_27 5 rfl rfl ⟨rfl, rfl, rfl, rfl, rfl, rfl, trivial⟩ | exact LoadOK.agg (vs := [_, _, _, _, _, _]) T.agg_27 6 rfl rfl ⟨rfl, rfl, rfl, rfl, rfl, rfl, trivial⟩ | exact LoadOK.agg (vs := [_, _, _, _, _, _]) T.agg_27 7 rfl rfl ⟨rfl, rfl, rfl, rfl, rfl, rfl, trivial⟩)
      | (apply G.pickT; exact rfl; exact rfl; exact rfl)
      | (apply G.pickF; exact rfl; exact rfl; exact rfl)
      | (apply G.lss; exact rfl; exact rfl; exact rfl)
      | (apply G.geq; exact rfl; exact rfl; exact rfl)
      | (apply G.eql; exact rfl; exact rfl; exact rfl)
      | (apply G.neq; exact rfl; exact rfl; exact rfl)
      | (apply G.notT; exact rfl; exact rfl)
      | (apply G.notF; exact rfl; exact rfl)
      | (refine G.notD rfl rfl ?_)
      | (apply G.notB; exact rfl; exact rfl)
      | (apply G.extract; exact rfl; exact rfl; exact rfl)
      | (apply G.len; exact rfl; exact rfl; exact T.slc_22)
      | (refine G.indexAddr1 rfl T.slc_22 T.sz_4 rfl rfl _ rfl (by omega) ?_)
      | (refine G.indexAddr1 rfl T.slc_22 T.sz_4 rfl rfl _ (Int.toNat_of_nonneg (by omega)).symm (by omega) ?_)
      | (refine Goal.loud rfl ?_; refine Loud.store0 rfl rfl T.sz_4 rfl rfl rfl (by first | exact Nat.le_of_ble_eq_true rfl | exact Nat.le_refl _ | decide | (simp; omega)) rfl ?_)
      | (refine Goal.loud rfl ?_; refine Loud.store1 rfl rfl T.sz_4 rfl rfl rfl (by first | exact Nat.le_of_ble_eq_true rfl | exact Nat.le_refl _ | decide | (simp; omega)) rfl ?_)
      | (refine Goal.loud rfl ?_; refine Loud.store2 rfl rfl T.sz_4 rfl rfl rfl (by first | exact Nat.le_of_ble_eq_true rfl | exact Nat.le_refl _ | decide | (simp; omega)) rfl ?_)
      | (refine Goal.loud rfl ?_; refine Loud.store3 rfl rfl T.sz_4 rfl rfl rfl (by first | exact Nat.le_of_ble_eq_true rfl | exact Nat.le_refl _ | decide | (simp; omega)) rfl ?_)
      | (refine Goal.loud rfl ?_; refine Loud.store4 rfl rfl T.sz_4 rfl rfl rfl (by first | exact Nat.le_of_ble_eq_true rfl | exact Nat.le_refl _ | decide | (simp; omega)) rfl ?_)
      | (refine Goal.loud rfl ?_; refine Loud.store5 rfl rfl T.sz_4 rfl rfl rfl (by first | exact Nat.le_of_ble_eq_true rfl | exact Nat.le_refl _ | decide | (simp; omega)) rfl ?_)
      | (refine Goal.loud rfl ?_; refine Loud.store6 rfl rfl T.sz_4 rfl rfl rfl (by first | exact Nat.le_of_ble_eq_true rfl | exact Nat.le_refl _ | decide | (simp; omega)) rfl ?_)
      | (refine Goal.loud rfl ?_; refine Loud.store7 rfl rfl T.sz_4 rfl rfl rfl (by first | exact Nat.le_of_ble_eq_true rfl | exact Nat.le_refl _ | decide | (simp; omega)) rfl ?_))
    all_goals
      refine Goal.done (vs := [_]) (by first | exact .inl rfl | exact .inr rfl) Try.results6 ⟨rfl, trivial⟩ rfl (fun w' H => ⟨by first | rfl | (simp; done) | (simp; omega), H.mod⟩)
end
end Go.Proofs.Ytldoplehchngfaa
