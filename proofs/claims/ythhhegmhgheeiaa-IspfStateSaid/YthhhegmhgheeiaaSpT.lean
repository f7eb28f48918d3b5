/- Topologies in memory, and the functions of package graph that only read them. -/
import Derived.Test.YthhhegmhgheeiaaTypes
import Derived.Test.YthhhegmhgheeiaaCore8
import Derived.Test.YthhhegmhgheeiaaTopo
namespace Go.Proofs.Ythhhegmhgheeiaa
open Go.Wf
set_option linter.unusedVariables false
def lkc (l : Lk) : List Value := [.int .i64 l.a, .int .i64 l.b, .int .i64 l.c0, .int .i64 l.c1, .int .i64 l.cap, .int .i64 l.dl, .int .i64 l.gp]
theorem lkc_len (l : Lk) : (lkc l).length = 7 := rfl
theorem lkc_one (l : Lk) : (lkc l).all Value.oneCell' = true := rfl
/-- These values read as the topology's lists. -/
structure TopR (w : World) (vo vl : Value) (tp : Top) : Prop where
  ov : RdV w vo (bools tp.ov)
  ls : RdE w vl 7 (tp.ls.map lkc)
theorem TopR.keep {w w' : World} {vo vl : Value} {tp : Top} (h : TopR w vo vl tp) (hm : Mod [] w w') : TopR w' vo vl tp := ⟨h.ov.keep hm, h.ls.keep hm⟩
/-- A list of bools that is only read, at a place. -/
theorem rd_bools {w : World} {ad : Option Addr} {l : List Bool} {c : Nat} (h : RdV w (.slice ad l.length c) (bools l)) (hp : 0 < l.length) : ∃ b o, ad = some ⟨b, o, none⟩ ∧ ∀ i : Int, 0 ≤ i → i < l.length → w.cell? ⟨b, o + i.toNat, none⟩ = some (.bool (ba l i)) := by
  obtain ⟨ad', cap, e, h⟩ := h
  injection e with e _ _
  subst e
  have at_ : ∀ j, j < l.length → (bools l)[j]? = some (.bool (l.getD j false)) := fun j hj => bools_at hj
  obtain ⟨b, o, rfl, _⟩ := h 0 _ (at_ 0 hp)
  refine ⟨b, o, rfl, fun i i0 i1 => ?_⟩
  obtain ⟨b', o', e, h2⟩ := h i.toNat _ (at_ _ (by omega))
  injection e with e
  injection e with e1 e2 _
  subst e1 e2
  exact h2
theorem shapeB {w : World} {v : Value} {l : List Bool} (h : RdV w v (bools l)) : ∃ ad c, v = .slice ad l.length c := by
  obtain ⟨ad, c, rfl, _⟩ := h
  exact ⟨ad, c, by rw [bools_len]⟩
theorem shapeL {w : World} {v : Value} {l : List Lk} (h : RdE w v 7 (l.map lkc)) : ∃ ad c, v = .slice ad l.length c := by
  obtain ⟨ad, c, rfl, _⟩ := h
  exact ⟨ad, c, by rw [List.length_map]⟩
section
variable {w : World} {tp : Top} {vo vl : Value} {dn : List Bool} {vd : Value}
theorem arcs_ok (hT : TopR w vo vl tp) (hl : tp.ls.length ≤ 1048576) : Calls Try.prog 40 #[.agg #[.int .i64 tp.n, vo, vl]] w fun e w' => e = .returned (.int .i64 tp.arcs) ∧ Mod [] w w' := by
  obtain ⟨ad, c, rfl⟩ := shapeL hT.ls
  refine Goal.enter (args := [.agg #[.int .i64 tp.n, vo, .slice ad tp.ls.length c]]) Try.func40 rfl Try.ntmps40 rfl (St.nil w) ?_
  repeat' (first | (refine Goal.loud (o := ⟨some 1, _, _, _, _, _⟩) rfl ?_; refine Loud.boxA rfl rfl (fun b1 => ?_)) | (apply G.assign; exact rfl; exact rfl) | refine Goal.seq (fun _ _ => ?_) | refine Goal.next (by assumption) ?_ | refine Goal.lnil ?_ | refine Goal.region ?_ | refine Goal.ret ?_ | (apply G.fieldAddr; exact rfl; exact rfl; exact T.fld_25_2) | (apply G.load; exact rfl; exact rfl; ((refine LoadOK.one ?_ 0 rfl rfl); exact T.one_23)) | (apply G.mul; exact rfl; exact rfl; exact rfl; exact IntWalk.i64_in _ (by omega)) | (apply G.len; exact rfl; exact rfl; exact T.slc_23))
  refine Goal.done (vs := [_]) (by first | exact .inl rfl | exact .inr rfl) Try.results40 ⟨rfl, trivial⟩ rfl (fun w' H => ⟨rfl, H.mod⟩)
theorem tail_ok (hT : TopR w vo vl tp) {a : Int} (ha : 0 ≤ a ∧ a < tp.arcs) (hl : tp.ls.length ≤ 1048576) : Calls Try.prog 68 #[.agg #[.int .i64 tp.n, vo, vl], .int .i64 a] w fun e w' => e = .returned (.int .i64 (tp.tl a)) ∧ Mod [] w w' := by
  obtain ⟨ad, c, rfl⟩ := shapeL hT.ls
  unfold Top.arcs at ha
  obtain ⟨b, o, rfl, hk⟩ := rd_els hT.ls (by omega)
  unfold Top.tl
  by_cases h : a % 2 = 0
  · rw [if_pos h]
    refine Goal.enter (args := [.agg #[.int .i64 tp.n, vo, .slice (some ⟨b, o, none⟩) tp.ls.length c], .int .i64 a]) Try.func68 rfl Try.ntmps68 rfl (St.nil w) ?_
    repeat' (first | (refine Goal.loud (o := ⟨some 2, _, _, _, _, _⟩) rfl ?_; refine Loud.boxA rfl rfl (fun b2 => ?_)) | (apply G.move; exact rfl; exact rfl) | (apply G.assign; exact rfl; exact rfl) | refine Goal.seq (fun _ _ => ?_) | refine Goal.next (by assumption) ?_ | refine Goal.lnil ?_ | refine Goal.region ?_ | refine Goal.ret ?_ | refine Goal.then_ret ?_ | (refine Goal.condD rfl (fun hc => ?_) (fun hc => ?_) <;> first | (exfalso; omega) | skip) | (apply G.fieldAddr; exact rfl; exact rfl; (first | exact T.fld_25_2 | exact T.fld_39_0)) | (apply G.load; exact rfl; exact rfl; first | exact LoadOK.old T.one_3 (hk (a / 2) (by omega) (by omega) 0 _ rfl) (by simp) | ((refine LoadOK.one ?_ 0 rfl rfl); exact T.one_23)) | (apply G.eql; exact rfl; exact rfl; exact rfl) | (apply G.quo; exact rfl; exact rfl; exact rfl; (decide); exact IntWalk.i64_quo _ _ (by omega)) | (apply G.rem; exact rfl; exact rfl; exact rfl; (decide); exact IntWalk.rem_in _ _ (by omega)) | (refine G.indexAddr rfl T.slc_23 T.sz_39 rfl rfl _ (Int.toNat_of_nonneg (by omega)).symm (by omega) ?_))
    refine Goal.done (vs := [_]) (by first | exact .inl rfl | exact .inr rfl) Try.results68 ⟨rfl, trivial⟩ rfl (fun w' H => ⟨rfl, H.mod⟩)
  · rw [if_neg h]
    refine Goal.enter (args := [.agg #[.int .i64 tp.n, vo, .slice (some ⟨b, o, none⟩) tp.ls.length c], .int .i64 a]) Try.func68 rfl Try.ntmps68 rfl (St.nil w) ?_
    repeat' (first | (refine Goal.loud (o := ⟨some 2, _, _, _, _, _⟩) rfl ?_; refine Loud.boxA rfl rfl (fun b2 => ?_)) | (apply G.move; exact rfl; exact rfl) | (apply G.assign; exact rfl; exact rfl) | refine Goal.seq (fun _ _ => ?_) | refine Goal.next (by assumption) ?_ | refine Goal.lnil ?_ | refine Goal.region ?_ | refine Goal.skip ?_ | refine Goal.ret ?_ | (refine Goal.condD rfl (fun hc => ?_) (fun hc => ?_) <;> first | (exfalso; omega) | skip) | (apply G.fieldAddr; exact rfl; exact rfl; (first | exact T.fld_25_2 | exact T.fld_39_1)) | (apply G.load; exact rfl; exact rfl; first | exact LoadOK.old T.one_3 (hk (a / 2) (by omega) (by omega) 1 _ rfl) (by simp) | ((refine LoadOK.one ?_ 0 rfl rfl); exact T.one_23)) | (apply G.eql; exact rfl; exact rfl; exact rfl) | (apply G.quo; exact rfl; exact rfl; exact rfl; (decide); exact IntWalk.i64_quo _ _ (by omega)) | (apply G.rem; exact rfl; exact rfl; exact rfl; (decide); exact IntWalk.rem_in _ _ (by omega)) | (refine G.indexAddr rfl T.slc_23 T.sz_39 rfl rfl _ (Int.toNat_of_nonneg (by omega)).symm (by omega) ?_))
    refine Goal.done (vs := [_]) (by first | exact .inl rfl | exact .inr rfl) Try.results68 ⟨rfl, trivial⟩ rfl (fun w' H => ⟨rfl, H.mod⟩)
theorem hd_tl {a : Int} (h : 0 ≤ a) : tp.tl (if a % 2 = 0 then a + 1 else a - 1) = tp.hd a := by
  unfold Top.tl Top.hd
  by_cases e : a % 2 = 0
  · simp only [if_pos e]
    rw [if_neg (by omega), show (a + 1) / 2 = a / 2 by omega]
  · simp only [if_neg e]
    rw [if_pos (by omega), show (a - 1) / 2 = a / 2 by omega]
theorem head_ok (hT : TopR w vo vl tp) {a : Int} (ha : 0 ≤ a ∧ a < tp.arcs) (hl : tp.ls.length ≤ 1048576) : Calls Try.prog 50 #[.agg #[.int .i64 tp.n, vo, vl], .int .i64 a] w fun e w' => e = .returned (.int .i64 (tp.hd a)) ∧ Mod [] w w' := by
  have h2 : 0 ≤ (if a % 2 = 0 then a + 1 else a - 1) ∧ (if a % 2 = 0 then a + 1 else a - 1) < tp.arcs := by
    unfold Top.arcs at ha ⊢
    split <;> omega
  have h3 : a < 4611686018427387904 := by unfold Top.arcs at ha; omega
  refine Goal.enter (args := [.agg #[.int .i64 tp.n, vo, vl], .int .i64 a]) Try.func50 rfl Try.ntmps50 rfl (St.nil w) ?_
  repeat' (first | (refine Goal.loud (o := ⟨some 8, _, _, _, _, _⟩) rfl ?_; apply Loud.call0; exact rfl; exact rfl; exact rfl; exact rfl; exact T.bod_68; exact (fun w' H => tail_ok (hT.keep H.mod) h2 hl)) | (refine Goal.loud (o := ⟨some 2, _, _, _, _, _⟩) rfl ?_; refine Loud.boxA rfl rfl (fun b2 => ?_)) | (apply G.move; exact rfl; exact rfl) | (apply G.assign; exact rfl; exact rfl) | refine Goal.seq (fun _ _ => ?_) | refine Goal.next (by assumption) ?_ | refine Goal.lnil ?_ | refine Goal.region ?_ | refine Goal.ret ?_ | (apply G.load; exact rfl; exact rfl; exact ag3 T.agg_25 0 rfl rfl rfl rfl) | (refine Goal.quiet rfl (Run.xor1 rfl rfl (by omega) rfl) ?_))
  rw [hd_tl ha.1]
  refine Goal.done (vs := [_]) (by first | exact .inl rfl | exact .inr rfl) Try.results50 ⟨rfl, trivial⟩ rfl (fun w' H => ⟨rfl, H.mod⟩)
theorem cost_ok (hT : TopR w vo vl tp) {a : Int} (ha : 0 ≤ a ∧ a < tp.arcs) (hl : tp.ls.length ≤ 1048576) : Calls Try.prog 52 #[.agg #[.int .i64 tp.n, vo, vl], .int .i64 a] w fun e w' => e = .returned (.int .i64 (tp.co a)) ∧ Mod [] w w' := by
  obtain ⟨ad, c, rfl⟩ := shapeL hT.ls
  unfold Top.arcs at ha
  obtain ⟨b, o, rfl, hk⟩ := rd_els hT.ls (by omega)
  have hco : ∃ j : Nat, (a % 2).toNat = j ∧ (lkc (el tp.ls (a / 2)))[2 + j]? = some (.int .i64 (tp.co a)) := by
    unfold Top.co
    by_cases h : a % 2 = 0
    · exact ⟨0, by omega, by rw [if_pos h]; rfl⟩
    · exact ⟨1, by omega, by rw [if_neg h]; rfl⟩
  obtain ⟨j, hj, hco⟩ := hco
  have hc := hk (a / 2) (by omega) (by omega) (2 + j) _ hco
  refine Goal.enter (args := [.agg #[.int .i64 tp.n, vo, .slice (some ⟨b, o, none⟩) tp.ls.length c], .int .i64 a]) Try.func52 rfl Try.ntmps52 rfl (St.nil w) ?_
  repeat' (first | (refine Goal.loud (o := ⟨some 2, _, _, _, _, _⟩) rfl ?_; refine Loud.boxA rfl rfl (fun b2 => ?_)) | (apply G.move; exact rfl; exact rfl) | (apply G.assign; exact rfl; exact rfl) | refine Goal.seq (fun _ _ => ?_) | refine Goal.next (by assumption) ?_ | refine Goal.lnil ?_ | refine Goal.region ?_ | refine Goal.ret ?_ | (apply G.fieldAddr; exact rfl; exact rfl; (first | exact T.fld_25_2 | exact T.fld_39_2)) | (apply G.load; exact rfl; exact rfl; first | exact LoadOK.old T.one_3 (by rw [hj, Nat.mul_one, Nat.add_assoc]; exact hc) (by simp) | ((refine LoadOK.one ?_ 0 rfl rfl); exact T.one_23)) | (apply G.quo; exact rfl; exact rfl; exact rfl; (decide); exact IntWalk.i64_quo _ _ (by omega)) | (apply G.rem; exact rfl; exact rfl; exact rfl; (decide); exact IntWalk.rem_in _ _ (by omega)) | (refine G.indexAddr rfl T.slc_23 T.sz_39 rfl rfl _ (Int.toNat_of_nonneg (by omega)).symm (by omega) ?_) | (refine G.indexAddrA rfl T.arr_37 (by exact T.sz_3) rfl rfl _ (Int.toNat_of_nonneg (by omega)).symm (by omega) ?_))
  refine Goal.done (vs := [_]) (by first | exact .inl rfl | exact .inr rfl) Try.results52 ⟨rfl, trivial⟩ rfl (fun w' H => ⟨rfl, H.mod⟩)
theorem node_ok (x : Int) : Calls Try.prog 47 #[.agg #[.int .i64 tp.n, vo, vl], .int .i64 x] w fun e w' => e = .returned (.bool (decide (0 ≤ x ∧ x < tp.n))) ∧ Mod [] w w' := by
  refine Goal.enter (args := [.agg #[.int .i64 tp.n, vo, vl], .int .i64 x]) Try.func47 rfl Try.ntmps47 rfl (St.nil w) ?_
  repeat' (first | (refine Goal.loud (o := ⟨some 2, _, _, _, _, _⟩) rfl ?_; refine Loud.boxA rfl rfl (fun b2 => ?_)) | (apply G.move; exact rfl; exact rfl) | (apply G.assign; exact rfl; exact rfl) | refine Goal.seq (fun _ _ => ?_) | refine Goal.next (by assumption) ?_ | refine Goal.lnil ?_ | refine Goal.region ?_ | refine Goal.ret ?_ | refine Goal.guardT rfl rfl ?_ | refine Goal.guardF rfl rfl rfl rfl ?_ | (refine Goal.guardD rfl rfl (fun hc => ?_) (fun hc => ?_) <;> skip) | (apply G.fieldAddr; exact rfl; exact rfl; exact T.fld_25_0) | (apply G.load; exact rfl; exact rfl; ((refine LoadOK.one ?_ 0 rfl rfl); exact T.one_3)) | (apply G.pickT; exact rfl; exact rfl; exact rfl) | (apply G.pickF; exact rfl; exact rfl; exact rfl) | (apply G.lss; exact rfl; exact rfl; exact rfl) | (apply G.geq; exact rfl; exact rfl; exact rfl))
  all_goals
    refine Goal.done (vs := [_]) (by first | exact .inl rfl | exact .inr rfl) Try.results47 ⟨rfl, trivial⟩ rfl (fun w' H => ⟨ret_bool (by simp; omega), H.mod⟩)
theorem over_ok (hT : TopR w vo vl tp) {x : Int} (hx : tp.ov.length = 0 ∨ (0 ≤ x ∧ x < tp.ov.length)) (hl : tp.ov.length ≤ 140737488355328) : Calls Try.prog 86 #[.agg #[.int .i64 tp.n, vo, vl], .int .i64 x] w fun e w' => e = .returned (.bool (tp.over x)) ∧ Mod [] w w' := by
  obtain ⟨ad, c, rfl⟩ := shapeB hT.ov
  by_cases h : tp.ov.length = 0
  · have e : tp.over x = false := by unfold Top.over ba; rw [List.length_eq_zero_iff.1 h]; rfl
    rw [e]
    refine Goal.enter (args := [.agg #[.int .i64 tp.n, .slice ad tp.ov.length c, vl], .int .i64 x]) Try.func86 rfl Try.ntmps86 rfl (St.nil w) ?_
    repeat' (first | (refine Goal.loud (o := ⟨some 2, _, _, _, _, _⟩) rfl ?_; refine Loud.boxA rfl rfl (fun b2 => ?_)) | (apply G.move; exact rfl; exact rfl) | (apply G.assign; exact rfl; exact rfl) | refine Goal.seq (fun _ _ => ?_) | refine Goal.next (by assumption) ?_ | refine Goal.lnil ?_ | refine Goal.region ?_ | refine Goal.ret ?_ | refine Goal.guardF rfl rfl rfl rfl ?_ | (refine Goal.guardD rfl rfl (fun hc => ?_) (fun hc => ?_) <;> first | (exfalso; omega) | skip) | (apply G.fieldAddr; exact rfl; exact rfl; exact T.fld_25_1) | (apply G.load; exact rfl; exact rfl; ((refine LoadOK.one ?_ 0 rfl rfl); exact T.one_22)) | (apply G.pickF; exact rfl; exact rfl; exact rfl) | (apply G.gtr; exact rfl; exact rfl; exact rfl) | (apply G.len; exact rfl; exact rfl; exact T.slc_22))
    refine Goal.done (vs := [_]) (by first | exact .inl rfl | exact .inr rfl) Try.results86 ⟨rfl, trivial⟩ rfl (fun w' H => ⟨rfl, H.mod⟩)
  · obtain ⟨b, o, rfl, hk⟩ := rd_bools hT.ov (by omega)
    refine Goal.enter (args := [.agg #[.int .i64 tp.n, .slice (some ⟨b, o, none⟩) tp.ov.length c, vl], .int .i64 x]) Try.func86 rfl Try.ntmps86 rfl (St.nil w) ?_
    repeat' (first | (refine Goal.loud (o := ⟨some 2, _, _, _, _, _⟩) rfl ?_; refine Loud.boxA rfl rfl (fun b2 => ?_)) | (apply G.move; exact rfl; exact rfl) | (apply G.assign; exact rfl; exact rfl) | refine Goal.seq (fun _ _ => ?_) | refine Goal.next (by assumption) ?_ | refine Goal.lnil ?_ | refine Goal.region ?_ | refine Goal.ret ?_ | refine Goal.guardT rfl rfl ?_ | (refine Goal.guardD rfl rfl (fun hc => ?_) (fun hc => ?_) <;> first | (exfalso; omega) | skip) | (apply G.fieldAddr; exact rfl; exact rfl; exact T.fld_25_1) | (apply G.load; exact rfl; exact rfl; first | exact LoadOK.old T.one_4 (hk x (by omega) (by omega)) (by simp) | ((refine LoadOK.one ?_ 0 rfl rfl); exact T.one_22)) | (apply G.pickT; exact rfl; exact rfl; exact rfl) | (apply G.gtr; exact rfl; exact rfl; exact rfl) | (apply G.len; exact rfl; exact rfl; exact T.slc_22) | (refine G.indexAddr1 rfl T.slc_22 T.sz_4 rfl rfl _ (Int.toNat_of_nonneg (by omega)).symm (by omega) ?_))
    refine Goal.done (vs := [_]) (by first | exact .inl rfl | exact .inr rfl) Try.results86 ⟨rfl, trivial⟩ rfl (fun w' H => ⟨rfl, H.mod⟩)
theorem down_ok (hd : RdV w vd (bools dn)) {a : Int} (ha : dn.length = 0 ∨ (0 ≤ a ∧ a < dn.length)) (hl : dn.length ≤ 1048576) : Calls Try.prog 87 #[vd, .int .i64 a] w fun e w' => e = .returned (.bool (ba dn a)) ∧ Mod [] w w' := by
  obtain ⟨ad, c, rfl⟩ := shapeB hd
  by_cases h : dn.length = 0
  · have e : ba dn a = false := by unfold ba; rw [List.length_eq_zero_iff.1 h]; rfl
    rw [e]
    refine Goal.enter (args := [.slice ad dn.length c, .int .i64 a]) Try.func87 rfl Try.ntmps87 rfl (St.nil w) ?_
    repeat' (first | (apply G.move; exact rfl; exact rfl) | (apply G.assign; exact rfl; exact rfl) | refine Goal.seq (fun _ _ => ?_) | refine Goal.next (by assumption) ?_ | refine Goal.lnil ?_ | refine Goal.region ?_ | refine Goal.ret ?_ | refine Goal.guardF rfl rfl rfl rfl ?_ | (refine Goal.guardD rfl rfl (fun hc => ?_) (fun hc => ?_) <;> first | (exfalso; omega) | skip) | (apply G.pickF; exact rfl; exact rfl; exact rfl) | (apply G.gtr; exact rfl; exact rfl; exact rfl) | (apply G.len; exact rfl; exact rfl; exact T.slc_22))
    refine Goal.done (vs := [_]) (by first | exact .inl rfl | exact .inr rfl) Try.results87 ⟨rfl, trivial⟩ rfl (fun w' H => ⟨rfl, H.mod⟩)
  · obtain ⟨b, o, rfl, hk⟩ := rd_bools hd (by omega)
    refine Goal.enter (args := [.slice (some ⟨b, o, none⟩) dn.length c, .int .i64 a]) Try.func87 rfl Try.ntmps87 rfl (St.nil w) ?_
    repeat' (first | (apply G.move; exact rfl; exact rfl) | (apply G.assign; exact rfl; exact rfl) | refine Goal.seq (fun _ _ => ?_) | refine Goal.next (by assumption) ?_ | refine Goal.lnil ?_ | refine Goal.region ?_ | refine Goal.ret ?_ | refine Goal.guardT rfl rfl ?_ | (refine Goal.guardD rfl rfl (fun hc => ?_) (fun hc => ?_) <;> first | (exfalso; omega) | skip) | (apply G.load; exact rfl; exact rfl; exact LoadOK.old T.one_4 (hk a (by omega) (by omega)) (by simp)) | (apply G.pickT; exact rfl; exact rfl; exact rfl) | (apply G.gtr; exact rfl; exact rfl; exact rfl) | (apply G.len; exact rfl; exact rfl; exact T.slc_22) | (refine G.indexAddr1 rfl T.slc_22 T.sz_4 rfl rfl _ (Int.toNat_of_nonneg (by omega)).symm (by omega) ?_))
    refine Goal.done (vs := [_]) (by first | exact .inl rfl | exact .inr rfl) Try.results87 ⟨rfl, trivial⟩ rfl (fun w' H => ⟨rfl, H.mod⟩)
theorem fits_ok (hT : TopR w vo vl tp) (hd : RdV w vd (bools dn)) (hl : tp.ls.length ≤ 1048576) : Calls Try.prog 82 #[.agg #[.int .i64 tp.n, vo, vl], vd] w fun e w' => e = .returned (.bool (decide (Fit tp dn))) ∧ Mod [] w w' := by
  obtain ⟨ad, c, rfl⟩ := shapeB hd
  refine Goal.enter (args := [.agg #[.int .i64 tp.n, vo, vl], .slice ad dn.length c]) Try.func82 rfl Try.ntmps82 rfl (St.nil w) ?_
  repeat' (first | (refine Goal.loud (o := ⟨some 12, _, _, _, _, _⟩) rfl ?_; apply Loud.call0; exact rfl; exact rfl; exact rfl; exact rfl; exact T.bod_40; exact (fun w' H => arcs_ok (hT.keep H.mod) hl)) | (refine Goal.loud (o := ⟨some 2, _, _, _, _, _⟩) rfl ?_; refine Loud.boxA rfl rfl (fun b2 => ?_)) | (apply G.move; exact rfl; exact rfl) | (apply G.assign; exact rfl; exact rfl) | refine Goal.seq (fun _ _ => ?_) | refine Goal.next (by assumption) ?_ | refine Goal.lnil ?_ | refine Goal.region ?_ | refine Goal.ret ?_ | refine Goal.guardT rfl rfl ?_ | refine Goal.guardF rfl rfl rfl rfl ?_ | (refine Goal.guardD rfl rfl (fun hc => ?_) (fun hc => ?_) <;> skip) | (apply G.load; exact rfl; exact rfl; exact ag3 T.agg_25 0 rfl rfl rfl rfl) | (apply G.pickT; exact rfl; exact rfl; exact rfl) | (apply G.pickF; exact rfl; exact rfl; exact rfl) | (apply G.eql; exact rfl; exact rfl; exact rfl) | (apply G.len; exact rfl; exact rfl; exact T.slc_22))
  all_goals
    refine Goal.done (vs := [_]) (by first | exact .inl rfl | exact .inr rfl) Try.results82 ⟨rfl, trivial⟩ rfl (fun w' H => ⟨ret_bool (by first | exact (decide_eq_true (p := Fit tp dn) (.inl (by omega))).symm | (rw [decide_eq_decide]; unfold Fit; omega)), H.mod⟩)
end
end Go.Proofs.Ythhhegmhgheeiaa
