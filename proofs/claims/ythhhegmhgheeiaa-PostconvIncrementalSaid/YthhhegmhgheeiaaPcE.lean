/- Masks: one more arc goes down; masks that the program made. · Package postconv: Safe; package waypointref27: Safe; package waypointlaw27: square, large, awake. · Package waypointlaw27: square, large, awake. -/
import Derived.Test.YthhhegmhgheeiaaSpT
import Derived.Test.YthhhegmhgheeiaaCore9
import Derived.Test.YthhhegmhgheeiaaPcC
namespace Go.Proofs.Ythhhegmhgheeiaa
open Go.Wf
set_option linter.unusedVariables false
/-- Where no arc of a shortest path goes down, the distances stay. -/
theorem Bell.less {T : Top} {dn dn2 : List Bool} {d : Int} {D : Int → Int} (hb : Bell T.n d (GD T dn d) D) (hm : ∀ b, 0 ≤ b → b < T.arcs → ba dn2 b = false → ba dn b = false) (hno : ∀ b, 0 ≤ b → b < T.arcs → OnA T dn d D b → ba dn2 b = false) : Bell T.n d (GD T dn2 d) D := by
  refine ⟨hb.root, hb.neg, fun x y c ⟨a, ha, h1, h⟩ => hb.le x y c ⟨a, ha, hm a ha.1 ha.2 h1, h⟩, fun x x0 x1 hx hx0 => ?_⟩
  obtain ⟨y, c, ⟨a, ha, h1, h2, h3, h4, h5⟩, hy, he⟩ := hb.ex x x0 x1 hx hx0
  refine ⟨y, c, ⟨a, ha, hno a ha.1 ha.2 ⟨h1, ?_, ?_, ?_, ?_⟩, h2, h3, h4, h5⟩, hy, he⟩
  · rw [← h3]; exact hx
  · rw [← h4]; exact hy
  · rw [← h4]; exact h2
  · rw [← h3, ← h4, ← h5]; exact he
theorem ba_set {l : List Bool} {a b : Int} {v : Bool} (ha : 0 ≤ a ∧ a < l.length) (hb : 0 ≤ b) : ba (l.set a.toNat v) b = if b = a then v else ba l b := by
  unfold ba
  rw [List.getD_eq_getElem?_getD, List.getD_eq_getElem?_getD, List.getElem?_set]
  by_cases e : b = a
  · subst e
    rw [if_pos rfl, if_pos rfl, if_pos (by omega)]
    rfl
  · rw [if_neg (by omega), if_neg e]
theorem ba_rep (k : Nat) (b : Int) : ba (List.replicate k false) b = false := by
  unfold ba
  rw [List.getD_eq_getElem?_getD, List.getElem?_replicate]
  split <;> rfl
theorem ba_cpB {k : Nat} {dn : List Bool} (b : Int) : ba (cpB (List.replicate k false) dn) b = ba dn b := by
  unfold cpB
  by_cases h : dn.length = 0
  · rw [if_pos h, ba_rep, List.length_eq_zero_iff.1 h]
    simp [ba]
  · rw [if_neg h]
theorem cpB_len {k : Nat} {dn : List Bool} (h : dn.length = 0 ∨ dn.length = k) : (cpB (List.replicate k false) dn).length = k := by
  unfold cpB
  split
  · simp
  · rename_i h0; exact h.resolve_left h0
theorem rdb {w0 w : World} {S : List Nat} {L : List Blk} (H : St w0 S w L) {b E k : Nat} {l : List Bool} (hb : (b, Obj.cells (bools l).toArray E) ∈ L) (hk : l.length = k) : RdV w (.slice (some ⟨b, 0, none⟩) k k) (bools l) := by
  have := RdV.of_lit (vs := bools l) (H.get hb)
  rwa [bools_len, hk] at this
end Go.Proofs.Ythhhegmhgheeiaa
namespace Go.Proofs.Ythhhegmhgheeiaa
open Go.Wf
set_option linter.unusedVariables false
structure SR where
  (r : Bool)
theorem chk_d {tp : Top} {dn : List Bool} {d : Int} (ht : tp.Ok) (hf : Fit tp dn) (h : ¬ (0 ≤ d ∧ d < tp.n)) : chk tp dn [d] = 2 := by
  unfold chk
  rw [if_pos ⟨ht, hf⟩, if_neg (fun h3 => h (h3 d (by simp)))]
section
variable {w : World} {tp : Top} {vo vl vd : Value} {dn : List Bool} {g d : Int}
end
end Go.Proofs.Ythhhegmhgheeiaa
namespace Go.Proofs.Ythhhegmhgheeiaa
open Go.Wf
set_option linter.unusedVariables false
def sqm : List Bool := [true, true, false, false, false, false, false, false]
structure QS where
  (v : Value) (A : List Blk) (b : Nat)
structure QI where
  (i : Int) (v : Value) (A : List Blk)
theorem square27_ok (w : World) : Calls Try.prog 58 #[] w fun e w' => ∃ x : QS, Sl x.v 39 7 sqL.length (Els lkc sqL) x.A ∧ e = .returned (.tuple #[.agg #[.int .i64 4, .slice none 0 0, x.v], .slice (some ⟨x.b, 0, none⟩) 8 8]) ∧ St w [] w' ((x.b, .cells (bools sqm).toArray 4) :: x.A) := by
  refine Goal.enter (args := []) Try.func58 rfl Try.ntmps58 rfl (St.nil w) ?_
  repeat' (first | (refine Goal.loud (o := ⟨some 0, _, _, _, _, _⟩) rfl ?_; refine Loud.allocA rfl T.inf_25 (fun b0 => ?_)) | (refine Goal.loud (o := ⟨some 2, _, _, _, _, _⟩) rfl ?_; refine Loud.allocA rfl T.inf_25 (fun b2 => ?_)) | (refine Goal.loud (o := ⟨some 16, _, _, _, _, _⟩) rfl ?_; refine Loud.buildSlice (cs := [_, _, _, _, _, _, _]) rfl T.slc_23 T.inf_39 rfl rfl (by decide) rfl rfl rfl (fun b16 => ?_)) | (refine Goal.loud (o := ⟨some 21, _, _, _, _, _⟩) rfl ?_; refine Loud.buildSlice (cs := [_, _, _, _, _, _, _, _]) rfl T.slc_22 T.inf_4 rfl rfl (by decide) rfl rfl rfl (fun b21 => ?_)) | (apply G.move; exact rfl; exact rfl) | (apply G.assign; exact rfl; exact rfl) | refine Goal.seq (fun _ _ => ?_) | refine Goal.next (by assumption) ?_ | refine Goal.lnil ?_ | refine Goal.region ?_ | refine Goal.skip ?_ | refine Goal.block ?_ | refine Goal.exit ?_ | refine Goal.ret ?_ | refine Goal.then_exit ?_ | refine Goal.then_ret ?_ | refine Goal.inBlock_exit ?_ | refine Goal.inBlock_normal ?_ | refine Goal.inBlock_ret ?_ | refine Goal.inBlock_other rfl ?_ | (apply Goal.condT; exact rfl) | (apply Goal.condF; exact rfl) | (refine Goal.condD rfl (fun hc => ?_) (fun hc => ?_) <;> first | (exfalso; omega) | contradiction | skip) | refine Goal.condB rfl (fun hc => ?_) (fun hc => ?_) | (apply G.fieldAddr; exact rfl; exact rfl; exact T.fld_25_2) | (apply G.load; exact rfl; exact rfl; first | ((first | refine LoadOK.one ?_ 0 rfl rfl | refine LoadOK.one ?_ 1 rfl rfl | refine LoadOK.one ?_ 2 rfl rfl | refine LoadOK.one ?_ 3 rfl rfl | refine LoadOK.one ?_ 4 rfl rfl); exact T.one_23) | exact ag3 T.agg_25 0 rfl rfl rfl rfl | exact ag3 T.agg_25 1 rfl rfl rfl rfl | exact ag3 T.agg_25 2 rfl rfl rfl rfl | exact ag3 T.agg_25 3 rfl rfl rfl rfl | exact ag3 T.agg_25 4 rfl rfl rfl rfl) | (apply G.lss; exact rfl; exact rfl; exact rfl) | (apply G.add; exact rfl; exact rfl; exact rfl; exact IntWalk.i64_in _ (by omega)) | (apply G.rem; exact rfl; exact rfl; exact rfl; (first | decide | omega); exact IntWalk.rem_in _ _ (by omega)) | (apply G.build (cs := [_, _, _]); exact rfl; exact T.lay_25; exact rfl; exact rfl) | (apply G.build (cs := [_, _]); exact rfl; exact T.lay_37; exact rfl; exact rfl) | (apply G.build (cs := [_, _, _, _, _, _, _]); exact rfl; exact T.lay_39; exact rfl; exact rfl) | (refine Goal.loud rfl ?_; (first | refine Loud.store0 rfl rfl (by first | exact T.sz_23 | exact T.sz_25) rfl rfl rfl ?_ rfl ?_ | refine Loud.store1 rfl rfl (by first | exact T.sz_23 | exact T.sz_25) rfl rfl rfl ?_ rfl ?_ | refine Loud.store2 rfl rfl (by first | exact T.sz_23 | exact T.sz_25) rfl rfl rfl ?_ rfl ?_ | refine Loud.store3 rfl rfl (by first | exact T.sz_23 | exact T.sz_25) rfl rfl rfl ?_ rfl ?_ | refine Loud.store4 rfl rfl (by first | exact T.sz_23 | exact T.sz_25) rfl rfl rfl ?_ rfl ?_); first | exact Nat.le_of_ble_eq_true rfl | exact Nat.le_refl _ | decide | (simp; omega)))
  refine Goal.loopP (X := QI) (fun x => [(0, .pointer (some ⟨b0, 0, none⟩)), (2, .pointer (some ⟨b2, 0, none⟩)), (5, .int .i64 x.i)]) (fun x => (b2, .cells #[.int .i64 4, .slice none 0 0, x.v] 25) :: (b0, .cells #[.int .i64 0, .slice none 0 0, .slice none 0 0] 25) :: x.A)
    (fun x => (0 ≤ x.i ∧ x.i ≤ 4) ∧ Sl x.v 39 7 x.i.toNat (Els lkc (sqL.take x.i.toNat)) x.A) (fun x => (4 - x.i).toNat) ⟨0, .slice none 0 0, []⟩ ⟨rfl, rfl, rfl, trivial⟩ (fun _ h => h) ⟨by dsimp only; omega, Sl.nil _ _⟩ ?_
  rintro ⟨i, v, A⟩ ⟨hi, hS⟩
  dsimp only at hi hS ⊢
  obtain ⟨av, cv, rfl⟩ := hS.shape
  by_cases h : i < 4
  · skip
    repeat' (first | (refine Goal.loud (o := ⟨some 17, _, _, _, _, _⟩) rfl ?_; refine Loud.appendT rfl T.slc_23 T.inf_39 rfl [_, _] rfl hS rfl rfl rfl rfl (by omega) (by omega) ?_; intro v2 A2 hA2; obtain ⟨ad2, cap2, rfl⟩ := hA2.shape) | (refine Goal.loud (o := ⟨some 0, _, _, _, _, _⟩) rfl ?_; refine Loud.allocA rfl T.inf_25 (fun b0 => ?_)) | (refine Goal.loud (o := ⟨some 2, _, _, _, _, _⟩) rfl ?_; refine Loud.allocA rfl T.inf_25 (fun b2 => ?_)) | (refine Goal.loud (o := ⟨some 16, _, _, _, _, _⟩) rfl ?_; refine Loud.buildSlice (cs := [_, _, _, _, _, _, _]) rfl T.slc_23 T.inf_39 rfl rfl (by decide) rfl rfl rfl (fun b16 => ?_)) | (refine Goal.loud (o := ⟨some 21, _, _, _, _, _⟩) rfl ?_; refine Loud.buildSlice (cs := [_, _, _, _, _, _, _, _]) rfl T.slc_22 T.inf_4 rfl rfl (by decide) rfl rfl rfl (fun b21 => ?_)) | (apply G.move; exact rfl; exact rfl) | (apply G.assign; exact rfl; exact rfl) | refine Goal.seq (fun _ _ => ?_) | refine Goal.next (by assumption) ?_ | refine Goal.lnil ?_ | refine Goal.region ?_ | refine Goal.skip ?_ | refine Goal.block ?_ | refine Goal.exit ?_ | refine Goal.ret ?_ | refine Goal.then_exit ?_ | refine Goal.then_ret ?_ | refine Goal.inBlock_exit ?_ | refine Goal.inBlock_normal ?_ | refine Goal.inBlock_ret ?_ | refine Goal.inBlock_other rfl ?_ | (apply Goal.condT; exact rfl) | (apply Goal.condF; exact rfl) | (refine Goal.condD rfl (fun hc => ?_) (fun hc => ?_) <;> first | (exfalso; omega) | contradiction | skip) | refine Goal.condB rfl (fun hc => ?_) (fun hc => ?_) | (apply G.fieldAddr; exact rfl; exact rfl; exact T.fld_25_2) | (apply G.load; exact rfl; exact rfl; first | ((first | refine LoadOK.one ?_ 0 rfl rfl | refine LoadOK.one ?_ 1 rfl rfl | refine LoadOK.one ?_ 2 rfl rfl | refine LoadOK.one ?_ 3 rfl rfl | refine LoadOK.one ?_ 4 rfl rfl); exact T.one_23) | exact ag3 T.agg_25 0 rfl rfl rfl rfl | exact ag3 T.agg_25 1 rfl rfl rfl rfl | exact ag3 T.agg_25 2 rfl rfl rfl rfl | exact ag3 T.agg_25 3 rfl rfl rfl rfl | exact ag3 T.agg_25 4 rfl rfl rfl rfl) | (apply G.lss; exact rfl; exact rfl; exact rfl) | (apply G.add; exact rfl; exact rfl; exact rfl; exact IntWalk.i64_in _ (by omega)) | (apply G.rem; exact rfl; exact rfl; exact rfl; (first | decide | omega); exact IntWalk.rem_in _ _ (by omega)) | (apply G.build (cs := [_, _, _]); exact rfl; exact T.lay_25; exact rfl; exact rfl) | (apply G.build (cs := [_, _]); exact rfl; exact T.lay_37; exact rfl; exact rfl) | (apply G.build (cs := [_, _, _, _, _, _, _]); exact rfl; exact T.lay_39; exact rfl; exact rfl) | (refine Goal.loud rfl ?_; (first | refine Loud.store0 rfl rfl (by first | exact T.sz_23 | exact T.sz_25) rfl rfl rfl ?_ rfl ?_ | refine Loud.store1 rfl rfl (by first | exact T.sz_23 | exact T.sz_25) rfl rfl rfl ?_ rfl ?_ | refine Loud.store2 rfl rfl (by first | exact T.sz_23 | exact T.sz_25) rfl rfl rfl ?_ rfl ?_ | refine Loud.store3 rfl rfl (by first | exact T.sz_23 | exact T.sz_25) rfl rfl rfl ?_ rfl ?_ | refine Loud.store4 rfl rfl (by first | exact T.sz_23 | exact T.sz_25) rfl rfl rfl ?_ rfl ?_); first | exact Nat.le_of_ble_eq_true rfl | exact Nat.le_refl _ | decide | (simp; omega)))
    refine Goal.again ⟨i + 1, .slice ad2 (i.toNat + 1) cap2, A2⟩ ⟨by dsimp only; omega, ?_⟩ (by dsimp only; omega) ⟨rfl, rfl, rfl, trivial⟩ (fun _ h => h)
    dsimp only
    rw [sq_at i hi.1 h, Els_one, show (i + 1).toNat = i.toNat + 1 by omega]
    exact hA2
  · obtain rfl : i = 4 := by omega
    repeat' (first | (refine Goal.loud (o := ⟨some 0, _, _, _, _, _⟩) rfl ?_; refine Loud.allocA rfl T.inf_25 (fun b0 => ?_)) | (refine Goal.loud (o := ⟨some 2, _, _, _, _, _⟩) rfl ?_; refine Loud.allocA rfl T.inf_25 (fun b2 => ?_)) | (refine Goal.loud (o := ⟨some 16, _, _, _, _, _⟩) rfl ?_; refine Loud.buildSlice (cs := [_, _, _, _, _, _, _]) rfl T.slc_23 T.inf_39 rfl rfl (by decide) rfl rfl rfl (fun b16 => ?_)) | (refine Goal.loud (o := ⟨some 21, _, _, _, _, _⟩) rfl ?_; refine Loud.buildSlice (cs := [_, _, _, _, _, _, _, _]) rfl T.slc_22 T.inf_4 rfl rfl (by decide) rfl rfl rfl (fun b21 => ?_)) | (apply G.move; exact rfl; exact rfl) | (apply G.assign; exact rfl; exact rfl) | refine Goal.seq (fun _ _ => ?_) | refine Goal.next (by assumption) ?_ | refine Goal.lnil ?_ | refine Goal.region ?_ | refine Goal.skip ?_ | refine Goal.block ?_ | refine Goal.exit ?_ | refine Goal.ret ?_ | refine Goal.then_exit ?_ | refine Goal.then_ret ?_ | refine Goal.inBlock_exit ?_ | refine Goal.inBlock_normal ?_ | refine Goal.inBlock_ret ?_ | refine Goal.inBlock_other rfl ?_ | (apply Goal.condT; exact rfl) | (apply Goal.condF; exact rfl) | (refine Goal.condD rfl (fun hc => ?_) (fun hc => ?_) <;> first | (exfalso; omega) | contradiction | skip) | refine Goal.condB rfl (fun hc => ?_) (fun hc => ?_) | (apply G.fieldAddr; exact rfl; exact rfl; exact T.fld_25_2) | (apply G.load; exact rfl; exact rfl; first | ((first | refine LoadOK.one ?_ 0 rfl rfl | refine LoadOK.one ?_ 1 rfl rfl | refine LoadOK.one ?_ 2 rfl rfl | refine LoadOK.one ?_ 3 rfl rfl | refine LoadOK.one ?_ 4 rfl rfl); exact T.one_23) | exact ag3 T.agg_25 0 rfl rfl rfl rfl | exact ag3 T.agg_25 1 rfl rfl rfl rfl | exact ag3 T.agg_25 2 rfl rfl rfl rfl | exact ag3 T.agg_25 3 rfl rfl rfl rfl | exact ag3 T.agg_25 4 rfl rfl rfl rfl) | (apply G.lss; exact rfl; exact rfl; exact rfl) | (apply G.add; exact rfl; exact rfl; exact rfl; exact IntWalk.i64_in _ (by omega)) | (apply G.rem; exact rfl; exact rfl; exact rfl; (first | decide | omega); exact IntWalk.rem_in _ _ (by omega)) | (apply G.build (cs := [_, _, _]); exact rfl; exact T.lay_25; exact rfl; exact rfl) | (apply G.build (cs := [_, _]); exact rfl; exact T.lay_37; exact rfl; exact rfl) | (apply G.build (cs := [_, _, _, _, _, _, _]); exact rfl; exact T.lay_39; exact rfl; exact rfl) | (refine Goal.loud rfl ?_; (first | refine Loud.store0 rfl rfl (by first | exact T.sz_23 | exact T.sz_25) rfl rfl rfl ?_ rfl ?_ | refine Loud.store1 rfl rfl (by first | exact T.sz_23 | exact T.sz_25) rfl rfl rfl ?_ rfl ?_ | refine Loud.store2 rfl rfl (by first | exact T.sz_23 | exact T.sz_25) rfl rfl rfl ?_ rfl ?_ | refine Loud.store3 rfl rfl (by first | exact T.sz_23 | exact T.sz_25) rfl rfl rfl ?_ rfl ?_ | refine Loud.store4 rfl rfl (by first | exact T.sz_23 | exact T.sz_25) rfl rfl rfl ?_ rfl ?_); first | exact Nat.le_of_ble_eq_true rfl | exact Nat.le_refl _ | decide | (simp; omega)))
    refine Goal.done (vs := [_, _]) (by first | exact .inl rfl | exact .inr rfl) Try.results58 ⟨⟨_, rfl, LoadOK.agg (vs := [.int .i64 4, .slice none 0 0, .slice av 4 cv]) T.agg_25 2 rfl rfl ⟨rfl, rfl, rfl, trivial⟩⟩, rfl, trivial⟩ rfl (fun w' H => ⟨⟨_, A, b21⟩, hS, rfl, H.sub (.cons_cons _ (.cons _ (.cons _ (.refl _))))⟩)
theorem large27_ok {tp : Top} {dn : List Bool} (ao al ad : Option Addr) (co cl cd : Nat) (x y : Int) (w : World) : Calls Try.prog 34 #[.agg #[.int .i64 tp.n, .slice ao tp.ov.length co, .slice al tp.ls.length cl, .slice ad dn.length cd, .int .i64 x, .int .i64 y]] w
    fun e w' => e = .returned (.bool (decide (12 < tp.n ∨ 20 < tp.ls.length ∨ 60 < dn.length))) ∧ Mod [] w w' := by
  refine Goal.enter (args := [.agg #[.int .i64 tp.n, .slice ao tp.ov.length co, .slice al tp.ls.length cl, .slice ad dn.length cd, .int .i64 x, .int .i64 y]]) Try.func34 rfl Try.ntmps34 rfl (St.nil w) ?_
  repeat' (first | (refine Goal.loud (o := ⟨some 1, _, _, _, _, _⟩) rfl ?_; first | refine Loud.boxA rfl rfl (fun b1 => ?_) | refine Loud.box1 rfl rfl rfl (fun b1 => ?_)) | (apply G.move; exact rfl; exact rfl) | (apply G.assign; exact rfl; exact rfl) | refine Goal.seq (fun _ _ => ?_) | refine Goal.next (by assumption) ?_ | refine Goal.lnil ?_ | refine Goal.region ?_ | refine Goal.skip ?_ | refine Goal.block ?_ | refine Goal.exit ?_ | refine Goal.ret ?_ | refine Goal.then_exit ?_ | refine Goal.then_ret ?_ | refine Goal.inBlock_exit ?_ | refine Goal.inBlock_normal ?_ | refine Goal.inBlock_ret ?_ | refine Goal.inBlock_other rfl ?_ | (apply Goal.condT; exact rfl) | (apply Goal.condF; exact rfl) | (refine Goal.condD rfl (fun hc => ?_) (fun hc => ?_) <;> first | (exfalso; omega) | contradiction | skip) | refine Goal.condB rfl (fun hc => ?_) (fun hc => ?_) | refine Goal.guardT rfl rfl ?_ | refine Goal.guardF rfl rfl rfl rfl ?_ | refine Goal.guardU rfl rfl rfl ?_ | (refine Goal.guardD rfl rfl (fun hc => ?_) (fun hc => ?_) <;> first | (exfalso; omega) | contradiction | skip) | refine Goal.guardB rfl rfl (fun hc => ?_) (fun hc => ?_) | (apply G.fieldAddr; exact rfl; exact rfl; (first | exact T.fld_25_0 | exact T.fld_25_2 | exact T.fld_67_0 | exact T.fld_67_1)) | (apply G.load; exact rfl; exact rfl; first | ((first | refine LoadOK.one ?_ 0 rfl rfl | refine LoadOK.one ?_ 1 rfl rfl | refine LoadOK.one ?_ 2 rfl rfl | refine LoadOK.one ?_ 3 rfl rfl | refine LoadOK.one ?_ 4 rfl rfl); first | exact T.one_3 | exact T.one_22 | exact T.one_23)) | (apply G.pickT; exact rfl; exact rfl; exact rfl) | (apply G.pickF; exact rfl; exact rfl; exact rfl) | (apply G.gtr; exact rfl; exact rfl; exact rfl) | (apply G.len; exact rfl; exact rfl; (first | exact T.slc_22 | exact T.slc_23)))
  all_goals
    refine Goal.done (vs := [_]) (by first | exact .inl rfl | exact .inr rfl) Try.results34 ⟨rfl, trivial⟩ rfl (fun w' H => ⟨ret_bool (by first | exact decide_eq_decide.2 (by omega) | exact (decide_eq_true (by omega)).symm | exact (decide_eq_false (by omega)).symm), H.mod⟩)
theorem sqm_dl1 {l : List Int} (h : DL 4 1 (GD sq sqm 1) l) : l = [3, 0, 1, 2] := DL.one (GD.ok sq_ok) h (dlB_spec (T := sq) (dn := sqm) (by decide))
theorem sqm_dl2 {l : List Int} (h : DL 4 2 (GD sq sqm 2) l) : l = [2, 1, 0, 1] := DL.one (GD.ok sq_ok) h (dlB_spec (T := sq) (dn := sqm) (by decide))
theorem sqn_dl1 {l : List Int} (h : DL 4 1 (GD sq [] 1) l) : l = [1, 0, 1, 2] := DL.one (GD.ok sq_ok) h (dlB_spec (T := sq) (dn := []) (by decide))
theorem sqm_fit : Fit sq sqm := .inr rfl
section
variable {w : World} {vo vl vd : Value}
theorem sq27_path (hT : TopR w vo vl sq) (hd : RdV w vd (bools sqm)) : Calls Try.prog 59 #[.agg #[.int .i64 4, vo, vl], vd, .int .i64 0, .int .i64 1] w fun e w' => ∃ x : PV, Sl x.v 3 1 3 (ints [7, 5, 3]) x.A ∧ e = .returned (.tuple #[x.v, .int .i64 0]) ∧ St w [] w' x.A :=
  (ppath_ok (tp := sq) (dn := sqm) (s := 0) (d := 1) hT hd sq_ok sqm_fit (by decide) (by decide)).mono fun e w' ⟨⟨l, p, v, er, A⟩, ⟨hl, hP⟩, he, H⟩ => by
    dsimp only at hl hP he H
    rw [sqm_dl1 hl] at hP
    rcases hP with ⟨h, _⟩ | ⟨_, rfl, hf, hS⟩
    · exact absurd h (by decide)
    · have e : p = [7, 5, 3] := FP.one hf (fpB_spec (by decide))
      subst e
      exact ⟨⟨v, A⟩, hS, he, H⟩
theorem sq27_extra1 (hT : TopR w vo vl sq) (hd : RdV w vd (bools sqm)) : Calls Try.prog 36 #[.agg #[.int .i64 4, vo, vl], vd, .int .i64 0, .int .i64 1] w fun e w' => e = .returned (.tuple #[.int .i64 2, .int .i64 0]) ∧ Mod [] w w' :=
  (pextra_ok (tp := sq) (dn := sqm) (s := 0) (d := 1) hT hd sq_ok sqm_fit (by decide) (by decide)).mono fun e w' ⟨⟨ex, er⟩, ⟨l, hl, h⟩, he, H⟩ => by
    dsimp only at h he H
    rw [sqm_dl1 hl] at h
    rcases h with ⟨h, _⟩ | ⟨_, rfl, m, hm, rfl⟩
    · exact absurd h (by decide)
    · rw [sqn_dl1 hm] at he
      exact ⟨he, H.mod⟩
theorem sq27_extra2 (hT : TopR w vo vl sq) (hd : RdV w vd (bools sqm)) : Calls Try.prog 36 #[.agg #[.int .i64 4, vo, vl], vd, .int .i64 0, .int .i64 2] w fun e w' => e = .returned (.tuple #[.int .i64 0, .int .i64 0]) ∧ Mod [] w w' :=
  (pextra_ok (tp := sq) (dn := sqm) (s := 0) (d := 2) hT hd sq_ok sqm_fit (by decide) (by decide)).mono fun e w' ⟨⟨ex, er⟩, ⟨l, hl, h⟩, he, H⟩ => by
    dsimp only at h he H
    rw [sqm_dl2 hl] at h
    rcases h with ⟨h, _⟩ | ⟨_, rfl, m, hm, rfl⟩
    · exact absurd h (by decide)
    · rw [sq_dl hm] at he
      exact ⟨he, H.mod⟩
theorem sq27_reach (hT : TopR w vo vl sq) (hd : RdV w vd (bools sqm)) : Calls Try.prog 60 #[.agg #[.int .i64 4, vo, vl], vd, .int .i64 0, .int .i64 1] w fun e w' => e = .returned (.bool true) ∧ Mod [] w w' :=
  (reach_ok (tp := sq) (dn := sqm) (s := 0) (d := 1) hT hd sq_ok sqm_fit (by decide) (by decide)).mono fun e w' ⟨⟨er⟩, ⟨l, hl, h⟩, he, H⟩ => by
    dsimp only at h he H
    rw [sqm_dl1 hl] at h
    rcases h with ⟨h, _⟩ | ⟨_, rfl⟩
    · exact absurd h (by decide)
    · exact ⟨he, H.mod⟩
end
set_option maxHeartbeats 4000000 in
theorem awake27_ok (w : World) : Calls Try.prog 33 #[] w fun e w' => e = .returned (.bool true) ∧ Mod [] w w' := by
  refine Goal.enter (args := []) Try.func33 rfl Try.ntmps33 rfl (St.nil w) ?_
  repeat' (first | (refine Goal.loud (o := ⟨some 10, _, _, _, _, _⟩) rfl ?_; apply Loud.callN; exact rfl; exact rfl; exact rfl; exact rfl; exact T.bod_58; exact (fun w' H => square27_ok w'); rintro ⟨v, A, bq⟩ hS; dsimp only at hS ⊢; obtain ⟨av, cv, rfl⟩ := hS.shape) | (refine Goal.loud (o := ⟨some 16, _, _, _, _, _⟩) rfl ?_; apply Loud.callN; exact rfl; exact rfl; exact rfl; exact rfl; exact T.bod_59; exact (fun w' H => sq27_path (sqT H hS (fun p hp => by simp [hp])) (rdb H (l := sqm) (b := bq) (E := 4) (by simp) rfl)); rintro ⟨vp, Ap⟩ hSp; dsimp only at hSp ⊢; obtain ⟨ap, cp, rfl⟩ := hSp.shape) | (refine Goal.loud (o := ⟨some 22, _, _, _, _, _⟩) rfl ?_; refine Loud.call0 (fst := []) (cap := #[]) (vs := [_, _, _, _]) (args := [_, _, _, _]) (v := .tuple #[.int .i64 2, .int .i64 0]) rfl rfl rfl rfl T.bod_36 (fun w' H => sq27_extra1 (sqT H hS (fun p hp => by simp [hp])) (rdb H (l := sqm) (b := bq) (E := 4) (by simp) rfl)) ?_) | (refine Goal.loud (o := ⟨some 28, _, _, _, _, _⟩) rfl ?_; refine Loud.call0 (fst := []) (cap := #[]) (vs := [_, _, _, _]) (args := [_, _, _, _]) (v := .tuple #[.int .i64 0, .int .i64 0]) rfl rfl rfl rfl T.bod_36 (fun w' H => sq27_extra2 (sqT H hS (fun p hp => by simp [hp])) (rdb H (l := sqm) (b := bq) (E := 4) (by simp) rfl)) ?_) | (refine Goal.loud (o := ⟨some 44, _, _, _, _, _⟩) rfl ?_; refine Loud.call0 (fst := []) (cap := #[]) (vs := [_, _]) (args := [_, _]) (v := .bool true) rfl rfl rfl rfl T.bod_22 (fun w' H => same_yes (l := [7, 5, 3]) (rds H hSp (fun p hp => by simp [hp])) (rdm H (l := [7, 5, 3]) (b := b43) (E := 3) (by simp [ints])) (by decide)) ?_) | (refine Goal.loud (o := ⟨some 57, _, _, _, _, _⟩) rfl ?_; refine Loud.call0 (fst := []) (cap := #[]) (vs := [_, _, _, _]) (args := [_, _, _, _]) (v := .bool true) rfl rfl rfl rfl T.bod_60 (fun w' H => sq27_reach (sqT H hS (fun p hp => by simp [hp])) (rdb H (l := sqm) (b := bq) (E := 4) (by simp) rfl)) ?_) | (refine Goal.loud (o := ⟨some 1, _, _, _, _, _⟩) rfl ?_; refine Loud.allocA rfl T.inf_25 (fun b1 => ?_)) | (refine Goal.loud (o := ⟨some 43, _, _, _, _, _⟩) rfl ?_; refine Loud.buildSlice (cs := [_, _, _]) rfl T.slc_46 T.inf_3 rfl rfl (by decide) rfl rfl rfl (fun b43 => ?_)) | (apply G.move; exact rfl; exact rfl) | (apply G.assign; exact rfl; exact rfl) | refine Goal.seq (fun _ _ => ?_) | refine Goal.next (by assumption) ?_ | refine Goal.lnil ?_ | refine Goal.region ?_ | refine Goal.skip ?_ | refine Goal.block ?_ | refine Goal.exit ?_ | refine Goal.ret ?_ | refine Goal.then_exit ?_ | refine Goal.then_ret ?_ | refine Goal.inBlock_exit ?_ | refine Goal.inBlock_normal ?_ | refine Goal.inBlock_ret ?_ | refine Goal.inBlock_other rfl ?_ | (apply Goal.condT; exact rfl) | (apply Goal.condF; exact rfl) | (refine Goal.condD rfl (fun hc => ?_) (fun hc => ?_) <;> first | (exfalso; omega) | contradiction | skip) | refine Goal.condB rfl (fun hc => ?_) (fun hc => ?_) | refine Goal.guardT rfl rfl ?_ | refine Goal.guardF rfl rfl rfl rfl ?_ | refine Goal.guardU rfl rfl rfl ?_ | (refine Goal.guardD rfl rfl (fun hc => ?_) (fun hc => ?_) <;> first | (exfalso; omega) | contradiction | skip) | refine Goal.guardB rfl rfl (fun hc => ?_) (fun hc => ?_) | (apply G.load; exact rfl; exact rfl; first | exact ag3 T.agg_25 0 rfl rfl rfl rfl | exact ag3 T.agg_25 1 rfl rfl rfl rfl | exact ag3 T.agg_25 2 rfl rfl rfl rfl | exact ag3 T.agg_25 3 rfl rfl rfl rfl | exact ag3 T.agg_25 4 rfl rfl rfl rfl) | (apply G.pickT; exact rfl; exact rfl; exact rfl) | (apply G.pickF; exact rfl; exact rfl; exact rfl) | (apply G.eql; exact rfl; exact rfl; exact rfl) | (apply G.extract; exact rfl; exact rfl; exact rfl) | (refine Goal.loud rfl ?_; (first | refine Loud.store0 rfl rfl T.sz_25 rfl rfl rfl ?_ rfl ?_ | refine Loud.store1 rfl rfl T.sz_25 rfl rfl rfl ?_ rfl ?_ | refine Loud.store2 rfl rfl T.sz_25 rfl rfl rfl ?_ rfl ?_ | refine Loud.store3 rfl rfl T.sz_25 rfl rfl rfl ?_ rfl ?_ | refine Loud.store4 rfl rfl T.sz_25 rfl rfl rfl ?_ rfl ?_); first | exact Nat.le_of_ble_eq_true rfl | exact Nat.le_refl _ | decide | (simp; omega)))
  refine Goal.done (vs := [_]) (by first | exact .inl rfl | exact .inr rfl) Try.results33 ⟨rfl, trivial⟩ rfl (fun w' H => ⟨rfl, H.mod⟩)
end Go.Proofs.Ythhhegmhgheeiaa
