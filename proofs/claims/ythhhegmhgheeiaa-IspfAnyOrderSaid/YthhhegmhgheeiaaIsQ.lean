/- Package waypointlaw13: IspfAnyOrder. -/
import Derived.Test.YthhhegmhgheeiaaIsO
namespace Go.Wf
theorem anyPerm {w0 w : World} {S : List Nat} {b : Blk} {A Ar A2 Ar2 : List Blk} (h : St w0 S w (b :: ((A ++ Ar) ++ (A2 ++ Ar2)))) : St w0 S w (A ++ A2) :=
  (h.perm (L' := (A ++ A2) ++ (b :: (Ar ++ Ar2))) (perm_of_cnt fun p => by simp only [List.countP_cons, List.countP_append]; ac_rfl)).left
end Go.Wf
namespace Go.Proofs.Ythhhegmhgheeiaa
open Go.Wf
set_option linter.unusedVariables false
theorem el_rev {l : List Act3} {i : Int} (hi : 0 ≤ i ∧ i < l.length) : el l.reverse i = el l ((l.length : Int) - 1 - i) := by
  rw [el_get (by rw [List.length_reverse]; exact hi), el_get (by omega), List.getElem_reverse]
  congr 1
  omega
section
variable {w : World} {tp : Top} {dn : List Bool} {vo vl vd va : Value} {l : List Act3}
set_option maxHeartbeats 8000000 in
theorem law_any (d : Int) (hT : TopR w vo vl tp) (hd : RdV w vd (bools dn)) (hl : RdE w va 3 (l.map actc)) (hll : l.length ≤ 140737488355328) : Calls Try.prog 10 #[.agg #[.int .i64 tp.n, vo, vl], vd, .int .i64 d, va] w fun e w' => e = .returned (.bool true) ∧ Mod [] w w' := by
  obtain ⟨ao, co, rfl⟩ := shapeB hT.ov
  obtain ⟨al, cl, rfl⟩ := shapeL hT.ls
  obtain ⟨ad, cd, rfl⟩ := shapeB hd
  obtain ⟨aa, ca, rfl, _⟩ := id hl
  rw [List.length_map] at hl ⊢
  by_cases hlg : 100 < tp.ov.length ∨ 20 < tp.ls.length ∨ 100 < dn.length ∨ 14 < tp.n
  · skip
    refine Goal.enter (args := [.agg #[.int .i64 tp.n, .slice ao tp.ov.length co, .slice al tp.ls.length cl], .slice ad dn.length cd, .int .i64 d, .slice aa l.length ca]) Try.func10 rfl Try.ntmps10 rfl (St.nil w) ?_
    repeat' (first | (refine Goal.loud (o := ⟨some 18, _, _, _, _, _⟩) rfl ?_; apply Loud.call0; exact rfl; exact rfl; exact rfl; exact rfl; exact T.bod_11; exact (fun w' H => awake13_ok w')) | (refine Goal.loud (o := ⟨some 22, _, _, _, _, _⟩) rfl ?_; apply Loud.call0; exact rfl; exact rfl; exact rfl; exact rfl; exact T.bod_12; exact (fun w' H => large13_ok (tp := tp) (dn := dn) ao al ad co cl cd w'); rw [decide_eq_true hlg]) | (refine Goal.loud (o := ⟨some 4, _, _, _, _, _⟩) rfl ?_; refine Loud.boxA rfl rfl (fun b4 => ?_)) | (apply G.move; exact rfl; exact rfl) | (apply G.assign; exact rfl; exact rfl) | refine Goal.seq (fun _ _ => ?_) | refine Goal.next (by assumption) ?_ | refine Goal.lnil ?_ | refine Goal.region ?_ | refine Goal.skip ?_ | refine Goal.ret ?_ | refine Goal.then_ret ?_ | (apply Goal.condT; exact rfl) | (apply Goal.condF; exact rfl) | refine Goal.guardF rfl rfl rfl rfl ?_ | (apply G.load; exact rfl; exact rfl; exact ag3 T.agg_25 0 rfl rfl rfl rfl) | (apply G.pickT; exact rfl; exact rfl; exact rfl) | (apply G.notT; exact rfl; exact rfl))
    refine Goal.done (vs := [_]) (by first | exact .inl rfl | exact .inr rfl) Try.results10 ⟨rfl, trivial⟩ rfl (fun w' H => ⟨rfl, H.mod⟩)
  by_cases hkn : (∀ a ∈ l, a.Ok) ∧ l.length ≤ 60
  rotate_left
  · skip
    refine Goal.enter (args := [.agg #[.int .i64 tp.n, .slice ao tp.ov.length co, .slice al tp.ls.length cl], .slice ad dn.length cd, .int .i64 d, .slice aa l.length ca]) Try.func10 rfl Try.ntmps10 rfl (St.nil w) ?_
    repeat' (first | (refine Goal.loud (o := ⟨some 18, _, _, _, _, _⟩) rfl ?_; apply Loud.call0; exact rfl; exact rfl; exact rfl; exact rfl; exact T.bod_11; exact (fun w' H => awake13_ok w')) | (refine Goal.loud (o := ⟨some 22, _, _, _, _, _⟩) rfl ?_; apply Loud.call0; exact rfl; exact rfl; exact rfl; exact rfl; exact T.bod_12; exact (fun w' H => large13_ok (tp := tp) (dn := dn) ao al ad co cl cd w'); rw [decide_eq_false hlg]) | (refine Goal.loud (o := ⟨some 25, _, _, _, _, _⟩) rfl ?_; apply Loud.call0; exact rfl; exact rfl; exact rfl; exact rfl; exact T.bod_13; exact (fun w' H => known_ok (hl.keep H.mod) hll); rw [decide_eq_false hkn]) | (refine Goal.loud (o := ⟨some 4, _, _, _, _, _⟩) rfl ?_; refine Loud.boxA rfl rfl (fun b4 => ?_)) | (apply G.move; exact rfl; exact rfl) | (apply G.assign; exact rfl; exact rfl) | refine Goal.seq (fun _ _ => ?_) | refine Goal.next (by assumption) ?_ | refine Goal.lnil ?_ | refine Goal.region ?_ | refine Goal.skip ?_ | refine Goal.ret ?_ | refine Goal.then_ret ?_ | (apply Goal.condT; exact rfl) | (apply Goal.condF; exact rfl) | refine Goal.guardT rfl rfl ?_ | (apply G.load; exact rfl; exact rfl; exact ag3 T.agg_25 0 rfl rfl rfl rfl) | (apply G.pickF; exact rfl; exact rfl; exact rfl) | (apply G.notT; exact rfl; exact rfl) | (apply G.notF; exact rfl; exact rfl))
    refine Goal.done (vs := [_]) (by first | exact .inl rfl | exact .inr rfl) Try.results10 ⟨rfl, trivial⟩ rfl (fun w' H => ⟨rfl, H.mod⟩)
  refine Goal.enter (args := [.agg #[.int .i64 tp.n, .slice ao tp.ov.length co, .slice al tp.ls.length cl], .slice ad dn.length cd, .int .i64 d, .slice aa l.length ca]) Try.func10 rfl Try.ntmps10 rfl (St.nil w) ?_
  repeat' (first | (refine Goal.loud (o := ⟨some 18, _, _, _, _, _⟩) rfl ?_; apply Loud.call0; exact rfl; exact rfl; exact rfl; exact rfl; exact T.bod_11; exact (fun w' H => awake13_ok w')) | (refine Goal.loud (o := ⟨some 22, _, _, _, _, _⟩) rfl ?_; apply Loud.call0; exact rfl; exact rfl; exact rfl; exact rfl; exact T.bod_12; exact (fun w' H => large13_ok (tp := tp) (dn := dn) ao al ad co cl cd w'); rw [decide_eq_false hlg]) | (refine Goal.loud (o := ⟨some 25, _, _, _, _, _⟩) rfl ?_; apply Loud.call0; exact rfl; exact rfl; exact rfl; exact rfl; exact T.bod_13; exact (fun w' H => known_ok (hl.keep H.mod) hll); rw [decide_eq_true hkn]) | (refine Goal.loud (o := ⟨some 4, _, _, _, _, _⟩) rfl ?_; refine Loud.boxA rfl rfl (fun b4 => ?_)) | (apply G.move; exact rfl; exact rfl) | (apply G.assign; exact rfl; exact rfl) | refine Goal.seq (fun _ _ => ?_) | refine Goal.next (by assumption) ?_ | refine Goal.lnil ?_ | refine Goal.region ?_ | refine Goal.skip ?_ | refine Goal.block ?_ | (apply Goal.condF; exact rfl) | refine Goal.guardT rfl rfl ?_ | (apply G.load; exact rfl; exact rfl; exact ag3 T.agg_25 0 rfl rfl rfl rfl) | (apply G.pickF; exact rfl; exact rfl; exact rfl) | (apply G.notT; exact rfl; exact rfl) | (apply G.len; exact rfl; exact rfl; exact T.slc_26))
  refine Goal.loopP (X := Int) (fun x => [(1, .slice ad dn.length cd), (2, .int .i64 d), (3, .slice aa l.length ca), (4, .pointer (some ⟨b4, 0, none⟩)), (29, .int .i64 l.length), (30, .int .i64 x)]) (fun _ => [(b4, .cells #[.int .i64 tp.n, .slice ao tp.ov.length co, .slice al tp.ls.length cl] 25)])
    (fun x => (0 ≤ x ∧ x ≤ l.length) ∧ ∀ p q : Int, 0 ≤ q → q < p → p < x → (el l p).i ≠ (el l q).i) (fun x => (l.length - x).toNat) 0 ⟨rfl, rfl, rfl, rfl, rfl, rfl, trivial⟩ (fun _ h => h) ⟨by omega, fun p q q0 q1 p1 => by omega⟩ ?_
  rintro i ⟨hi, hall⟩
  by_cases h : i < l.length
  · obtain ⟨b, o, rfl, hkd⟩ := rd_els hl (by omega)
    have hki := hkd i hi.1 h 1 _ rfl
    repeat' (first | (apply G.move; exact rfl; exact rfl) | (apply G.assign; exact rfl; exact rfl) | refine Goal.seq (fun _ _ => ?_) | refine Goal.next (by assumption) ?_ | refine Goal.lnil ?_ | refine Goal.region ?_ | refine Goal.skip ?_ | refine Goal.block ?_ | (refine Goal.condD rfl (fun hc => ?_) (fun hc => ?_) <;> first | (exfalso; omega) | skip) | (apply G.lss; exact rfl; exact rfl; exact rfl))
    refine Goal.loopP (X := Int) (fun x => [(1, .slice ad dn.length cd), (2, .int .i64 d), (3, .slice (some ⟨b, o, none⟩) l.length ca), (4, .pointer (some ⟨b4, 0, none⟩)), (9, .int .i64 i), (29, .int .i64 l.length), (30, .int .i64 i), (33, .int .i64 i), (34, .int .i64 x)]) (fun _ => [(b4, .cells #[.int .i64 tp.n, .slice ao tp.ov.length co, .slice al tp.ls.length cl] 25)])
      (fun x => (0 ≤ x ∧ x ≤ i) ∧ ∀ q : Int, 0 ≤ q → q < x → (el l i).i ≠ (el l q).i) (fun x => (i - x).toNat) 0 ⟨rfl, rfl, rfl, rfl, rfl, rfl, rfl, rfl, rfl, trivial⟩ (fun _ h => h) ⟨by omega, fun q q0 q1 => by omega⟩ ?_
    rintro k ⟨hk, hin⟩
    by_cases h2 : k < i
    · have hkk := hkd k hk.1 (by omega) 1 _ rfl
      repeat' (first | (refine Goal.drawAll (id := 11) 11 T.mixed ?_; all_goals ((refine Goal.takeP (listed' := #[Ya,No,No,No,No,No,No,No,No,No,No]) 0 ⟨rfl, by kernel_rfl, by kernel_rfl, by kernel_rfl, by kernel_rfl⟩ rfl (fun _ _ _ _ h => h) (by intro _; exact Run.move rfl) ?_)); all_goals ((refine Goal.takeP (listed' := #[Ya,Ya,No,No,No,No,No,No,No,No,No]) 1 ⟨rfl, by kernel_rfl, by kernel_rfl, by kernel_rfl, by kernel_rfl⟩ rfl (fun _ _ _ _ h => h) (by intro _; exact Run.move rfl) ?_)); all_goals ((refine Goal.takeP (listed' := #[Ya,Ya,Ya,No,No,No,No,No,No,No,No]) 2 ⟨rfl, by kernel_rfl, by kernel_rfl, by kernel_rfl, by kernel_rfl⟩ rfl (fun _ _ _ _ h => h) (by intro _; exact Run.indexAddr T.slc_26 T.sz_41 rfl rfl (Int.toNat_of_nonneg (by omega)).symm (by omega)) ?_)); all_goals ((refine Goal.takeP (listed' := #[Ya,Ya,Ya,Ya,No,No,No,No,No,No,No]) 3 ⟨rfl, by kernel_rfl, by kernel_rfl, by kernel_rfl, by kernel_rfl⟩ rfl (fun _ _ _ _ h => h) (by intro _; exact Run.fieldAddr T.fld_41_1 rfl) ?_)); all_goals ((refine Goal.takeP (listed' := #[Ya,Ya,Ya,Ya,No,Ya,No,No,No,No,No]) 5 ⟨rfl, by kernel_rfl, by kernel_rfl, by kernel_rfl, by kernel_rfl⟩ rfl (fun _ _ _ _ h => h) (by intro _; exact Run.move rfl) ?_)); all_goals ((refine Goal.takeP (listed' := #[Ya,Ya,Ya,Ya,No,Ya,Ya,No,No,No,No]) 6 ⟨rfl, by kernel_rfl, by kernel_rfl, by kernel_rfl, by kernel_rfl⟩ rfl (fun _ _ _ _ h => h) (by intro _; exact Run.move rfl) ?_)); all_goals ((refine Goal.takeP (listed' := #[Ya,Ya,Ya,Ya,No,Ya,Ya,Ya,No,No,No]) 7 ⟨rfl, by kernel_rfl, by kernel_rfl, by kernel_rfl, by kernel_rfl⟩ rfl (fun _ _ _ _ h => h) (by intro _; exact Run.indexAddr T.slc_26 T.sz_41 rfl rfl (Int.toNat_of_nonneg (by omega)).symm (by omega)) ?_)); all_goals ((refine Goal.takeP (listed' := #[Ya,Ya,Ya,Ya,No,Ya,Ya,Ya,Ya,No,No]) 8 ⟨rfl, by kernel_rfl, by kernel_rfl, by kernel_rfl, by kernel_rfl⟩ rfl (fun _ _ _ _ h => h) (by intro _; exact Run.fieldAddr T.fld_41_1 rfl) ?_)); all_goals ((refine Goal.take (listed' := #[Ya,Ya,Ya,Ya,Ya,Ya,Ya,Ya,Ya,No,No]) 4 ⟨rfl, by kernel_rfl, by kernel_rfl, by kernel_rfl, by kernel_rfl, by kernel_rfl⟩ rfl (by (exact s0)) (fun _ _ _ _ h => h) (by (apply Run.load; exact rfl; exact LoadOK.old T.one_3 hki (by simp))) ?_)); all_goals ((refine Goal.take (listed' := #[Ya,Ya,Ya,Ya,Ya,Ya,Ya,Ya,Ya,Ya,No]) 9 ⟨rfl, by kernel_rfl, by kernel_rfl, by kernel_rfl, by kernel_rfl, by kernel_rfl⟩ rfl (by (exact s0)) (fun _ _ _ _ h => h) (by (apply Run.load; exact rfl; exact LoadOK.old T.one_3 hkk (by simp))) ?_)); all_goals ((refine Goal.takeP (listed' := #[Ya,Ya,Ya,Ya,Ya,Ya,Ya,Ya,Ya,Ya,Ya]) 10 ⟨rfl, by kernel_rfl, by kernel_rfl, by kernel_rfl, by kernel_rfl⟩ rfl (fun _ _ _ _ h => h) (by intro _; exact Run.eql rfl rfl) ?_)); all_goals (refine Goal.allUp (by kernel_rfl) ?_)) | (apply G.move; exact rfl; exact rfl) | (apply G.assign; exact rfl; exact rfl) | refine Goal.seq (fun _ _ => ?_) | refine Goal.next (by assumption) ?_ | refine Goal.lnil ?_ | refine Goal.region ?_ | refine Goal.skip ?_ | refine Goal.block ?_ | refine Goal.ret ?_ | refine Goal.then_ret ?_ | refine Goal.inBlock_normal ?_ | refine Goal.inBlock_ret ?_ | (refine Goal.condD rfl (fun hc => ?_) (fun hc => ?_) <;> first | (exfalso; omega) | skip) | (apply G.lss; exact rfl; exact rfl; exact rfl) | (apply G.add; exact rfl; exact rfl; exact rfl; exact IntWalk.i64_in _ (by omega)))
      all_goals first
        | (refine Goal.done (vs := [_]) (by first | exact .inl rfl | exact .inr rfl) Try.results10 ⟨rfl, trivial⟩ rfl (fun w' H => ⟨rfl, H.mod⟩))
        | (refine Goal.again (k + 1) ⟨by omega, fun q q0 q1 => ?_⟩ (by omega) ⟨rfl, rfl, rfl, rfl, rfl, rfl, rfl, rfl, rfl, trivial⟩ (fun _ h => h)
           by_cases e : q = k
           · rw [e]; assumption
           · exact hin q q0 (by omega))
    · obtain rfl : k = i := by omega
      repeat' (first | (apply G.move; exact rfl; exact rfl) | refine Goal.seq (fun _ _ => ?_) | refine Goal.next (by assumption) ?_ | refine Goal.lnil ?_ | refine Goal.region ?_ | refine Goal.exit ?_ | refine Goal.then_exit ?_ | refine Goal.inBlock_exit ?_ | refine Goal.inBlock_normal ?_ | (refine Goal.condD rfl (fun hc => ?_) (fun hc => ?_) <;> first | (exfalso; omega) | skip) | (apply G.lss; exact rfl; exact rfl; exact rfl) | (apply G.add; exact rfl; exact rfl; exact rfl; exact IntWalk.i64_in _ (by omega)))
      refine Goal.again (k + 1) ⟨by omega, fun p q q0 q1 p1 => ?_⟩ (by omega) ⟨rfl, rfl, rfl, rfl, rfl, rfl, trivial⟩ (fun _ h => h)
      by_cases e : p = k
      · subst e; exact hin q q0 q1
      · exact hall p q q0 q1 (by omega)
  obtain rfl : i = l.length := by omega
  have hpw : l.Pairwise fun a b => a.i ≠ b.i := List.pairwise_iff_getElem.2 fun p q hp hq hpq => by
    have := hall (q : Int) (p : Int) (by omega) (by omega) (by omega)
    rw [el_get (by omega), el_get (by omega)] at this
    exact fun e => this e.symm
  clear hall
  by_cases hk : chk tp dn [d] = 0
  rotate_left
  · skip
    repeat' (first | (refine Goal.loud (o := ⟨some 54, _, _, _, _, _⟩) rfl ?_; apply Loud.call0; exact rfl; exact rfl; exact rfl; exact rfl; exact T.bod_30; exact (fun w' H => start_bad (hT.keep H.mod) (hd.keep H.mod) (by omega) (by omega) (by omega) hk)) | (refine Goal.loud (o := ⟨some 62, _, _, _, _, _⟩) rfl ?_; apply Loud.call0; exact rfl; exact rfl; exact rfl; exact rfl; exact T.bod_30; exact (fun w' H => start_bad (hT.keep H.mod) (hd.keep H.mod) (by omega) (by omega) (by omega) hk)) | (apply G.move; exact rfl; exact rfl) | (apply G.assign; exact rfl; exact rfl) | refine Goal.seq (fun _ _ => ?_) | refine Goal.next (by assumption) ?_ | refine Goal.lnil ?_ | refine Goal.region ?_ | refine Goal.exit ?_ | refine Goal.ret ?_ | refine Goal.then_exit ?_ | refine Goal.then_ret ?_ | refine Goal.inBlock_exit ?_ | (apply Goal.condT; exact rfl) | (refine Goal.condD rfl (fun hc => ?_) (fun hc => ?_) <;> first | (exfalso; omega) | skip) | refine Goal.guardF rfl rfl rfl rfl ?_ | (apply G.load; exact rfl; exact rfl; exact ag3 T.agg_25 0 rfl rfl rfl rfl) | (apply G.pickT; exact rfl; exact rfl; exact rfl) | (apply G.lss; exact rfl; exact rfl; exact rfl) | (refine Goal.quiet rfl (Run.eqlP T.ptr_34 rfl rfl rfl) ?_) | (apply G.notF; exact rfl; exact rfl) | (apply G.extract; exact rfl; exact rfl; exact rfl))
    refine Goal.done (vs := [_]) (by first | exact .inl rfl | exact .inr rfl) Try.results10 ⟨rfl, trivial⟩ rfl (fun w' H => ⟨rfl, H.mod⟩)
  obtain ⟨ht, hf, hr⟩ := chk_zero hk
  replace hr : 0 ≤ d ∧ d < tp.n := hr d (by simp)
  have hS0 := TS.new_ok ht hf hr
  repeat' (first | (refine Goal.loud (o := ⟨some 54, _, _, _, _, _⟩) rfl ?_; apply Loud.callN; exact rfl; exact rfl; exact rfl; exact rfl; exact T.bod_30; exact (fun w' H => start_ok (hT.keep H.mod) (hd.keep H.mod) ht hf hr); rintro ⟨bx, br, A, Ar⟩ ⟨hM, hMr⟩; dsimp only at hM hMr ⊢) | (refine Goal.loud (o := ⟨some 62, _, _, _, _, _⟩) rfl ?_; apply Loud.callN; exact rfl; exact rfl; exact rfl; exact rfl; exact T.bod_30; exact (fun w' H => start_ok (hT.keep H.mod) (hd.keep H.mod) ht hf hr); rintro ⟨bx2, br2, A2, Ar2⟩ ⟨hM2, hMr2⟩; dsimp only at hM2 hMr2 ⊢) | (apply G.move; exact rfl; exact rfl) | (apply G.assign; exact rfl; exact rfl) | refine Goal.seq (fun _ _ => ?_) | refine Goal.next (by assumption) ?_ | refine Goal.lnil ?_ | refine Goal.region ?_ | refine Goal.skip ?_ | refine Goal.block ?_ | refine Goal.exit ?_ | refine Goal.then_exit ?_ | refine Goal.inBlock_exit ?_ | (apply Goal.condF; exact rfl) | (refine Goal.condD rfl (fun hc => ?_) (fun hc => ?_) <;> first | (exfalso; omega) | skip) | refine Goal.guardT rfl rfl ?_ | (apply G.load; exact rfl; exact rfl; exact ag3 T.agg_25 0 rfl rfl rfl rfl) | (apply G.pickF; exact rfl; exact rfl; exact rfl) | (apply G.lss; exact rfl; exact rfl; exact rfl) | (apply G.notT; exact rfl; exact rfl) | (apply G.extract; exact rfl; exact rfl; exact rfl) | (apply G.len; exact rfl; exact rfl; exact T.slc_26))
  refine Goal.loopP (X := CH) (fun x => [(3, .slice aa l.length ca), (11, .pointer (some ⟨bx, 0, none⟩)), (14, .pointer (some ⟨bx2, 0, none⟩)), (75, .int .i64 l.length), (76, .int .i64 x.i)]) (fun x => x.A ++ x.Ar)
    (fun x => (0 ≤ x.i ∧ x.i ≤ l.length) ∧ TrM 77 bx ((l.take x.i.toNat).foldl TS.step (TS.new tp dn d)) x.A ∧ TrM 77 bx2 ((l.reverse.take x.i.toNat).foldl TS.step (TS.new tp dn d)) x.Ar) (fun x => (l.length - x.i).toNat) ⟨0, A, A2⟩ ⟨rfl, rfl, rfl, rfl, rfl, trivial⟩ (fun _ h => anyPerm h) ⟨by dsimp only; omega, hM, hM2⟩ ?_
  clear hM hMr A Ar hM2 hMr2 A2 Ar2
  rintro ⟨i, A, A2⟩ ⟨hi, hM, hM2⟩
  dsimp only at hi hM hM2 ⊢
  by_cases h : i < l.length
  · have hS := TS.fold_ok (l := l.take i.toNat) hS0
    have hSr := TS.fold_ok (l := l.reverse.take i.toNat) hS0
    have hka := hkn.1 _ (el_mem (l := l) (i := i) ⟨hi.1, h⟩)
    have hkb := hkn.1 _ (el_mem (l := l) (i := (l.length : Int) - 1 - i) (by omega))
    have hnx := fold_next (s := TS.new tp dn d) (l := l) ⟨hi.1, h⟩
    have hnr := fold_next (s := TS.new tp dn d) (l := l.reverse) (i := i) (by rw [List.length_reverse]; omega)
    rw [el_rev ⟨hi.1, h⟩] at hnr
    obtain ⟨b, o, rfl, hkd⟩ := rd_els hl (by omega)
    have hki := hkd i hi.1 h
    have hkj := hkd ((l.length : Int) - 1 - i) (by omega) (by omega)
    clear hkd
    generalize el l i = a at hka hnx hki
    generalize el l ((l.length : Int) - 1 - i) = a' at hkb hnr hkj
    repeat' (first | (refine Goal.loud (o := ⟨some 84, _, _, _, _, _⟩) rfl ?_; refine Loud.callM ([]) (G := A2) (do_ok hM hS hka) rfl rfl rfl rfl T.bod_16 (fun _ h => by exact h) ?_; intro A3 hM3) | (refine Goal.loud (o := ⟨some 94, _, _, _, _, _⟩) rfl ?_; refine Loud.callE (A3) (do_ok hM2 hSr hkb) rfl rfl rfl rfl T.bod_16 (fun _ h => h) ?_; intro A4 hM4) | (apply G.move; exact rfl; exact rfl) | (apply G.assign; exact rfl; exact rfl) | refine Goal.seq (fun _ _ => ?_) | refine Goal.next (by assumption) ?_ | refine Goal.lnil ?_ | refine Goal.region ?_ | refine Goal.skip ?_ | refine Goal.block ?_ | refine Goal.inBlock_normal ?_ | (refine Goal.condD rfl (fun hc => ?_) (fun hc => ?_) <;> first | (exfalso; omega) | skip) | (apply G.load; exact rfl; exact rfl; first | exact LoadOK.oldAgg (vs := actc a) T.agg_41 rfl hki (by simp) | exact LoadOK.oldAgg (vs := actc a') T.agg_41 rfl hkj (by simp)) | (apply G.lss; exact rfl; exact rfl; exact rfl) | (apply G.add; exact rfl; exact rfl; exact rfl; exact IntWalk.i64_in _ (by omega)) | (apply G.sub; exact rfl; exact rfl; exact rfl; exact IntWalk.i64_in _ (by omega)) | (apply G.len; exact rfl; exact rfl; exact T.slc_26) | (refine G.indexAddr rfl T.slc_26 T.sz_41 rfl rfl _ (Int.toNat_of_nonneg (by omega)).symm (by omega) ?_))
    refine Goal.again ⟨i + 1, A3, A4⟩ ⟨by dsimp only; omega, by dsimp only; rw [hnx]; exact hM3, by dsimp only; rw [hnr]; exact hM4⟩ (by dsimp only; omega) ⟨rfl, rfl, rfl, rfl, rfl, trivial⟩ (fun _ h => h)
  · obtain rfl : i = l.length := by omega
    rw [Int.toNat_natCast, List.take_length] at hM
    rw [Int.toNat_natCast, show l.reverse.take l.length = l.reverse from List.take_of_length_le (Nat.le_of_eq List.length_reverse)] at hM2
    have hS := TS.fold_ok (l := l) hS0
    have hSr := TS.fold_ok (l := l.reverse) hS0
    have he := TS.rev (s := TS.new tp dn d) hpw
    have hln := TS.l_len hS
    have hnn := hS.ok.n
    obtain ⟨vo1, vl1, vd1, vs1, hr1⟩ := hM.rd
    obtain ⟨vo2, vl2, vd2, vs2, hr2⟩ := hM2.rd
    repeat' (first | (refine Goal.loud (o := ⟨some 97, _, _, _, _, _⟩) rfl ?_; apply Loud.callN; exact rfl; exact rfl; exact rfl; exact rfl; exact T.bod_23; exact (fun w' H => tdist_ok (hr1 w' (own_in H (fun p hp => by simp [hp]))) hS); rintro ⟨v1, Av1⟩ hv1; dsimp only at hv1 ⊢) | (refine Goal.loud (o := ⟨some 99, _, _, _, _, _⟩) rfl ?_; apply Loud.callN; exact rfl; exact rfl; exact rfl; exact rfl; exact T.bod_23; exact (fun w' H => tdist_ok (hr2 w' (own_in H (fun p hp => by simp [hp]))) hSr); rintro ⟨v2, Av2⟩ hv2; dsimp only at hv2 ⊢; rw [← he] at hv2) | (refine Goal.loud (o := ⟨some 100, _, _, _, _, _⟩) rfl ?_; refine Loud.call0 (v := .bool true) rfl rfl rfl rfl T.bod_22 (fun w' H => same_yes (l := (l.foldl TS.step (TS.new tp dn d)).l) (rds H hv1 (fun p hp => by simp [hp])) (rds H hv2 (fun p hp => by simp [hp])) (by omega)) ?_) | (apply G.move; exact rfl; exact rfl) | (apply G.assign; exact rfl; exact rfl) | refine Goal.seq (fun _ _ => ?_) | refine Goal.next (by assumption) ?_ | refine Goal.lnil ?_ | refine Goal.region ?_ | refine Goal.exit ?_ | refine Goal.ret ?_ | refine Goal.then_exit ?_ | refine Goal.inBlock_exit ?_ | (refine Goal.condD rfl (fun hc => ?_) (fun hc => ?_) <;> first | (exfalso; omega) | skip) | (apply G.lss; exact rfl; exact rfl; exact rfl))
    refine Goal.done (vs := [_]) (by first | exact .inl rfl | exact .inr rfl) Try.results10 ⟨rfl, trivial⟩ rfl (fun w' H => ⟨rfl, H.mod⟩)
end
end Go.Proofs.Ythhhegmhgheeiaa
