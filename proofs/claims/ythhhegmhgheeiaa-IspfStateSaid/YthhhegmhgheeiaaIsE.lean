/- Package slices: Clone; package graph: Clone, Out; package ispf: a tree's memory. -/
import Derived.Test.YthhhegmhgheeiaaSpG
namespace Go.Proofs.Ythhhegmhgheeiaa
open Go.Wf
set_option linter.unusedVariables false
section
variable {w : World} {v vo vl : Value} {tp : Top}
theorem cloneI_ok {l : List Int} (hl : RdV w v (ints l)) (hn : l.length ≤ 1048576) : Calls Try.prog 44 #[v] w fun e w' => ∃ x : PV, Sl x.v 3 1 l.length (ints l) x.A ∧ e = .returned x.v ∧ St w [] w' x.A := by
  obtain ⟨ad, cap, rfl, _⟩ := id hl
  have hil := ints_len l
  cases ad with
  | none =>
    have h0 : l = [] := by
      cases l with
      | nil => rfl
      | cons a r =>
        obtain ⟨_, _, e, h⟩ := hl
        injection e with e _ _
        subst e
        obtain ⟨b, o, e, _⟩ := h 0 _ rfl
        cases e
    subst h0
    refine Goal.enter (args := [.slice none (ints []).length cap]) Try.func44 rfl Try.ntmps44 rfl (St.nil w) ?_
    repeat' (first | (apply G.move; exact rfl; exact rfl) | (apply G.assign; exact rfl; exact rfl) | refine Goal.seq (fun _ _ => ?_) | refine Goal.next (by assumption) ?_ | refine Goal.lnil ?_ | refine Goal.region ?_ | refine Goal.ret ?_ | refine Goal.then_ret ?_ | (apply Goal.condT; exact rfl) | (refine Goal.quiet rfl (Run.eqlSN T.slc_46 rfl rfl rfl) ?_))
    refine Goal.done (vs := [_]) (by first | exact .inl rfl | exact .inr rfl) Try.results44 ⟨rfl, trivial⟩ rfl (fun w' H => ⟨⟨_, []⟩, Sl.nil _ _, rfl, H⟩)
  | some a =>
    refine Goal.enter (args := [.slice (some a) (ints l).length cap]) Try.func44 rfl Try.ntmps44 rfl (St.nil w) ?_
    repeat' (first | (refine Goal.loud (o := ⟨some 7, _, _, _, _, _⟩) rfl ?_; refine Loud.appendRd (k := 0) (vs := []) (A := [(b5, .cells #[] 3)]) (R := []) (news := ints l) rfl T.slc_46 T.inf_3 rfl rfl (Sl.full (n := 0) (vs := []) rfl) rfl (by simp [ints, Value.oneCell']) (by omega) (by omega) (fun w' H => hl.keep H.mod) (fun _ h => h) ?_; intro v2 A2 hA2) | (refine Goal.loud (o := ⟨some 5, _, _, _, _, _⟩) rfl ?_; refine Loud.buildSlice (cs := []) rfl T.slc_46 T.inf_3 rfl rfl (by decide) rfl rfl rfl (fun b5 => ?_)) | (apply G.move; exact rfl; exact rfl) | (apply G.assign; exact rfl; exact rfl) | refine Goal.seq (fun _ _ => ?_) | refine Goal.next (by assumption) ?_ | refine Goal.lnil ?_ | refine Goal.region ?_ | refine Goal.skip ?_ | refine Goal.ret ?_ | (apply Goal.condF; exact rfl) | (refine Goal.quiet rfl (Run.eqlSN T.slc_46 rfl rfl rfl) ?_))
    rw [hil, Nat.zero_add, List.nil_append] at hA2
    refine Goal.done (vs := [_]) (by first | exact .inl rfl | exact .inr rfl) Try.results44 ⟨rfl, trivial⟩ rfl (fun w' H => ⟨⟨v2, A2⟩, hA2, rfl, by rw [List.append_nil] at H; exact H⟩)
theorem cloneB_ok {l : List Bool} (hl : RdV w v (bools l)) (hn : l.length ≤ 1048576) : Calls Try.prog 43 #[v] w fun e w' => ∃ x : PV, Sl x.v 4 1 l.length (bools l) x.A ∧ e = .returned x.v ∧ St w [] w' x.A := by
  obtain ⟨ad, cap, rfl, _⟩ := id hl
  have hil := bools_len l
  cases ad with
  | none =>
    have h0 : l = [] := by
      cases l with
      | nil => rfl
      | cons a r =>
        obtain ⟨_, _, e, h⟩ := hl
        injection e with e _ _
        subst e
        obtain ⟨b, o, e, _⟩ := h 0 _ rfl
        cases e
    subst h0
    refine Goal.enter (args := [.slice none (bools []).length cap]) Try.func43 rfl Try.ntmps43 rfl (St.nil w) ?_
    repeat' (first | (apply G.move; exact rfl; exact rfl) | (apply G.assign; exact rfl; exact rfl) | refine Goal.seq (fun _ _ => ?_) | refine Goal.next (by assumption) ?_ | refine Goal.lnil ?_ | refine Goal.region ?_ | refine Goal.ret ?_ | refine Goal.then_ret ?_ | (apply Goal.condT; exact rfl) | (refine Goal.quiet rfl (Run.eqlSN T.slc_22 rfl rfl rfl) ?_))
    refine Goal.done (vs := [_]) (by first | exact .inl rfl | exact .inr rfl) Try.results43 ⟨rfl, trivial⟩ rfl (fun w' H => ⟨⟨_, []⟩, Sl.nil _ _, rfl, H⟩)
  | some a =>
    refine Goal.enter (args := [.slice (some a) (bools l).length cap]) Try.func43 rfl Try.ntmps43 rfl (St.nil w) ?_
    repeat' (first | (refine Goal.loud (o := ⟨some 7, _, _, _, _, _⟩) rfl ?_; refine Loud.appendRd (k := 0) (vs := []) (A := [(b5, .cells #[] 4)]) (R := []) (news := bools l) rfl T.slc_22 T.inf_4 rfl rfl (Sl.full (n := 0) (vs := []) rfl) rfl (by simp [bools, Value.oneCell']) (by omega) (by omega) (fun w' H => hl.keep H.mod) (fun _ h => h) ?_; intro v2 A2 hA2) | (refine Goal.loud (o := ⟨some 5, _, _, _, _, _⟩) rfl ?_; refine Loud.buildSlice (cs := []) rfl T.slc_22 T.inf_4 rfl rfl (by decide) rfl rfl rfl (fun b5 => ?_)) | (apply G.move; exact rfl; exact rfl) | (apply G.assign; exact rfl; exact rfl) | refine Goal.seq (fun _ _ => ?_) | refine Goal.next (by assumption) ?_ | refine Goal.lnil ?_ | refine Goal.region ?_ | refine Goal.skip ?_ | refine Goal.ret ?_ | (apply Goal.condF; exact rfl) | (refine Goal.quiet rfl (Run.eqlSN T.slc_22 rfl rfl rfl) ?_))
    rw [hil, Nat.zero_add, List.nil_append] at hA2
    refine Goal.done (vs := [_]) (by first | exact .inl rfl | exact .inr rfl) Try.results43 ⟨rfl, trivial⟩ rfl (fun w' H => ⟨⟨v2, A2⟩, hA2, rfl, by rw [List.append_nil] at H; exact H⟩)
theorem cloneL_ok {l : List Lk} (hl : RdE w v 7 (l.map lkc)) (hn : l.length ≤ 1048576) : Calls Try.prog 70 #[v] w fun e w' => ∃ x : PV, Sl x.v 39 7 l.length (Els lkc l) x.A ∧ e = .returned x.v ∧ St w [] w' x.A := by
  obtain ⟨ad, cap, rfl, _⟩ := id hl
  have hil : (l.map lkc).length = l.length := List.length_map ..
  cases ad with
  | none =>
    have h0 : l = [] := by
      cases l with
      | nil => rfl
      | cons a r =>
        obtain ⟨_, _, e, h⟩ := hl
        injection e with e _ _
        subst e
        obtain ⟨_, b, o, e, _⟩ := h 0 _ rfl
        cases e
    subst h0
    refine Goal.enter (args := [.slice none ([].map lkc).length cap]) Try.func70 rfl Try.ntmps70 rfl (St.nil w) ?_
    repeat' (first | (apply G.move; exact rfl; exact rfl) | (apply G.assign; exact rfl; exact rfl) | refine Goal.seq (fun _ _ => ?_) | refine Goal.next (by assumption) ?_ | refine Goal.lnil ?_ | refine Goal.region ?_ | refine Goal.ret ?_ | refine Goal.then_ret ?_ | (apply Goal.condT; exact rfl) | (refine Goal.quiet rfl (Run.eqlSN T.slc_23 rfl rfl rfl) ?_))
    refine Goal.done (vs := [_]) (by first | exact .inl rfl | exact .inr rfl) Try.results70 ⟨rfl, trivial⟩ rfl (fun w' H => ⟨⟨_, []⟩, Sl.nil _ _, rfl, H⟩)
  | some a =>
    refine Goal.enter (args := [.slice (some a) (l.map lkc).length cap]) Try.func70 rfl Try.ntmps70 rfl (St.nil w) ?_
    repeat' (first | (refine Goal.loud (o := ⟨some 7, _, _, _, _, _⟩) rfl ?_; refine Loud.appendRdE (f := lkc) (l := l) (k := 0) (vs := []) (A := [(b5, .cells #[] 39)]) (R := []) rfl T.slc_23 T.inf_39 rfl (by decide) (fun _ => rfl) (fun _ => rfl) rfl (Sl.full (n := 0) (vs := []) rfl) rfl (by omega) (by omega) (fun w' H => hl.keep H.mod) (fun _ h => h) ?_; intro v2 A2 hA2) | (refine Goal.loud (o := ⟨some 5, _, _, _, _, _⟩) rfl ?_; refine Loud.buildSlice (cs := []) rfl T.slc_23 T.inf_39 rfl rfl (by decide) rfl rfl rfl (fun b5 => ?_)) | (apply G.move; exact rfl; exact rfl) | (apply G.assign; exact rfl; exact rfl) | refine Goal.seq (fun _ _ => ?_) | refine Goal.next (by assumption) ?_ | refine Goal.lnil ?_ | refine Goal.region ?_ | refine Goal.skip ?_ | refine Goal.ret ?_ | (apply Goal.condF; exact rfl) | (refine Goal.quiet rfl (Run.eqlSN T.slc_23 rfl rfl rfl) ?_))
    rw [Nat.zero_add, List.nil_append] at hA2
    refine Goal.done (vs := [_]) (by first | exact .inl rfl | exact .inr rfl) Try.results70 ⟨rfl, trivial⟩ rfl (fun w' H => ⟨⟨v2, A2⟩, hA2, rfl, by rw [List.append_nil] at H; exact H⟩)
structure CL where
  (vo vl : Value) (Ao Al : List Blk)
theorem clone_ok (hT : TopR w vo vl tp) (hov : tp.ov.length ≤ 1048576) (hl : tp.ls.length ≤ 1048576) : Calls Try.prog 39 #[.agg #[.int .i64 tp.n, vo, vl]] w fun e w' => ∃ x : CL, (Sl x.vo 4 1 tp.ov.length (bools tp.ov) x.Ao ∧ Sl x.vl 39 7 tp.ls.length (Els lkc tp.ls) x.Al) ∧ e = .returned (.agg #[.int .i64 tp.n, x.vo, x.vl]) ∧ St w [] w' (x.Ao ++ x.Al) := by
  refine Goal.enter (args := [.agg #[.int .i64 tp.n, vo, vl]]) Try.func39 rfl Try.ntmps39 rfl (St.nil w) ?_
  repeat' (first | (refine Goal.loud (o := ⟨some 5, _, _, _, _, _⟩) rfl ?_; apply Loud.callN; exact rfl; exact rfl; exact rfl; exact rfl; exact T.bod_43; exact (fun w' H => cloneB_ok (hT.ov.keep H.mod) hov); rintro ⟨vo2, Ao⟩ hSo; dsimp only at hSo ⊢; obtain ⟨ao2, co2, rfl⟩ := hSo.shape) | (refine Goal.loud (o := ⟨some 9, _, _, _, _, _⟩) rfl ?_; apply Loud.callN; exact rfl; exact rfl; exact rfl; exact rfl; exact T.bod_70; exact (fun w' H => cloneL_ok (hT.ls.keep H.mod) hl); rintro ⟨vl2, Al⟩ hSl; dsimp only at hSl ⊢; obtain ⟨al2, cl2, rfl⟩ := hSl.shape) | (refine Goal.loud (o := ⟨some 1, _, _, _, _, _⟩) rfl ?_; refine Loud.boxA rfl rfl (fun b1 => ?_)) | (refine Goal.loud (o := ⟨some 2, _, _, _, _, _⟩) rfl ?_; refine Loud.allocA rfl T.inf_25 (fun b2 => ?_)) | refine Goal.seq (fun _ _ => ?_) | refine Goal.next (by assumption) ?_ | refine Goal.lnil ?_ | refine Goal.region ?_ | refine Goal.ret ?_ | (apply G.fieldAddr; exact rfl; exact rfl; (first | exact T.fld_25_1 | exact T.fld_25_2)) | (apply G.load; exact rfl; exact rfl; first | ((refine LoadOK.one ?_ 1 rfl rfl); first | exact T.one_22 | exact T.one_23) | exact ag3 T.agg_25 1 rfl rfl rfl rfl) | (refine Goal.loud rfl ?_; (first | refine Loud.store0 rfl rfl (by first | exact T.sz_22 | exact T.sz_23 | exact T.sz_25) rfl rfl rfl ?_ rfl ?_ | refine Loud.store1 rfl rfl (by first | exact T.sz_22 | exact T.sz_23) rfl rfl rfl ?_ rfl ?_); exact Nat.le_of_ble_eq_true rfl))
  refine Goal.done (vs := [_]) (by first | exact .inl rfl | exact .inr rfl) Try.results39 ⟨⟨_, rfl, LoadOK.agg (vs := [_, _, _]) T.agg_25 0 rfl rfl ⟨rfl, rfl, rfl, trivial⟩⟩, trivial⟩ rfl (fun w' H => ⟨⟨_, _, Ao, Al⟩, ⟨hSo, hSl⟩, rfl, H.sub (.cons _ (.cons _ (.refl _)))⟩)
structure OI where
  (i : Int) (v : Value) (A : List Blk)
theorem out_ok {n : Int} (hT : TopR w vo vl tp) (ht : tp.Ok) : Calls Try.prog 49 #[.agg #[.int .i64 tp.n, vo, vl], .int .i64 n] w fun e w' => ∃ x : PV, Sl x.v 3 1 (arcsAt tp.tl tp.arcs.toNat n).length (ints (arcsAt tp.tl tp.arcs.toNat n)) x.A ∧ e = .returned x.v ∧ St w [] w' x.A := by
  have hn := ht.n
  have hln := ht.ln
  have hovl := ht.ov
  have har0 : tp.arcs = 2 * (tp.ls.length : Int) := rfl
  refine Goal.enter (args := [.agg #[.int .i64 tp.n, vo, vl], .int .i64 n]) Try.func49 rfl Try.ntmps49 rfl (St.nil w) ?_
  repeat' (first | (refine Goal.loud (o := ⟨some 8, _, _, _, _, _⟩) rfl ?_; apply Loud.call0; exact rfl; exact rfl; exact rfl; exact rfl; exact T.bod_40; exact (fun w' H => arcs_ok (hT.keep H.mod) (by omega))) | (refine Goal.loud (o := ⟨some 2, _, _, _, _, _⟩) rfl ?_; refine Loud.boxA rfl rfl (fun b2 => ?_)) | (apply G.move; exact rfl; exact rfl) | (apply G.assign; exact rfl; exact rfl) | refine Goal.seq (fun _ _ => ?_) | refine Goal.next (by assumption) ?_ | refine Goal.lnil ?_ | refine Goal.region ?_ | refine Goal.block ?_ | (apply G.load; exact rfl; exact rfl; exact ag3 T.agg_25 0 rfl rfl rfl rfl))
  refine Goal.loopP (X := OI) (fun x => [(1, .int .i64 n), (2, .pointer (some ⟨b2, 0, none⟩)), (5, x.v), (8, .int .i64 tp.arcs), (9, .int .i64 x.i)]) (fun x => (b2, .cells #[.int .i64 tp.n, vo, vl] 25) :: x.A)
    (fun x => (0 ≤ x.i ∧ x.i ≤ tp.arcs) ∧ Sl x.v 3 1 (arcsAt tp.tl x.i.toNat n).length (ints (arcsAt tp.tl x.i.toNat n)) x.A) (fun x => (tp.arcs - x.i).toNat) ⟨0, .slice none 0 0, []⟩ ⟨rfl, rfl, rfl, rfl, rfl, trivial⟩ (fun _ h => h) ⟨by dsimp only; omega, Sl.nil _ _⟩ ?_
  rintro ⟨i, v, A⟩ ⟨hi, hS⟩
  dsimp only at hi hS ⊢
  obtain ⟨av, cv, rfl⟩ := hS.shape
  have hal := arcsAt_len tp.tl i.toNat n
  by_cases h : i < tp.arcs
  · have hnx : arcsAt tp.tl (i + 1).toNat n = arcsAt tp.tl i.toNat n ++ if tp.tl i = n then [i] else [] := by
      rw [show (i + 1).toNat = i.toNat + 1 by omega, arcsAt_succ, Int.toNat_of_nonneg hi.1]
    by_cases hta : tp.tl i = n
    · rw [if_pos hta] at hnx
      repeat' (first | (refine Goal.loud (o := ⟨some 14, _, _, _, _, _⟩) rfl ?_; apply Loud.call0; exact rfl; exact rfl; exact rfl; exact rfl; exact T.bod_68; exact (fun w' H => tail_ok (hT.keep H.mod) ⟨hi.1, h⟩ (by omega))) | (refine Goal.loud (o := ⟨some 20, _, _, _, _, _⟩) rfl ?_; refine Loud.appendT rfl T.slc_46 T.inf_3 rfl [_] rfl hS rfl rfl rfl rfl (by omega) (by omega) ?_; intro v2 A2 hA2; obtain ⟨ad2, cap2, rfl⟩ := hA2.shape) | (refine Goal.loud (o := ⟨some 19, _, _, _, _, _⟩) rfl ?_; refine Loud.buildSlice (cs := [_]) rfl T.slc_46 T.inf_3 rfl rfl (by decide) rfl rfl rfl (fun b19 => ?_)) | (apply G.move; exact rfl; exact rfl) | (apply G.assign; exact rfl; exact rfl) | refine Goal.seq (fun _ _ => ?_) | refine Goal.next (by assumption) ?_ | refine Goal.lnil ?_ | refine Goal.region ?_ | refine Goal.skip ?_ | refine Goal.block ?_ | refine Goal.inBlock_normal ?_ | (refine Goal.condD rfl (fun hc => ?_) (fun hc => ?_) <;> first | (exfalso; omega) | skip) | (apply G.load; exact rfl; exact rfl; exact ag3 T.agg_25 0 rfl rfl rfl rfl) | (apply G.lss; exact rfl; exact rfl; exact rfl) | (apply G.eql; exact rfl; exact rfl; exact rfl) | (apply G.add; exact rfl; exact rfl; exact rfl; exact IntWalk.i64_in _ (by omega)))
      refine Goal.again ⟨i + 1, _, A2⟩ ⟨by dsimp only; omega, by dsimp only; rw [hnx, List.length_append, show ints (arcsAt tp.tl i.toNat n ++ [i]) = ints (arcsAt tp.tl i.toNat n) ++ [.int .i64 i] by simp [ints]]; exact hA2⟩ (by dsimp only; omega) ⟨rfl, rfl, rfl, rfl, rfl, trivial⟩ (fun _ h => h)
    · rw [if_neg hta, List.append_nil] at hnx
      repeat' (first | (refine Goal.loud (o := ⟨some 14, _, _, _, _, _⟩) rfl ?_; apply Loud.call0; exact rfl; exact rfl; exact rfl; exact rfl; exact T.bod_68; exact (fun w' H => tail_ok (hT.keep H.mod) ⟨hi.1, h⟩ (by omega))) | (apply G.move; exact rfl; exact rfl) | (apply G.assign; exact rfl; exact rfl) | refine Goal.seq (fun _ _ => ?_) | refine Goal.next (by assumption) ?_ | refine Goal.lnil ?_ | refine Goal.region ?_ | refine Goal.skip ?_ | refine Goal.block ?_ | refine Goal.inBlock_normal ?_ | (refine Goal.condD rfl (fun hc => ?_) (fun hc => ?_) <;> first | (exfalso; omega) | skip) | (apply G.load; exact rfl; exact rfl; exact ag3 T.agg_25 0 rfl rfl rfl rfl) | (apply G.lss; exact rfl; exact rfl; exact rfl) | (apply G.eql; exact rfl; exact rfl; exact rfl) | (apply G.add; exact rfl; exact rfl; exact rfl; exact IntWalk.i64_in _ (by omega)))
      refine Goal.again ⟨i + 1, _, A⟩ ⟨by dsimp only; omega, by dsimp only; rw [hnx]; exact hS⟩ (by dsimp only; omega) ⟨rfl, rfl, rfl, rfl, rfl, trivial⟩ (fun _ h => h)
  · obtain rfl : i = tp.arcs := by omega
    repeat' (first | (apply G.move; exact rfl; exact rfl) | (apply G.assign; exact rfl; exact rfl) | refine Goal.seq (fun _ _ => ?_) | refine Goal.next (by assumption) ?_ | refine Goal.lnil ?_ | refine Goal.region ?_ | refine Goal.exit ?_ | refine Goal.ret ?_ | refine Goal.then_exit ?_ | refine Goal.inBlock_exit ?_ | (refine Goal.condD rfl (fun hc => ?_) (fun hc => ?_) <;> first | (exfalso; omega) | skip) | (apply G.lss; exact rfl; exact rfl; exact rfl))
    refine Goal.done (vs := [_]) (by first | exact .inl rfl | exact .inr rfl) Try.results49 ⟨rfl, trivial⟩ rfl (fun w' H => ⟨⟨_, A⟩, hS, rfl, H.sub (List.sublist_cons_self _ _)⟩)
end
end Go.Proofs.Ythhhegmhgheeiaa
