/- The statements ChannelIdle and ChannelOrder. -/
import Derived.Test.YtgidkddkoopdfaaChK
namespace Go.Proofs.Ytgidkddkoopdfaa
open Go.Wf
set_option linter.unusedVariables false
theorem St.pick0 {w0 w : World} {S : List Nat} {b : Blk} {A T : List Blk} (h : St w0 S w (([b] ++ A) ++ T)) : St w0 S w (b :: (T ++ A)) := by
  have e : (([b] ++ A) ++ T) = b :: (A ++ T) := by simp
  rw [e] at h
  exact h.perm (List.perm_append_comm.cons b)
theorem arr00 (d t : Int) : arr d t (0, 0) = [t + d] := arr0 d t
theorem nil_fate (i : Int) : (if i < (([] : List (Int × Int)).length : Int) then el ([] : List (Int × Int)) i else ((0, 0) : Int × Int)) = (0, 0) := by
  split
  · rfl
  · rfl
theorem dep_idle {rate now : Int} {D : List Int} (h : D.length ≠ 0 → lst D < now) : dep rate D now = now := by
  unfold dep
  by_cases h0 : D.length = 0
  · rw [if_pos h0]
  · rw [if_neg h0, if_pos (h h0)]
theorem dep_top {rate now b : Int} {D : List Int} (h : D.length ≠ 0 → lst D ≤ b) (hn : now ≤ b + 1) : dep rate D now ≤ b + 1 := by
  unfold dep
  by_cases h0 : D.length = 0
  · rw [if_pos h0]; exact hn
  · have := h h0
    rw [if_neg h0]
    repeat' split
    all_goals omega
structure QI where
  (t : Int) (s : Cs) (A : List Blk)
section
variable {d r m : Int} {vs vt vg : Value} {fs : List (Int × Int)} {times gaps : List Int} {w : World}
set_option maxHeartbeats 8000000 in
theorem law_idle (hrs : RdE w vs 2 (fs.map pr)) (hrt : RdV w vt (ints times)) (hrg : RdV w vg (gaps.map (.int .u8))) (hqg : ∀ n ∈ gaps, (Lit.int .u8 n).wf = true) :
    Calls Try.prog 5 #[.agg #[.int .i64 d, .int .i64 r, .int .i64 m, vs, vt], vg] w fun e w' => e = .returned (.bool true) ∧ Mod [] w w' := by
  obtain ⟨aS, cS, rfl, _⟩ := id hrs
  obtain ⟨aT, cT, rfl, _⟩ := id hrt
  obtain ⟨aG, cG, rfl, _⟩ := id hrg
  simp only [List.length_map, ints_len] at hrs hrt hrg ⊢
  refine Goal.enter (args := [.agg #[.int .i64 d, .int .i64 r, .int .i64 m, .slice aS fs.length cS, .slice aT times.length cT], .slice aG gaps.length cG]) Try.func5 rfl Try.ntmps5 rfl (St.nil w) ?_
  repeat' (first
    | (refine Goal.loud (o := ⟨some 12, _, _, _, _, _⟩) rfl ?_; apply Loud.call0; exact rfl; exact rfl; exact rfl; exact rfl; exact T.bod_9; exact (fun w H => awake_any w))
    | (refine Goal.loud (o := ⟨some 15, _, _, _, _, _⟩) rfl ?_; apply Loud.call0; exact rfl; exact rfl; exact rfl; exact rfl; exact T.bod_10; exact (fun w H => large_any d r m aS aT fs.length times.length cS cT w))
    | (refine Goal.loud (o := ⟨some 2, _, _, _, _, _⟩) rfl ?_; first | refine Loud.boxA rfl rfl (fun b2 => ?_) | refine Loud.box1 rfl rfl rfl (fun b2 => ?_))
    | (refine Goal.loud (o := ⟨some 67, _, _, _, _, _⟩) rfl ?_; refine Loud.buildSlice (cs := [_]) rfl T.slc_23 T.inf_3 rfl rfl (by decide) rfl rfl rfl (fun b67 => ?_))
    | (apply G.move; exact rfl; exact rfl)
    | (apply G.assign; exact rfl; exact rfl)
    | refine Goal.seq (fun _ _ => ?_)
    | refine Goal.next (by assumption) ?_
    | refine Goal.lnil ?_
    | refine Goal.region ?_
    | refine Goal.skip ?_
    | refine Goal.block ?_
    | refine Goal.exit ?_
    | refine Goal.ret ?_
    | refine Goal.then_exit ?_
    | refine Goal.then_ret ?_
    | refine Goal.inBlock_exit ?_
    | refine Goal.inBlock_normal ?_
    | refine Goal.inBlock_ret ?_
    | refine Goal.inBlock_other rfl ?_
    | (apply Goal.condT; exact rfl)
    | (apply Goal.condF; exact rfl)
    | (refine Goal.condD rfl (fun hc => ?_) (fun hc => ?_) <;> first | (exfalso; omega) | contradiction | skip)
    | refine Goal.condB rfl (fun hc => ?_) (fun hc => ?_)
    | refine Goal.guardT rfl rfl ?_
    | refine Goal.guardF rfl rfl rfl rfl ?_
    | refine Goal.guardU rfl rfl rfl ?_
    | (refine Goal.guardD rfl rfl (fun hc => ?_) (fun hc => ?_) <;> first | (exfalso; omega) | contradiction | skip)
    | refine Goal.guardB rfl rfl (fun hc => ?_) (fun hc => ?_)
    | (apply G.fieldAddr; exact rfl; exact rfl; (first | exact T.fld_25_0 | exact T.fld_25_1 | exact T.fld_25_2))
    | (apply G.load; exact rfl; exact rfl; first | exact LoadOK.one T.one_3 0 rfl rfl | exact LoadOK.one T.one_3 1 rfl rfl | exact LoadOK.one T.one_3 2 rfl rfl | exact LoadOK.one T.one_3 3 rfl rfl | exact LoadOK.one T.one_3 4 rfl rfl | exact LoadOK.one T.one_3 5 rfl rfl | exact LoadOK.one T.one_3 6 rfl rfl | exact LoadOK.one T.one_3 7 rfl rfl | exact LoadOK.agg (vs := [_, _, _, _, _]) T.agg_25 0 rfl rfl ⟨rfl, rfl, rfl, rfl, rfl, trivial⟩ | exact LoadOK.agg (vs := [_, _, _, _, _]) T.agg_25 1 rfl rfl ⟨rfl, rfl, rfl, rfl, rfl, trivial⟩ | exact LoadOK.agg (vs := [_, _, _, _, _]) T.agg_25 2 rfl rfl ⟨rfl, rfl, rfl, rfl, rfl, trivial⟩ | exact LoadOK.agg (vs := [_, _, _, _, _]) T.agg_25 3 rfl rfl ⟨rfl, rfl, rfl, rfl, rfl, trivial⟩ | exact LoadOK.agg (vs := [_, _, _, _, _]) T.agg_25 4 rfl rfl ⟨rfl, rfl, rfl, rfl, rfl, trivial⟩ | exact LoadOK.agg (vs := [_, _, _, _, _]) T.agg_25 5 rfl rfl ⟨rfl, rfl, rfl, rfl, rfl, trivial⟩ | exact LoadOK.agg (vs := [_, _, _, _, _]) T.agg_25 6 rfl rfl ⟨rfl, rfl, rfl, rfl, rfl, trivial⟩ | exact LoadOK.agg (vs := [_, _, _, _, _]) T.agg_25 7 rfl rfl ⟨rfl, rfl, rfl, rfl, rfl, trivial⟩)
    | (apply G.pickT; exact rfl; exact rfl; exact rfl)
    | (apply G.pickF; exact rfl; exact rfl; exact rfl)
    | (apply G.lss; exact rfl; exact rfl; exact rfl)
    | (apply G.gtr; exact rfl; exact rfl; exact rfl)
    | (apply G.eql; exact rfl; exact rfl; exact rfl)
    | (apply G.neq; exact rfl; exact rfl; exact rfl)
    | (apply G.add; exact rfl; exact rfl; exact rfl; first | exact IntWalk.i64_in _ (by omega) | exact IntWalk.u8_in _ (by omega) | exact IntWalk.u16_in _ (by omega) | exact IntWalk.u32_in _ (by omega) | exact IntWalk.u64_in _ (by omega))
    | (refine Goal.quiet rfl (Run.eqlP T.ptr_29 rfl rfl rfl) ?_)
    | (refine Goal.quiet rfl (Run.neqP T.ptr_29 rfl rfl rfl) ?_)
    | (apply G.notT; exact rfl; exact rfl)
    | (apply G.notF; exact rfl; exact rfl)
    | (refine G.notD rfl rfl ?_)
    | (apply G.notB; exact rfl; exact rfl)
    | (apply G.extract; exact rfl; exact rfl; exact rfl)
    | (apply G.len; exact rfl; exact rfl; (first | exact T.slc_23 | exact T.slc_26))
    | (refine G.indexAddr1 rfl T.slc_23 T.sz_3 rfl rfl _ rfl (by omega) ?_)
    | (refine G.indexAddr1 rfl T.slc_23 T.sz_3 rfl rfl _ (Int.toNat_of_nonneg (by omega)).symm (by omega) ?_))
  · refine Goal.done (vs := [_]) (by first | exact .inl rfl | exact .inr rfl) Try.results5 ⟨rfl, trivial⟩ rfl (fun w' H => ⟨rfl, H.mod⟩)
  · refine Goal.done (vs := [_]) (by first | exact .inl rfl | exact .inr rfl) Try.results5 ⟨rfl, trivial⟩ rfl (fun w' H => ⟨rfl, H.mod⟩)
  · have hgl : gaps.length ≤ 200 := by omega
    by_cases hok : okC d r m []
    · have hd := hok.1
      have hr1 := hok.2.1
      repeat' (first
        | (refine Goal.loud (o := ⟨some 28, _, _, _, _, _⟩) rfl ?_; apply Loud.callN; exact rfl; exact rfl; exact rfl; exact rfl; exact T.bod_11; exact (fun w H => new_ok hok (RdE.nil w 2) (by decide)); rintro ⟨bc, A1⟩ h1; dsimp only at h1 ⊢)
        | (refine Goal.loud (o := ⟨some 40, _, _, _, _, _⟩) rfl ?_; apply Loud.callN; exact rfl; exact rfl; exact rfl; exact rfl; exact T.bod_12; exact (fun w H => steps_ok (hrg.keep H.mod) hqg hgl); rintro ⟨vT, AT⟩ hT; dsimp only at hT ⊢; obtain ⟨aD, cD, rfl⟩ := hT.shape)
        | (refine Goal.loud (o := ⟨some 2, _, _, _, _, _⟩) rfl ?_; first | refine Loud.boxA rfl rfl (fun b2 => ?_) | refine Loud.box1 rfl rfl rfl (fun b2 => ?_))
        | (refine Goal.loud (o := ⟨some 67, _, _, _, _, _⟩) rfl ?_; refine Loud.buildSlice (cs := [_]) rfl T.slc_23 T.inf_3 rfl rfl (by decide) rfl rfl rfl (fun b67 => ?_))
        | (apply G.move; exact rfl; exact rfl)
        | (apply G.assign; exact rfl; exact rfl)
        | refine Goal.seq (fun _ _ => ?_)
        | refine Goal.next (by assumption) ?_
        | refine Goal.lnil ?_
        | refine Goal.region ?_
        | refine Goal.skip ?_
        | refine Goal.block ?_
        | refine Goal.exit ?_
        | refine Goal.ret ?_
        | refine Goal.then_exit ?_
        | refine Goal.then_ret ?_
        | refine Goal.inBlock_exit ?_
        | refine Goal.inBlock_normal ?_
        | refine Goal.inBlock_ret ?_
        | refine Goal.inBlock_other rfl ?_
        | (apply Goal.condT; exact rfl)
        | (apply Goal.condF; exact rfl)
        | (refine Goal.condD rfl (fun hc => ?_) (fun hc => ?_) <;> first | (exfalso; omega) | contradiction | skip)
        | refine Goal.condB rfl (fun hc => ?_) (fun hc => ?_)
        | refine Goal.guardT rfl rfl ?_
        | refine Goal.guardF rfl rfl rfl rfl ?_
        | refine Goal.guardU rfl rfl rfl ?_
        | (refine Goal.guardD rfl rfl (fun hc => ?_) (fun hc => ?_) <;> first | (exfalso; omega) | contradiction | skip)
        | refine Goal.guardB rfl rfl (fun hc => ?_) (fun hc => ?_)
        | (apply G.fieldAddr; exact rfl; exact rfl; (first | exact T.fld_25_0 | exact T.fld_25_1 | exact T.fld_25_2))
        | (apply G.load; exact rfl; exact rfl; first | exact LoadOK.one T.one_3 0 rfl rfl | exact LoadOK.one T.one_3 1 rfl rfl | exact LoadOK.one T.one_3 2 rfl rfl | exact LoadOK.one T.one_3 3 rfl rfl | exact LoadOK.one T.one_3 4 rfl rfl | exact LoadOK.one T.one_3 5 rfl rfl | exact LoadOK.one T.one_3 6 rfl rfl | exact LoadOK.one T.one_3 7 rfl rfl | exact LoadOK.agg (vs := [_, _, _, _, _]) T.agg_25 0 rfl rfl ⟨rfl, rfl, rfl, rfl, rfl, trivial⟩ | exact LoadOK.agg (vs := [_, _, _, _, _]) T.agg_25 1 rfl rfl ⟨rfl, rfl, rfl, rfl, rfl, trivial⟩ | exact LoadOK.agg (vs := [_, _, _, _, _]) T.agg_25 2 rfl rfl ⟨rfl, rfl, rfl, rfl, rfl, trivial⟩ | exact LoadOK.agg (vs := [_, _, _, _, _]) T.agg_25 3 rfl rfl ⟨rfl, rfl, rfl, rfl, rfl, trivial⟩ | exact LoadOK.agg (vs := [_, _, _, _, _]) T.agg_25 4 rfl rfl ⟨rfl, rfl, rfl, rfl, rfl, trivial⟩ | exact LoadOK.agg (vs := [_, _, _, _, _]) T.agg_25 5 rfl rfl ⟨rfl, rfl, rfl, rfl, rfl, trivial⟩ | exact LoadOK.agg (vs := [_, _, _, _, _]) T.agg_25 6 rfl rfl ⟨rfl, rfl, rfl, rfl, rfl, trivial⟩ | exact LoadOK.agg (vs := [_, _, _, _, _]) T.agg_25 7 rfl rfl ⟨rfl, rfl, rfl, rfl, rfl, trivial⟩)
        | (apply G.pickT; exact rfl; exact rfl; exact rfl)
        | (apply G.pickF; exact rfl; exact rfl; exact rfl)
        | (apply G.lss; exact rfl; exact rfl; exact rfl)
        | (apply G.gtr; exact rfl; exact rfl; exact rfl)
        | (apply G.eql; exact rfl; exact rfl; exact rfl)
        | (apply G.neq; exact rfl; exact rfl; exact rfl)
        | (apply G.add; exact rfl; exact rfl; exact rfl; first | exact IntWalk.i64_in _ (by omega) | exact IntWalk.u8_in _ (by omega) | exact IntWalk.u16_in _ (by omega) | exact IntWalk.u32_in _ (by omega) | exact IntWalk.u64_in _ (by omega))
        | (refine Goal.quiet rfl (Run.eqlP T.ptr_29 rfl rfl rfl) ?_)
        | (refine Goal.quiet rfl (Run.neqP T.ptr_29 rfl rfl rfl) ?_)
        | (apply G.notT; exact rfl; exact rfl)
        | (apply G.notF; exact rfl; exact rfl)
        | (refine G.notD rfl rfl ?_)
        | (apply G.notB; exact rfl; exact rfl)
        | (apply G.extract; exact rfl; exact rfl; exact rfl)
        | (apply G.len; exact rfl; exact rfl; (first | exact T.slc_23 | exact T.slc_26))
        | (refine G.indexAddr1 rfl T.slc_23 T.sz_3 rfl rfl _ rfl (by omega) ?_)
        | (refine G.indexAddr1 rfl T.slc_23 T.sz_3 rfl rfl _ (Int.toNat_of_nonneg (by omega)).symm (by omega) ?_))
      refine Goal.loopP (X := QI) (fun x => [(2, .pointer (some ⟨b2, 0, none⟩)), (5, .pointer (some ⟨bc, 0, none⟩)), (40, .slice aD (stepsF 0 gaps).length cD), (41, .int .i64 (stepsF 0 gaps).length), (42, .int .i64 x.t), (7, .int .i64 x.s.now)]) (fun x => (b2, .cells #[.int .i64 d, .int .i64 r, .int .i64 m, .slice aS fs.length cS, .slice aT times.length cT] 25) :: (AT ++ x.A))
        (fun x => (0 ≤ x.t ∧ x.t ≤ gaps.length) ∧ ChM bc x.s x.A ∧ Inv d r m [] (stepsF 0 gaps) x.t x.s ∧ (x.s.D.length ≠ 0 → lst x.s.D ≤ x.s.now + x.t) ∧ x.s.now ≤ 1400) (fun x => (gaps.length - x.t).toNat) ⟨0, zero d r m [], A1⟩ ⟨rfl, rfl, rfl, rfl, rfl, rfl, trivial⟩ (fun _ h => St.pick0 h)
        ⟨by dsimp only; omega, h1, Inv.zero hok hgl, fun h => absurd rfl h, by unfold zero; dsimp only; omega⟩ ?_
      rintro ⟨t, s, A⟩ ⟨ht, hA, hI, hL, hN⟩
      dsimp only at ht hA hI hL hN ⊢
      have hsl : (stepsF 0 gaps).length = gaps.length := stepsF_len 0 gaps
      by_cases hlt : t < gaps.length
      · obtain ⟨bT, rest, cap, e, rfl, _, _, _⟩ := hT.pos (by omega)
        injection e with e e1 e2
        subst e e2
        have hsd := hI.send ⟨ht.1, hlt⟩ hgl
        generalize hnow : ia (stepsF 0 gaps) t = now at hsd
        obtain ⟨hnb, hsd⟩ := hsd
        obtain ⟨e1, e2, e3, e4⟩ := hI.e
        have h5 := hI.ok.o
        have h6 := hI.ok.l
        have h7 := hI.off
        rw [← e2, nil_fate, arr00] at hsd
        rcases hsd with ⟨c1, c2, he⟩ | ⟨c1, he⟩
        · have hI2 := hI.cap ⟨ht.1, hlt⟩ hgl
          rw [hnow] at hI2
          repeat' (first
            | (refine Goal.loud (o := ⟨some 48, _, _, _, _, _⟩) rfl ?_; refine Loud.callE ([_, _]) (send_e hA hI.ok (by omega) he) rfl rfl rfl rfl T.bod_13 (fun _ h => h) ?_; rintro ⟨vx, Ex, A3⟩ ⟨hx, h2⟩; dsimp only at hx h2 ⊢)
            | (refine Goal.loud (o := ⟨some 2, _, _, _, _, _⟩) rfl ?_; first | refine Loud.boxA rfl rfl (fun b2 => ?_) | refine Loud.box1 rfl rfl rfl (fun b2 => ?_))
            | (refine Goal.loud (o := ⟨some 67, _, _, _, _, _⟩) rfl ?_; refine Loud.buildSlice (cs := [_]) rfl T.slc_23 T.inf_3 rfl rfl (by decide) rfl rfl rfl (fun b67 => ?_))
            | (apply G.move; exact rfl; exact rfl)
            | (apply G.assign; exact rfl; exact rfl)
            | refine Goal.seq (fun _ _ => ?_)
            | refine Goal.next (by assumption) ?_
            | refine Goal.lnil ?_
            | refine Goal.region ?_
            | refine Goal.skip ?_
            | refine Goal.block ?_
            | refine Goal.exit ?_
            | refine Goal.ret ?_
            | refine Goal.then_exit ?_
            | refine Goal.then_ret ?_
            | refine Goal.inBlock_exit ?_
            | refine Goal.inBlock_normal ?_
            | refine Goal.inBlock_ret ?_
            | refine Goal.inBlock_other rfl ?_
            | (apply Goal.condT; exact rfl)
            | (apply Goal.condF; exact rfl)
            | (refine Goal.condD rfl (fun hc => ?_) (fun hc => ?_) <;> first | (exfalso; omega) | contradiction | skip)
            | refine Goal.condB rfl (fun hc => ?_) (fun hc => ?_)
            | refine Goal.guardT rfl rfl ?_
            | refine Goal.guardF rfl rfl rfl rfl ?_
            | refine Goal.guardU rfl rfl rfl ?_
            | (refine Goal.guardD rfl rfl (fun hc => ?_) (fun hc => ?_) <;> first | (exfalso; omega) | contradiction | skip)
            | refine Goal.guardB rfl rfl (fun hc => ?_) (fun hc => ?_)
            | (apply G.fieldAddr; exact rfl; exact rfl; (first | exact T.fld_25_0 | exact T.fld_25_1 | exact T.fld_25_2))
            | (apply G.load; exact rfl; exact rfl; first | exact LoadOK.iaE T.one_3 1 rfl (by omega) hnow | exact LoadOK.iaRE T.one_3 1 rfl (by omega) hnow | exact LoadOK.one T.one_3 0 rfl rfl | exact LoadOK.one T.one_3 1 rfl rfl | exact LoadOK.one T.one_3 2 rfl rfl | exact LoadOK.one T.one_3 3 rfl rfl | exact LoadOK.one T.one_3 4 rfl rfl | exact LoadOK.one T.one_3 5 rfl rfl | exact LoadOK.one T.one_3 6 rfl rfl | exact LoadOK.one T.one_3 7 rfl rfl | exact LoadOK.agg (vs := [_, _, _, _, _]) T.agg_25 0 rfl rfl ⟨rfl, rfl, rfl, rfl, rfl, trivial⟩ | exact LoadOK.agg (vs := [_, _, _, _, _]) T.agg_25 1 rfl rfl ⟨rfl, rfl, rfl, rfl, rfl, trivial⟩ | exact LoadOK.agg (vs := [_, _, _, _, _]) T.agg_25 2 rfl rfl ⟨rfl, rfl, rfl, rfl, rfl, trivial⟩ | exact LoadOK.agg (vs := [_, _, _, _, _]) T.agg_25 3 rfl rfl ⟨rfl, rfl, rfl, rfl, rfl, trivial⟩ | exact LoadOK.agg (vs := [_, _, _, _, _]) T.agg_25 4 rfl rfl ⟨rfl, rfl, rfl, rfl, rfl, trivial⟩ | exact LoadOK.agg (vs := [_, _, _, _, _]) T.agg_25 5 rfl rfl ⟨rfl, rfl, rfl, rfl, rfl, trivial⟩ | exact LoadOK.agg (vs := [_, _, _, _, _]) T.agg_25 6 rfl rfl ⟨rfl, rfl, rfl, rfl, rfl, trivial⟩ | exact LoadOK.agg (vs := [_, _, _, _, _]) T.agg_25 7 rfl rfl ⟨rfl, rfl, rfl, rfl, rfl, trivial⟩)
            | (apply G.pickT; exact rfl; exact rfl; exact rfl)
            | (apply G.pickF; exact rfl; exact rfl; exact rfl)
            | (apply G.lss; exact rfl; exact rfl; exact rfl)
            | (apply G.gtr; exact rfl; exact rfl; exact rfl)
            | (apply G.eql; exact rfl; exact rfl; exact rfl)
            | (apply G.neq; exact rfl; exact rfl; exact rfl)
            | (apply G.add; exact rfl; exact rfl; exact rfl; first | exact IntWalk.i64_in _ (by omega) | exact IntWalk.u8_in _ (by omega) | exact IntWalk.u16_in _ (by omega) | exact IntWalk.u32_in _ (by omega) | exact IntWalk.u64_in _ (by omega))
            | (refine Goal.quiet rfl (Run.eqlP T.ptr_29 rfl rfl rfl) ?_)
            | (refine Goal.quiet rfl (Run.neqP T.ptr_29 rfl rfl rfl) ?_)
            | (apply G.notT; exact rfl; exact rfl)
            | (apply G.notF; exact rfl; exact rfl)
            | (refine G.notD rfl rfl ?_)
            | (apply G.notB; exact rfl; exact rfl)
            | (apply G.extract; exact rfl; exact rfl; exact rfl)
            | (apply G.len; exact rfl; exact rfl; (first | exact T.slc_23 | exact T.slc_26))
            | (refine G.indexAddr1 rfl T.slc_23 T.sz_3 rfl rfl _ rfl (by omega) ?_)
            | (refine G.indexAddr1 rfl T.slc_23 T.sz_3 rfl rfl _ (Int.toNat_of_nonneg (by omega)).symm (by omega) ?_))
          refine Goal.again ⟨t + 1, off1 s now, A3⟩ ⟨by dsimp only; omega, h2, hI2, fun h => by have := hL h; unfold off1; dsimp only; omega, by unfold off1; dsimp only; omega⟩ (by dsimp only; omega) ⟨rfl, rfl, rfl, rfl, rfl, rfl, trivial⟩ (fun _ h => St.lose (B := [_, _]) h)
        · have hI2 := hI.fit ⟨ht.1, hlt⟩ hgl
          rw [hnow] at hI2
          have hdt := dep_top (rate := s.rate) (now := now) (D := s.D) (b := now + t) (fun h => by have := hL h; omega) (by omega)
          repeat' (first
            | (refine Goal.loud (o := ⟨some 48, _, _, _, _, _⟩) rfl ?_; refine Loud.callE ([_, _]) (send_e hA hI.ok (by omega) he) rfl rfl rfl rfl T.bod_13 (fun _ h => h) ?_; rintro ⟨vx, Ex, A3⟩ ⟨hx, h2⟩; dsimp only at hx h2 ⊢)
            | (refine Goal.loud (o := ⟨some 2, _, _, _, _, _⟩) rfl ?_; first | refine Loud.boxA rfl rfl (fun b2 => ?_) | refine Loud.box1 rfl rfl rfl (fun b2 => ?_))
            | (refine Goal.loud (o := ⟨some 67, _, _, _, _, _⟩) rfl ?_; refine Loud.buildSlice (cs := [_]) rfl T.slc_23 T.inf_3 rfl rfl (by decide) rfl rfl rfl (fun b67 => ?_))
            | (apply G.move; exact rfl; exact rfl)
            | (apply G.assign; exact rfl; exact rfl)
            | refine Goal.seq (fun _ _ => ?_)
            | refine Goal.next (by assumption) ?_
            | refine Goal.lnil ?_
            | refine Goal.region ?_
            | refine Goal.skip ?_
            | refine Goal.block ?_
            | refine Goal.exit ?_
            | refine Goal.ret ?_
            | refine Goal.then_exit ?_
            | refine Goal.then_ret ?_
            | refine Goal.inBlock_exit ?_
            | refine Goal.inBlock_normal ?_
            | refine Goal.inBlock_ret ?_
            | refine Goal.inBlock_other rfl ?_
            | (apply Goal.condT; exact rfl)
            | (apply Goal.condF; exact rfl)
            | (refine Goal.condD rfl (fun hc => ?_) (fun hc => ?_) <;> first | (exfalso; omega) | contradiction | skip)
            | refine Goal.condB rfl (fun hc => ?_) (fun hc => ?_)
            | refine Goal.guardT rfl rfl ?_
            | refine Goal.guardF rfl rfl rfl rfl ?_
            | refine Goal.guardU rfl rfl rfl ?_
            | (refine Goal.guardD rfl rfl (fun hc => ?_) (fun hc => ?_) <;> first | (exfalso; omega) | contradiction | skip)
            | refine Goal.guardB rfl rfl (fun hc => ?_) (fun hc => ?_)
            | (apply G.fieldAddr; exact rfl; exact rfl; (first | exact T.fld_25_0 | exact T.fld_25_1 | exact T.fld_25_2))
            | (apply G.load; exact rfl; exact rfl; first | exact LoadOK.iaE T.one_3 1 rfl (by omega) hnow | exact LoadOK.iaRE T.one_3 1 rfl (by omega) hnow | exact LoadOK.one T.one_3 0 rfl rfl | exact LoadOK.one T.one_3 1 rfl rfl | exact LoadOK.one T.one_3 2 rfl rfl | exact LoadOK.one T.one_3 3 rfl rfl | exact LoadOK.one T.one_3 4 rfl rfl | exact LoadOK.one T.one_3 5 rfl rfl | exact LoadOK.one T.one_3 6 rfl rfl | exact LoadOK.one T.one_3 7 rfl rfl | exact LoadOK.agg (vs := [_, _, _, _, _]) T.agg_25 0 rfl rfl ⟨rfl, rfl, rfl, rfl, rfl, trivial⟩ | exact LoadOK.agg (vs := [_, _, _, _, _]) T.agg_25 1 rfl rfl ⟨rfl, rfl, rfl, rfl, rfl, trivial⟩ | exact LoadOK.agg (vs := [_, _, _, _, _]) T.agg_25 2 rfl rfl ⟨rfl, rfl, rfl, rfl, rfl, trivial⟩ | exact LoadOK.agg (vs := [_, _, _, _, _]) T.agg_25 3 rfl rfl ⟨rfl, rfl, rfl, rfl, rfl, trivial⟩ | exact LoadOK.agg (vs := [_, _, _, _, _]) T.agg_25 4 rfl rfl ⟨rfl, rfl, rfl, rfl, rfl, trivial⟩ | exact LoadOK.agg (vs := [_, _, _, _, _]) T.agg_25 5 rfl rfl ⟨rfl, rfl, rfl, rfl, rfl, trivial⟩ | exact LoadOK.agg (vs := [_, _, _, _, _]) T.agg_25 6 rfl rfl ⟨rfl, rfl, rfl, rfl, rfl, trivial⟩ | exact LoadOK.agg (vs := [_, _, _, _, _]) T.agg_25 7 rfl rfl ⟨rfl, rfl, rfl, rfl, rfl, trivial⟩)
            | (apply G.pickT; exact rfl; exact rfl; exact rfl)
            | (apply G.pickF; exact rfl; exact rfl; exact rfl)
            | (apply G.lss; exact rfl; exact rfl; exact rfl)
            | (apply G.gtr; exact rfl; exact rfl; exact rfl)
            | (apply G.eql; exact rfl; exact rfl; exact rfl)
            | (apply G.neq; exact rfl; exact rfl; exact rfl)
            | (apply G.add; exact rfl; exact rfl; exact rfl; first | exact IntWalk.i64_in _ (by omega) | exact IntWalk.u8_in _ (by omega) | exact IntWalk.u16_in _ (by omega) | exact IntWalk.u32_in _ (by omega) | exact IntWalk.u64_in _ (by omega))
            | (refine Goal.quiet rfl (Run.eqlP T.ptr_29 rfl rfl rfl) ?_)
            | (refine Goal.quiet rfl (Run.neqP T.ptr_29 rfl rfl rfl) ?_)
            | (apply G.notT; exact rfl; exact rfl)
            | (apply G.notF; exact rfl; exact rfl)
            | (refine G.notD rfl rfl ?_)
            | (apply G.notB; exact rfl; exact rfl)
            | (apply G.extract; exact rfl; exact rfl; exact rfl)
            | (apply G.len; exact rfl; exact rfl; (first | exact T.slc_23 | exact T.slc_26))
            | (refine G.indexAddr1 rfl T.slc_23 T.sz_3 rfl rfl _ rfl (by omega) ?_)
            | (refine G.indexAddr1 rfl T.slc_23 T.sz_3 rfl rfl _ (Int.toNat_of_nonneg (by omega)).symm (by omega) ?_))
          refine Goal.again ⟨t + 1, fit1 s now, A3⟩ ⟨by dsimp only; omega, h2, hI2, fun h => by unfold fit1; dsimp only; rw [lst_app]; omega, by unfold fit1; dsimp only; omega⟩ (by dsimp only; omega) ⟨rfl, rfl, rfl, rfl, rfl, rfl, trivial⟩ (fun _ h => St.lose (B := [_, _]) h)
      · have h5 := hI.ok.o
        have h6 := hI.ok.l
        have h7 := hI.off
        have h8 := hI.ok.n
        obtain ⟨e1, e2, e3, e4⟩ := hI.e
        have hde : dep s.rate s.D (s.now + 201) = s.now + 201 := dep_idle fun h => by have := hL h; omega
        have he : sendF s (s.now + 201) = ([s.now + 201 + d], 0, fit1 s (s.now + 201)) := by
          unfold sendF
          rw [if_neg (by omega), if_neg (by omega), if_neg (by rw [hde]; omega), hde, e1]
          have : fateOf s = (0, 0) := by unfold fateOf; rw [e4]; exact nil_fate _
          rw [this, arr00]
        have hW := fit1_wait (s := s) (now := s.now + 201)
        have hall : cle s.D (s.now + 201) = s.D.length := cle_all fun x hx => by
          have h9 := hI.srt x hx
          have := hL (by intro e; rw [List.length_eq_zero_iff.1 e] at hx; cases hx)
          omega
        rw [hall, hde, if_pos (Int.le_refl _)] at hW
        have hW0 : (((fit1 s (s.now + 201)).D.length : Int) - cle (fit1 s (s.now + 201)).D (s.now + 201)) = 0 := by omega
        repeat' (first
          | (refine Goal.loud (o := ⟨some 55, _, _, _, _, _⟩) rfl ?_; refine Loud.callE (_ :: AT) (send_e hA hI.ok (by omega) he) rfl rfl rfl rfl T.bod_13 (fun _ h => h) ?_; rintro ⟨vx, Ex, A3⟩ ⟨hx, h2⟩; dsimp only at hx h2 ⊢)
          | (refine Goal.loud (o := ⟨some 68, _, _, _, _, _⟩) rfl ?_; apply Loud.call0; exact rfl; exact rfl; exact rfl; exact rfl; exact T.bod_15; exact (fun w H => sl_same hx (Sl.full rfl) H.own (by intro p hp; simp [hp]) (by intro p hp; rw [List.mem_singleton] at hp; rw [hp]; exact .head _) (by simp)))
          | (refine Goal.loud (o := ⟨some 74, _, _, _, _, _⟩) rfl ?_; refine Loud.callM (_ :: _ :: AT) (G := Ex) (wait3 h2 (by omega) hW0) rfl rfl rfl rfl T.bod_16 (fun _ h => by first | exact h | simpa only [List.append_eq, List.append_assoc, List.cons_append, List.nil_append, List.append_nil] using h) ?_; rintro ⟨⟩ -)
          | (refine Goal.loud (o := ⟨some 2, _, _, _, _, _⟩) rfl ?_; first | refine Loud.boxA rfl rfl (fun b2 => ?_) | refine Loud.box1 rfl rfl rfl (fun b2 => ?_))
          | (refine Goal.loud (o := ⟨some 67, _, _, _, _, _⟩) rfl ?_; refine Loud.buildSlice (cs := [_]) rfl T.slc_23 T.inf_3 rfl rfl (by decide) rfl rfl rfl (fun b67 => ?_))
          | (apply G.move; exact rfl; exact rfl)
          | (apply G.assign; exact rfl; exact rfl)
          | refine Goal.seq (fun _ _ => ?_)
          | refine Goal.next (by assumption) ?_
          | refine Goal.lnil ?_
          | refine Goal.region ?_
          | refine Goal.skip ?_
          | refine Goal.block ?_
          | refine Goal.exit ?_
          | refine Goal.ret ?_
          | refine Goal.then_exit ?_
          | refine Goal.then_ret ?_
          | refine Goal.inBlock_exit ?_
          | refine Goal.inBlock_normal ?_
          | refine Goal.inBlock_ret ?_
          | refine Goal.inBlock_other rfl ?_
          | (apply Goal.condT; exact rfl)
          | (apply Goal.condF; exact rfl)
          | (refine Goal.condD rfl (fun hc => ?_) (fun hc => ?_) <;> first | (exfalso; omega) | contradiction | skip)
          | refine Goal.condB rfl (fun hc => ?_) (fun hc => ?_)
          | refine Goal.guardT rfl rfl ?_
          | refine Goal.guardF rfl rfl rfl rfl ?_
          | refine Goal.guardU rfl rfl rfl ?_
          | (refine Goal.guardD rfl rfl (fun hc => ?_) (fun hc => ?_) <;> first | (exfalso; omega) | contradiction | skip)
          | refine Goal.guardB rfl rfl (fun hc => ?_) (fun hc => ?_)
          | (apply G.fieldAddr; exact rfl; exact rfl; (first | exact T.fld_25_0 | exact T.fld_25_1 | exact T.fld_25_2))
          | (apply G.load; exact rfl; exact rfl; first | exact LoadOK.one T.one_3 0 rfl rfl | exact LoadOK.one T.one_3 1 rfl rfl | exact LoadOK.one T.one_3 2 rfl rfl | exact LoadOK.one T.one_3 3 rfl rfl | exact LoadOK.one T.one_3 4 rfl rfl | exact LoadOK.one T.one_3 5 rfl rfl | exact LoadOK.one T.one_3 6 rfl rfl | exact LoadOK.one T.one_3 7 rfl rfl | exact LoadOK.agg (vs := [_, _, _, _, _]) T.agg_25 0 rfl rfl ⟨rfl, rfl, rfl, rfl, rfl, trivial⟩ | exact LoadOK.agg (vs := [_, _, _, _, _]) T.agg_25 1 rfl rfl ⟨rfl, rfl, rfl, rfl, rfl, trivial⟩ | exact LoadOK.agg (vs := [_, _, _, _, _]) T.agg_25 2 rfl rfl ⟨rfl, rfl, rfl, rfl, rfl, trivial⟩ | exact LoadOK.agg (vs := [_, _, _, _, _]) T.agg_25 3 rfl rfl ⟨rfl, rfl, rfl, rfl, rfl, trivial⟩ | exact LoadOK.agg (vs := [_, _, _, _, _]) T.agg_25 4 rfl rfl ⟨rfl, rfl, rfl, rfl, rfl, trivial⟩ | exact LoadOK.agg (vs := [_, _, _, _, _]) T.agg_25 5 rfl rfl ⟨rfl, rfl, rfl, rfl, rfl, trivial⟩ | exact LoadOK.agg (vs := [_, _, _, _, _]) T.agg_25 6 rfl rfl ⟨rfl, rfl, rfl, rfl, rfl, trivial⟩ | exact LoadOK.agg (vs := [_, _, _, _, _]) T.agg_25 7 rfl rfl ⟨rfl, rfl, rfl, rfl, rfl, trivial⟩)
          | (apply G.pickT; exact rfl; exact rfl; exact rfl)
          | (apply G.pickF; exact rfl; exact rfl; exact rfl)
          | (apply G.lss; exact rfl; exact rfl; exact rfl)
          | (apply G.gtr; exact rfl; exact rfl; exact rfl)
          | (apply G.eql; exact rfl; exact rfl; exact rfl)
          | (apply G.neq; exact rfl; exact rfl; exact rfl)
          | (apply G.add; exact rfl; exact rfl; exact rfl; first | exact IntWalk.i64_in _ (by omega) | exact IntWalk.u8_in _ (by omega) | exact IntWalk.u16_in _ (by omega) | exact IntWalk.u32_in _ (by omega) | exact IntWalk.u64_in _ (by omega))
          | (refine Goal.quiet rfl (Run.eqlP T.ptr_29 rfl rfl rfl) ?_)
          | (refine Goal.quiet rfl (Run.neqP T.ptr_29 rfl rfl rfl) ?_)
          | (apply G.notT; exact rfl; exact rfl)
          | (apply G.notF; exact rfl; exact rfl)
          | (refine G.notD rfl rfl ?_)
          | (apply G.notB; exact rfl; exact rfl)
          | (apply G.extract; exact rfl; exact rfl; exact rfl)
          | (apply G.len; exact rfl; exact rfl; (first | exact T.slc_23 | exact T.slc_26))
          | (refine G.indexAddr1 rfl T.slc_23 T.sz_3 rfl rfl _ rfl (by omega) ?_)
          | (refine G.indexAddr1 rfl T.slc_23 T.sz_3 rfl rfl _ (Int.toNat_of_nonneg (by omega)).symm (by omega) ?_))
        refine Goal.done (vs := [_]) (by first | exact .inl rfl | exact .inr rfl) Try.results5 ⟨rfl, trivial⟩ rfl (fun w' H => ⟨rfl, H.mod⟩)
    · skip
      repeat' (first
        | (refine Goal.loud (o := ⟨some 28, _, _, _, _, _⟩) rfl ?_; apply Loud.call0; exact rfl; exact rfl; exact rfl; exact rfl; exact T.bod_11; exact (fun w H => new_bad hok (RdE.nil w 2) (by decide)))
        | (refine Goal.loud (o := ⟨some 2, _, _, _, _, _⟩) rfl ?_; first | refine Loud.boxA rfl rfl (fun b2 => ?_) | refine Loud.box1 rfl rfl rfl (fun b2 => ?_))
        | (refine Goal.loud (o := ⟨some 67, _, _, _, _, _⟩) rfl ?_; refine Loud.buildSlice (cs := [_]) rfl T.slc_23 T.inf_3 rfl rfl (by decide) rfl rfl rfl (fun b67 => ?_))
        | (apply G.move; exact rfl; exact rfl)
        | (apply G.assign; exact rfl; exact rfl)
        | refine Goal.seq (fun _ _ => ?_)
        | refine Goal.next (by assumption) ?_
        | refine Goal.lnil ?_
        | refine Goal.region ?_
        | refine Goal.skip ?_
        | refine Goal.block ?_
        | refine Goal.exit ?_
        | refine Goal.ret ?_
        | refine Goal.then_exit ?_
        | refine Goal.then_ret ?_
        | refine Goal.inBlock_exit ?_
        | refine Goal.inBlock_normal ?_
        | refine Goal.inBlock_ret ?_
        | refine Goal.inBlock_other rfl ?_
        | (apply Goal.condT; exact rfl)
        | (apply Goal.condF; exact rfl)
        | (refine Goal.condD rfl (fun hc => ?_) (fun hc => ?_) <;> first | (exfalso; omega) | contradiction | skip)
        | refine Goal.condB rfl (fun hc => ?_) (fun hc => ?_)
        | refine Goal.guardT rfl rfl ?_
        | refine Goal.guardF rfl rfl rfl rfl ?_
        | refine Goal.guardU rfl rfl rfl ?_
        | (refine Goal.guardD rfl rfl (fun hc => ?_) (fun hc => ?_) <;> first | (exfalso; omega) | contradiction | skip)
        | refine Goal.guardB rfl rfl (fun hc => ?_) (fun hc => ?_)
        | (apply G.fieldAddr; exact rfl; exact rfl; (first | exact T.fld_25_0 | exact T.fld_25_1 | exact T.fld_25_2))
        | (apply G.load; exact rfl; exact rfl; first | exact LoadOK.one T.one_3 0 rfl rfl | exact LoadOK.one T.one_3 1 rfl rfl | exact LoadOK.one T.one_3 2 rfl rfl | exact LoadOK.one T.one_3 3 rfl rfl | exact LoadOK.one T.one_3 4 rfl rfl | exact LoadOK.one T.one_3 5 rfl rfl | exact LoadOK.one T.one_3 6 rfl rfl | exact LoadOK.one T.one_3 7 rfl rfl | exact LoadOK.agg (vs := [_, _, _, _, _]) T.agg_25 0 rfl rfl ⟨rfl, rfl, rfl, rfl, rfl, trivial⟩ | exact LoadOK.agg (vs := [_, _, _, _, _]) T.agg_25 1 rfl rfl ⟨rfl, rfl, rfl, rfl, rfl, trivial⟩ | exact LoadOK.agg (vs := [_, _, _, _, _]) T.agg_25 2 rfl rfl ⟨rfl, rfl, rfl, rfl, rfl, trivial⟩ | exact LoadOK.agg (vs := [_, _, _, _, _]) T.agg_25 3 rfl rfl ⟨rfl, rfl, rfl, rfl, rfl, trivial⟩ | exact LoadOK.agg (vs := [_, _, _, _, _]) T.agg_25 4 rfl rfl ⟨rfl, rfl, rfl, rfl, rfl, trivial⟩ | exact LoadOK.agg (vs := [_, _, _, _, _]) T.agg_25 5 rfl rfl ⟨rfl, rfl, rfl, rfl, rfl, trivial⟩ | exact LoadOK.agg (vs := [_, _, _, _, _]) T.agg_25 6 rfl rfl ⟨rfl, rfl, rfl, rfl, rfl, trivial⟩ | exact LoadOK.agg (vs := [_, _, _, _, _]) T.agg_25 7 rfl rfl ⟨rfl, rfl, rfl, rfl, rfl, trivial⟩)
        | (apply G.pickT; exact rfl; exact rfl; exact rfl)
        | (apply G.pickF; exact rfl; exact rfl; exact rfl)
        | (apply G.lss; exact rfl; exact rfl; exact rfl)
        | (apply G.gtr; exact rfl; exact rfl; exact rfl)
        | (apply G.eql; exact rfl; exact rfl; exact rfl)
        | (apply G.neq; exact rfl; exact rfl; exact rfl)
        | (apply G.add; exact rfl; exact rfl; exact rfl; first | exact IntWalk.i64_in _ (by omega) | exact IntWalk.u8_in _ (by omega) | exact IntWalk.u16_in _ (by omega) | exact IntWalk.u32_in _ (by omega) | exact IntWalk.u64_in _ (by omega))
        | (refine Goal.quiet rfl (Run.eqlP T.ptr_29 rfl rfl rfl) ?_)
        | (refine Goal.quiet rfl (Run.neqP T.ptr_29 rfl rfl rfl) ?_)
        | (apply G.notT; exact rfl; exact rfl)
        | (apply G.notF; exact rfl; exact rfl)
        | (refine G.notD rfl rfl ?_)
        | (apply G.notB; exact rfl; exact rfl)
        | (apply G.extract; exact rfl; exact rfl; exact rfl)
        | (apply G.len; exact rfl; exact rfl; (first | exact T.slc_23 | exact T.slc_26))
        | (refine G.indexAddr1 rfl T.slc_23 T.sz_3 rfl rfl _ rfl (by omega) ?_)
        | (refine G.indexAddr1 rfl T.slc_23 T.sz_3 rfl rfl _ (Int.toNat_of_nonneg (by omega)).symm (by omega) ?_))
      refine Goal.done (vs := [_]) (by first | exact .inl rfl | exact .inr rfl) Try.results5 ⟨rfl, trivial⟩ rfl (fun w' H => ⟨rfl, H.mod⟩)
end
end Go.Proofs.Ytgidkddkoopdfaa
