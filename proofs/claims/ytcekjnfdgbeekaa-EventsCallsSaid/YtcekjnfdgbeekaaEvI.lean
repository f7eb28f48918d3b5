/- The queue of events: Add, for any queue. -/
import Derived.Test.YtcekjnfdgbeekaaEvH
import Derived.Test.YtcekjnfdgbeekaaHpK
namespace Go.Proofs.Ytcekjnfdgbeekaa
open Go.Wf
set_option linter.unusedVariables false
/-- What is left of a sequence behind its first statements. -/
def cdrs : Nat → Code → Code
  | n + 1, .seq _ y => cdrs n y
  | _, c => c
section
variable {bq : Nat} {q : Rep} {A : List Blk}
set_option maxHeartbeats 8000000 in
theorem add_tail (hA : EvM bq q A) (time data : Int) (ht : (0 ≤ time ∧ time ≤ 1073741824) ∧ q.now ≤ time) (hn : q.ni < 65536) (hl : 0 ≤ q.last ∧ q.last ≤ 1099511627776) (hfi : q.fi (q.last + 1) = none)
    (hs : 0 ≤ (opened q time).2 ∧ (opened q time).2 < (opened q time).1.ls.length) (hb : q.ls.length ≤ 65536 ∧ q.un.length ≤ 1048576) (hu : q.ft time = none → q.un.length = 0 → q.ls.length < 65536)
    (hbl : ∀ l ∈ (opened q time).1.ls, List.length l ≤ 1048576) (w : World) (S : List Nat) (R : Ending → World → Prop) (hR : ∀ A' w', EvM bq (added (opened q time).1 (opened q time).2 time data) A' → St w S w' A' → R (.returned (.tuple #[.int .i64 (q.last + 1), .int .i64 0])) w') :
    Goal 105 w S [(0, .pointer (some ⟨bq, 0, none⟩)), (1, .int .i64 time), (2, .int .i64 data)] A (CW Try.prog (bodyPost Try.prog Try.f11 R) (cdrs 6 (Try.f11.body.getD .skip))) := by
  obtain ⟨bt, bi, ct, ci, bh, bk, bp, mt, mi, vL, vU, vs, AO, AU, AI, AH, rfl, hL, hU, hI, hH, hT, hD⟩ := id hA
  obtain ⟨aL, cL, rfl⟩ := hL.shape
  obtain ⟨aU, cU, rfl⟩ := hU.shape
  have hml := hD.len
  have hq1 : (opened q time).1.last = q.last ∧ (opened q time).1.fi = q.fi ∧ (opened q time).1.ni = q.ni ∧ (opened q time).1.now = q.now := by
    unfold opened
    split
    · exact ⟨rfl, rfl, rfl, rfl⟩
    · split <;> exact ⟨rfl, rfl, rfl, rfl⟩
  have hg := hT.get time
  have hop : MCalls Try.prog 22 [.pointer (some ⟨bq, 0, none⟩), .int .i64 time] ((bq, .cells #[.int .i64 q.now, .int .i64 q.last, .pointer (some ⟨bh, 0, none⟩), .slice aL q.ls.length cL, .slice aU q.un.length cU, .map (some bt), .map (some bi)] 56) :: (bt, mobj mt ct) :: (bi, mobj mi ci) :: (AO ++ (AU ++ (AI ++ AH))))
      (fun A' : List Blk => q.ft time = none → EvM bq (opened q time).1 A') (fun _ => .int .i64 (opened q time).2) (fun A' => A') ∨ q.ft time ≠ none := by
    cases hft : q.ft time with
    | some s => exact .inr (by simp)
    | none =>
      refine .inl ?_
      by_cases h0 : q.un.length = 0
      · have e : opened q time = ({ q with m := upd q.m q.ls.length (some time), ls := q.ls ++ [[]], ft := fun j => if j = time then some (q.ls.length : Int) else q.ft j, nt := q.nt + 1 }, (q.ls.length : Int)) := by
          unfold opened; rw [hft]; exact if_pos h0
        rw [e]
        exact fun w hw hn => (open_new hA h0 time hft (hu hft h0) w hw hn).mono fun _ _ ⟨A', a, b, c⟩ => ⟨A', fun _ => a, b, c⟩
      · have e : opened q time = ({ q with m := upd q.m (ia q.un ((q.un.length : Int) - 1)) (some time), un := q.un.take (q.un.length - 1), ft := fun j => if j = time then some (ia q.un ((q.un.length : Int) - 1)) else q.ft j, nt := q.nt + 1 }, ia q.un ((q.un.length : Int) - 1)) := by
          unfold opened; rw [hft]; exact if_neg h0
        rw [e] at hs ⊢
        dsimp only at hs
        exact fun w hw hn => (open_old hA (by omega) time hft (by omega) (by omega) w hw hn).mono fun _ _ ⟨A', a, b, c⟩ => ⟨A', fun _ => a, b, c⟩
  repeat' (first
    | (refine Goal.loud (o := ⟨some 44, _, _, _, _, _⟩) rfl ?_; refine Loud.makeMap rfl (fun b44 => ?_))
    | (refine Goal.loud (o := ⟨some 45, _, _, _, _, _⟩) rfl ?_; refine Loud.makeMap rfl (fun b45 => ?_))
    | refine Goal.cut (x := Code.seq (Code.region 13 _ _) _) (X := List Blk) (fun _ => [(0, .pointer (some ⟨bq, 0, none⟩)), (1, .int .i64 time), (2, .int .i64 data), (8, .int .i64 (opened q time).2)]) (fun z => z) (fun z => EvM bq (opened q time).1 z) ?_ ?_
    | (refine Goal.quiet rfl (Run.lookE 1 T.map_54 rfl rfl rfl hg) ?_)
    | (apply G.move; exact rfl; exact rfl)
    | (apply G.assign; exact rfl; exact rfl)
    | refine Goal.seq (fun _ _ => ?_)
    | refine Goal.next (by assumption) ?_
    | refine Goal.lnil ?_
    | refine Goal.region ?_
    | refine Goal.skip ?_
    | refine Goal.block ?_
    | refine Goal.exit ?_
    | refine Goal.ret ?_
    | refine Goal.then_exit ?_
    | refine Goal.then_ret ?_
    | refine Goal.inBlock_exit ?_
    | refine Goal.inBlock_normal ?_
    | refine Goal.inBlock_ret ?_
    | refine Goal.inBlock_other rfl ?_
    | (apply Goal.condT; exact rfl)
    | (apply Goal.condF; exact rfl)
    | (refine Goal.condD rfl (fun hc => ?_) (fun hc => ?_) <;> first | (exfalso; omega) | contradiction | skip)
    | refine Goal.condB rfl (fun hc => ?_) (fun hc => ?_)
    | refine Goal.guardT rfl rfl ?_
    | refine Goal.guardF rfl rfl rfl rfl ?_
    | refine Goal.guardU rfl rfl rfl ?_
    | (refine Goal.guardD rfl rfl (fun hc => ?_) (fun hc => ?_) <;> first | (exfalso; omega) | contradiction | skip)
    | refine Goal.guardB rfl rfl (fun hc => ?_) (fun hc => ?_)
    | (apply G.fieldAddr; exact rfl; exact rfl; (first | exact T.fld_56_0 | exact T.fld_56_1 | exact T.fld_56_2 | exact T.fld_56_3 | exact T.fld_56_5 | exact T.fld_56_6))
    | (apply G.load; exact rfl; exact rfl; first | exact LoadOK.one (by first | exact T.one_3 | exact T.one_52 | exact T.one_53 | exact T.one_54 | exact T.one_60) 0 rfl rfl | exact LoadOK.one (by first | exact T.one_3 | exact T.one_52 | exact T.one_53 | exact T.one_54 | exact T.one_60) 1 rfl rfl | exact LoadOK.one (by first | exact T.one_3 | exact T.one_52 | exact T.one_53 | exact T.one_54 | exact T.one_60) 2 rfl rfl | exact LoadOK.one (by first | exact T.one_3 | exact T.one_52 | exact T.one_53 | exact T.one_54 | exact T.one_60) 3 rfl rfl | exact LoadOK.one (by first | exact T.one_3 | exact T.one_52 | exact T.one_53 | exact T.one_54 | exact T.one_60) 4 rfl rfl | exact LoadOK.one (by first | exact T.one_3 | exact T.one_52 | exact T.one_53 | exact T.one_54 | exact T.one_60) 5 rfl rfl | exact LoadOK.one (by first | exact T.one_3 | exact T.one_52 | exact T.one_53 | exact T.one_54 | exact T.one_60) 6 rfl rfl | exact LoadOK.one (by first | exact T.one_3 | exact T.one_52 | exact T.one_53 | exact T.one_54 | exact T.one_60) 7 rfl rfl)
    | (apply G.pickT; exact rfl; exact rfl; exact rfl)
    | (apply G.pickF; exact rfl; exact rfl; exact rfl)
    | (apply G.lss; exact rfl; exact rfl; exact rfl)
    | (apply G.gtr; exact rfl; exact rfl; exact rfl)
    | (apply G.geq; exact rfl; exact rfl; exact rfl)
    | (apply G.eql; exact rfl; exact rfl; exact rfl)
    | (apply G.add; exact rfl; exact rfl; exact rfl; first | exact IntWalk.i64_in _ (by omega) | exact IntWalk.u8_in _ (by omega) | exact IntWalk.u16_in _ (by omega) | exact IntWalk.u32_in _ (by omega) | exact IntWalk.u64_in _ (by omega))
    | (refine Goal.quiet rfl (Run.eqlP (by first | exact T.ptr_24 | exact T.ptr_52) rfl rfl rfl) ?_)
    | (apply G.notT; exact rfl; exact rfl)
    | (apply G.notF; exact rfl; exact rfl)
    | (refine G.notD rfl rfl ?_)
    | (apply G.notB; exact rfl; exact rfl)
    | (apply G.extract; exact rfl; exact rfl; exact rfl)
    | (apply G.build (cs := [_, _]); exact rfl; exact T.lay_62; exact rfl; exact rfl)
    | (refine Goal.quiet rfl (Run.lenM 0 T.map_54 rfl rfl) ?_)
    | (refine Goal.quiet rfl (Run.lenM 1 T.map_54 rfl rfl) ?_)
    | (refine Goal.quiet rfl (Run.lenM 2 T.map_54 rfl rfl) ?_)
    | (refine Goal.quiet rfl (Run.lenM 3 T.map_54 rfl rfl) ?_)
    | (refine Goal.quiet rfl (Run.lenM 4 T.map_54 rfl rfl) ?_)
    | (refine Goal.quiet rfl (Run.lenM0 T.map_54 rfl) ?_)
    | (refine Goal.quiet rfl (Run.lookII 0 T.map_54 rfl rfl rfl) ?_)
    | (refine Goal.quiet rfl (Run.lookI 0 T.map_54 rfl rfl rfl) ?_)
    | (refine Goal.quiet rfl (Run.lookII 1 T.map_54 rfl rfl rfl) ?_)
    | (refine Goal.quiet rfl (Run.lookI 1 T.map_54 rfl rfl rfl) ?_)
    | (refine Goal.quiet rfl (Run.lookII 2 T.map_54 rfl rfl rfl) ?_)
    | (refine Goal.quiet rfl (Run.lookI 2 T.map_54 rfl rfl rfl) ?_)
    | (refine Goal.quiet rfl (Run.lookII 3 T.map_54 rfl rfl rfl) ?_)
    | (refine Goal.quiet rfl (Run.lookI 3 T.map_54 rfl rfl rfl) ?_)
    | (refine Goal.quiet rfl (Run.lookII 4 T.map_54 rfl rfl rfl) ?_)
    | (refine Goal.quiet rfl (Run.lookI 4 T.map_54 rfl rfl rfl) ?_)
    | (refine Goal.quiet rfl (Run.lookNone T.map_54 rfl rfl) ?_)
    | (refine Goal.loud rfl ?_; refine Loud.putI0 T.map_54 rfl rfl rfl ?_)
    | (refine Goal.loud rfl ?_; refine Loud.putI1 T.map_54 rfl rfl rfl ?_)
    | (refine Goal.loud rfl ?_; refine Loud.putI2 T.map_54 rfl rfl rfl ?_)
    | (refine Goal.loud rfl ?_; refine Loud.putI3 T.map_54 rfl rfl rfl ?_)
    | (refine Goal.loud rfl ?_; refine Loud.putI4 T.map_54 rfl rfl rfl ?_)
    | (apply G.nilCheckP; exact rfl; exact rfl)
    | (refine G.indexAddr1 rfl T.slc_53 T.sz_60 rfl rfl _ rfl (by omega) ?_)
    | (refine G.indexAddr1 rfl T.slc_53 T.sz_60 rfl rfl _ (Int.toNat_of_nonneg (by omega)).symm (by omega) ?_)
    | (refine Goal.loud rfl ?_; refine Loud.store0 rfl rfl (by first | exact T.sz_3 | exact T.sz_52 | exact T.sz_54 | exact T.sz_60) rfl rfl rfl (by first | exact Nat.le_of_ble_eq_true rfl | exact Nat.le_refl _ | decide | (simp; omega)) rfl ?_)
    | (refine Goal.loud rfl ?_; refine Loud.store1 rfl rfl (by first | exact T.sz_3 | exact T.sz_52 | exact T.sz_54 | exact T.sz_60) rfl rfl rfl (by first | exact Nat.le_of_ble_eq_true rfl | exact Nat.le_refl _ | decide | (simp; omega)) rfl ?_)
    | (refine Goal.loud rfl ?_; refine Loud.store2 rfl rfl (by first | exact T.sz_3 | exact T.sz_52 | exact T.sz_54 | exact T.sz_60) rfl rfl rfl (by first | exact Nat.le_of_ble_eq_true rfl | exact Nat.le_refl _ | decide | (simp; omega)) rfl ?_)
    | (refine Goal.loud rfl ?_; refine Loud.store3 rfl rfl (by first | exact T.sz_3 | exact T.sz_52 | exact T.sz_54 | exact T.sz_60) rfl rfl rfl (by first | exact Nat.le_of_ble_eq_true rfl | exact Nat.le_refl _ | decide | (simp; omega)) rfl ?_)
    | (refine Goal.loud rfl ?_; refine Loud.store4 rfl rfl (by first | exact T.sz_3 | exact T.sz_52 | exact T.sz_54 | exact T.sz_60) rfl rfl rfl (by first | exact Nat.le_of_ble_eq_true rfl | exact Nat.le_refl _ | decide | (simp; omega)) rfl ?_)
    | (refine Goal.loud rfl ?_; refine Loud.store5 rfl rfl (by first | exact T.sz_3 | exact T.sz_52 | exact T.sz_54 | exact T.sz_60) rfl rfl rfl (by first | exact Nat.le_of_ble_eq_true rfl | exact Nat.le_refl _ | decide | (simp; omega)) rfl ?_)
    | (refine Goal.loud rfl ?_; refine Loud.store6 rfl rfl (by first | exact T.sz_3 | exact T.sz_52 | exact T.sz_54 | exact T.sz_60) rfl rfl rfl (by first | exact Nat.le_of_ble_eq_true rfl | exact Nat.le_refl _ | decide | (simp; omega)) rfl ?_)
    | (refine Goal.loud rfl ?_; refine Loud.store7 rfl rfl (by first | exact T.sz_3 | exact T.sz_52 | exact T.sz_54 | exact T.sz_60) rfl rfl rfl (by first | exact Nat.le_of_ble_eq_true rfl | exact Nat.le_refl _ | decide | (simp; omega)) rfl ?_))
  · intro K hk
    cases hft : q.ft time with
    | some s =>
      have ho : opened q time = (q, s) := by unfold opened; rw [hft]
      rw [ho] at hk
      skip
      repeat' (first
        | (refine Goal.loud (o := ⟨some 44, _, _, _, _, _⟩) rfl ?_; refine Loud.makeMap rfl (fun b44 => ?_))
        | (refine Goal.loud (o := ⟨some 45, _, _, _, _, _⟩) rfl ?_; refine Loud.makeMap rfl (fun b45 => ?_))
        | (apply G.move; exact rfl; exact rfl)
        | (apply G.assign; exact rfl; exact rfl)
        | refine Goal.seq (fun _ _ => ?_)
        | refine Goal.next (by assumption) ?_
        | refine Goal.lnil ?_
        | refine Goal.region ?_
        | refine Goal.skip ?_
        | refine Goal.block ?_
        | refine Goal.exit ?_
        | refine Goal.ret ?_
        | refine Goal.then_exit ?_
        | refine Goal.then_ret ?_
        | refine Goal.inBlock_exit ?_
        | refine Goal.inBlock_normal ?_
        | refine Goal.inBlock_ret ?_
        | refine Goal.inBlock_other rfl ?_
        | (apply Goal.condT; exact rfl)
        | (apply Goal.condF; exact rfl)
        | (refine Goal.condD rfl (fun hc => ?_) (fun hc => ?_) <;> first | (exfalso; omega) | contradiction | skip)
        | refine Goal.condB rfl (fun hc => ?_) (fun hc => ?_)
        | refine Goal.guardT rfl rfl ?_
        | refine Goal.guardF rfl rfl rfl rfl ?_
        | refine Goal.guardU rfl rfl rfl ?_
        | (refine Goal.guardD rfl rfl (fun hc => ?_) (fun hc => ?_) <;> first | (exfalso; omega) | contradiction | skip)
        | refine Goal.guardB rfl rfl (fun hc => ?_) (fun hc => ?_)
        | (apply G.fieldAddr; exact rfl; exact rfl; (first | exact T.fld_56_0 | exact T.fld_56_1 | exact T.fld_56_2 | exact T.fld_56_3 | exact T.fld_56_5 | exact T.fld_56_6))
        | (apply G.load; exact rfl; exact rfl; first | exact LoadOK.one (by first | exact T.one_3 | exact T.one_52 | exact T.one_53 | exact T.one_54 | exact T.one_60) 0 rfl rfl | exact LoadOK.one (by first | exact T.one_3 | exact T.one_52 | exact T.one_53 | exact T.one_54 | exact T.one_60) 1 rfl rfl | exact LoadOK.one (by first | exact T.one_3 | exact T.one_52 | exact T.one_53 | exact T.one_54 | exact T.one_60) 2 rfl rfl | exact LoadOK.one (by first | exact T.one_3 | exact T.one_52 | exact T.one_53 | exact T.one_54 | exact T.one_60) 3 rfl rfl | exact LoadOK.one (by first | exact T.one_3 | exact T.one_52 | exact T.one_53 | exact T.one_54 | exact T.one_60) 4 rfl rfl | exact LoadOK.one (by first | exact T.one_3 | exact T.one_52 | exact T.one_53 | exact T.one_54 | exact T.one_60) 5 rfl rfl | exact LoadOK.one (by first | exact T.one_3 | exact T.one_52 | exact T.one_53 | exact T.one_54 | exact T.one_60) 6 rfl rfl | exact LoadOK.one (by first | exact T.one_3 | exact T.one_52 | exact T.one_53 | exact T.one_54 | exact T.one_60) 7 rfl rfl)
        | (apply G.pickT; exact rfl; exact rfl; exact rfl)
        | (apply G.pickF; exact rfl; exact rfl; exact rfl)
        | (apply G.lss; exact rfl; exact rfl; exact rfl)
        | (apply G.gtr; exact rfl; exact rfl; exact rfl)
        | (apply G.geq; exact rfl; exact rfl; exact rfl)
        | (apply G.eql; exact rfl; exact rfl; exact rfl)
        | (apply G.add; exact rfl; exact rfl; exact rfl; first | exact IntWalk.i64_in _ (by omega) | exact IntWalk.u8_in _ (by omega) | exact IntWalk.u16_in _ (by omega) | exact IntWalk.u32_in _ (by omega) | exact IntWalk.u64_in _ (by omega))
        | (refine Goal.quiet rfl (Run.eqlP (by first | exact T.ptr_24 | exact T.ptr_52) rfl rfl rfl) ?_)
        | (apply G.notT; exact rfl; exact rfl)
        | (apply G.notF; exact rfl; exact rfl)
        | (refine G.notD rfl rfl ?_)
        | (apply G.notB; exact rfl; exact rfl)
        | (apply G.extract; exact rfl; exact rfl; exact rfl)
        | (apply G.build (cs := [_, _]); exact rfl; exact T.lay_62; exact rfl; exact rfl)
        | (refine Goal.quiet rfl (Run.lenM 0 T.map_54 rfl rfl) ?_)
        | (refine Goal.quiet rfl (Run.lenM 1 T.map_54 rfl rfl) ?_)
        | (refine Goal.quiet rfl (Run.lenM 2 T.map_54 rfl rfl) ?_)
        | (refine Goal.quiet rfl (Run.lenM 3 T.map_54 rfl rfl) ?_)
        | (refine Goal.quiet rfl (Run.lenM 4 T.map_54 rfl rfl) ?_)
        | (refine Goal.quiet rfl (Run.lenM0 T.map_54 rfl) ?_)
        | (refine Goal.quiet rfl (Run.lookII 0 T.map_54 rfl rfl rfl) ?_)
        | (refine Goal.quiet rfl (Run.lookI 0 T.map_54 rfl rfl rfl) ?_)
        | (refine Goal.quiet rfl (Run.lookII 1 T.map_54 rfl rfl rfl) ?_)
        | (refine Goal.quiet rfl (Run.lookI 1 T.map_54 rfl rfl rfl) ?_)
        | (refine Goal.quiet rfl (Run.lookII 2 T.map_54 rfl rfl rfl) ?_)
        | (refine Goal.quiet rfl (Run.lookI 2 T.map_54 rfl rfl rfl) ?_)
        | (refine Goal.quiet rfl (Run.lookII 3 T.map_54 rfl rfl rfl) ?_)
        | (refine Goal.quiet rfl (Run.lookI 3 T.map_54 rfl rfl rfl) ?_)
        | (refine Goal.quiet rfl (Run.lookII 4 T.map_54 rfl rfl rfl) ?_)
        | (refine Goal.quiet rfl (Run.lookI 4 T.map_54 rfl rfl rfl) ?_)
        | (refine Goal.quiet rfl (Run.lookNone T.map_54 rfl rfl) ?_)
        | (refine Goal.loud rfl ?_; refine Loud.putI0 T.map_54 rfl rfl rfl ?_)
        | (refine Goal.loud rfl ?_; refine Loud.putI1 T.map_54 rfl rfl rfl ?_)
        | (refine Goal.loud rfl ?_; refine Loud.putI2 T.map_54 rfl rfl rfl ?_)
        | (refine Goal.loud rfl ?_; refine Loud.putI3 T.map_54 rfl rfl rfl ?_)
        | (refine Goal.loud rfl ?_; refine Loud.putI4 T.map_54 rfl rfl rfl ?_)
        | (apply G.nilCheckP; exact rfl; exact rfl)
        | (refine G.indexAddr1 rfl T.slc_53 T.sz_60 rfl rfl _ rfl (by omega) ?_)
        | (refine G.indexAddr1 rfl T.slc_53 T.sz_60 rfl rfl _ (Int.toNat_of_nonneg (by omega)).symm (by omega) ?_)
        | (refine Goal.loud rfl ?_; refine Loud.store0 rfl rfl (by first | exact T.sz_3 | exact T.sz_52 | exact T.sz_54 | exact T.sz_60) rfl rfl rfl (by first | exact Nat.le_of_ble_eq_true rfl | exact Nat.le_refl _ | decide | (simp; omega)) rfl ?_)
        | (refine Goal.loud rfl ?_; refine Loud.store1 rfl rfl (by first | exact T.sz_3 | exact T.sz_52 | exact T.sz_54 | exact T.sz_60) rfl rfl rfl (by first | exact Nat.le_of_ble_eq_true rfl | exact Nat.le_refl _ | decide | (simp; omega)) rfl ?_)
        | (refine Goal.loud rfl ?_; refine Loud.store2 rfl rfl (by first | exact T.sz_3 | exact T.sz_52 | exact T.sz_54 | exact T.sz_60) rfl rfl rfl (by first | exact Nat.le_of_ble_eq_true rfl | exact Nat.le_refl _ | decide | (simp; omega)) rfl ?_)
        | (refine Goal.loud rfl ?_; refine Loud.store3 rfl rfl (by first | exact T.sz_3 | exact T.sz_52 | exact T.sz_54 | exact T.sz_60) rfl rfl rfl (by first | exact Nat.le_of_ble_eq_true rfl | exact Nat.le_refl _ | decide | (simp; omega)) rfl ?_)
        | (refine Goal.loud rfl ?_; refine Loud.store4 rfl rfl (by first | exact T.sz_3 | exact T.sz_52 | exact T.sz_54 | exact T.sz_60) rfl rfl rfl (by first | exact Nat.le_of_ble_eq_true rfl | exact Nat.le_refl _ | decide | (simp; omega)) rfl ?_)
        | (refine Goal.loud rfl ?_; refine Loud.store5 rfl rfl (by first | exact T.sz_3 | exact T.sz_52 | exact T.sz_54 | exact T.sz_60) rfl rfl rfl (by first | exact Nat.le_of_ble_eq_true rfl | exact Nat.le_refl _ | decide | (simp; omega)) rfl ?_)
        | (refine Goal.loud rfl ?_; refine Loud.store6 rfl rfl (by first | exact T.sz_3 | exact T.sz_52 | exact T.sz_54 | exact T.sz_60) rfl rfl rfl (by first | exact Nat.le_of_ble_eq_true rfl | exact Nat.le_refl _ | decide | (simp; omega)) rfl ?_)
        | (refine Goal.loud rfl ?_; refine Loud.store7 rfl rfl (by first | exact T.sz_3 | exact T.sz_52 | exact T.sz_54 | exact T.sz_60) rfl rfl rfl (by first | exact Nat.le_of_ble_eq_true rfl | exact Nat.le_refl _ | decide | (simp; omega)) rfl ?_))
      exact Goal.meet hk _ hA ⟨rfl, rfl, rfl, rfl, trivial⟩ (fun _ h => h)
    | none =>
      rcases hop with hop | hop
      · skip
        repeat' (first
          | (refine Goal.loud (o := ⟨some 63, _, _, _, _, _⟩) rfl ?_; refine Loud.callE ([]) (hop) rfl rfl rfl rfl T.bod_22 (fun _ h => h) ?_; intro A3 h3)
          | (refine Goal.loud (o := ⟨some 44, _, _, _, _, _⟩) rfl ?_; refine Loud.makeMap rfl (fun b44 => ?_))
          | (refine Goal.loud (o := ⟨some 45, _, _, _, _, _⟩) rfl ?_; refine Loud.makeMap rfl (fun b45 => ?_))
          | (apply G.move; exact rfl; exact rfl)
          | (apply G.assign; exact rfl; exact rfl)
          | refine Goal.seq (fun _ _ => ?_)
          | refine Goal.next (by assumption) ?_
          | refine Goal.lnil ?_
          | refine Goal.region ?_
          | refine Goal.skip ?_
          | refine Goal.block ?_
          | refine Goal.exit ?_
          | refine Goal.ret ?_
          | refine Goal.then_exit ?_
          | refine Goal.then_ret ?_
          | refine Goal.inBlock_exit ?_
          | refine Goal.inBlock_normal ?_
          | refine Goal.inBlock_ret ?_
          | refine Goal.inBlock_other rfl ?_
          | (apply Goal.condT; exact rfl)
          | (apply Goal.condF; exact rfl)
          | (refine Goal.condD rfl (fun hc => ?_) (fun hc => ?_) <;> first | (exfalso; omega) | contradiction | skip)
          | refine Goal.condB rfl (fun hc => ?_) (fun hc => ?_)
          | refine Goal.guardT rfl rfl ?_
          | refine Goal.guardF rfl rfl rfl rfl ?_
          | refine Goal.guardU rfl rfl rfl ?_
          | (refine Goal.guardD rfl rfl (fun hc => ?_) (fun hc => ?_) <;> first | (exfalso; omega) | contradiction | skip)
          | refine Goal.guardB rfl rfl (fun hc => ?_) (fun hc => ?_)
          | (apply G.fieldAddr; exact rfl; exact rfl; (first | exact T.fld_56_0 | exact T.fld_56_1 | exact T.fld_56_2 | exact T.fld_56_3 | exact T.fld_56_5 | exact T.fld_56_6))
          | (apply G.load; exact rfl; exact rfl; first | exact LoadOK.one (by first | exact T.one_3 | exact T.one_52 | exact T.one_53 | exact T.one_54 | exact T.one_60) 0 rfl rfl | exact LoadOK.one (by first | exact T.one_3 | exact T.one_52 | exact T.one_53 | exact T.one_54 | exact T.one_60) 1 rfl rfl | exact LoadOK.one (by first | exact T.one_3 | exact T.one_52 | exact T.one_53 | exact T.one_54 | exact T.one_60) 2 rfl rfl | exact LoadOK.one (by first | exact T.one_3 | exact T.one_52 | exact T.one_53 | exact T.one_54 | exact T.one_60) 3 rfl rfl | exact LoadOK.one (by first | exact T.one_3 | exact T.one_52 | exact T.one_53 | exact T.one_54 | exact T.one_60) 4 rfl rfl | exact LoadOK.one (by first | exact T.one_3 | exact T.one_52 | exact T.one_53 | exact T.one_54 | exact T.one_60) 5 rfl rfl | exact LoadOK.one (by first | exact T.one_3 | exact T.one_52 | exact T.one_53 | exact T.one_54 | exact T.one_60) 6 rfl rfl | exact LoadOK.one (by first | exact T.one_3 | exact T.one_52 | exact T.one_53 | exact T.one_54 | exact T.one_60) 7 rfl rfl)
          | (apply G.pickT; exact rfl; exact rfl; exact rfl)
          | (apply G.pickF; exact rfl; exact rfl; exact rfl)
          | (apply G.lss; exact rfl; exact rfl; exact rfl)
          | (apply G.gtr; exact rfl; exact rfl; exact rfl)
          | (apply G.geq; exact rfl; exact rfl; exact rfl)
          | (apply G.eql; exact rfl; exact rfl; exact rfl)
          | (apply G.add; exact rfl; exact rfl; exact rfl; first | exact IntWalk.i64_in _ (by omega) | exact IntWalk.u8_in _ (by omega) | exact IntWalk.u16_in _ (by omega) | exact IntWalk.u32_in _ (by omega) | exact IntWalk.u64_in _ (by omega))
          | (refine Goal.quiet rfl (Run.eqlP (by first | exact T.ptr_24 | exact T.ptr_52) rfl rfl rfl) ?_)
          | (apply G.notT; exact rfl; exact rfl)
          | (apply G.notF; exact rfl; exact rfl)
          | (refine G.notD rfl rfl ?_)
          | (apply G.notB; exact rfl; exact rfl)
          | (apply G.extract; exact rfl; exact rfl; exact rfl)
          | (apply G.build (cs := [_, _]); exact rfl; exact T.lay_62; exact rfl; exact rfl)
          | (refine Goal.quiet rfl (Run.lenM 0 T.map_54 rfl rfl) ?_)
          | (refine Goal.quiet rfl (Run.lenM 1 T.map_54 rfl rfl) ?_)
          | (refine Goal.quiet rfl (Run.lenM 2 T.map_54 rfl rfl) ?_)
          | (refine Goal.quiet rfl (Run.lenM 3 T.map_54 rfl rfl) ?_)
          | (refine Goal.quiet rfl (Run.lenM 4 T.map_54 rfl rfl) ?_)
          | (refine Goal.quiet rfl (Run.lenM0 T.map_54 rfl) ?_)
          | (refine Goal.quiet rfl (Run.lookII 0 T.map_54 rfl rfl rfl) ?_)
          | (refine Goal.quiet rfl (Run.lookI 0 T.map_54 rfl rfl rfl) ?_)
          | (refine Goal.quiet rfl (Run.lookII 1 T.map_54 rfl rfl rfl) ?_)
          | (refine Goal.quiet rfl (Run.lookI 1 T.map_54 rfl rfl rfl) ?_)
          | (refine Goal.quiet rfl (Run.lookII 2 T.map_54 rfl rfl rfl) ?_)
          | (refine Goal.quiet rfl (Run.lookI 2 T.map_54 rfl rfl rfl) ?_)
          | (refine Goal.quiet rfl (Run.lookII 3 T.map_54 rfl rfl rfl) ?_)
          | (refine Goal.quiet rfl (Run.lookI 3 T.map_54 rfl rfl rfl) ?_)
          | (refine Goal.quiet rfl (Run.lookII 4 T.map_54 rfl rfl rfl) ?_)
          | (refine Goal.quiet rfl (Run.lookI 4 T.map_54 rfl rfl rfl) ?_)
          | (refine Goal.quiet rfl (Run.lookNone T.map_54 rfl rfl) ?_)
          | (refine Goal.loud rfl ?_; refine Loud.putI0 T.map_54 rfl rfl rfl ?_)
          | (refine Goal.loud rfl ?_; refine Loud.putI1 T.map_54 rfl rfl rfl ?_)
          | (refine Goal.loud rfl ?_; refine Loud.putI2 T.map_54 rfl rfl rfl ?_)
          | (refine Goal.loud rfl ?_; refine Loud.putI3 T.map_54 rfl rfl rfl ?_)
          | (refine Goal.loud rfl ?_; refine Loud.putI4 T.map_54 rfl rfl rfl ?_)
          | (apply G.nilCheckP; exact rfl; exact rfl)
          | (refine G.indexAddr1 rfl T.slc_53 T.sz_60 rfl rfl _ rfl (by omega) ?_)
          | (refine G.indexAddr1 rfl T.slc_53 T.sz_60 rfl rfl _ (Int.toNat_of_nonneg (by omega)).symm (by omega) ?_)
          | (refine Goal.loud rfl ?_; refine Loud.store0 rfl rfl (by first | exact T.sz_3 | exact T.sz_52 | exact T.sz_54 | exact T.sz_60) rfl rfl rfl (by first | exact Nat.le_of_ble_eq_true rfl | exact Nat.le_refl _ | decide | (simp; omega)) rfl ?_)
          | (refine Goal.loud rfl ?_; refine Loud.store1 rfl rfl (by first | exact T.sz_3 | exact T.sz_52 | exact T.sz_54 | exact T.sz_60) rfl rfl rfl (by first | exact Nat.le_of_ble_eq_true rfl | exact Nat.le_refl _ | decide | (simp; omega)) rfl ?_)
          | (refine Goal.loud rfl ?_; refine Loud.store2 rfl rfl (by first | exact T.sz_3 | exact T.sz_52 | exact T.sz_54 | exact T.sz_60) rfl rfl rfl (by first | exact Nat.le_of_ble_eq_true rfl | exact Nat.le_refl _ | decide | (simp; omega)) rfl ?_)
          | (refine Goal.loud rfl ?_; refine Loud.store3 rfl rfl (by first | exact T.sz_3 | exact T.sz_52 | exact T.sz_54 | exact T.sz_60) rfl rfl rfl (by first | exact Nat.le_of_ble_eq_true rfl | exact Nat.le_refl _ | decide | (simp; omega)) rfl ?_)
          | (refine Goal.loud rfl ?_; refine Loud.store4 rfl rfl (by first | exact T.sz_3 | exact T.sz_52 | exact T.sz_54 | exact T.sz_60) rfl rfl rfl (by first | exact Nat.le_of_ble_eq_true rfl | exact Nat.le_refl _ | decide | (simp; omega)) rfl ?_)
          | (refine Goal.loud rfl ?_; refine Loud.store5 rfl rfl (by first | exact T.sz_3 | exact T.sz_52 | exact T.sz_54 | exact T.sz_60) rfl rfl rfl (by first | exact Nat.le_of_ble_eq_true rfl | exact Nat.le_refl _ | decide | (simp; omega)) rfl ?_)
          | (refine Goal.loud rfl ?_; refine Loud.store6 rfl rfl (by first | exact T.sz_3 | exact T.sz_52 | exact T.sz_54 | exact T.sz_60) rfl rfl rfl (by first | exact Nat.le_of_ble_eq_true rfl | exact Nat.le_refl _ | decide | (simp; omega)) rfl ?_)
          | (refine Goal.loud rfl ?_; refine Loud.store7 rfl rfl (by first | exact T.sz_3 | exact T.sz_52 | exact T.sz_54 | exact T.sz_60) rfl rfl rfl (by first | exact Nat.le_of_ble_eq_true rfl | exact Nat.le_refl _ | decide | (simp; omega)) rfl ?_))
        exact Goal.meet hk _ (h3 hft) ⟨rfl, rfl, rfl, rfl, trivial⟩ (fun _ h => h)
      · exact absurd hft hop
  · intro A' hA'
    clear hI hH hL hU hT hop hg
    generalize opened q time = o at hs hbl hq1 hA' hR ⊢
    obtain ⟨q1, s⟩ := o
    dsimp only at hs hbl hq1 hA' hR ⊢
    obtain ⟨g1, g2, g3, g4⟩ := hq1
    obtain ⟨bt, bi, ct, ci, bh, bk, bp, mt, mi, vL, vU, vs, AO, AU, AI, AH, rfl, hL, hU, hI, hH, hT, hD⟩ := hA'
    obtain ⟨bo, rest, cap, rfl, rfl, h1, h2, h3⟩ := hL.pos (by omega)
    obtain ⟨aU, cU, rfl⟩ := hU.shape
    obtain ⟨v, B1, Ai, B2, hv, rfl, hsl, hre⟩ := hI.split (i := s.toNat) (by omega)
    obtain ⟨ad, cp, rfl⟩ := hsl.shape
    have hvl := hI.len
    have hv2 : (vs ++ rest)[0 + s.toNat]? = some (.slice ad (List.length (q1.ls[s.toNat]'(by omega))) cp) := by rw [Nat.zero_add, List.getElem?_append_left (by omega)]; exact hv
    have hll := hbl _ (List.getElem_mem (by omega : s.toNat < q1.ls.length))
    refine Goal.subL (L' := ((bq, Obj.cells #[.int .i64 q1.now, .int .i64 q1.last, .pointer (some ⟨bh, 0, none⟩), .slice (some ⟨bo, 0, none⟩) q1.ls.length cap, .slice aU q1.un.length cU, .map (some bt), .map (some bi)] 56) :: (bt, mobj mt ct) :: (bi, mobj mi ci) :: (bo, Obj.cells (vs ++ rest).toArray 60) :: (AU ++ B1)) ++ (Ai ++ (B2 ++ AH))) (fun _ h => by simpa [List.append_assoc] using h) ?_
    repeat' (first
      | (refine Goal.drawPre4 (id := 16) 21 T.mixed ?_; all_goals ((refine Goal.takeP (listed' := #[true, false, false, false, false, false, false, false, false, false, false, false, false, false, false, false, false, false, false, false, false, false]) 0 ⟨rfl, by kernel_rfl, by kernel_rfl, by kernel_rfl, by kernel_rfl⟩ rfl (fun _ _ _ _ h => h) (by intro _; exact Run.move rfl) ?_)); all_goals ((refine Goal.takeP (listed' := #[true, true, false, false, false, false, false, false, false, false, false, false, false, false, false, false, false, false, false, false, false, false]) 1 ⟨rfl, by kernel_rfl, by kernel_rfl, by kernel_rfl, by kernel_rfl⟩ rfl (fun _ _ _ _ h => h) (by intro _; exact Run.nilCheckP rfl) ?_)); all_goals ((refine Goal.takeP (listed' := #[true, true, true, false, false, false, false, false, false, false, false, false, false, false, false, false, false, false, false, false, false, false]) 2 ⟨rfl, by kernel_rfl, by kernel_rfl, by kernel_rfl, by kernel_rfl⟩ rfl (fun _ _ _ _ h => h) (by intro _; exact Run.fieldAddr T.fld_56_3 rfl) ?_)); all_goals ((refine Goal.takeP (listed' := #[true, true, true, false, true, false, false, false, false, false, false, false, false, false, false, false, false, false, false, false, false, false]) 4 ⟨rfl, by kernel_rfl, by kernel_rfl, by kernel_rfl, by kernel_rfl⟩ rfl (fun _ _ _ _ h => h) (by intro _; exact Run.move rfl) ?_)); all_goals ((refine Goal.takeP (listed' := #[true, true, true, false, true, true, false, false, false, false, false, false, false, false, false, false, false, false, false, false, false, false]) 5 ⟨rfl, by kernel_rfl, by kernel_rfl, by kernel_rfl, by kernel_rfl⟩ rfl (fun _ _ _ _ h => h) (by intro _; exact Run.move rfl) ?_)); all_goals ((refine Goal.takeP (listed' := #[true, true, true, false, true, true, true, false, false, false, false, false, false, false, false, false, false, false, false, false, false, false]) 6 ⟨rfl, by kernel_rfl, by kernel_rfl, by kernel_rfl, by kernel_rfl⟩ rfl (fun _ _ _ _ h => h) (by intro _; exact Run.nilCheckP rfl) ?_)); all_goals ((refine Goal.takeP (listed' := #[true, true, true, false, true, true, true, true, false, false, false, false, false, false, false, false, false, false, false, false, false, false]) 7 ⟨rfl, by kernel_rfl, by kernel_rfl, by kernel_rfl, by kernel_rfl⟩ rfl (fun _ _ _ _ h => h) (by intro _; exact Run.fieldAddr T.fld_56_3 rfl) ?_)); all_goals ((refine Goal.takeP (listed' := #[true, true, true, false, true, true, true, true, false, true, false, false, false, false, false, false, false, false, false, false, false, false]) 9 ⟨rfl, by kernel_rfl, by kernel_rfl, by kernel_rfl, by kernel_rfl⟩ rfl (fun _ _ _ _ h => h) (by intro _; exact Run.move rfl) ?_)); all_goals ((refine Goal.takeP (listed' := #[true, true, true, false, true, true, true, true, false, true, false, false, true, false, false, false, false, false, false, false, false, false]) 12 ⟨rfl, by kernel_rfl, by kernel_rfl, by kernel_rfl, by kernel_rfl⟩ rfl (fun _ _ _ _ h => h) (by intro _; exact Run.move rfl) ?_)); all_goals ((refine Goal.takeP (listed' := #[true, true, true, false, true, true, true, true, false, true, false, false, true, true, false, false, false, false, false, false, false, false]) 13 ⟨rfl, by kernel_rfl, by kernel_rfl, by kernel_rfl, by kernel_rfl⟩ rfl (fun _ _ _ _ h => h) (by intro _; exact Run.nilCheckP rfl) ?_)); all_goals ((refine Goal.takeP (listed' := #[true, true, true, false, true, true, true, true, false, true, false, false, true, true, true, false, false, false, false, false, false, false]) 14 ⟨rfl, by kernel_rfl, by kernel_rfl, by kernel_rfl, by kernel_rfl⟩ rfl (fun _ _ _ _ h => h) (by intro _; exact Run.fieldAddr T.fld_56_1 rfl) ?_)); all_goals ((refine Goal.takeP (listed' := #[true, true, true, false, true, true, true, true, false, true, false, false, true, true, true, false, true, false, false, false, false, false]) 16 ⟨rfl, by kernel_rfl, by kernel_rfl, by kernel_rfl, by kernel_rfl⟩ rfl (fun _ _ _ _ h => h) (by intro _; exact Run.move rfl) ?_)); all_goals ((refine Goal.take (listed' := #[true, true, true, true, true, true, true, true, false, true, false, false, true, true, true, false, true, false, false, false, false, false]) 3 ⟨rfl, by kernel_rfl, by kernel_rfl, by kernel_rfl, by kernel_rfl, by kernel_rfl⟩ rfl (by (first | exact fun _ h => h.sub (List.Sublist.cons_cons _ (List.Sublist.cons_cons _ (List.Sublist.cons_cons _ (List.Sublist.cons_cons _ (List.nil_sublist _))))) | exact fun _ h => h.sub (.cons _ (List.Sublist.cons_cons _ (List.Sublist.cons_cons _ (List.Sublist.cons_cons _ (List.Sublist.cons_cons _ (List.nil_sublist _)))))))) (fun _ _ _ _ h => h) (by (apply Run.load; exact rfl; first | exact LoadOK.one T.one_60 3 rfl hv2 | exact LoadOK.one T.one_53 0 rfl rfl | exact LoadOK.one T.one_53 1 rfl rfl | exact LoadOK.one T.one_53 2 rfl rfl | exact LoadOK.one T.one_53 3 rfl rfl | exact LoadOK.one T.one_53 4 rfl rfl | exact LoadOK.one T.one_53 5 rfl rfl | exact LoadOK.one T.one_53 6 rfl rfl | exact LoadOK.one T.one_53 7 rfl rfl)) ?_)); all_goals ((refine Goal.take (listed' := #[true, true, true, true, true, true, true, true, true, true, false, false, true, true, true, false, true, false, false, false, false, false]) 8 ⟨rfl, by kernel_rfl, by kernel_rfl, by kernel_rfl, by kernel_rfl, by kernel_rfl⟩ rfl (by (first | exact fun _ h => h.sub (List.Sublist.cons_cons _ (List.Sublist.cons_cons _ (List.Sublist.cons_cons _ (List.Sublist.cons_cons _ (List.nil_sublist _))))) | exact fun _ h => h.sub (.cons _ (List.Sublist.cons_cons _ (List.Sublist.cons_cons _ (List.Sublist.cons_cons _ (List.Sublist.cons_cons _ (List.nil_sublist _)))))))) (fun _ _ _ _ h => h) (by (apply Run.load; exact rfl; first | exact LoadOK.one T.one_60 3 rfl hv2 | exact LoadOK.one T.one_53 0 rfl rfl | exact LoadOK.one T.one_53 1 rfl rfl | exact LoadOK.one T.one_53 2 rfl rfl | exact LoadOK.one T.one_53 3 rfl rfl | exact LoadOK.one T.one_53 4 rfl rfl | exact LoadOK.one T.one_53 5 rfl rfl | exact LoadOK.one T.one_53 6 rfl rfl | exact LoadOK.one T.one_53 7 rfl rfl)) ?_)); all_goals ((refine Goal.takeP (listed' := #[true, true, true, true, true, true, true, true, true, true, true, false, true, true, true, false, true, false, false, false, false, false]) 10 ⟨rfl, by kernel_rfl, by kernel_rfl, by kernel_rfl, by kernel_rfl⟩ rfl (fun _ _ _ _ h => h) (by intro _; first | exact Run.indexAddr1 T.slc_53 T.sz_60 rfl rfl rfl (by omega) | exact Run.indexAddr1 T.slc_53 T.sz_60 rfl rfl (Int.toNat_of_nonneg (by omega)).symm (by omega)) ?_)); all_goals ((refine Goal.take (listed' := #[true, true, true, true, true, true, true, true, true, true, true, true, true, true, true, false, true, false, false, false, false, false]) 11 ⟨rfl, by kernel_rfl, by kernel_rfl, by kernel_rfl, by kernel_rfl, by kernel_rfl⟩ rfl (by (first | exact fun _ h => h.sub (List.Sublist.cons_cons _ (List.Sublist.cons_cons _ (List.Sublist.cons_cons _ (List.Sublist.cons_cons _ (List.nil_sublist _))))) | exact fun _ h => h.sub (.cons _ (List.Sublist.cons_cons _ (List.Sublist.cons_cons _ (List.Sublist.cons_cons _ (List.Sublist.cons_cons _ (List.nil_sublist _)))))))) (fun _ _ _ _ h => h) (by (apply Run.load; exact rfl; first | exact LoadOK.one T.one_60 3 rfl hv2 | exact LoadOK.one T.one_60 0 rfl rfl | exact LoadOK.one T.one_60 1 rfl rfl | exact LoadOK.one T.one_60 2 rfl rfl | exact LoadOK.one T.one_60 3 rfl rfl | exact LoadOK.one T.one_60 4 rfl rfl | exact LoadOK.one T.one_60 5 rfl rfl | exact LoadOK.one T.one_60 6 rfl rfl | exact LoadOK.one T.one_60 7 rfl rfl)) ?_)); all_goals ((refine Goal.take (listed' := #[true, true, true, true, true, true, true, true, true, true, true, true, true, true, true, true, true, false, false, false, false, false]) 15 ⟨rfl, by kernel_rfl, by kernel_rfl, by kernel_rfl, by kernel_rfl, by kernel_rfl⟩ rfl (by (first | exact fun _ h => h.sub (List.Sublist.cons_cons _ (List.Sublist.cons_cons _ (List.Sublist.cons_cons _ (List.Sublist.cons_cons _ (List.nil_sublist _))))) | exact fun _ h => h.sub (.cons _ (List.Sublist.cons_cons _ (List.Sublist.cons_cons _ (List.Sublist.cons_cons _ (List.Sublist.cons_cons _ (List.nil_sublist _)))))))) (fun _ _ _ _ h => h) (by (apply Run.load; exact rfl; first | exact LoadOK.one T.one_60 3 rfl hv2 | exact LoadOK.one T.one_3 0 rfl rfl | exact LoadOK.one T.one_3 1 rfl rfl | exact LoadOK.one T.one_3 2 rfl rfl | exact LoadOK.one T.one_3 3 rfl rfl | exact LoadOK.one T.one_3 4 rfl rfl | exact LoadOK.one T.one_3 5 rfl rfl | exact LoadOK.one T.one_3 6 rfl rfl | exact LoadOK.one T.one_3 7 rfl rfl)) ?_)); all_goals ((refine Goal.takeP (listed' := #[true, true, true, true, true, true, true, true, true, true, true, true, true, true, true, true, true, true, false, false, false, false]) 17 ⟨rfl, by kernel_rfl, by kernel_rfl, by kernel_rfl, by kernel_rfl⟩ rfl (fun _ _ _ _ h => h) (by intro _; exact Run.build (cs := [_, _]) T.lay_62 rfl rfl) ?_)); all_goals (refine Goal.ready1 (i := 18) (by kernel_rfl) ?_); all_goals ((refine Goal.up (i := 18) (listed' := #[true, true, true, true, true, true, true, true, true, true, true, true, true, true, true, true, true, true, true, false, false, false]) rfl (by kernel_rfl) ?_; (refine Loud.buildSlice (cs := [_, _]) rfl T.slc_60 T.inf_62 rfl rfl (by decide) rfl rfl rfl (fun b89 => ?_)); first | refine Goal.tail rfl ?_ | refine Goal.kept (by (first | exact fun _ h => h.sub (List.Sublist.cons_cons _ (List.Sublist.cons_cons _ (List.Sublist.cons_cons _ (List.Sublist.cons_cons _ (List.nil_sublist _))))) | exact fun _ h => h.sub (.cons _ (List.Sublist.cons_cons _ (List.Sublist.cons_cons _ (List.Sublist.cons_cons _ (List.Sublist.cons_cons _ (List.nil_sublist _)))))))) ?_)); all_goals (refine Goal.ready1 (i := 19) (by kernel_rfl) ?_); all_goals ((refine Goal.up (i := 19) (listed' := #[true, true, true, true, true, true, true, true, true, true, true, true, true, true, true, true, true, true, true, true, false, false]) rfl (by kernel_rfl) ?_; (refine Loud.appendO rfl T.slc_60 T.inf_62 rfl (_ :: _ :: _ :: _ :: (AU ++ B1)) rfl hsl rfl rfl rfl rfl (by omega) (by omega) ?_; intro v2 A2 hA2; obtain ⟨ad2, cp2, rfl⟩ := hA2.shape); first | refine Goal.tail rfl ?_ | refine Goal.kept (by (first | exact fun _ h => h.sub (List.Sublist.cons_cons _ (List.Sublist.cons_cons _ (List.Sublist.cons_cons _ (List.Sublist.cons_cons _ (List.nil_sublist _))))) | exact fun _ h => h.sub (.cons _ (List.Sublist.cons_cons _ (List.Sublist.cons_cons _ (List.Sublist.cons_cons _ (List.Sublist.cons_cons _ (List.nil_sublist _)))))))) ?_)); all_goals ((refine Goal.takeP (listed' := #[true, true, true, true, true, true, true, true, true, true, true, true, true, true, true, true, true, true, true, true, true, false]) 20 ⟨rfl, by kernel_rfl, by kernel_rfl, by kernel_rfl, by kernel_rfl⟩ rfl (fun _ _ _ _ h => h) (by intro _; first | exact Run.indexAddr1 T.slc_53 T.sz_60 rfl rfl rfl (by omega) | exact Run.indexAddr1 T.slc_53 T.sz_60 rfl rfl (Int.toNat_of_nonneg (by omega)).symm (by omega)) ?_)); all_goals (refine Goal.ready1 (i := 21) (by kernel_rfl) ?_); all_goals ((refine Goal.up (i := 21) (listed' := #[true, true, true, true, true, true, true, true, true, true, true, true, true, true, true, true, true, true, true, true, true, true]) rfl (by kernel_rfl) ?_; (first | refine Loud.store3 rfl rfl T.sz_60 rfl rfl rfl (by rw [List.size_toArray, List.length_append]; omega) (wr_valsR (by omega)) ?_ | refine Loud.store0 rfl rfl T.sz_60 rfl rfl rfl (by first | exact Nat.le_of_ble_eq_true rfl | exact Nat.le_refl _ | decide | (simp; omega)) rfl ?_ | refine Loud.store1 rfl rfl T.sz_60 rfl rfl rfl (by first | exact Nat.le_of_ble_eq_true rfl | exact Nat.le_refl _ | decide | (simp; omega)) rfl ?_ | refine Loud.store2 rfl rfl T.sz_60 rfl rfl rfl (by first | exact Nat.le_of_ble_eq_true rfl | exact Nat.le_refl _ | decide | (simp; omega)) rfl ?_ | refine Loud.store3 rfl rfl T.sz_60 rfl rfl rfl (by first | exact Nat.le_of_ble_eq_true rfl | exact Nat.le_refl _ | decide | (simp; omega)) rfl ?_ | refine Loud.store4 rfl rfl T.sz_60 rfl rfl rfl (by first | exact Nat.le_of_ble_eq_true rfl | exact Nat.le_refl _ | decide | (simp; omega)) rfl ?_ | refine Loud.store5 rfl rfl T.sz_60 rfl rfl rfl (by first | exact Nat.le_of_ble_eq_true rfl | exact Nat.le_refl _ | decide | (simp; omega)) rfl ?_ | refine Loud.store6 rfl rfl T.sz_60 rfl rfl rfl (by first | exact Nat.le_of_ble_eq_true rfl | exact Nat.le_refl _ | decide | (simp; omega)) rfl ?_ | refine Loud.store7 rfl rfl T.sz_60 rfl rfl rfl (by first | exact Nat.le_of_ble_eq_true rfl | exact Nat.le_refl _ | decide | (simp; omega)) rfl ?_); first | refine Goal.tail rfl ?_ | refine Goal.kept (by (first | exact fun _ h => h.sub (List.Sublist.cons_cons _ (List.Sublist.cons_cons _ (List.Sublist.cons_cons _ (List.Sublist.cons_cons _ (List.nil_sublist _))))) | exact fun _ h => h.sub (.cons _ (List.Sublist.cons_cons _ (List.Sublist.cons_cons _ (List.Sublist.cons_cons _ (List.Sublist.cons_cons _ (List.nil_sublist _)))))))) ?_)); all_goals (refine Goal.allUp (by kernel_rfl) ?_))
      | (refine Goal.drawAll (id := 17) 9 T.mixed ?_; all_goals ((refine Goal.takeP (listed' := #[true, false, false, false, false, false, false, false, false, false]) 0 ⟨rfl, by kernel_rfl, by kernel_rfl, by kernel_rfl, by kernel_rfl⟩ rfl (fun _ _ _ _ h => h) (by intro _; exact Run.move rfl) ?_)); all_goals ((refine Goal.takeP (listed' := #[true, true, false, false, false, false, false, false, false, false]) 1 ⟨rfl, by kernel_rfl, by kernel_rfl, by kernel_rfl, by kernel_rfl⟩ rfl (fun _ _ _ _ h => h) (by intro _; exact Run.nilCheckP rfl) ?_)); all_goals ((refine Goal.takeP (listed' := #[true, true, true, false, false, false, false, false, false, false]) 2 ⟨rfl, by kernel_rfl, by kernel_rfl, by kernel_rfl, by kernel_rfl⟩ rfl (fun _ _ _ _ h => h) (by intro _; exact Run.fieldAddr T.fld_56_6 rfl) ?_)); all_goals ((refine Goal.takeP (listed' := #[true, true, true, false, true, false, false, false, false, false]) 4 ⟨rfl, by kernel_rfl, by kernel_rfl, by kernel_rfl, by kernel_rfl⟩ rfl (fun _ _ _ _ h => h) (by intro _; exact Run.move rfl) ?_)); all_goals ((refine Goal.takeP (listed' := #[true, true, true, false, true, true, false, false, false, false]) 5 ⟨rfl, by kernel_rfl, by kernel_rfl, by kernel_rfl, by kernel_rfl⟩ rfl (fun _ _ _ _ h => h) (by intro _; exact Run.nilCheckP rfl) ?_)); all_goals ((refine Goal.takeP (listed' := #[true, true, true, false, true, true, true, false, false, false]) 6 ⟨rfl, by kernel_rfl, by kernel_rfl, by kernel_rfl, by kernel_rfl⟩ rfl (fun _ _ _ _ h => h) (by intro _; exact Run.fieldAddr T.fld_56_1 rfl) ?_)); all_goals ((refine Goal.takeP (listed' := #[true, true, true, false, true, true, true, false, true, false]) 8 ⟨rfl, by kernel_rfl, by kernel_rfl, by kernel_rfl, by kernel_rfl⟩ rfl (fun _ _ _ _ h => h) (by intro _; exact Run.move rfl) ?_)); all_goals ((refine Goal.take (listed' := #[true, true, true, true, true, true, true, false, true, false]) 3 ⟨rfl, by kernel_rfl, by kernel_rfl, by kernel_rfl, by kernel_rfl, by kernel_rfl⟩ rfl (by (first | exact fun _ h => h | exact fun _ h => h.sub (.cons _ (.refl _)) | exact fun _ h => h.sub (.cons _ (.cons _ (.refl _))) | exact fun _ h => h.sub (.cons _ (.cons _ (.cons _ (.refl _)))) | exact fun _ h => h.drop | exact fun _ h => h.sub (List.sublist_append_left _ _) | exact fun _ h => by simpa only [List.append_eq, List.append_assoc, List.cons_append, List.nil_append, List.append_nil] using h)) (fun _ _ _ _ h => h) (by (apply Run.load; exact rfl; first | exact LoadOK.one T.one_60 3 rfl hv2 | exact LoadOK.one T.one_54 0 rfl rfl | exact LoadOK.one T.one_54 1 rfl rfl | exact LoadOK.one T.one_54 2 rfl rfl | exact LoadOK.one T.one_54 3 rfl rfl | exact LoadOK.one T.one_54 4 rfl rfl | exact LoadOK.one T.one_54 5 rfl rfl | exact LoadOK.one T.one_54 6 rfl rfl | exact LoadOK.one T.one_54 7 rfl rfl)) ?_)); all_goals ((refine Goal.take (listed' := #[true, true, true, true, true, true, true, true, true, false]) 7 ⟨rfl, by kernel_rfl, by kernel_rfl, by kernel_rfl, by kernel_rfl, by kernel_rfl⟩ rfl (by (first | exact fun _ h => h | exact fun _ h => h.sub (.cons _ (.refl _)) | exact fun _ h => h.sub (.cons _ (.cons _ (.refl _))) | exact fun _ h => h.sub (.cons _ (.cons _ (.cons _ (.refl _)))) | exact fun _ h => h.drop | exact fun _ h => h.sub (List.sublist_append_left _ _) | exact fun _ h => by simpa only [List.append_eq, List.append_assoc, List.cons_append, List.nil_append, List.append_nil] using h)) (fun _ _ _ _ h => h) (by (apply Run.load; exact rfl; first | exact LoadOK.one T.one_60 3 rfl hv2 | exact LoadOK.one T.one_3 0 rfl rfl | exact LoadOK.one T.one_3 1 rfl rfl | exact LoadOK.one T.one_3 2 rfl rfl | exact LoadOK.one T.one_3 3 rfl rfl | exact LoadOK.one T.one_3 4 rfl rfl | exact LoadOK.one T.one_3 5 rfl rfl | exact LoadOK.one T.one_3 6 rfl rfl | exact LoadOK.one T.one_3 7 rfl rfl)) ?_)); all_goals (refine Goal.ready1 (i := 9) (by kernel_rfl) ?_); all_goals ((refine Goal.up (i := 9) (listed' := #[true, true, true, true, true, true, true, true, true, true]) rfl (by kernel_rfl) ?_; (first | refine Loud.putI0 T.map_54 rfl rfl rfl ?_ | refine Loud.putI1 T.map_54 rfl rfl rfl ?_ | refine Loud.putI2 T.map_54 rfl rfl rfl ?_ | refine Loud.putI3 T.map_54 rfl rfl rfl ?_ | refine Loud.putI4 T.map_54 rfl rfl rfl ?_); first | refine Goal.tail rfl ?_ | refine Goal.kept (by (first | exact fun _ h => h | exact fun _ h => h.sub (.cons _ (.refl _)) | exact fun _ h => h.sub (.cons _ (.cons _ (.refl _))) | exact fun _ h => h.sub (.cons _ (.cons _ (.cons _ (.refl _)))) | exact fun _ h => h.drop | exact fun _ h => h.sub (List.sublist_append_left _ _) | exact fun _ h => by simpa only [List.append_eq, List.append_assoc, List.cons_append, List.nil_append, List.append_nil] using h)) ?_)); all_goals (refine Goal.allUp (by kernel_rfl) ?_))
      | (refine Goal.loud (o := ⟨some 90, _, _, _, _, _⟩) rfl ?_; refine Loud.appendO rfl T.slc_60 T.inf_62 rfl (_ :: _ :: _ :: _ :: (AU ++ B1)) rfl hsl rfl rfl rfl rfl (by omega) (by omega) ?_; intro v2 A2 hA2; obtain ⟨ad2, cp2, rfl⟩ := hA2.shape)
      | (refine Goal.loud (o := ⟨some 44, _, _, _, _, _⟩) rfl ?_; refine Loud.makeMap rfl (fun b44 => ?_))
      | (refine Goal.loud (o := ⟨some 45, _, _, _, _, _⟩) rfl ?_; refine Loud.makeMap rfl (fun b45 => ?_))
      | (apply G.move; exact rfl; exact rfl)
      | (apply G.assign; exact rfl; exact rfl)
      | refine Goal.seq (fun _ _ => ?_)
      | refine Goal.next (by assumption) ?_
      | refine Goal.lnil ?_
      | refine Goal.region ?_
      | refine Goal.skip ?_
      | refine Goal.block ?_
      | refine Goal.exit ?_
      | refine Goal.ret ?_
      | refine Goal.then_exit ?_
      | refine Goal.then_ret ?_
      | refine Goal.inBlock_exit ?_
      | refine Goal.inBlock_normal ?_
      | refine Goal.inBlock_ret ?_
      | refine Goal.inBlock_other rfl ?_
      | (apply Goal.condT; exact rfl)
      | (apply Goal.condF; exact rfl)
      | (refine Goal.condD rfl (fun hc => ?_) (fun hc => ?_) <;> first | (exfalso; omega) | contradiction | skip)
      | refine Goal.condB rfl (fun hc => ?_) (fun hc => ?_)
      | refine Goal.guardT rfl rfl ?_
      | refine Goal.guardF rfl rfl rfl rfl ?_
      | refine Goal.guardU rfl rfl rfl ?_
      | (refine Goal.guardD rfl rfl (fun hc => ?_) (fun hc => ?_) <;> first | (exfalso; omega) | contradiction | skip)
      | refine Goal.guardB rfl rfl (fun hc => ?_) (fun hc => ?_)
      | (apply G.fieldAddr; exact rfl; exact rfl; (first | exact T.fld_56_0 | exact T.fld_56_1 | exact T.fld_56_2 | exact T.fld_56_3 | exact T.fld_56_5 | exact T.fld_56_6))
      | (apply G.load; exact rfl; exact rfl; first | exact LoadOK.one T.one_60 3 rfl hv2 | exact LoadOK.one (by first | exact T.one_3 | exact T.one_52 | exact T.one_53 | exact T.one_54 | exact T.one_60) 0 rfl rfl | exact LoadOK.one (by first | exact T.one_3 | exact T.one_52 | exact T.one_53 | exact T.one_54 | exact T.one_60) 1 rfl rfl | exact LoadOK.one (by first | exact T.one_3 | exact T.one_52 | exact T.one_53 | exact T.one_54 | exact T.one_60) 2 rfl rfl | exact LoadOK.one (by first | exact T.one_3 | exact T.one_52 | exact T.one_53 | exact T.one_54 | exact T.one_60) 3 rfl rfl | exact LoadOK.one (by first | exact T.one_3 | exact T.one_52 | exact T.one_53 | exact T.one_54 | exact T.one_60) 4 rfl rfl | exact LoadOK.one (by first | exact T.one_3 | exact T.one_52 | exact T.one_53 | exact T.one_54 | exact T.one_60) 5 rfl rfl | exact LoadOK.one (by first | exact T.one_3 | exact T.one_52 | exact T.one_53 | exact T.one_54 | exact T.one_60) 6 rfl rfl | exact LoadOK.one (by first | exact T.one_3 | exact T.one_52 | exact T.one_53 | exact T.one_54 | exact T.one_60) 7 rfl rfl)
      | (apply G.pickT; exact rfl; exact rfl; exact rfl)
      | (apply G.pickF; exact rfl; exact rfl; exact rfl)
      | (apply G.lss; exact rfl; exact rfl; exact rfl)
      | (apply G.gtr; exact rfl; exact rfl; exact rfl)
      | (apply G.geq; exact rfl; exact rfl; exact rfl)
      | (apply G.eql; exact rfl; exact rfl; exact rfl)
      | (apply G.add; exact rfl; exact rfl; exact rfl; first | exact IntWalk.i64_in _ (by omega) | exact IntWalk.u8_in _ (by omega) | exact IntWalk.u16_in _ (by omega) | exact IntWalk.u32_in _ (by omega) | exact IntWalk.u64_in _ (by omega))
      | (refine Goal.quiet rfl (Run.eqlP (by first | exact T.ptr_24 | exact T.ptr_52) rfl rfl rfl) ?_)
      | (apply G.notT; exact rfl; exact rfl)
      | (apply G.notF; exact rfl; exact rfl)
      | (refine G.notD rfl rfl ?_)
      | (apply G.notB; exact rfl; exact rfl)
      | (apply G.extract; exact rfl; exact rfl; exact rfl)
      | (apply G.build (cs := [_, _]); exact rfl; exact T.lay_62; exact rfl; exact rfl)
      | (refine Goal.quiet rfl (Run.lenM 0 T.map_54 rfl rfl) ?_)
      | (refine Goal.quiet rfl (Run.lenM 1 T.map_54 rfl rfl) ?_)
      | (refine Goal.quiet rfl (Run.lenM 2 T.map_54 rfl rfl) ?_)
      | (refine Goal.quiet rfl (Run.lenM 3 T.map_54 rfl rfl) ?_)
      | (refine Goal.quiet rfl (Run.lenM 4 T.map_54 rfl rfl) ?_)
      | (refine Goal.quiet rfl (Run.lenM0 T.map_54 rfl) ?_)
      | (refine Goal.quiet rfl (Run.lookII 0 T.map_54 rfl rfl rfl) ?_)
      | (refine Goal.quiet rfl (Run.lookI 0 T.map_54 rfl rfl rfl) ?_)
      | (refine Goal.quiet rfl (Run.lookII 1 T.map_54 rfl rfl rfl) ?_)
      | (refine Goal.quiet rfl (Run.lookI 1 T.map_54 rfl rfl rfl) ?_)
      | (refine Goal.quiet rfl (Run.lookII 2 T.map_54 rfl rfl rfl) ?_)
      | (refine Goal.quiet rfl (Run.lookI 2 T.map_54 rfl rfl rfl) ?_)
      | (refine Goal.quiet rfl (Run.lookII 3 T.map_54 rfl rfl rfl) ?_)
      | (refine Goal.quiet rfl (Run.lookI 3 T.map_54 rfl rfl rfl) ?_)
      | (refine Goal.quiet rfl (Run.lookII 4 T.map_54 rfl rfl rfl) ?_)
      | (refine Goal.quiet rfl (Run.lookI 4 T.map_54 rfl rfl rfl) ?_)
      | (refine Goal.quiet rfl (Run.lookNone T.map_54 rfl rfl) ?_)
      | (refine Goal.loud rfl ?_; refine Loud.putI0 T.map_54 rfl rfl rfl ?_)
      | (refine Goal.loud rfl ?_; refine Loud.putI1 T.map_54 rfl rfl rfl ?_)
      | (refine Goal.loud rfl ?_; refine Loud.putI2 T.map_54 rfl rfl rfl ?_)
      | (refine Goal.loud rfl ?_; refine Loud.putI3 T.map_54 rfl rfl rfl ?_)
      | (refine Goal.loud rfl ?_; refine Loud.putI4 T.map_54 rfl rfl rfl ?_)
      | (apply G.nilCheckP; exact rfl; exact rfl)
      | (refine G.indexAddr1 rfl T.slc_53 T.sz_60 rfl rfl _ rfl (by omega) ?_)
      | (refine G.indexAddr1 rfl T.slc_53 T.sz_60 rfl rfl _ (Int.toNat_of_nonneg (by omega)).symm (by omega) ?_)
      | (refine Goal.loud rfl ?_; refine Loud.store3 rfl rfl T.sz_60 rfl rfl rfl (by rw [List.size_toArray, List.length_append]; omega) (wr_valsR (by omega)) ?_)
      | (refine Goal.loud rfl ?_; refine Loud.store0 rfl rfl (by first | exact T.sz_3 | exact T.sz_52 | exact T.sz_54 | exact T.sz_60) rfl rfl rfl (by first | exact Nat.le_of_ble_eq_true rfl | exact Nat.le_refl _ | decide | (simp; omega)) rfl ?_)
      | (refine Goal.loud rfl ?_; refine Loud.store1 rfl rfl (by first | exact T.sz_3 | exact T.sz_52 | exact T.sz_54 | exact T.sz_60) rfl rfl rfl (by first | exact Nat.le_of_ble_eq_true rfl | exact Nat.le_refl _ | decide | (simp; omega)) rfl ?_)
      | (refine Goal.loud rfl ?_; refine Loud.store2 rfl rfl (by first | exact T.sz_3 | exact T.sz_52 | exact T.sz_54 | exact T.sz_60) rfl rfl rfl (by first | exact Nat.le_of_ble_eq_true rfl | exact Nat.le_refl _ | decide | (simp; omega)) rfl ?_)
      | (refine Goal.loud rfl ?_; refine Loud.store3 rfl rfl (by first | exact T.sz_3 | exact T.sz_52 | exact T.sz_54 | exact T.sz_60) rfl rfl rfl (by first | exact Nat.le_of_ble_eq_true rfl | exact Nat.le_refl _ | decide | (simp; omega)) rfl ?_)
      | (refine Goal.loud rfl ?_; refine Loud.store4 rfl rfl (by first | exact T.sz_3 | exact T.sz_52 | exact T.sz_54 | exact T.sz_60) rfl rfl rfl (by first | exact Nat.le_of_ble_eq_true rfl | exact Nat.le_refl _ | decide | (simp; omega)) rfl ?_)
      | (refine Goal.loud rfl ?_; refine Loud.store5 rfl rfl (by first | exact T.sz_3 | exact T.sz_52 | exact T.sz_54 | exact T.sz_60) rfl rfl rfl (by first | exact Nat.le_of_ble_eq_true rfl | exact Nat.le_refl _ | decide | (simp; omega)) rfl ?_)
      | (refine Goal.loud rfl ?_; refine Loud.store6 rfl rfl (by first | exact T.sz_3 | exact T.sz_52 | exact T.sz_54 | exact T.sz_60) rfl rfl rfl (by first | exact Nat.le_of_ble_eq_true rfl | exact Nat.le_refl _ | decide | (simp; omega)) rfl ?_)
      | (refine Goal.loud rfl ?_; refine Loud.store7 rfl rfl (by first | exact T.sz_3 | exact T.sz_52 | exact T.sz_54 | exact T.sz_60) rfl rfl rfl (by first | exact Nat.le_of_ble_eq_true rfl | exact Nat.le_refl _ | decide | (simp; omega)) rfl ?_))
    have hgd : q1.ls.getD s.toNat [] = q1.ls[s.toNat]'(by omega) := by rw [List.getD_eq_getElem?_getD, List.getElem?_eq_getElem (by omega)]; rfl
    have hI2 := hre _ (q1.ls[s.toNat]'(by omega) ++ [(q1.last + 1, data)]) A2 (by rw [List.length_append, Els_one]; exact hA2)
    have hD2 := hD.put (v := time) ci (k := q1.last + 1) (by rw [g1, g2]; exact hfi)
    refine Goal.done (vs := [_, _]) (by first | exact .inl rfl | exact .inr rfl) Try.results11 ⟨rfl, rfl, trivial⟩ rfl (fun w' H => by rw [g1]; exact hR _ w' ⟨bt, bi, _, _, bh, bk, bp, mt, mput mi ci (q1.last + 1) time, _, _, vs.set s.toNat (.slice ad2 (List.length (q1.ls[s.toNat]'(by omega)) + 1) cp2), [(bo, .cells (vs.set s.toNat (.slice ad2 (List.length (q1.ls[s.toNat]'(by omega)) + 1) cp2) ++ rest).toArray 60)], AU, B1 ++ (A2 ++ B2), AH, rfl, by unfold added; dsimp only; rw [List.length_set]; exact Sl.mk (by rw [List.length_set]; exact h1) (by rw [List.length_set]; exact h2) h3, hU, by unfold added; dsimp only; rw [hgd]; exact hI2, hH, hT, hD2⟩ (St.assoc6 H))
end
end Go.Proofs.Ytcekjnfdgbeekaa
