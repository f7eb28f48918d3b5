/- A channel's memory; how many are accepted, how many depart up to a tick. -/
import Derived.Test.YtgidkddkoopdfaaChB
namespace Go.Proofs.Ytgidkddkoopdfaa
open Go.Wf
set_option linter.unusedVariables false
structure Cs where
  (delay rate room : Int) (fates : List (Int × Int)) (off now : Int) (D : List Int)
def ChM (bc : Nat) (s : Cs) (A : List Blk) : Prop := ∃ (R : List (Int × Int)) (vS vR : Value) (AS AR : List Blk),
  A = (bc, .cells #[.int .i64 s.delay, .int .i64 s.rate, .int .i64 s.room, vS, .int .i64 s.off, .int .i64 s.now, vR] 55) :: (AS ++ AR) ∧
  Sl vS 50 2 s.fates.length (Els pr s.fates) AS ∧ Sl vR 57 2 R.length (Els pr R) AR ∧ Rep R s.D
section
variable {bc : Nat} {s : Cs} {A : List Blk}
set_option maxHeartbeats 1000000 in
theorem accepted_ok (hA : ChM bc s A) (hl : s.D.length ≤ 1099511627776) :
    MCalls Try.prog 24 [.pointer (some ⟨bc, 0, none⟩)] A (fun _ : Unit => True) (fun _ => .int .i64 s.D.length) (fun _ => A) := .mk fun w hw => by
  have hf : ∀ a, (pr a).length = 2 := pr_len
  obtain ⟨R, vS, vR, AS, AR, rfl, hS, hR, hrep⟩ := hA
  have hrl := hrep.len
  rcases hR with ⟨rfl, h0, _, rfl⟩ | ⟨br, rest, cap, rfl, rfl, h1, h2, h3⟩
  · have hR0 : R = [] := List.length_eq_zero_iff.1 h0
    have hD0 := hrep.nil.1 hR0
    refine Goal.enter (args := [.pointer (some ⟨bc, 0, none⟩)]) Try.func24 rfl Try.ntmps24 rfl (hw) ?_
    repeat' (first
      | (refine Goal.drawAll (id := 3) 14 T.mixed ?_; all_goals ((refine Goal.takeP (listed' := #[true, false, false, false, false, false, false, false, false, false, false, false, false, false]) 0 ⟨rfl, by kernel_rfl, by kernel_rfl, by kernel_rfl, by kernel_rfl⟩ rfl (fun _ _ _ _ h => h) (by intro _; exact Run.move rfl) ?_)); all_goals ((refine Goal.takeP (listed' := #[true, true, false, false, false, false, false, false, false, false, false, false, false, false]) 1 ⟨rfl, by kernel_rfl, by kernel_rfl, by kernel_rfl, by kernel_rfl⟩ rfl (fun _ _ _ _ h => h) (by intro _; exact Run.nilCheckP rfl) ?_)); all_goals ((refine Goal.takeP (listed' := #[true, true, true, false, false, false, false, false, false, false, false, false, false, false]) 2 ⟨rfl, by kernel_rfl, by kernel_rfl, by kernel_rfl, by kernel_rfl⟩ rfl (fun _ _ _ _ h => h) (by intro _; exact Run.fieldAddr T.fld_55_6 rfl) ?_)); all_goals ((refine Goal.takeP (listed' := #[true, true, true, false, true, false, false, false, false, false, false, false, false, false]) 4 ⟨rfl, by kernel_rfl, by kernel_rfl, by kernel_rfl, by kernel_rfl⟩ rfl (fun _ _ _ _ h => h) (by intro _; exact Run.move rfl) ?_)); all_goals ((refine Goal.takeP (listed' := #[true, true, true, false, true, true, false, false, false, false, false, false, false, false]) 5 ⟨rfl, by kernel_rfl, by kernel_rfl, by kernel_rfl, by kernel_rfl⟩ rfl (fun _ _ _ _ h => h) (by intro _; exact Run.nilCheckP rfl) ?_)); all_goals ((refine Goal.takeP (listed' := #[true, true, true, false, true, true, true, false, false, false, false, false, false, false]) 6 ⟨rfl, by kernel_rfl, by kernel_rfl, by kernel_rfl, by kernel_rfl⟩ rfl (fun _ _ _ _ h => h) (by intro _; exact Run.fieldAddr T.fld_55_6 rfl) ?_)); all_goals ((refine Goal.take (listed' := #[true, true, true, true, true, true, true, false, false, false, false, false, false, false]) 3 ⟨rfl, by kernel_rfl, by kernel_rfl, by kernel_rfl, by kernel_rfl, by kernel_rfl⟩ rfl (by (first | exact fun _ h => h | exact fun _ h => h.sub (.cons _ (.refl _)) | exact fun _ h => h.sub (.cons _ (.cons _ (.refl _))) | exact fun _ h => h.sub (.cons _ (.cons _ (.cons _ (.refl _)))) | exact fun _ h => h.drop | exact fun _ h => h.sub (List.sublist_append_left _ _))) (fun _ _ _ _ h => h) (by (apply Run.load; exact rfl; first | exact LoadOK.one T.one_53 0 rfl rfl | exact LoadOK.one T.one_53 1 rfl rfl | exact LoadOK.one T.one_53 2 rfl rfl | exact LoadOK.one T.one_53 3 rfl rfl | exact LoadOK.one T.one_53 4 rfl rfl | exact LoadOK.one T.one_53 5 rfl rfl | exact LoadOK.one T.one_53 6 rfl rfl | exact LoadOK.one T.one_53 7 rfl rfl)) ?_)); all_goals ((refine Goal.take (listed' := #[true, true, true, true, true, true, true, true, false, false, false, false, false, false]) 7 ⟨rfl, by kernel_rfl, by kernel_rfl, by kernel_rfl, by kernel_rfl, by kernel_rfl⟩ rfl (by (first | exact fun _ h => h | exact fun _ h => h.sub (.cons _ (.refl _)) | exact fun _ h => h.sub (.cons _ (.cons _ (.refl _))) | exact fun _ h => h.sub (.cons _ (.cons _ (.cons _ (.refl _)))) | exact fun _ h => h.drop | exact fun _ h => h.sub (List.sublist_append_left _ _))) (fun _ _ _ _ h => h) (by (apply Run.load; exact rfl; first | exact LoadOK.one T.one_53 0 rfl rfl | exact LoadOK.one T.one_53 1 rfl rfl | exact LoadOK.one T.one_53 2 rfl rfl | exact LoadOK.one T.one_53 3 rfl rfl | exact LoadOK.one T.one_53 4 rfl rfl | exact LoadOK.one T.one_53 5 rfl rfl | exact LoadOK.one T.one_53 6 rfl rfl | exact LoadOK.one T.one_53 7 rfl rfl)) ?_)); all_goals ((refine Goal.takeP (listed' := #[true, true, true, true, true, true, true, true, true, false, false, false, false, false]) 8 ⟨rfl, by kernel_rfl, by kernel_rfl, by kernel_rfl, by kernel_rfl⟩ rfl (fun _ _ _ _ h => h) (by intro _; exact Run.len T.slc_53 rfl) ?_)); all_goals ((refine Goal.takeP (listed' := #[true, true, true, true, true, true, true, true, true, true, false, false, false, false]) 9 ⟨rfl, by kernel_rfl, by kernel_rfl, by kernel_rfl, by kernel_rfl⟩ rfl (fun _ _ _ _ h => h) (by intro _; (apply Run.sub; exact rfl; exact rfl; exact IntWalk.i64_in _ (by omega))) ?_)); all_goals ((refine Goal.takeP (listed' := #[true, true, true, true, true, true, true, true, true, true, true, false, false, false]) 10 ⟨rfl, by kernel_rfl, by kernel_rfl, by kernel_rfl, by kernel_rfl⟩ rfl (fun _ _ _ _ h => h) (by intro _; first | exact Run.indexAddr T.slc_53 T.sz_57 rfl rfl rfl (by omega) | exact Run.indexAddr T.slc_53 T.sz_57 rfl rfl (Int.toNat_of_nonneg (by omega)).symm (by omega)) ?_)); all_goals ((refine Goal.takeP (listed' := #[true, true, true, true, true, true, true, true, true, true, true, true, false, false]) 11 ⟨rfl, by kernel_rfl, by kernel_rfl, by kernel_rfl, by kernel_rfl⟩ rfl (fun _ _ _ _ h => h) (by intro _; exact Run.fieldAddr T.fld_57_1 rfl) ?_)); all_goals ((refine Goal.take (listed' := #[true, true, true, true, true, true, true, true, true, true, true, true, true, false]) 12 ⟨rfl, by kernel_rfl, by kernel_rfl, by kernel_rfl, by kernel_rfl, by kernel_rfl⟩ rfl (by (first | exact fun _ h => h | exact fun _ h => h.sub (.cons _ (.refl _)) | exact fun _ h => h.sub (.cons _ (.cons _ (.refl _))) | exact fun _ h => h.sub (.cons _ (.cons _ (.cons _ (.refl _)))) | exact fun _ h => h.drop | exact fun _ h => h.sub (List.sublist_append_left _ _))) (fun _ _ _ _ h => h) (by (apply Run.load; exact rfl; first | exact LoadOK.one T.one_3 0 rfl rfl | exact LoadOK.one T.one_3 1 rfl rfl | exact LoadOK.one T.one_3 2 rfl rfl | exact LoadOK.one T.one_3 3 rfl rfl | exact LoadOK.one T.one_3 4 rfl rfl | exact LoadOK.one T.one_3 5 rfl rfl | exact LoadOK.one T.one_3 6 rfl rfl | exact LoadOK.one T.one_3 7 rfl rfl)) ?_)); all_goals ((refine Goal.takeP (listed' := #[true, true, true, true, true, true, true, true, true, true, true, true, true, true]) 13 ⟨rfl, by kernel_rfl, by kernel_rfl, by kernel_rfl, by kernel_rfl⟩ rfl (fun _ _ _ _ h => h) (by intro _; exact Run.assign rfl) ?_)); all_goals (refine Goal.allUp (by kernel_rfl) ?_))
      | (apply G.move; exact rfl; exact rfl)
      | (apply G.assign; exact rfl; exact rfl)
      | refine Goal.seq (fun _ _ => ?_)
      | refine Goal.next (by assumption) ?_
      | refine Goal.lnil ?_
      | refine Goal.region ?_
      | refine Goal.skip ?_
      | refine Goal.block ?_
      | refine Goal.exit ?_
      | refine Goal.ret ?_
      | refine Goal.then_exit ?_
      | refine Goal.then_ret ?_
      | refine Goal.inBlock_exit ?_
      | refine Goal.inBlock_normal ?_
      | refine Goal.inBlock_ret ?_
      | refine Goal.inBlock_other rfl ?_
      | (apply Goal.condT; exact rfl)
      | (apply Goal.condF; exact rfl)
      | (refine Goal.condD rfl (fun hc => ?_) (fun hc => ?_) <;> first | (exfalso; omega) | contradiction | skip)
      | refine Goal.condB rfl (fun hc => ?_) (fun hc => ?_)
      | (apply G.fieldAddr; exact rfl; exact rfl; (first | exact T.fld_55_6 | exact T.fld_57_1))
      | (apply G.load; exact rfl; exact rfl; first | exact LoadOK.one (by first | exact T.one_3 | exact T.one_53) 0 rfl rfl | exact LoadOK.one (by first | exact T.one_3 | exact T.one_53) 1 rfl rfl | exact LoadOK.one (by first | exact T.one_3 | exact T.one_53) 2 rfl rfl | exact LoadOK.one (by first | exact T.one_3 | exact T.one_53) 3 rfl rfl | exact LoadOK.one (by first | exact T.one_3 | exact T.one_53) 4 rfl rfl | exact LoadOK.one (by first | exact T.one_3 | exact T.one_53) 5 rfl rfl | exact LoadOK.one (by first | exact T.one_3 | exact T.one_53) 6 rfl rfl | exact LoadOK.one (by first | exact T.one_3 | exact T.one_53) 7 rfl rfl)
      | (apply G.eql; exact rfl; exact rfl; exact rfl)
      | (apply G.sub; exact rfl; exact rfl; exact rfl; first | exact IntWalk.i64_in _ (by omega) | exact IntWalk.u8_in _ (by omega) | exact IntWalk.u16_in _ (by omega) | exact IntWalk.u32_in _ (by omega) | exact IntWalk.u64_in _ (by omega))
      | (apply G.len; exact rfl; exact rfl; exact T.slc_53)
      | (apply G.nilCheckP; exact rfl; exact rfl)
      | (refine G.indexAddr rfl T.slc_53 T.sz_57 rfl rfl _ rfl (by omega) ?_)
      | (refine G.indexAddr rfl T.slc_53 T.sz_57 rfl rfl _ (Int.toNat_of_nonneg (by omega)).symm (by omega) ?_))
    refine Goal.done (vs := [_]) (by first | exact .inl rfl | exact .inr rfl) Try.results24 ⟨rfl, trivial⟩ rfl (fun w' H => ⟨(), trivial, by rw [hD0]; rfl, H⟩)
  · by_cases h0 : R.length = 0
    · have hR0 : R = [] := List.length_eq_zero_iff.1 h0
      have hD0 := hrep.nil.1 hR0
      refine Goal.enter (args := [.pointer (some ⟨bc, 0, none⟩)]) Try.func24 rfl Try.ntmps24 rfl (hw) ?_
      repeat' (first
        | (refine Goal.drawAll (id := 3) 14 T.mixed ?_; all_goals ((refine Goal.takeP (listed' := #[true, false, false, false, false, false, false, false, false, false, false, false, false, false]) 0 ⟨rfl, by kernel_rfl, by kernel_rfl, by kernel_rfl, by kernel_rfl⟩ rfl (fun _ _ _ _ h => h) (by intro _; exact Run.move rfl) ?_)); all_goals ((refine Goal.takeP (listed' := #[true, true, false, false, false, false, false, false, false, false, false, false, false, false]) 1 ⟨rfl, by kernel_rfl, by kernel_rfl, by kernel_rfl, by kernel_rfl⟩ rfl (fun _ _ _ _ h => h) (by intro _; exact Run.nilCheckP rfl) ?_)); all_goals ((refine Goal.takeP (listed' := #[true, true, true, false, false, false, false, false, false, false, false, false, false, false]) 2 ⟨rfl, by kernel_rfl, by kernel_rfl, by kernel_rfl, by kernel_rfl⟩ rfl (fun _ _ _ _ h => h) (by intro _; exact Run.fieldAddr T.fld_55_6 rfl) ?_)); all_goals ((refine Goal.takeP (listed' := #[true, true, true, false, true, false, false, false, false, false, false, false, false, false]) 4 ⟨rfl, by kernel_rfl, by kernel_rfl, by kernel_rfl, by kernel_rfl⟩ rfl (fun _ _ _ _ h => h) (by intro _; exact Run.move rfl) ?_)); all_goals ((refine Goal.takeP (listed' := #[true, true, true, false, true, true, false, false, false, false, false, false, false, false]) 5 ⟨rfl, by kernel_rfl, by kernel_rfl, by kernel_rfl, by kernel_rfl⟩ rfl (fun _ _ _ _ h => h) (by intro _; exact Run.nilCheckP rfl) ?_)); all_goals ((refine Goal.takeP (listed' := #[true, true, true, false, true, true, true, false, false, false, false, false, false, false]) 6 ⟨rfl, by kernel_rfl, by kernel_rfl, by kernel_rfl, by kernel_rfl⟩ rfl (fun _ _ _ _ h => h) (by intro _; exact Run.fieldAddr T.fld_55_6 rfl) ?_)); all_goals ((refine Goal.take (listed' := #[true, true, true, true, true, true, true, false, false, false, false, false, false, false]) 3 ⟨rfl, by kernel_rfl, by kernel_rfl, by kernel_rfl, by kernel_rfl, by kernel_rfl⟩ rfl (by (first | exact fun _ h => h | exact fun _ h => h.sub (.cons _ (.refl _)) | exact fun _ h => h.sub (.cons _ (.cons _ (.refl _))) | exact fun _ h => h.sub (.cons _ (.cons _ (.cons _ (.refl _)))) | exact fun _ h => h.drop | exact fun _ h => h.sub (List.sublist_append_left _ _))) (fun _ _ _ _ h => h) (by (apply Run.load; exact rfl; first | exact LoadOK.one T.one_53 0 rfl rfl | exact LoadOK.one T.one_53 1 rfl rfl | exact LoadOK.one T.one_53 2 rfl rfl | exact LoadOK.one T.one_53 3 rfl rfl | exact LoadOK.one T.one_53 4 rfl rfl | exact LoadOK.one T.one_53 5 rfl rfl | exact LoadOK.one T.one_53 6 rfl rfl | exact LoadOK.one T.one_53 7 rfl rfl)) ?_)); all_goals ((refine Goal.take (listed' := #[true, true, true, true, true, true, true, true, false, false, false, false, false, false]) 7 ⟨rfl, by kernel_rfl, by kernel_rfl, by kernel_rfl, by kernel_rfl, by kernel_rfl⟩ rfl (by (first | exact fun _ h => h | exact fun _ h => h.sub (.cons _ (.refl _)) | exact fun _ h => h.sub (.cons _ (.cons _ (.refl _))) | exact fun _ h => h.sub (.cons _ (.cons _ (.cons _ (.refl _)))) | exact fun _ h => h.drop | exact fun _ h => h.sub (List.sublist_append_left _ _))) (fun _ _ _ _ h => h) (by (apply Run.load; exact rfl; first | exact LoadOK.one T.one_53 0 rfl rfl | exact LoadOK.one T.one_53 1 rfl rfl | exact LoadOK.one T.one_53 2 rfl rfl | exact LoadOK.one T.one_53 3 rfl rfl | exact LoadOK.one T.one_53 4 rfl rfl | exact LoadOK.one T.one_53 5 rfl rfl | exact LoadOK.one T.one_53 6 rfl rfl | exact LoadOK.one T.one_53 7 rfl rfl)) ?_)); all_goals ((refine Goal.takeP (listed' := #[true, true, true, true, true, true, true, true, true, false, false, false, false, false]) 8 ⟨rfl, by kernel_rfl, by kernel_rfl, by kernel_rfl, by kernel_rfl⟩ rfl (fun _ _ _ _ h => h) (by intro _; exact Run.len T.slc_53 rfl) ?_)); all_goals ((refine Goal.takeP (listed' := #[true, true, true, true, true, true, true, true, true, true, false, false, false, false]) 9 ⟨rfl, by kernel_rfl, by kernel_rfl, by kernel_rfl, by kernel_rfl⟩ rfl (fun _ _ _ _ h => h) (by intro _; (apply Run.sub; exact rfl; exact rfl; exact IntWalk.i64_in _ (by omega))) ?_)); all_goals ((refine Goal.takeP (listed' := #[true, true, true, true, true, true, true, true, true, true, true, false, false, false]) 10 ⟨rfl, by kernel_rfl, by kernel_rfl, by kernel_rfl, by kernel_rfl⟩ rfl (fun _ _ _ _ h => h) (by intro _; first | exact Run.indexAddr T.slc_53 T.sz_57 rfl rfl rfl (by omega) | exact Run.indexAddr T.slc_53 T.sz_57 rfl rfl (Int.toNat_of_nonneg (by omega)).symm (by omega)) ?_)); all_goals ((refine Goal.takeP (listed' := #[true, true, true, true, true, true, true, true, true, true, true, true, false, false]) 11 ⟨rfl, by kernel_rfl, by kernel_rfl, by kernel_rfl, by kernel_rfl⟩ rfl (fun _ _ _ _ h => h) (by intro _; exact Run.fieldAddr T.fld_57_1 rfl) ?_)); all_goals ((refine Goal.take (listed' := #[true, true, true, true, true, true, true, true, true, true, true, true, true, false]) 12 ⟨rfl, by kernel_rfl, by kernel_rfl, by kernel_rfl, by kernel_rfl, by kernel_rfl⟩ rfl (by (first | exact fun _ h => h | exact fun _ h => h.sub (.cons _ (.refl _)) | exact fun _ h => h.sub (.cons _ (.cons _ (.refl _))) | exact fun _ h => h.sub (.cons _ (.cons _ (.cons _ (.refl _)))) | exact fun _ h => h.drop | exact fun _ h => h.sub (List.sublist_append_left _ _))) (fun _ _ _ _ h => h) (by (apply Run.load; exact rfl; first | exact LoadOK.one T.one_3 0 rfl rfl | exact LoadOK.one T.one_3 1 rfl rfl | exact LoadOK.one T.one_3 2 rfl rfl | exact LoadOK.one T.one_3 3 rfl rfl | exact LoadOK.one T.one_3 4 rfl rfl | exact LoadOK.one T.one_3 5 rfl rfl | exact LoadOK.one T.one_3 6 rfl rfl | exact LoadOK.one T.one_3 7 rfl rfl)) ?_)); all_goals ((refine Goal.takeP (listed' := #[true, true, true, true, true, true, true, true, true, true, true, true, true, true]) 13 ⟨rfl, by kernel_rfl, by kernel_rfl, by kernel_rfl, by kernel_rfl⟩ rfl (fun _ _ _ _ h => h) (by intro _; exact Run.assign rfl) ?_)); all_goals (refine Goal.allUp (by kernel_rfl) ?_))
        | (apply G.move; exact rfl; exact rfl)
        | (apply G.assign; exact rfl; exact rfl)
        | refine Goal.seq (fun _ _ => ?_)
        | refine Goal.next (by assumption) ?_
        | refine Goal.lnil ?_
        | refine Goal.region ?_
        | refine Goal.skip ?_
        | refine Goal.block ?_
        | refine Goal.exit ?_
        | refine Goal.ret ?_
        | refine Goal.then_exit ?_
        | refine Goal.then_ret ?_
        | refine Goal.inBlock_exit ?_
        | refine Goal.inBlock_normal ?_
        | refine Goal.inBlock_ret ?_
        | refine Goal.inBlock_other rfl ?_
        | (apply Goal.condT; exact rfl)
        | (apply Goal.condF; exact rfl)
        | (refine Goal.condD rfl (fun hc => ?_) (fun hc => ?_) <;> first | (exfalso; omega) | contradiction | skip)
        | refine Goal.condB rfl (fun hc => ?_) (fun hc => ?_)
        | (apply G.fieldAddr; exact rfl; exact rfl; (first | exact T.fld_55_6 | exact T.fld_57_1))
        | (apply G.load; exact rfl; exact rfl; first | exact LoadOK.one (by first | exact T.one_3 | exact T.one_53) 0 rfl rfl | exact LoadOK.one (by first | exact T.one_3 | exact T.one_53) 1 rfl rfl | exact LoadOK.one (by first | exact T.one_3 | exact T.one_53) 2 rfl rfl | exact LoadOK.one (by first | exact T.one_3 | exact T.one_53) 3 rfl rfl | exact LoadOK.one (by first | exact T.one_3 | exact T.one_53) 4 rfl rfl | exact LoadOK.one (by first | exact T.one_3 | exact T.one_53) 5 rfl rfl | exact LoadOK.one (by first | exact T.one_3 | exact T.one_53) 6 rfl rfl | exact LoadOK.one (by first | exact T.one_3 | exact T.one_53) 7 rfl rfl)
        | (apply G.eql; exact rfl; exact rfl; exact rfl)
        | (apply G.sub; exact rfl; exact rfl; exact rfl; first | exact IntWalk.i64_in _ (by omega) | exact IntWalk.u8_in _ (by omega) | exact IntWalk.u16_in _ (by omega) | exact IntWalk.u32_in _ (by omega) | exact IntWalk.u64_in _ (by omega))
        | (apply G.len; exact rfl; exact rfl; exact T.slc_53)
        | (apply G.nilCheckP; exact rfl; exact rfl)
        | (refine G.indexAddr rfl T.slc_53 T.sz_57 rfl rfl _ rfl (by omega) ?_)
        | (refine G.indexAddr rfl T.slc_53 T.sz_57 rfl rfl _ (Int.toNat_of_nonneg (by omega)).symm (by omega) ?_))
      refine Goal.done (vs := [_]) (by first | exact .inl rfl | exact .inr rfl) Try.results24 ⟨rfl, trivial⟩ rfl (fun w' H => ⟨(), trivial, by rw [hD0]; rfl, H⟩)
    · have ht := (hrep.top (fun e => h0 (by rw [e]; rfl))).2
      refine Goal.enter (args := [.pointer (some ⟨bc, 0, none⟩)]) Try.func24 rfl Try.ntmps24 rfl (hw) ?_
      repeat' (first
        | (refine Goal.drawAll (id := 3) 14 T.mixed ?_; all_goals ((refine Goal.takeP (listed' := #[true, false, false, false, false, false, false, false, false, false, false, false, false, false]) 0 ⟨rfl, by kernel_rfl, by kernel_rfl, by kernel_rfl, by kernel_rfl⟩ rfl (fun _ _ _ _ h => h) (by intro _; exact Run.move rfl) ?_)); all_goals ((refine Goal.takeP (listed' := #[true, true, false, false, false, false, false, false, false, false, false, false, false, false]) 1 ⟨rfl, by kernel_rfl, by kernel_rfl, by kernel_rfl, by kernel_rfl⟩ rfl (fun _ _ _ _ h => h) (by intro _; exact Run.nilCheckP rfl) ?_)); all_goals ((refine Goal.takeP (listed' := #[true, true, true, false, false, false, false, false, false, false, false, false, false, false]) 2 ⟨rfl, by kernel_rfl, by kernel_rfl, by kernel_rfl, by kernel_rfl⟩ rfl (fun _ _ _ _ h => h) (by intro _; exact Run.fieldAddr T.fld_55_6 rfl) ?_)); all_goals ((refine Goal.takeP (listed' := #[true, true, true, false, true, false, false, false, false, false, false, false, false, false]) 4 ⟨rfl, by kernel_rfl, by kernel_rfl, by kernel_rfl, by kernel_rfl⟩ rfl (fun _ _ _ _ h => h) (by intro _; exact Run.move rfl) ?_)); all_goals ((refine Goal.takeP (listed' := #[true, true, true, false, true, true, false, false, false, false, false, false, false, false]) 5 ⟨rfl, by kernel_rfl, by kernel_rfl, by kernel_rfl, by kernel_rfl⟩ rfl (fun _ _ _ _ h => h) (by intro _; exact Run.nilCheckP rfl) ?_)); all_goals ((refine Goal.takeP (listed' := #[true, true, true, false, true, true, true, false, false, false, false, false, false, false]) 6 ⟨rfl, by kernel_rfl, by kernel_rfl, by kernel_rfl, by kernel_rfl⟩ rfl (fun _ _ _ _ h => h) (by intro _; exact Run.fieldAddr T.fld_55_6 rfl) ?_)); all_goals ((refine Goal.take (listed' := #[true, true, true, true, true, true, true, false, false, false, false, false, false, false]) 3 ⟨rfl, by kernel_rfl, by kernel_rfl, by kernel_rfl, by kernel_rfl, by kernel_rfl⟩ rfl (by (first | exact fun _ h => h | exact fun _ h => h.sub (.cons _ (.refl _)) | exact fun _ h => h.sub (.cons _ (.cons _ (.refl _))) | exact fun _ h => h.sub (.cons _ (.cons _ (.cons _ (.refl _)))) | exact fun _ h => h.drop | exact fun _ h => h.sub (List.sublist_append_left _ _))) (fun _ _ _ _ h => h) (by (apply Run.load; exact rfl; first | exact LoadOK.elFM T.one_3 1 hf (l := R) (rest := rest) (by repeat (first | exact List.mem_append_right _ (.head _) | apply List.mem_cons_of_mem)) (by omega) rfl | exact LoadOK.one T.one_53 0 rfl rfl | exact LoadOK.one T.one_53 1 rfl rfl | exact LoadOK.one T.one_53 2 rfl rfl | exact LoadOK.one T.one_53 3 rfl rfl | exact LoadOK.one T.one_53 4 rfl rfl | exact LoadOK.one T.one_53 5 rfl rfl | exact LoadOK.one T.one_53 6 rfl rfl | exact LoadOK.one T.one_53 7 rfl rfl)) ?_)); all_goals ((refine Goal.take (listed' := #[true, true, true, true, true, true, true, true, false, false, false, false, false, false]) 7 ⟨rfl, by kernel_rfl, by kernel_rfl, by kernel_rfl, by kernel_rfl, by kernel_rfl⟩ rfl (by (first | exact fun _ h => h | exact fun _ h => h.sub (.cons _ (.refl _)) | exact fun _ h => h.sub (.cons _ (.cons _ (.refl _))) | exact fun _ h => h.sub (.cons _ (.cons _ (.cons _ (.refl _)))) | exact fun _ h => h.drop | exact fun _ h => h.sub (List.sublist_append_left _ _))) (fun _ _ _ _ h => h) (by (apply Run.load; exact rfl; first | exact LoadOK.elFM T.one_3 1 hf (l := R) (rest := rest) (by repeat (first | exact List.mem_append_right _ (.head _) | apply List.mem_cons_of_mem)) (by omega) rfl | exact LoadOK.one T.one_53 0 rfl rfl | exact LoadOK.one T.one_53 1 rfl rfl | exact LoadOK.one T.one_53 2 rfl rfl | exact LoadOK.one T.one_53 3 rfl rfl | exact LoadOK.one T.one_53 4 rfl rfl | exact LoadOK.one T.one_53 5 rfl rfl | exact LoadOK.one T.one_53 6 rfl rfl | exact LoadOK.one T.one_53 7 rfl rfl)) ?_)); all_goals ((refine Goal.takeP (listed' := #[true, true, true, true, true, true, true, true, true, false, false, false, false, false]) 8 ⟨rfl, by kernel_rfl, by kernel_rfl, by kernel_rfl, by kernel_rfl⟩ rfl (fun _ _ _ _ h => h) (by intro _; exact Run.len T.slc_53 rfl) ?_)); all_goals ((refine Goal.takeP (listed' := #[true, true, true, true, true, true, true, true, true, true, false, false, false, false]) 9 ⟨rfl, by kernel_rfl, by kernel_rfl, by kernel_rfl, by kernel_rfl⟩ rfl (fun _ _ _ _ h => h) (by intro _; (apply Run.sub; exact rfl; exact rfl; exact IntWalk.i64_in _ (by omega))) ?_)); all_goals ((refine Goal.takeP (listed' := #[true, true, true, true, true, true, true, true, true, true, true, false, false, false]) 10 ⟨rfl, by kernel_rfl, by kernel_rfl, by kernel_rfl, by kernel_rfl⟩ rfl (fun _ _ _ _ h => h) (by intro _; first | exact Run.indexAddr T.slc_53 T.sz_57 rfl rfl rfl (by omega) | exact Run.indexAddr T.slc_53 T.sz_57 rfl rfl (Int.toNat_of_nonneg (by omega)).symm (by omega)) ?_)); all_goals ((refine Goal.takeP (listed' := #[true, true, true, true, true, true, true, true, true, true, true, true, false, false]) 11 ⟨rfl, by kernel_rfl, by kernel_rfl, by kernel_rfl, by kernel_rfl⟩ rfl (fun _ _ _ _ h => h) (by intro _; exact Run.fieldAddr T.fld_57_1 rfl) ?_)); all_goals ((refine Goal.take (listed' := #[true, true, true, true, true, true, true, true, true, true, true, true, true, false]) 12 ⟨rfl, by kernel_rfl, by kernel_rfl, by kernel_rfl, by kernel_rfl, by kernel_rfl⟩ rfl (by (first | exact fun _ h => h | exact fun _ h => h.sub (.cons _ (.refl _)) | exact fun _ h => h.sub (.cons _ (.cons _ (.refl _))) | exact fun _ h => h.sub (.cons _ (.cons _ (.cons _ (.refl _)))) | exact fun _ h => h.drop | exact fun _ h => h.sub (List.sublist_append_left _ _))) (fun _ _ _ _ h => h) (by (apply Run.load; exact rfl; first | exact LoadOK.elFM T.one_3 1 hf (l := R) (rest := rest) (by repeat (first | exact List.mem_append_right _ (.head _) | apply List.mem_cons_of_mem)) (by omega) rfl | exact LoadOK.one T.one_3 0 rfl rfl | exact LoadOK.one T.one_3 1 rfl rfl | exact LoadOK.one T.one_3 2 rfl rfl | exact LoadOK.one T.one_3 3 rfl rfl | exact LoadOK.one T.one_3 4 rfl rfl | exact LoadOK.one T.one_3 5 rfl rfl | exact LoadOK.one T.one_3 6 rfl rfl | exact LoadOK.one T.one_3 7 rfl rfl)) ?_)); all_goals ((refine Goal.takeP (listed' := #[true, true, true, true, true, true, true, true, true, true, true, true, true, true]) 13 ⟨rfl, by kernel_rfl, by kernel_rfl, by kernel_rfl, by kernel_rfl⟩ rfl (fun _ _ _ _ h => h) (by intro _; exact Run.assign rfl) ?_)); all_goals (refine Goal.allUp (by kernel_rfl) ?_))
        | (apply G.move; exact rfl; exact rfl)
        | (apply G.assign; exact rfl; exact rfl)
        | refine Goal.seq (fun _ _ => ?_)
        | refine Goal.next (by assumption) ?_
        | refine Goal.lnil ?_
        | refine Goal.region ?_
        | refine Goal.skip ?_
        | refine Goal.block ?_
        | refine Goal.exit ?_
        | refine Goal.ret ?_
        | refine Goal.then_exit ?_
        | refine Goal.then_ret ?_
        | refine Goal.inBlock_exit ?_
        | refine Goal.inBlock_normal ?_
        | refine Goal.inBlock_ret ?_
        | refine Goal.inBlock_other rfl ?_
        | (apply Goal.condT; exact rfl)
        | (apply Goal.condF; exact rfl)
        | (refine Goal.condD rfl (fun hc => ?_) (fun hc => ?_) <;> first | (exfalso; omega) | contradiction | skip)
        | refine Goal.condB rfl (fun hc => ?_) (fun hc => ?_)
        | (apply G.fieldAddr; exact rfl; exact rfl; (first | exact T.fld_55_6 | exact T.fld_57_1))
        | (apply G.load; exact rfl; exact rfl; first | exact LoadOK.elFM T.one_3 1 hf (l := R) (rest := rest) (by repeat (first | exact List.mem_append_right _ (.head _) | apply List.mem_cons_of_mem)) (by omega) rfl | exact LoadOK.one (by first | exact T.one_3 | exact T.one_53) 0 rfl rfl | exact LoadOK.one (by first | exact T.one_3 | exact T.one_53) 1 rfl rfl | exact LoadOK.one (by first | exact T.one_3 | exact T.one_53) 2 rfl rfl | exact LoadOK.one (by first | exact T.one_3 | exact T.one_53) 3 rfl rfl | exact LoadOK.one (by first | exact T.one_3 | exact T.one_53) 4 rfl rfl | exact LoadOK.one (by first | exact T.one_3 | exact T.one_53) 5 rfl rfl | exact LoadOK.one (by first | exact T.one_3 | exact T.one_53) 6 rfl rfl | exact LoadOK.one (by first | exact T.one_3 | exact T.one_53) 7 rfl rfl)
        | (apply G.eql; exact rfl; exact rfl; exact rfl)
        | (apply G.sub; exact rfl; exact rfl; exact rfl; first | exact IntWalk.i64_in _ (by omega) | exact IntWalk.u8_in _ (by omega) | exact IntWalk.u16_in _ (by omega) | exact IntWalk.u32_in _ (by omega) | exact IntWalk.u64_in _ (by omega))
        | (apply G.len; exact rfl; exact rfl; exact T.slc_53)
        | (apply G.nilCheckP; exact rfl; exact rfl)
        | (refine G.indexAddr rfl T.slc_53 T.sz_57 rfl rfl _ rfl (by omega) ?_)
        | (refine G.indexAddr rfl T.slc_53 T.sz_57 rfl rfl _ (Int.toNat_of_nonneg (by omega)).symm (by omega) ?_))
      refine Goal.done (vs := [_]) (by first | exact .inl rfl | exact .inr rfl) Try.results24 ⟨rfl, trivial⟩ rfl (fun w' H => ⟨(), trivial, by rw [ht], H⟩)
theorem pred_ok {R : List (Int × Int)} {c : Array Value} {rest : List Value} {b2 b3 bc br cap : Nat} {tick k : Int} {AS : List Blk} (hc6 : c.toList[6]? = some (.slice (some ⟨br, 0, none⟩) R.length cap)) (hk : 0 ≤ k ∧ k < R.length) :
    MCalls Try.prog 33 [.int .i64 k, .pointer (some ⟨b2, 0, none⟩), .pointer (some ⟨b3, 0, none⟩)] ((b3, .cells #[.int .i64 tick] 3) :: (b2, .cells #[.pointer (some ⟨bc, 0, none⟩)] 29) :: (bc, .cells c 55) :: (AS ++ [(br, .cells (Els pr R ++ rest).toArray 57)]))
      (fun _ : Unit => True) (fun _ => .bool (decide (tick < (el R k).1))) (fun _ => (b3, .cells #[.int .i64 tick] 3) :: (b2, .cells #[.pointer (some ⟨bc, 0, none⟩)] 29) :: (bc, .cells c 55) :: (AS ++ [(br, .cells (Els pr R ++ rest).toArray 57)])) := .mk fun w hw => by
  have hf : ∀ a, (pr a).length = 2 := pr_len
  refine Goal.enter (args := [.int .i64 k, .pointer (some ⟨b2, 0, none⟩), .pointer (some ⟨b3, 0, none⟩)]) Try.func33 rfl Try.ntmps33 rfl (hw) ?_
  repeat' (first
    | (refine Goal.drawAll (id := 1) 11 T.mixed ?_; all_goals ((refine Goal.takeP (listed' := #[false, false, false, false, true, false, false, false, false, false, false]) 4 ⟨rfl, by kernel_rfl, by kernel_rfl, by kernel_rfl, by kernel_rfl⟩ rfl (fun _ _ _ _ h => h) (by intro _; exact Run.move rfl) ?_)); all_goals ((refine Goal.take (listed' := #[true, false, false, false, true, false, false, false, false, false, false]) 0 ⟨rfl, by kernel_rfl, by kernel_rfl, by kernel_rfl, by kernel_rfl, by kernel_rfl⟩ rfl (by (first | exact fun _ h => h | exact fun _ h => h.sub (.cons _ (.refl _)) | exact fun _ h => h.sub (.cons _ (.cons _ (.refl _))) | exact fun _ h => h.sub (.cons _ (.cons _ (.cons _ (.refl _)))) | exact fun _ h => h.drop | exact fun _ h => h.sub (List.sublist_append_left _ _))) (fun _ _ _ _ h => h) (by (apply Run.load; exact rfl; first | exact LoadOK.elFM T.one_3 0 hf (l := R) (rest := rest) (by repeat (first | exact List.mem_append_right _ (.head _) | apply List.mem_cons_of_mem)) (by omega) rfl | exact LoadOK.one T.one_53 2 rfl hc6 | exact LoadOK.one T.one_29 0 rfl rfl | exact LoadOK.one T.one_29 1 rfl rfl | exact LoadOK.one T.one_29 2 rfl rfl | exact LoadOK.one T.one_29 3 rfl rfl | exact LoadOK.one T.one_29 4 rfl rfl | exact LoadOK.one T.one_29 5 rfl rfl | exact LoadOK.one T.one_29 6 rfl rfl | exact LoadOK.one T.one_29 7 rfl rfl)) ?_)); all_goals ((refine Goal.takeP (listed' := #[true, true, false, false, true, false, false, false, false, false, false]) 1 ⟨rfl, by kernel_rfl, by kernel_rfl, by kernel_rfl, by kernel_rfl⟩ rfl (fun _ _ _ _ h => h) (by intro _; exact Run.nilCheckP rfl) ?_)); all_goals ((refine Goal.takeP (listed' := #[true, true, true, false, true, false, false, false, false, false, false]) 2 ⟨rfl, by kernel_rfl, by kernel_rfl, by kernel_rfl, by kernel_rfl⟩ rfl (fun _ _ _ _ h => h) (by intro _; exact Run.fieldAddr T.fld_55_6 rfl) ?_)); all_goals ((refine Goal.take (listed' := #[true, true, true, true, true, false, false, false, false, false, false]) 3 ⟨rfl, by kernel_rfl, by kernel_rfl, by kernel_rfl, by kernel_rfl, by kernel_rfl⟩ rfl (by (first | exact fun _ h => h | exact fun _ h => h.sub (.cons _ (.refl _)) | exact fun _ h => h.sub (.cons _ (.cons _ (.refl _))) | exact fun _ h => h.sub (.cons _ (.cons _ (.cons _ (.refl _)))) | exact fun _ h => h.drop | exact fun _ h => h.sub (List.sublist_append_left _ _))) (fun _ _ _ _ h => h) (by (apply Run.load; exact rfl; first | exact LoadOK.elFM T.one_3 0 hf (l := R) (rest := rest) (by repeat (first | exact List.mem_append_right _ (.head _) | apply List.mem_cons_of_mem)) (by omega) rfl | exact LoadOK.one T.one_53 2 rfl hc6 | exact LoadOK.one T.one_53 0 rfl rfl | exact LoadOK.one T.one_53 1 rfl rfl | exact LoadOK.one T.one_53 2 rfl rfl | exact LoadOK.one T.one_53 3 rfl rfl | exact LoadOK.one T.one_53 4 rfl rfl | exact LoadOK.one T.one_53 5 rfl rfl | exact LoadOK.one T.one_53 6 rfl rfl | exact LoadOK.one T.one_53 7 rfl rfl)) ?_)); all_goals ((refine Goal.takeP (listed' := #[true, true, true, true, true, true, false, false, false, false, false]) 5 ⟨rfl, by kernel_rfl, by kernel_rfl, by kernel_rfl, by kernel_rfl⟩ rfl (fun _ _ _ _ h => h) (by intro _; first | exact Run.indexAddr T.slc_53 T.sz_57 rfl rfl rfl (by omega) | exact Run.indexAddr T.slc_53 T.sz_57 rfl rfl (Int.toNat_of_nonneg (by omega)).symm (by omega)) ?_)); all_goals ((refine Goal.takeP (listed' := #[true, true, true, true, true, true, true, false, false, false, false]) 6 ⟨rfl, by kernel_rfl, by kernel_rfl, by kernel_rfl, by kernel_rfl⟩ rfl (fun _ _ _ _ h => h) (by intro _; exact Run.fieldAddr T.fld_57_0 rfl) ?_)); all_goals ((refine Goal.take (listed' := #[true, true, true, true, true, true, true, true, false, false, false]) 7 ⟨rfl, by kernel_rfl, by kernel_rfl, by kernel_rfl, by kernel_rfl, by kernel_rfl⟩ rfl (by (first | exact fun _ h => h | exact fun _ h => h.sub (.cons _ (.refl _)) | exact fun _ h => h.sub (.cons _ (.cons _ (.refl _))) | exact fun _ h => h.sub (.cons _ (.cons _ (.cons _ (.refl _)))) | exact fun _ h => h.drop | exact fun _ h => h.sub (List.sublist_append_left _ _))) (fun _ _ _ _ h => h) (by (apply Run.load; exact rfl; first | exact LoadOK.elFM T.one_3 0 hf (l := R) (rest := rest) (by repeat (first | exact List.mem_append_right _ (.head _) | apply List.mem_cons_of_mem)) (by omega) rfl | exact LoadOK.one T.one_53 2 rfl hc6 | exact LoadOK.one T.one_3 0 rfl rfl | exact LoadOK.one T.one_3 1 rfl rfl | exact LoadOK.one T.one_3 2 rfl rfl | exact LoadOK.one T.one_3 3 rfl rfl | exact LoadOK.one T.one_3 4 rfl rfl | exact LoadOK.one T.one_3 5 rfl rfl | exact LoadOK.one T.one_3 6 rfl rfl | exact LoadOK.one T.one_3 7 rfl rfl)) ?_)); all_goals ((refine Goal.take (listed' := #[true, true, true, true, true, true, true, true, true, false, false]) 8 ⟨rfl, by kernel_rfl, by kernel_rfl, by kernel_rfl, by kernel_rfl, by kernel_rfl⟩ rfl (by (first | exact fun _ h => h | exact fun _ h => h.sub (.cons _ (.refl _)) | exact fun _ h => h.sub (.cons _ (.cons _ (.refl _))) | exact fun _ h => h.sub (.cons _ (.cons _ (.cons _ (.refl _)))) | exact fun _ h => h.drop | exact fun _ h => h.sub (List.sublist_append_left _ _))) (fun _ _ _ _ h => h) (by (apply Run.load; exact rfl; first | exact LoadOK.elFM T.one_3 0 hf (l := R) (rest := rest) (by repeat (first | exact List.mem_append_right _ (.head _) | apply List.mem_cons_of_mem)) (by omega) rfl | exact LoadOK.one T.one_53 2 rfl hc6 | exact LoadOK.one T.one_3 0 rfl rfl | exact LoadOK.one T.one_3 1 rfl rfl | exact LoadOK.one T.one_3 2 rfl rfl | exact LoadOK.one T.one_3 3 rfl rfl | exact LoadOK.one T.one_3 4 rfl rfl | exact LoadOK.one T.one_3 5 rfl rfl | exact LoadOK.one T.one_3 6 rfl rfl | exact LoadOK.one T.one_3 7 rfl rfl)) ?_)); all_goals ((refine Goal.takeP (listed' := #[true, true, true, true, true, true, true, true, true, true, false]) 9 ⟨rfl, by kernel_rfl, by kernel_rfl, by kernel_rfl, by kernel_rfl⟩ rfl (fun _ _ _ _ h => h) (by intro _; first | exact Run.gtr rfl rfl) ?_)); all_goals ((refine Goal.takeP (listed' := #[true, true, true, true, true, true, true, true, true, true, true]) 10 ⟨rfl, by kernel_rfl, by kernel_rfl, by kernel_rfl, by kernel_rfl⟩ rfl (fun _ _ _ _ h => h) (by intro _; exact Run.assign rfl) ?_)); all_goals (refine Goal.allUp (by kernel_rfl) ?_))
    | (apply G.move; exact rfl; exact rfl)
    | (apply G.assign; exact rfl; exact rfl)
    | refine Goal.seq (fun _ _ => ?_)
    | refine Goal.next (by assumption) ?_
    | refine Goal.lnil ?_
    | refine Goal.region ?_
    | refine Goal.skip ?_
    | refine Goal.block ?_
    | refine Goal.exit ?_
    | refine Goal.ret ?_
    | refine Goal.then_exit ?_
    | refine Goal.then_ret ?_
    | refine Goal.inBlock_exit ?_
    | refine Goal.inBlock_normal ?_
    | refine Goal.inBlock_ret ?_
    | refine Goal.inBlock_other rfl ?_
    | (apply Goal.condT; exact rfl)
    | (apply Goal.condF; exact rfl)
    | (refine Goal.condD rfl (fun hc => ?_) (fun hc => ?_) <;> first | (exfalso; omega) | contradiction | skip)
    | refine Goal.condB rfl (fun hc => ?_) (fun hc => ?_)
    | (apply G.fieldAddr; exact rfl; exact rfl; (first | exact T.fld_55_6 | exact T.fld_57_0))
    | (apply G.load; exact rfl; exact rfl; first | exact LoadOK.elFM T.one_3 0 hf (l := R) (rest := rest) (by repeat (first | exact List.mem_append_right _ (.head _) | apply List.mem_cons_of_mem)) (by omega) rfl | exact LoadOK.one T.one_53 2 rfl hc6 | exact LoadOK.one (by first | exact T.one_3 | exact T.one_29 | exact T.one_53) 0 rfl rfl | exact LoadOK.one (by first | exact T.one_3 | exact T.one_29 | exact T.one_53) 1 rfl rfl | exact LoadOK.one (by first | exact T.one_3 | exact T.one_29 | exact T.one_53) 2 rfl rfl | exact LoadOK.one (by first | exact T.one_3 | exact T.one_29 | exact T.one_53) 3 rfl rfl | exact LoadOK.one (by first | exact T.one_3 | exact T.one_29 | exact T.one_53) 4 rfl rfl | exact LoadOK.one (by first | exact T.one_3 | exact T.one_29 | exact T.one_53) 5 rfl rfl | exact LoadOK.one (by first | exact T.one_3 | exact T.one_29 | exact T.one_53) 6 rfl rfl | exact LoadOK.one (by first | exact T.one_3 | exact T.one_29 | exact T.one_53) 7 rfl rfl)
    | (apply G.gtr; exact rfl; exact rfl; exact rfl)
    | (apply G.nilCheckP; exact rfl; exact rfl)
    | (refine G.indexAddr rfl T.slc_53 T.sz_57 rfl rfl _ rfl (by omega) ?_)
    | (refine G.indexAddr rfl T.slc_53 T.sz_57 rfl rfl _ (Int.toNat_of_nonneg (by omega)).symm (by omega) ?_))
  refine Goal.done (vs := [_]) (by first | exact .inl rfl | exact .inr rfl) Try.results33 ⟨rfl, trivial⟩ rfl (fun w' H => ⟨(), trivial, rfl, H⟩)
theorem pred_mono {R : List (Int × Int)} {D : List Int} (h : Rep R D) (tick : Int) : ∀ i j : Int, 0 ≤ i → i ≤ j → j < R.length → (fun k => decide (tick < (el R k).1)) i = true → (fun k => decide (tick < (el R k).1)) j = true := fun i j i0 ij jn hi => by
  simp only [decide_eq_true_eq] at hi ⊢
  by_cases e : i = j
  · rw [← e]; exact hi
  · have := h.inc i j i0 (by omega) jn
    omega
set_option maxHeartbeats 1000000 in
theorem until_ok (hA : ChM bc s A) (hl : s.D.length ≤ 1099511627776) (tick : Int) :
    MCalls Try.prog 29 [.pointer (some ⟨bc, 0, none⟩), .int .i64 tick] A (fun _ : Unit => True) (fun _ => .int .i64 (cle s.D tick)) (fun _ => A) := .mk fun w hw => by
  have hf : ∀ a, (pr a).length = 2 := pr_len
  obtain ⟨R, vS, vR, AS, AR, rfl, hS, hR, hrep⟩ := hA
  have hrl := hrep.len
  by_cases h0 : R.length = 0
  · obtain ⟨ad, cap, rfl⟩ := hR.shape
    have hlow := hrep.low tick fun i i0 i1 => by omega
    refine Goal.enter (args := [.pointer (some ⟨bc, 0, none⟩), .int .i64 tick]) Try.func29 rfl Try.ntmps29 rfl (hw) ?_
    repeat' (first
      | (refine Goal.loud (o := ⟨some 12, _, _, _, _, _⟩) rfl ?_; refine Loud.callE ([]) (search_ok (p := fun _ => false) (R.length : Int) (by omega) T.bod_33 (fun i i0 i1 => by omega) (fun i j i0 ij jn h => by cases h)) rfl rfl rfl rfl T.bod_32 (fun _ h => h) ?_; rintro r ⟨hr, _, _⟩; obtain rfl : r = 0 := (by omega))
      | (refine Goal.loud (o := ⟨some 2, _, _, _, _, _⟩) rfl ?_; first | refine Loud.boxA rfl rfl (fun b2 => ?_) | refine Loud.box1 rfl rfl rfl (fun b2 => ?_))
      | (refine Goal.loud (o := ⟨some 3, _, _, _, _, _⟩) rfl ?_; first | refine Loud.boxA rfl rfl (fun b3 => ?_) | refine Loud.box1 rfl rfl rfl (fun b3 => ?_))
      | (apply G.move; exact rfl; exact rfl)
      | (apply G.assign; exact rfl; exact rfl)
      | refine Goal.seq (fun _ _ => ?_)
      | refine Goal.next (by assumption) ?_
      | refine Goal.lnil ?_
      | refine Goal.region ?_
      | refine Goal.skip ?_
      | refine Goal.block ?_
      | refine Goal.exit ?_
      | refine Goal.ret ?_
      | refine Goal.then_exit ?_
      | refine Goal.then_ret ?_
      | refine Goal.inBlock_exit ?_
      | refine Goal.inBlock_normal ?_
      | refine Goal.inBlock_ret ?_
      | refine Goal.inBlock_other rfl ?_
      | (apply Goal.condT; exact rfl)
      | (apply Goal.condF; exact rfl)
      | (refine Goal.condD rfl (fun hc => ?_) (fun hc => ?_) <;> first | (exfalso; omega) | contradiction | skip)
      | refine Goal.condB rfl (fun hc => ?_) (fun hc => ?_)
      | (apply G.fieldAddr; exact rfl; exact rfl; (first | exact T.fld_55_6 | exact T.fld_57_1))
      | (apply G.load; exact rfl; exact rfl; first | exact LoadOK.one (by first | exact T.one_3 | exact T.one_29 | exact T.one_53) 0 rfl rfl | exact LoadOK.one (by first | exact T.one_3 | exact T.one_29 | exact T.one_53) 1 rfl rfl | exact LoadOK.one (by first | exact T.one_3 | exact T.one_29 | exact T.one_53) 2 rfl rfl | exact LoadOK.one (by first | exact T.one_3 | exact T.one_29 | exact T.one_53) 3 rfl rfl | exact LoadOK.one (by first | exact T.one_3 | exact T.one_29 | exact T.one_53) 4 rfl rfl | exact LoadOK.one (by first | exact T.one_3 | exact T.one_29 | exact T.one_53) 5 rfl rfl | exact LoadOK.one (by first | exact T.one_3 | exact T.one_29 | exact T.one_53) 6 rfl rfl | exact LoadOK.one (by first | exact T.one_3 | exact T.one_29 | exact T.one_53) 7 rfl rfl)
      | (apply G.eql; exact rfl; exact rfl; exact rfl)
      | (apply G.sub; exact rfl; exact rfl; exact rfl; first | exact IntWalk.i64_in _ (by omega) | exact IntWalk.u8_in _ (by omega) | exact IntWalk.u16_in _ (by omega) | exact IntWalk.u32_in _ (by omega) | exact IntWalk.u64_in _ (by omega))
      | (apply G.len; exact rfl; exact rfl; exact T.slc_53)
      | (apply G.nilCheckP; exact rfl; exact rfl)
      | (apply G.makeFunc; exact rfl; exact rfl; exact rfl)
      | (refine G.indexAddr rfl T.slc_53 T.sz_57 rfl rfl _ rfl (by omega) ?_)
      | (refine G.indexAddr rfl T.slc_53 T.sz_57 rfl rfl _ (Int.toNat_of_nonneg (by omega)).symm (by omega) ?_))
    refine Goal.done (vs := [_]) (by first | exact .inl rfl | exact .inr rfl) Try.results29 ⟨rfl, trivial⟩ rfl (fun w' H => ⟨(), trivial, by rw [hlow], H.sub (.cons _ (.cons _ (.refl _)))⟩)
  · obtain ⟨br, rest, cap, rfl, rfl, h1, h2, h3⟩ := hR.pos (by omega)
    have hs := fun (b2 b3 : Nat) => search_ok (p := fun k => decide (tick < (el R k).1)) (R.length : Int) (by omega) T.bod_33 (fun i i0 i1 => pred_ok (c := #[Value.int IntKind.i64 s.delay, Value.int IntKind.i64 s.rate, Value.int IntKind.i64 s.room, vS, Value.int IntKind.i64 s.off, Value.int IntKind.i64 s.now, Value.slice (some { block := br, off := 0 }) R.length cap]) (b2 := b2) (b3 := b3) (tick := tick) (bc := bc) (AS := AS) (rest := rest) rfl ⟨i0, i1⟩) (pred_mono hrep tick)
    refine Goal.enter (args := [.pointer (some ⟨bc, 0, none⟩), .int .i64 tick]) Try.func29 rfl Try.ntmps29 rfl (hw) ?_
    repeat' (first
      | (refine Goal.loud (o := ⟨some 12, _, _, _, _, _⟩) rfl ?_; refine Loud.callE ([]) (hs _ _) rfl rfl rfl rfl T.bod_32 (fun _ h => h) ?_; rintro r ⟨hr, hr1, hr2⟩; simp only [decide_eq_true_eq, decide_eq_false_iff_not] at hr1 hr2)
      | (refine Goal.loud (o := ⟨some 2, _, _, _, _, _⟩) rfl ?_; first | refine Loud.boxA rfl rfl (fun b2 => ?_) | refine Loud.box1 rfl rfl rfl (fun b2 => ?_))
      | (refine Goal.loud (o := ⟨some 3, _, _, _, _, _⟩) rfl ?_; first | refine Loud.boxA rfl rfl (fun b3 => ?_) | refine Loud.box1 rfl rfl rfl (fun b3 => ?_))
      | (apply G.move; exact rfl; exact rfl)
      | (apply G.assign; exact rfl; exact rfl)
      | refine Goal.seq (fun _ _ => ?_)
      | refine Goal.next (by assumption) ?_
      | refine Goal.lnil ?_
      | refine Goal.region ?_
      | refine Goal.skip ?_
      | refine Goal.block ?_
      | refine Goal.exit ?_
      | refine Goal.ret ?_
      | refine Goal.then_exit ?_
      | refine Goal.then_ret ?_
      | refine Goal.inBlock_exit ?_
      | refine Goal.inBlock_normal ?_
      | refine Goal.inBlock_ret ?_
      | refine Goal.inBlock_other rfl ?_
      | (apply Goal.condT; exact rfl)
      | (apply Goal.condF; exact rfl)
      | (refine Goal.condD rfl (fun hc => ?_) (fun hc => ?_) <;> first | (exfalso; omega) | contradiction | skip)
      | refine Goal.condB rfl (fun hc => ?_) (fun hc => ?_)
      | (apply G.fieldAddr; exact rfl; exact rfl; (first | exact T.fld_55_6 | exact T.fld_57_1))
      | (apply G.load; exact rfl; exact rfl; first | exact LoadOK.elFM T.one_3 1 hf (l := R) (rest := rest) (by repeat (first | exact List.mem_append_right _ (.head _) | apply List.mem_cons_of_mem)) (by omega) rfl | exact LoadOK.one (by first | exact T.one_3 | exact T.one_29 | exact T.one_53) 0 rfl rfl | exact LoadOK.one (by first | exact T.one_3 | exact T.one_29 | exact T.one_53) 1 rfl rfl | exact LoadOK.one (by first | exact T.one_3 | exact T.one_29 | exact T.one_53) 2 rfl rfl | exact LoadOK.one (by first | exact T.one_3 | exact T.one_29 | exact T.one_53) 3 rfl rfl | exact LoadOK.one (by first | exact T.one_3 | exact T.one_29 | exact T.one_53) 4 rfl rfl | exact LoadOK.one (by first | exact T.one_3 | exact T.one_29 | exact T.one_53) 5 rfl rfl | exact LoadOK.one (by first | exact T.one_3 | exact T.one_29 | exact T.one_53) 6 rfl rfl | exact LoadOK.one (by first | exact T.one_3 | exact T.one_29 | exact T.one_53) 7 rfl rfl)
      | (apply G.eql; exact rfl; exact rfl; exact rfl)
      | (apply G.sub; exact rfl; exact rfl; exact rfl; first | exact IntWalk.i64_in _ (by omega) | exact IntWalk.u8_in _ (by omega) | exact IntWalk.u16_in _ (by omega) | exact IntWalk.u32_in _ (by omega) | exact IntWalk.u64_in _ (by omega))
      | (apply G.len; exact rfl; exact rfl; exact T.slc_53)
      | (apply G.nilCheckP; exact rfl; exact rfl)
      | (apply G.makeFunc; exact rfl; exact rfl; exact rfl)
      | (refine G.indexAddr rfl T.slc_53 T.sz_57 rfl rfl _ rfl (by omega) ?_)
      | (refine G.indexAddr rfl T.slc_53 T.sz_57 rfl rfl _ (Int.toNat_of_nonneg (by omega)).symm (by omega) ?_))
    · obtain rfl : r = 0 := hc
      have e := hrep.low tick fun i i0 i1 => hr2 i i0 i1
      refine Goal.done (vs := [_]) (by first | exact .inl rfl | exact .inr rfl) Try.results29 ⟨rfl, trivial⟩ rfl (fun w' H => ⟨(), trivial, by rw [e], H.sub (.cons _ (.cons _ (.refl _)))⟩)
    · have e := hrep.mid (r - 1) tick (by omega) (by omega) (by have := hr1 (r - 1) (by omega) (by omega); omega) fun j j0 j1 => hr2 j (by omega) j1
      refine Goal.done (vs := [_]) (by first | exact .inl rfl | exact .inr rfl) Try.results29 ⟨rfl, trivial⟩ rfl (fun w' H => ⟨(), trivial, by rw [e], H.sub (.cons _ (.cons _ (.refl _)))⟩)
end
end Go.Proofs.Ytgidkddkoopdfaa
