/- A channel: when a packet departs, how many wait, how many were offered. -/
import Derived.Test.YtgidkddkoopdfaaChC
namespace Go.Proofs.Ytgidkddkoopdfaa
open Go.Wf
set_option linter.unusedVariables false
section
variable {bc : Nat} {s : Cs} {A : List Blk}
theorem waiting_ok (hA : ChM bc s A) (hl : s.D.length ≤ 1099511627776) (now : Int) :
    MCalls Try.prog 16 [.pointer (some ⟨bc, 0, none⟩), .int .i64 now] A (fun _ : Unit => True) (fun _ => .int .i64 (s.D.length - cle s.D now)) (fun _ => A) := .mk fun w hw => by
  have hc2 := cle_le s.D now
  refine Goal.enter (args := [.pointer (some ⟨bc, 0, none⟩), .int .i64 now]) Try.func16 rfl Try.ntmps16 rfl (hw) ?_
  repeat' (first
    | (refine Goal.loud (o := ⟨some 8, _, _, _, _, _⟩) rfl ?_; refine Loud.callE ([]) (accepted_ok hA hl) rfl rfl rfl rfl T.bod_24 (fun _ h => h) ?_; rintro ⟨⟩ -)
    | (refine Goal.loud (o := ⟨some 11, _, _, _, _, _⟩) rfl ?_; refine Loud.callE ([]) (until_ok hA hl now) rfl rfl rfl rfl T.bod_29 (fun _ h => h) ?_; rintro ⟨⟩ -)
    | (apply G.move; exact rfl; exact rfl)
    | (apply G.assign; exact rfl; exact rfl)
    | refine Goal.seq (fun _ _ => ?_)
    | refine Goal.next (by assumption) ?_
    | refine Goal.lnil ?_
    | refine Goal.region ?_
    | refine Goal.skip ?_
    | refine Goal.block ?_
    | refine Goal.exit ?_
    | refine Goal.ret ?_
    | refine Goal.then_exit ?_
    | refine Goal.then_ret ?_
    | refine Goal.inBlock_exit ?_
    | refine Goal.inBlock_normal ?_
    | refine Goal.inBlock_ret ?_
    | refine Goal.inBlock_other rfl ?_
    | (apply Goal.condT; exact rfl)
    | (apply Goal.condF; exact rfl)
    | (refine Goal.condD rfl (fun hc => ?_) (fun hc => ?_) <;> first | (exfalso; omega) | contradiction | skip)
    | refine Goal.condB rfl (fun hc => ?_) (fun hc => ?_)
    | (apply G.eql; exact rfl; exact rfl; exact rfl)
    | (apply G.sub; exact rfl; exact rfl; exact rfl; first | exact IntWalk.i64_in _ (by omega) | exact IntWalk.u8_in _ (by omega) | exact IntWalk.u16_in _ (by omega) | exact IntWalk.u32_in _ (by omega) | exact IntWalk.u64_in _ (by omega))
    | (refine Goal.quiet rfl (Run.eqlP T.ptr_29 rfl rfl rfl) ?_))
  refine Goal.done (vs := [_]) (by first | exact .inl rfl | exact .inr rfl) Try.results16 ⟨rfl, trivial⟩ rfl (fun w' H => ⟨(), trivial, rfl, H⟩)
theorem offered_ok (hA : ChM bc s A) :
    MCalls Try.prog 20 [.pointer (some ⟨bc, 0, none⟩)] A (fun _ : Unit => True) (fun _ => .int .i64 s.off) (fun _ => A) := .mk fun w hw => by
  obtain ⟨R, vS, vR, AS, AR, rfl, hS, hR, hrep⟩ := hA
  refine Goal.enter (args := [.pointer (some ⟨bc, 0, none⟩)]) Try.func20 rfl Try.ntmps20 rfl (hw) ?_
  repeat' (first
    | (apply G.move; exact rfl; exact rfl)
    | (apply G.assign; exact rfl; exact rfl)
    | refine Goal.seq (fun _ _ => ?_)
    | refine Goal.next (by assumption) ?_
    | refine Goal.lnil ?_
    | refine Goal.region ?_
    | refine Goal.skip ?_
    | refine Goal.block ?_
    | refine Goal.exit ?_
    | refine Goal.ret ?_
    | refine Goal.then_exit ?_
    | refine Goal.then_ret ?_
    | refine Goal.inBlock_exit ?_
    | refine Goal.inBlock_normal ?_
    | refine Goal.inBlock_ret ?_
    | refine Goal.inBlock_other rfl ?_
    | (apply Goal.condT; exact rfl)
    | (apply Goal.condF; exact rfl)
    | (refine Goal.condD rfl (fun hc => ?_) (fun hc => ?_) <;> first | (exfalso; omega) | contradiction | skip)
    | refine Goal.condB rfl (fun hc => ?_) (fun hc => ?_)
    | (apply G.fieldAddr; exact rfl; exact rfl; exact T.fld_55_4)
    | (apply G.load; exact rfl; exact rfl; first | exact LoadOK.one T.one_3 0 rfl rfl | exact LoadOK.one T.one_3 1 rfl rfl | exact LoadOK.one T.one_3 2 rfl rfl | exact LoadOK.one T.one_3 3 rfl rfl | exact LoadOK.one T.one_3 4 rfl rfl | exact LoadOK.one T.one_3 5 rfl rfl | exact LoadOK.one T.one_3 6 rfl rfl | exact LoadOK.one T.one_3 7 rfl rfl)
    | (apply G.eql; exact rfl; exact rfl; exact rfl)
    | (refine Goal.quiet rfl (Run.eqlP T.ptr_29 rfl rfl rfl) ?_)
    | (apply G.nilCheckP; exact rfl; exact rfl))
  refine Goal.done (vs := [_]) (by first | exact .inl rfl | exact .inr rfl) Try.results20 ⟨rfl, trivial⟩ rfl (fun w' H => ⟨(), trivial, rfl, H⟩)
set_option maxHeartbeats 2000000 in
theorem departure_ok (hA : ChM bc s A) (hl : s.D.length ≤ 1099511627776) (hd : ∀ d ∈ s.D, 0 ≤ d ∧ d ≤ 2199023255552) (now : Int) :
    MCalls Try.prog 23 [.pointer (some ⟨bc, 0, none⟩), .int .i64 now] A (fun _ : Unit => True) (fun _ => .int .i64 (dep s.rate s.D now)) (fun _ => A) := .mk fun w hw => by
  have hf : ∀ a, (pr a).length = 2 := pr_len
  obtain ⟨R, vS, vR, AS, AR, rfl, hS, hR, hrep⟩ := id hA
  have hrl := hrep.len
  by_cases h0 : R.length = 0
  · obtain ⟨ad, cap, rfl⟩ := hR.shape
    have hR0 : R = [] := List.length_eq_zero_iff.1 h0
    have hD0 := hrep.nil.1 hR0
    refine Goal.enter (args := [.pointer (some ⟨bc, 0, none⟩), .int .i64 now]) Try.func23 rfl Try.ntmps23 rfl (hw) ?_
    repeat' (first
      | (apply G.move; exact rfl; exact rfl)
      | (apply G.assign; exact rfl; exact rfl)
      | refine Goal.seq (fun _ _ => ?_)
      | refine Goal.next (by assumption) ?_
      | refine Goal.lnil ?_
      | refine Goal.region ?_
      | refine Goal.skip ?_
      | refine Goal.block ?_
      | refine Goal.exit ?_
      | refine Goal.ret ?_
      | refine Goal.then_exit ?_
      | refine Goal.then_ret ?_
      | refine Goal.inBlock_exit ?_
      | refine Goal.inBlock_normal ?_
      | refine Goal.inBlock_ret ?_
      | refine Goal.inBlock_other rfl ?_
      | (apply Goal.condT; exact rfl)
      | (apply Goal.condF; exact rfl)
      | (refine Goal.condD rfl (fun hc => ?_) (fun hc => ?_) <;> first | (exfalso; omega) | contradiction | skip)
      | refine Goal.condB rfl (fun hc => ?_) (fun hc => ?_)
      | (apply G.fieldAddr; exact rfl; exact rfl; (first | exact T.fld_55_1 | exact T.fld_55_6 | exact T.fld_57_0))
      | (apply G.load; exact rfl; exact rfl; first | exact LoadOK.one (by first | exact T.one_3 | exact T.one_53) 0 rfl rfl | exact LoadOK.one (by first | exact T.one_3 | exact T.one_53) 1 rfl rfl | exact LoadOK.one (by first | exact T.one_3 | exact T.one_53) 2 rfl rfl | exact LoadOK.one (by first | exact T.one_3 | exact T.one_53) 3 rfl rfl | exact LoadOK.one (by first | exact T.one_3 | exact T.one_53) 4 rfl rfl | exact LoadOK.one (by first | exact T.one_3 | exact T.one_53) 5 rfl rfl | exact LoadOK.one (by first | exact T.one_3 | exact T.one_53) 6 rfl rfl | exact LoadOK.one (by first | exact T.one_3 | exact T.one_53) 7 rfl rfl)
      | (apply G.lss; exact rfl; exact rfl; exact rfl)
      | (apply G.gtr; exact rfl; exact rfl; exact rfl)
      | (apply G.eql; exact rfl; exact rfl; exact rfl)
      | (apply G.add; exact rfl; exact rfl; exact rfl; first | exact IntWalk.i64_in _ (by omega) | exact IntWalk.u8_in _ (by omega) | exact IntWalk.u16_in _ (by omega) | exact IntWalk.u32_in _ (by omega) | exact IntWalk.u64_in _ (by omega))
      | (apply G.sub; exact rfl; exact rfl; exact rfl; first | exact IntWalk.i64_in _ (by omega) | exact IntWalk.u8_in _ (by omega) | exact IntWalk.u16_in _ (by omega) | exact IntWalk.u32_in _ (by omega) | exact IntWalk.u64_in _ (by omega))
      | (apply G.len; exact rfl; exact rfl; exact T.slc_53)
      | (apply G.nilCheckP; exact rfl; exact rfl)
      | (refine G.indexAddr rfl T.slc_53 T.sz_57 rfl rfl _ rfl (by omega) ?_)
      | (refine G.indexAddr rfl T.slc_53 T.sz_57 rfl rfl _ (Int.toNat_of_nonneg (by omega)).symm (by omega) ?_))
    refine Goal.done (vs := [_]) (by first | exact .inl rfl | exact .inr rfl) Try.results23 ⟨rfl, trivial⟩ rfl (fun w' H => ⟨(), trivial, by unfold dep; rw [hD0]; rfl, H⟩)
  · obtain ⟨br, rest, cap, rfl, rfl, h1, h2, h3⟩ := hR.pos (by omega)
    obtain ⟨t1, t2⟩ := hrep.top (fun e => h0 (by rw [e]; rfl))
    have hD : s.D.length ≠ 0 := fun e => h0 (by rw [hrep.nil.2 (List.length_eq_zero_iff.1 e)]; rfl)
    have hlb := hd (lst s.D) (mem_ia ⟨by omega, by omega⟩)
    have hc2 := cle_le s.D (lst s.D - 1)
    rw [t1] at hlb hc2
    refine Goal.enter (args := [.pointer (some ⟨bc, 0, none⟩), .int .i64 now]) Try.func23 rfl Try.ntmps23 rfl (hw) ?_
    repeat' (first
      | (refine Goal.drawAll (id := 3) 14 T.mixed ?_; all_goals ((refine Goal.takeP (listed' := #[true, false, false, false, false, false, false, false, false, false, false, false, false, false]) 0 ⟨rfl, by kernel_rfl, by kernel_rfl, by kernel_rfl, by kernel_rfl⟩ rfl (fun _ _ _ _ h => h) (by intro _; exact Run.move rfl) ?_)); all_goals ((refine Goal.takeP (listed' := #[true, true, false, false, false, false, false, false, false, false, false, false, false, false]) 1 ⟨rfl, by kernel_rfl, by kernel_rfl, by kernel_rfl, by kernel_rfl⟩ rfl (fun _ _ _ _ h => h) (by intro _; exact Run.nilCheckP rfl) ?_)); all_goals ((refine Goal.takeP (listed' := #[true, true, true, false, false, false, false, false, false, false, false, false, false, false]) 2 ⟨rfl, by kernel_rfl, by kernel_rfl, by kernel_rfl, by kernel_rfl⟩ rfl (fun _ _ _ _ h => h) (by intro _; exact Run.fieldAddr T.fld_55_6 rfl) ?_)); all_goals ((refine Goal.takeP (listed' := #[true, true, true, false, true, false, false, false, false, false, false, false, false, false]) 4 ⟨rfl, by kernel_rfl, by kernel_rfl, by kernel_rfl, by kernel_rfl⟩ rfl (fun _ _ _ _ h => h) (by intro _; exact Run.move rfl) ?_)); all_goals ((refine Goal.takeP (listed' := #[true, true, true, false, true, true, false, false, false, false, false, false, false, false]) 5 ⟨rfl, by kernel_rfl, by kernel_rfl, by kernel_rfl, by kernel_rfl⟩ rfl (fun _ _ _ _ h => h) (by intro _; exact Run.nilCheckP rfl) ?_)); all_goals ((refine Goal.takeP (listed' := #[true, true, true, false, true, true, true, false, false, false, false, false, false, false]) 6 ⟨rfl, by kernel_rfl, by kernel_rfl, by kernel_rfl, by kernel_rfl⟩ rfl (fun _ _ _ _ h => h) (by intro _; exact Run.fieldAddr T.fld_55_6 rfl) ?_)); all_goals ((refine Goal.take (listed' := #[true, true, true, true, true, true, true, false, false, false, false, false, false, false]) 3 ⟨rfl, by kernel_rfl, by kernel_rfl, by kernel_rfl, by kernel_rfl, by kernel_rfl⟩ rfl (by (first | exact fun _ h => h | exact fun _ h => h.sub (.cons _ (.refl _)) | exact fun _ h => h.sub (.cons _ (.cons _ (.refl _))) | exact fun _ h => h.sub (.cons _ (.cons _ (.cons _ (.refl _)))) | exact fun _ h => h.drop | exact fun _ h => h.sub (List.sublist_append_left _ _))) (fun _ _ _ _ h => h) (by (apply Run.load; exact rfl; first | exact LoadOK.elFM T.one_3 0 hf (l := R) (rest := rest) (by repeat (first | exact List.mem_append_right _ (.head _) | apply List.mem_cons_of_mem)) (by omega) rfl | exact LoadOK.one T.one_53 0 rfl rfl | exact LoadOK.one T.one_53 1 rfl rfl | exact LoadOK.one T.one_53 2 rfl rfl | exact LoadOK.one T.one_53 3 rfl rfl | exact LoadOK.one T.one_53 4 rfl rfl | exact LoadOK.one T.one_53 5 rfl rfl | exact LoadOK.one T.one_53 6 rfl rfl | exact LoadOK.one T.one_53 7 rfl rfl)) ?_)); all_goals ((refine Goal.take (listed' := #[true, true, true, true, true, true, true, true, false, false, false, false, false, false]) 7 ⟨rfl, by kernel_rfl, by kernel_rfl, by kernel_rfl, by kernel_rfl, by kernel_rfl⟩ rfl (by (first | exact fun _ h => h | exact fun _ h => h.sub (.cons _ (.refl _)) | exact fun _ h => h.sub (.cons _ (.cons _ (.refl _))) | exact fun _ h => h.sub (.cons _ (.cons _ (.cons _ (.refl _)))) | exact fun _ h => h.drop | exact fun _ h => h.sub (List.sublist_append_left _ _))) (fun _ _ _ _ h => h) (by (apply Run.load; exact rfl; first | exact LoadOK.elFM T.one_3 0 hf (l := R) (rest := rest) (by repeat (first | exact List.mem_append_right _ (.head _) | apply List.mem_cons_of_mem)) (by omega) rfl | exact LoadOK.one T.one_53 0 rfl rfl | exact LoadOK.one T.one_53 1 rfl rfl | exact LoadOK.one T.one_53 2 rfl rfl | exact LoadOK.one T.one_53 3 rfl rfl | exact LoadOK.one T.one_53 4 rfl rfl | exact LoadOK.one T.one_53 5 rfl rfl | exact LoadOK.one T.one_53 6 rfl rfl | exact LoadOK.one T.one_53 7 rfl rfl)) ?_)); all_goals ((refine Goal.takeP (listed' := #[true, true, true, true, true, true, true, true, true, false, false, false, false, false]) 8 ⟨rfl, by kernel_rfl, by kernel_rfl, by kernel_rfl, by kernel_rfl⟩ rfl (fun _ _ _ _ h => h) (by intro _; exact Run.len T.slc_53 rfl) ?_)); all_goals ((refine Goal.takeP (listed' := #[true, true, true, true, true, true, true, true, true, true, false, false, false, false]) 9 ⟨rfl, by kernel_rfl, by kernel_rfl, by kernel_rfl, by kernel_rfl⟩ rfl (fun _ _ _ _ h => h) (by intro _; (apply Run.sub; exact rfl; exact rfl; exact IntWalk.i64_in _ (by omega))) ?_)); all_goals ((refine Goal.takeP (listed' := #[true, true, true, true, true, true, true, true, true, true, true, false, false, false]) 10 ⟨rfl, by kernel_rfl, by kernel_rfl, by kernel_rfl, by kernel_rfl⟩ rfl (fun _ _ _ _ h => h) (by intro _; first | exact Run.indexAddr T.slc_53 T.sz_57 rfl rfl rfl (by omega) | exact Run.indexAddr T.slc_53 T.sz_57 rfl rfl (Int.toNat_of_nonneg (by omega)).symm (by omega)) ?_)); all_goals ((refine Goal.takeP (listed' := #[true, true, true, true, true, true, true, true, true, true, true, true, false, false]) 11 ⟨rfl, by kernel_rfl, by kernel_rfl, by kernel_rfl, by kernel_rfl⟩ rfl (fun _ _ _ _ h => h) (by intro _; exact Run.fieldAddr T.fld_57_0 rfl) ?_)); all_goals ((refine Goal.take (listed' := #[true, true, true, true, true, true, true, true, true, true, true, true, true, false]) 12 ⟨rfl, by kernel_rfl, by kernel_rfl, by kernel_rfl, by kernel_rfl, by kernel_rfl⟩ rfl (by (first | exact fun _ h => h | exact fun _ h => h.sub (.cons _ (.refl _)) | exact fun _ h => h.sub (.cons _ (.cons _ (.refl _))) | exact fun _ h => h.sub (.cons _ (.cons _ (.cons _ (.refl _)))) | exact fun _ h => h.drop | exact fun _ h => h.sub (List.sublist_append_left _ _))) (fun _ _ _ _ h => h) (by (apply Run.load; exact rfl; first | exact LoadOK.elFM T.one_3 0 hf (l := R) (rest := rest) (by repeat (first | exact List.mem_append_right _ (.head _) | apply List.mem_cons_of_mem)) (by omega) rfl | exact LoadOK.one T.one_3 0 rfl rfl | exact LoadOK.one T.one_3 1 rfl rfl | exact LoadOK.one T.one_3 2 rfl rfl | exact LoadOK.one T.one_3 3 rfl rfl | exact LoadOK.one T.one_3 4 rfl rfl | exact LoadOK.one T.one_3 5 rfl rfl | exact LoadOK.one T.one_3 6 rfl rfl | exact LoadOK.one T.one_3 7 rfl rfl)) ?_)); all_goals ((refine Goal.takeP (listed' := #[true, true, true, true, true, true, true, true, true, true, true, true, true, true]) 13 ⟨rfl, by kernel_rfl, by kernel_rfl, by kernel_rfl, by kernel_rfl⟩ rfl (fun _ _ _ _ h => h) (by intro _; exact Run.assign rfl) ?_)); all_goals (refine Goal.allUp (by kernel_rfl) ?_))
      | (refine Goal.drawAll (id := 6) 1 T.mixed ?_; all_goals ((refine Goal.takeP (listed' := #[true, false, false, false, false, false, false, false, false, false, false, false]) 0 ⟨rfl, by kernel_rfl, by kernel_rfl, by kernel_rfl, by kernel_rfl⟩ rfl (fun _ _ _ _ h => h) (by intro _; exact Run.move rfl) ?_)); all_goals ((refine Goal.takeP (listed' := #[true, false, true, false, false, false, false, false, false, false, false, false]) 2 ⟨rfl, by kernel_rfl, by kernel_rfl, by kernel_rfl, by kernel_rfl⟩ rfl (fun _ _ _ _ h => h) (by intro _; exact Run.move rfl) ?_)); all_goals ((refine Goal.takeP (listed' := #[true, false, true, true, false, false, false, false, false, false, false, false]) 3 ⟨rfl, by kernel_rfl, by kernel_rfl, by kernel_rfl, by kernel_rfl⟩ rfl (fun _ _ _ _ h => h) (by intro _; exact Run.move rfl) ?_)); all_goals ((refine Goal.takeP (listed' := #[true, false, true, true, true, false, false, false, false, false, false, false]) 4 ⟨rfl, by kernel_rfl, by kernel_rfl, by kernel_rfl, by kernel_rfl⟩ rfl (fun _ _ _ _ h => h) (by intro _; (apply Run.sub; exact rfl; exact rfl; exact IntWalk.i64_in _ (by omega))) ?_)); all_goals ((refine Goal.takeP (listed' := #[true, false, true, true, true, false, false, true, false, false, false, false]) 7 ⟨rfl, by kernel_rfl, by kernel_rfl, by kernel_rfl, by kernel_rfl⟩ rfl (fun _ _ _ _ h => h) (by intro _; exact Run.move rfl) ?_)); all_goals ((refine Goal.takeP (listed' := #[true, false, true, true, true, false, false, true, true, false, false, false]) 8 ⟨rfl, by kernel_rfl, by kernel_rfl, by kernel_rfl, by kernel_rfl⟩ rfl (fun _ _ _ _ h => h) (by intro _; exact Run.nilCheckP rfl) ?_)); all_goals ((refine Goal.takeP (listed' := #[true, false, true, true, true, false, false, true, true, true, false, false]) 9 ⟨rfl, by kernel_rfl, by kernel_rfl, by kernel_rfl, by kernel_rfl⟩ rfl (fun _ _ _ _ h => h) (by intro _; exact Run.fieldAddr T.fld_55_1 rfl) ?_)); all_goals (refine Goal.ready2 (i := 1) (j := 10) (by kernel_rfl) ?_ ?_); all_goals (first | ((refine Goal.up (i := 1) (listed' := #[true, true, true, true, true, false, false, true, true, true, false, false]) rfl (by kernel_rfl) ?_; (refine Loud.callE ([]) (accepted_ok hA hl) rfl rfl rfl rfl T.bod_24 (fun _ h => h) ?_; rintro ⟨⟩ -); first | refine Goal.tail rfl ?_ | refine Goal.kept (by (first | exact fun _ h => h | exact fun _ h => h.sub (.cons _ (.refl _)) | exact fun _ h => h.sub (.cons _ (.cons _ (.refl _))) | exact fun _ h => h.sub (.cons _ (.cons _ (.cons _ (.refl _)))) | exact fun _ h => h.drop | exact fun _ h => h.sub (List.sublist_append_left _ _))) ?_); all_goals (refine Goal.ready2 (i := 5) (j := 10) (by kernel_rfl) ?_ ?_); all_goals (first | ((refine Goal.up (i := 5) (listed' := #[true, true, true, true, true, true, false, true, true, true, false, false]) rfl (by kernel_rfl) ?_; (refine Loud.callE ([]) (until_ok hA hl ((el R ((R.length : Int) - 1)).1 - 1)) rfl rfl rfl rfl T.bod_29 (fun _ h => h) ?_; rintro ⟨⟩ -); first | refine Goal.tail rfl ?_ | refine Goal.kept (by (first | exact fun _ h => h | exact fun _ h => h.sub (.cons _ (.refl _)) | exact fun _ h => h.sub (.cons _ (.cons _ (.refl _))) | exact fun _ h => h.sub (.cons _ (.cons _ (.cons _ (.refl _)))) | exact fun _ h => h.drop | exact fun _ h => h.sub (List.sublist_append_left _ _))) ?_); all_goals ((refine Goal.takeP (listed' := #[true, true, true, true, true, true, true, true, true, true, false, false]) 6 ⟨rfl, by kernel_rfl, by kernel_rfl, by kernel_rfl, by kernel_rfl⟩ rfl (fun _ _ _ _ h => h) (by intro _; (apply Run.sub; exact rfl; exact rfl; exact IntWalk.i64_in _ (by omega))) ?_)); all_goals (refine Goal.ready1 (i := 10) (by kernel_rfl) ?_); all_goals ((refine Goal.up (i := 10) (listed' := #[true, true, true, true, true, true, true, true, true, true, true, false]) rfl (by kernel_rfl) ?_; (refine Loud.quiet rfl (by (apply Run.load; exact rfl; first | exact LoadOK.elFM T.one_3 0 hf (l := R) (rest := rest) (by repeat (first | exact List.mem_append_right _ (.head _) | apply List.mem_cons_of_mem)) (by omega) rfl | exact LoadOK.one T.one_3 0 rfl rfl | exact LoadOK.one T.one_3 1 rfl rfl | exact LoadOK.one T.one_3 2 rfl rfl | exact LoadOK.one T.one_3 3 rfl rfl | exact LoadOK.one T.one_3 4 rfl rfl | exact LoadOK.one T.one_3 5 rfl rfl | exact LoadOK.one T.one_3 6 rfl rfl | exact LoadOK.one T.one_3 7 rfl rfl)) ?_); first | refine Goal.tail rfl ?_ | refine Goal.kept (by (first | exact fun _ h => h | exact fun _ h => h.sub (.cons _ (.refl _)) | exact fun _ h => h.sub (.cons _ (.cons _ (.refl _))) | exact fun _ h => h.sub (.cons _ (.cons _ (.cons _ (.refl _)))) | exact fun _ h => h.drop | exact fun _ h => h.sub (List.sublist_append_left _ _))) ?_)); all_goals ((refine Goal.takeP (listed' := #[true, true, true, true, true, true, true, true, true, true, true, true]) 11 ⟨rfl, by kernel_rfl, by kernel_rfl, by kernel_rfl, by kernel_rfl⟩ rfl (fun _ _ _ _ h => h) (by intro _; first | exact Run.lss rfl rfl) ?_)); all_goals (refine Goal.allUp (by kernel_rfl) ?_)) | ((refine Goal.up (i := 10) (listed' := #[true, true, true, true, true, false, false, true, true, true, true, false]) rfl (by kernel_rfl) ?_; (refine Loud.quiet rfl (by (apply Run.load; exact rfl; first | exact LoadOK.elFM T.one_3 0 hf (l := R) (rest := rest) (by repeat (first | exact List.mem_append_right _ (.head _) | apply List.mem_cons_of_mem)) (by omega) rfl | exact LoadOK.one T.one_3 0 rfl rfl | exact LoadOK.one T.one_3 1 rfl rfl | exact LoadOK.one T.one_3 2 rfl rfl | exact LoadOK.one T.one_3 3 rfl rfl | exact LoadOK.one T.one_3 4 rfl rfl | exact LoadOK.one T.one_3 5 rfl rfl | exact LoadOK.one T.one_3 6 rfl rfl | exact LoadOK.one T.one_3 7 rfl rfl)) ?_); first | refine Goal.tail rfl ?_ | refine Goal.kept (by (first | exact fun _ h => h | exact fun _ h => h.sub (.cons _ (.refl _)) | exact fun _ h => h.sub (.cons _ (.cons _ (.refl _))) | exact fun _ h => h.sub (.cons _ (.cons _ (.cons _ (.refl _)))) | exact fun _ h => h.drop | exact fun _ h => h.sub (List.sublist_append_left _ _))) ?_); all_goals (refine Goal.ready1 (i := 5) (by kernel_rfl) ?_); all_goals ((refine Goal.up (i := 5) (listed' := #[true, true, true, true, true, true, false, true, true, true, true, false]) rfl (by kernel_rfl) ?_; (refine Loud.callE ([]) (until_ok hA hl ((el R ((R.length : Int) - 1)).1 - 1)) rfl rfl rfl rfl T.bod_29 (fun _ h => h) ?_; rintro ⟨⟩ -); first | refine Goal.tail rfl ?_ | refine Goal.kept (by (first | exact fun _ h => h | exact fun _ h => h.sub (.cons _ (.refl _)) | exact fun _ h => h.sub (.cons _ (.cons _ (.refl _))) | exact fun _ h => h.sub (.cons _ (.cons _ (.cons _ (.refl _)))) | exact fun _ h => h.drop | exact fun _ h => h.sub (List.sublist_append_left _ _))) ?_)); all_goals ((refine Goal.takeP (listed' := #[true, true, true, true, true, true, true, true, true, true, true, false]) 6 ⟨rfl, by kernel_rfl, by kernel_rfl, by kernel_rfl, by kernel_rfl⟩ rfl (fun _ _ _ _ h => h) (by intro _; (apply Run.sub; exact rfl; exact rfl; exact IntWalk.i64_in _ (by omega))) ?_)); all_goals ((refine Goal.takeP (listed' := #[true, true, true, true, true, true, true, true, true, true, true, true]) 11 ⟨rfl, by kernel_rfl, by kernel_rfl, by kernel_rfl, by kernel_rfl⟩ rfl (fun _ _ _ _ h => h) (by intro _; first | exact Run.lss rfl rfl) ?_)); all_goals (refine Goal.allUp (by kernel_rfl) ?_)))) | ((refine Goal.up (i := 10) (listed' := #[true, false, true, true, true, false, false, true, true, true, true, false]) rfl (by kernel_rfl) ?_; (refine Loud.quiet rfl (by (apply Run.load; exact rfl; first | exact LoadOK.elFM T.one_3 0 hf (l := R) (rest := rest) (by repeat (first | exact List.mem_append_right _ (.head _) | apply List.mem_cons_of_mem)) (by omega) rfl | exact LoadOK.one T.one_3 0 rfl rfl | exact LoadOK.one T.one_3 1 rfl rfl | exact LoadOK.one T.one_3 2 rfl rfl | exact LoadOK.one T.one_3 3 rfl rfl | exact LoadOK.one T.one_3 4 rfl rfl | exact LoadOK.one T.one_3 5 rfl rfl | exact LoadOK.one T.one_3 6 rfl rfl | exact LoadOK.one T.one_3 7 rfl rfl)) ?_); first | refine Goal.tail rfl ?_ | refine Goal.kept (by (first | exact fun _ h => h | exact fun _ h => h.sub (.cons _ (.refl _)) | exact fun _ h => h.sub (.cons _ (.cons _ (.refl _))) | exact fun _ h => h.sub (.cons _ (.cons _ (.cons _ (.refl _)))) | exact fun _ h => h.drop | exact fun _ h => h.sub (List.sublist_append_left _ _))) ?_); all_goals (refine Goal.ready1 (i := 1) (by kernel_rfl) ?_); all_goals ((refine Goal.up (i := 1) (listed' := #[true, true, true, true, true, false, false, true, true, true, true, false]) rfl (by kernel_rfl) ?_; (refine Loud.callE ([]) (accepted_ok hA hl) rfl rfl rfl rfl T.bod_24 (fun _ h => h) ?_; rintro ⟨⟩ -); first | refine Goal.tail rfl ?_ | refine Goal.kept (by (first | exact fun _ h => h | exact fun _ h => h.sub (.cons _ (.refl _)) | exact fun _ h => h.sub (.cons _ (.cons _ (.refl _))) | exact fun _ h => h.sub (.cons _ (.cons _ (.cons _ (.refl _)))) | exact fun _ h => h.drop | exact fun _ h => h.sub (List.sublist_append_left _ _))) ?_)); all_goals (refine Goal.ready1 (i := 5) (by kernel_rfl) ?_); all_goals ((refine Goal.up (i := 5) (listed' := #[true, true, true, true, true, true, false, true, true, true, true, false]) rfl (by kernel_rfl) ?_; (refine Loud.callE ([]) (until_ok hA hl ((el R ((R.length : Int) - 1)).1 - 1)) rfl rfl rfl rfl T.bod_29 (fun _ h => h) ?_; rintro ⟨⟩ -); first | refine Goal.tail rfl ?_ | refine Goal.kept (by (first | exact fun _ h => h | exact fun _ h => h.sub (.cons _ (.refl _)) | exact fun _ h => h.sub (.cons _ (.cons _ (.refl _))) | exact fun _ h => h.sub (.cons _ (.cons _ (.cons _ (.refl _)))) | exact fun _ h => h.drop | exact fun _ h => h.sub (List.sublist_append_left _ _))) ?_)); all_goals ((refine Goal.takeP (listed' := #[true, true, true, true, true, true, true, true, true, true, true, false]) 6 ⟨rfl, by kernel_rfl, by kernel_rfl, by kernel_rfl, by kernel_rfl⟩ rfl (fun _ _ _ _ h => h) (by intro _; (apply Run.sub; exact rfl; exact rfl; exact IntWalk.i64_in _ (by omega))) ?_)); all_goals ((refine Goal.takeP (listed' := #[true, true, true, true, true, true, true, true, true, true, true, true]) 11 ⟨rfl, by kernel_rfl, by kernel_rfl, by kernel_rfl, by kernel_rfl⟩ rfl (fun _ _ _ _ h => h) (by intro _; first | exact Run.lss rfl rfl) ?_)); all_goals (refine Goal.allUp (by kernel_rfl) ?_))))
      | (refine Goal.loud (o := ⟨some 31, _, _, _, _, _⟩) rfl ?_; refine Loud.callE ([]) (accepted_ok hA hl) rfl rfl rfl rfl T.bod_24 (fun _ h => h) ?_; rintro ⟨⟩ -)
      | (refine Goal.loud (o := ⟨some 35, _, _, _, _, _⟩) rfl ?_; refine Loud.callE ([]) (until_ok hA hl ((el R ((R.length : Int) - 1)).1 - 1)) rfl rfl rfl rfl T.bod_29 (fun _ h => h) ?_; rintro ⟨⟩ -)
      | (apply G.move; exact rfl; exact rfl)
      | (apply G.assign; exact rfl; exact rfl)
      | refine Goal.seq (fun _ _ => ?_)
      | refine Goal.next (by assumption) ?_
      | refine Goal.lnil ?_
      | refine Goal.region ?_
      | refine Goal.skip ?_
      | refine Goal.block ?_
      | refine Goal.exit ?_
      | refine Goal.ret ?_
      | refine Goal.then_exit ?_
      | refine Goal.then_ret ?_
      | refine Goal.inBlock_exit ?_
      | refine Goal.inBlock_normal ?_
      | refine Goal.inBlock_ret ?_
      | refine Goal.inBlock_other rfl ?_
      | (apply Goal.condT; exact rfl)
      | (apply Goal.condF; exact rfl)
      | (refine Goal.condD rfl (fun hc => ?_) (fun hc => ?_) <;> first | (exfalso; omega) | contradiction | skip)
      | refine Goal.condB rfl (fun hc => ?_) (fun hc => ?_)
      | (apply G.fieldAddr; exact rfl; exact rfl; (first | exact T.fld_55_1 | exact T.fld_55_6 | exact T.fld_57_0))
      | (apply G.load; exact rfl; exact rfl; first | exact LoadOK.elFM T.one_3 0 hf (l := R) (rest := rest) (by repeat (first | exact List.mem_append_right _ (.head _) | apply List.mem_cons_of_mem)) (by omega) rfl | exact LoadOK.one (by first | exact T.one_3 | exact T.one_53) 0 rfl rfl | exact LoadOK.one (by first | exact T.one_3 | exact T.one_53) 1 rfl rfl | exact LoadOK.one (by first | exact T.one_3 | exact T.one_53) 2 rfl rfl | exact LoadOK.one (by first | exact T.one_3 | exact T.one_53) 3 rfl rfl | exact LoadOK.one (by first | exact T.one_3 | exact T.one_53) 4 rfl rfl | exact LoadOK.one (by first | exact T.one_3 | exact T.one_53) 5 rfl rfl | exact LoadOK.one (by first | exact T.one_3 | exact T.one_53) 6 rfl rfl | exact LoadOK.one (by first | exact T.one_3 | exact T.one_53) 7 rfl rfl)
      | (apply G.lss; exact rfl; exact rfl; exact rfl)
      | (apply G.gtr; exact rfl; exact rfl; exact rfl)
      | (apply G.eql; exact rfl; exact rfl; exact rfl)
      | (apply G.add; exact rfl; exact rfl; exact rfl; first | exact IntWalk.i64_in _ (by omega) | exact IntWalk.u8_in _ (by omega) | exact IntWalk.u16_in _ (by omega) | exact IntWalk.u32_in _ (by omega) | exact IntWalk.u64_in _ (by omega))
      | (apply G.sub; exact rfl; exact rfl; exact rfl; first | exact IntWalk.i64_in _ (by omega) | exact IntWalk.u8_in _ (by omega) | exact IntWalk.u16_in _ (by omega) | exact IntWalk.u32_in _ (by omega) | exact IntWalk.u64_in _ (by omega))
      | (apply G.len; exact rfl; exact rfl; exact T.slc_53)
      | (apply G.nilCheckP; exact rfl; exact rfl)
      | (refine G.indexAddr rfl T.slc_53 T.sz_57 rfl rfl _ rfl (by omega) ?_)
      | (refine G.indexAddr rfl T.slc_53 T.sz_57 rfl rfl _ (Int.toNat_of_nonneg (by omega)).symm (by omega) ?_))
    all_goals
      refine Goal.done (vs := [_]) (by first | exact .inl rfl | exact .inr rfl) Try.results23 ⟨rfl, trivial⟩ rfl (fun w' H => ⟨(), trivial, by unfold dep; rw [if_neg hD, t1]; first | rw [if_pos (by omega)] | rw [if_neg (by omega), if_pos (by omega)] | rw [if_neg (by omega), if_neg (by omega)], H⟩)
end
end Go.Proofs.Ytgidkddkoopdfaa
