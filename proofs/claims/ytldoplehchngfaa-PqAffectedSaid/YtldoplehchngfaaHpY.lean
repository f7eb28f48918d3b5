/- The heap of the program, by what it holds: Key and New. (For seats that do not reach Remove or Len.) -/
import Derived.Test.YtldoplehchngfaaHpP
namespace Go.Proofs.Ytldoplehchngfaa
open Go.Wf
set_option linter.unusedVariables false
/-- What Key is to return. -/
def keyV (n : Nat) (m : Int → Option Int) (i : Int) : Int × Bool := if 0 ≤ i ∧ i < n then (match m i with | some k => (k, true) | none => (0, false)) else (0, false)
section
variable {bh bk bp n : Nat} {m : Int → Option Int} {A : List Blk}
set_option maxHeartbeats 2000000 in
theorem key_ok (hA : HpA bh bk bp n m A) (i : Int) :
    MCalls Try.prog 86 [.pointer (some ⟨bh, 0, none⟩), .int .i64 i] A (fun _ : Unit => True) (fun _ => .tuple #[.int .i64 (keyV n m i).1, .bool (keyV n m i).2]) (fun _ => A) := .mk fun w hw => by
  obtain ⟨K, Pl, O, vo, Ao, rfl, hS, hI, hH, hm⟩ := hA
  have hPn := hI.hP
  have hKn := hI.hK
  by_cases hi : 0 ≤ i ∧ i < n
  · have hmi := hm i hi.1 hi.2
    by_cases hz : ia Pl i = 0
    · rw [if_pos hz] at hmi
      refine Goal.enter (args := [.pointer (some ⟨bh, 0, none⟩), .int .i64 i]) Try.func86 rfl Try.ntmps86 rfl (hw) ?_
      repeat' (first
        | (apply G.move; exact rfl; exact rfl)
        | (apply G.assign; exact rfl; exact rfl)
        | refine Goal.seq (fun _ _ => ?_)
        | refine Goal.next (by assumption) ?_
        | refine Goal.lnil ?_
        | refine Goal.region ?_
        | refine Goal.skip ?_
        | refine Goal.block ?_
        | refine Goal.exit ?_
        | refine Goal.ret ?_
        | refine Goal.then_exit ?_
        | refine Goal.then_ret ?_
        | refine Goal.inBlock_exit ?_
        | refine Goal.inBlock_normal ?_
        | refine Goal.inBlock_ret ?_
        | refine Goal.inBlock_other rfl ?_
        | (apply Goal.condT; exact rfl)
        | (apply Goal.condF; exact rfl)
        | (refine Goal.condD rfl (fun hc => ?_) (fun hc => ?_) <;> first | (exfalso; omega) | contradiction | skip)
        | refine Goal.condB rfl (fun hc => ?_) (fun hc => ?_)
        | refine Goal.guardT rfl rfl ?_
        | refine Goal.guardF rfl rfl rfl rfl ?_
        | refine Goal.guardU rfl rfl rfl ?_
        | (refine Goal.guardD rfl rfl (fun hc => ?_) (fun hc => ?_) <;> first | (exfalso; omega) | contradiction | skip)
        | refine Goal.guardB rfl rfl (fun hc => ?_) (fun hc => ?_)
        | (apply G.fieldAddr; exact rfl; exact rfl; (first | exact T.fld_89_0 | exact T.fld_89_1))
        | (apply G.load; exact rfl; exact rfl; first | exact LoadOK.ia T.one_3 2 rfl (by omega) | exact LoadOK.one (by first | exact T.one_3 | exact T.one_30) 0 rfl rfl | exact LoadOK.one (by first | exact T.one_3 | exact T.one_30) 1 rfl rfl | exact LoadOK.one (by first | exact T.one_3 | exact T.one_30) 2 rfl rfl | exact LoadOK.one (by first | exact T.one_3 | exact T.one_30) 3 rfl rfl | exact LoadOK.one (by first | exact T.one_3 | exact T.one_30) 4 rfl rfl)
        | (apply G.pickT; exact rfl; exact rfl; exact rfl)
        | (apply G.pickF; exact rfl; exact rfl; exact rfl)
        | (apply G.lss; exact rfl; exact rfl; exact rfl)
        | (apply G.geq; exact rfl; exact rfl; exact rfl)
        | (apply G.eql; exact rfl; exact rfl; exact rfl)
        | (refine Goal.quiet rfl (Run.eqlP T.ptr_80 rfl rfl rfl) ?_)
        | (apply G.len; exact rfl; exact rfl; exact T.slc_30)
        | (apply G.nilCheckP; exact rfl; exact rfl)
        | (refine G.indexAddr1 rfl T.slc_30 T.sz_3 rfl rfl _ rfl (by omega) ?_)
        | (refine G.indexAddr1 rfl T.slc_30 T.sz_3 rfl rfl _ (Int.toNat_of_nonneg (by omega)).symm (by omega) ?_))
      refine Goal.done (vs := [_, _]) (by first | exact .inl rfl | exact .inr rfl) Try.results86 ⟨rfl, rfl, trivial⟩ rfl (fun w' H => ⟨(), trivial, by unfold keyV; rw [if_pos hi, hmi], H⟩)
    · rw [if_neg hz] at hmi
      refine Goal.enter (args := [.pointer (some ⟨bh, 0, none⟩), .int .i64 i]) Try.func86 rfl Try.ntmps86 rfl (hw) ?_
      repeat' (first
        | (apply G.move; exact rfl; exact rfl)
        | (apply G.assign; exact rfl; exact rfl)
        | refine Goal.seq (fun _ _ => ?_)
        | refine Goal.next (by assumption) ?_
        | refine Goal.lnil ?_
        | refine Goal.region ?_
        | refine Goal.skip ?_
        | refine Goal.block ?_
        | refine Goal.exit ?_
        | refine Goal.ret ?_
        | refine Goal.then_exit ?_
        | refine Goal.then_ret ?_
        | refine Goal.inBlock_exit ?_
        | refine Goal.inBlock_normal ?_
        | refine Goal.inBlock_ret ?_
        | refine Goal.inBlock_other rfl ?_
        | (apply Goal.condT; exact rfl)
        | (apply Goal.condF; exact rfl)
        | (refine Goal.condD rfl (fun hc => ?_) (fun hc => ?_) <;> first | (exfalso; omega) | contradiction | skip)
        | refine Goal.condB rfl (fun hc => ?_) (fun hc => ?_)
        | refine Goal.guardT rfl rfl ?_
        | refine Goal.guardF rfl rfl rfl rfl ?_
        | refine Goal.guardU rfl rfl rfl ?_
        | (refine Goal.guardD rfl rfl (fun hc => ?_) (fun hc => ?_) <;> first | (exfalso; omega) | contradiction | skip)
        | refine Goal.guardB rfl rfl (fun hc => ?_) (fun hc => ?_)
        | (apply G.fieldAddr; exact rfl; exact rfl; (first | exact T.fld_89_0 | exact T.fld_89_1))
        | (apply G.load; exact rfl; exact rfl; first | exact LoadOK.ia T.one_3 2 rfl (by omega) | exact LoadOK.ia T.one_3 1 rfl (by omega) | exact LoadOK.one (by first | exact T.one_3 | exact T.one_30) 0 rfl rfl | exact LoadOK.one (by first | exact T.one_3 | exact T.one_30) 1 rfl rfl | exact LoadOK.one (by first | exact T.one_3 | exact T.one_30) 2 rfl rfl | exact LoadOK.one (by first | exact T.one_3 | exact T.one_30) 3 rfl rfl | exact LoadOK.one (by first | exact T.one_3 | exact T.one_30) 4 rfl rfl)
        | (apply G.pickT; exact rfl; exact rfl; exact rfl)
        | (apply G.pickF; exact rfl; exact rfl; exact rfl)
        | (apply G.lss; exact rfl; exact rfl; exact rfl)
        | (apply G.geq; exact rfl; exact rfl; exact rfl)
        | (apply G.eql; exact rfl; exact rfl; exact rfl)
        | (refine Goal.quiet rfl (Run.eqlP T.ptr_80 rfl rfl rfl) ?_)
        | (apply G.len; exact rfl; exact rfl; exact T.slc_30)
        | (apply G.nilCheckP; exact rfl; exact rfl)
        | (refine G.indexAddr1 rfl T.slc_30 T.sz_3 rfl rfl _ rfl (by omega) ?_)
        | (refine G.indexAddr1 rfl T.slc_30 T.sz_3 rfl rfl _ (Int.toNat_of_nonneg (by omega)).symm (by omega) ?_))
      refine Goal.done (vs := [_, _]) (by first | exact .inl rfl | exact .inr rfl) Try.results86 ⟨rfl, rfl, trivial⟩ rfl (fun w' H => ⟨(), trivial, by unfold keyV; rw [if_pos hi, hmi], H⟩)
  · refine Goal.enter (args := [.pointer (some ⟨bh, 0, none⟩), .int .i64 i]) Try.func86 rfl Try.ntmps86 rfl (hw) ?_
    repeat' (first
      | (apply G.move; exact rfl; exact rfl)
      | (apply G.assign; exact rfl; exact rfl)
      | refine Goal.seq (fun _ _ => ?_)
      | refine Goal.next (by assumption) ?_
      | refine Goal.lnil ?_
      | refine Goal.region ?_
      | refine Goal.skip ?_
      | refine Goal.block ?_
      | refine Goal.exit ?_
      | refine Goal.ret ?_
      | refine Goal.then_exit ?_
      | refine Goal.then_ret ?_
      | refine Goal.inBlock_exit ?_
      | refine Goal.inBlock_normal ?_
      | refine Goal.inBlock_ret ?_
      | refine Goal.inBlock_other rfl ?_
      | (apply Goal.condT; exact rfl)
      | (apply Goal.condF; exact rfl)
      | (refine Goal.condD rfl (fun hc => ?_) (fun hc => ?_) <;> first | (exfalso; omega) | contradiction | skip)
      | refine Goal.condB rfl (fun hc => ?_) (fun hc => ?_)
      | refine Goal.guardT rfl rfl ?_
      | refine Goal.guardF rfl rfl rfl rfl ?_
      | refine Goal.guardU rfl rfl rfl ?_
      | (refine Goal.guardD rfl rfl (fun hc => ?_) (fun hc => ?_) <;> first | (exfalso; omega) | contradiction | skip)
      | refine Goal.guardB rfl rfl (fun hc => ?_) (fun hc => ?_)
      | (apply G.fieldAddr; exact rfl; exact rfl; (first | exact T.fld_89_0 | exact T.fld_89_1))
      | (apply G.load; exact rfl; exact rfl; first | exact LoadOK.one (by first | exact T.one_3 | exact T.one_30) 0 rfl rfl | exact LoadOK.one (by first | exact T.one_3 | exact T.one_30) 1 rfl rfl | exact LoadOK.one (by first | exact T.one_3 | exact T.one_30) 2 rfl rfl | exact LoadOK.one (by first | exact T.one_3 | exact T.one_30) 3 rfl rfl | exact LoadOK.one (by first | exact T.one_3 | exact T.one_30) 4 rfl rfl)
      | (apply G.pickT; exact rfl; exact rfl; exact rfl)
      | (apply G.pickF; exact rfl; exact rfl; exact rfl)
      | (apply G.lss; exact rfl; exact rfl; exact rfl)
      | (apply G.geq; exact rfl; exact rfl; exact rfl)
      | (apply G.eql; exact rfl; exact rfl; exact rfl)
      | (refine Goal.quiet rfl (Run.eqlP T.ptr_80 rfl rfl rfl) ?_)
      | (apply G.len; exact rfl; exact rfl; exact T.slc_30)
      | (apply G.nilCheckP; exact rfl; exact rfl)
      | (refine G.indexAddr1 rfl T.slc_30 T.sz_3 rfl rfl _ rfl (by omega) ?_)
      | (refine G.indexAddr1 rfl T.slc_30 T.sz_3 rfl rfl _ (Int.toNat_of_nonneg (by omega)).symm (by omega) ?_))
    all_goals
      refine Goal.done (vs := [_, _]) (by first | exact .inl rfl | exact .inr rfl) Try.results86 ⟨rfl, rfl, trivial⟩ rfl (fun w' H => ⟨(), trivial, by unfold keyV; rw [if_neg hi], H⟩)
end
theorem ia_zero (n : Nat) (i : Int) : ia (List.replicate n 0) i = 0 := by
  unfold ia
  simp [List.getD_eq_getElem?_getD, List.getElem?_replicate]
  split <;> rfl
theorem Inv.zero (n : Nat) : Inv n (List.replicate n 0) (List.replicate n 0) [] :=
  ⟨by simp, by simp, fun p h0 h => by simp at h; omega, fun p h0 h => by simp at h; omega, fun i _ _ h => absurd (ia_zero n i) h, fun i _ _ _ => ia_zero n i⟩
structure NX where
  (bh bk bp : Nat) (A : List Blk)
theorem new_ok (s : Int) (hs : 0 ≤ s ∧ s ≤ 65536) (w : World) : Calls Try.prog 83 #[.int .i64 s] w
    fun e w' => ∃ x : NX, HpA x.bh x.bk x.bp s.toNat (fun _ => none) x.A ∧ e = .returned (.tuple #[.pointer (some ⟨x.bh, 0, none⟩), .int .i64 0]) ∧ St w [] w' x.A := by
  have fin : ∀ bh bk bp : Nat, HpA bh bk bp s.toNat (fun _ => none) [(bh, .cells #[.slice (some ⟨bk, 0, none⟩) s.toNat s.toNat, .slice (some ⟨bp, 0, none⟩) s.toNat s.toNat, .slice none 0 0] 89), (bk, .cells (rep s.toNat [.int .i64 0]).toArray 3), (bp, .cells (rep s.toNat [.int .i64 0]).toArray 3)] := fun bh bk bp =>
    ⟨List.replicate s.toNat 0, List.replicate s.toNat 0, [], .slice none 0 0, [], by rw [rep_ints], Sl.nil 3 1, Inv.zero _, fun q h0 h => by simp at h; omega, fun i _ _ => by rw [ia_zero, if_pos rfl]⟩
  refine Goal.enter (args := [.int .i64 s]) Try.func83 rfl Try.ntmps83 rfl (St.nil w) ?_
  repeat' (first
    | (refine Goal.drawAll (id := 3) 1 T.mixed ?_; all_goals ((refine Goal.takeP (listed' := #[Ya,No,No,No,No,No,No,No]) 0 ⟨rfl, by kernel_rfl, by kernel_rfl, by kernel_rfl, by kernel_rfl⟩ rfl (fun _ _ _ _ h => h) (by intro _; exact Run.move rfl) ?_)); all_goals ((refine Goal.takeP (listed' := #[Ya,No,Ya,No,No,No,No,No]) 2 ⟨rfl, by kernel_rfl, by kernel_rfl, by kernel_rfl, by kernel_rfl⟩ rfl (fun _ _ _ _ h => h) (by intro _; exact Run.move rfl) ?_)); all_goals (refine Goal.ready2 (i := 1) (j := 3) (by kernel_rfl) ?_ ?_); all_goals (first | ((refine Goal.up (i := 1) (listed' := #[Ya,Ya,Ya,No,No,No,No,No]) rfl (by kernel_rfl) ?_; (first | refine Loud.makeSlice rfl T.slc_30 T.inf_3 rfl rfl (by decide) rfl rfl rfl rfl (by omega) (by omega) (by omega) (fun b11 => ?_) | refine Loud.makeSlice rfl T.slc_30 T.inf_3 rfl rfl (by decide) rfl rfl (Int.toNat_of_nonneg (by omega)).symm (Int.toNat_of_nonneg (by omega)).symm (by omega) (by omega) (by omega) (fun b11 => ?_)); first | refine Goal.tail rfl ?_ | refine Goal.kept (by (first | exact s0 | exact s1 | exact s2 | exact s3 | exact sd | exact sa | exact sn (by simp))) ?_); all_goals (refine Goal.ready1 (i := 3) (by kernel_rfl) ?_); all_goals ((refine Goal.up (i := 3) (listed' := #[Ya,Ya,Ya,Ya,No,No,No,No]) rfl (by kernel_rfl) ?_; (first | refine Loud.makeSlice rfl T.slc_30 T.inf_3 rfl rfl (by decide) rfl rfl rfl rfl (by omega) (by omega) (by omega) (fun b13 => ?_) | refine Loud.makeSlice rfl T.slc_30 T.inf_3 rfl rfl (by decide) rfl rfl (Int.toNat_of_nonneg (by omega)).symm (Int.toNat_of_nonneg (by omega)).symm (by omega) (by omega) (by omega) (fun b13 => ?_)); first | refine Goal.tail rfl ?_ | refine Goal.kept (by (first | exact s0 | exact s1 | exact s2 | exact s3 | exact sd | exact sa | exact sn (by simp))) ?_)); all_goals ((refine Goal.takeP (listed' := #[Ya,Ya,Ya,Ya,Ya,No,No,No]) 4 ⟨rfl, by kernel_rfl, by kernel_rfl, by kernel_rfl, by kernel_rfl⟩ rfl (fun _ _ _ _ h => h) (by intro _; exact Run.build (cs := [_, _, _]) T.lay_89 rfl rfl) ?_)); all_goals (refine Goal.ready1 (i := 5) (by kernel_rfl) ?_); all_goals ((refine Goal.up (i := 5) (listed' := #[Ya,Ya,Ya,Ya,Ya,Ya,No,No]) rfl (by kernel_rfl) ?_; (first | refine Loud.boxA rfl rfl (fun b15 => ?_) | refine Loud.box1 rfl rfl rfl (fun b15 => ?_)); first | refine Goal.tail rfl ?_ | refine Goal.kept (by (first | exact s0 | exact s1 | exact s2 | exact s3 | exact sd | exact sa | exact sn (by simp))) ?_)); all_goals ((refine Goal.takeP (listed' := #[Ya,Ya,Ya,Ya,Ya,Ya,Ya,No]) 6 ⟨rfl, by kernel_rfl, by kernel_rfl, by kernel_rfl, by kernel_rfl⟩ rfl (fun _ _ _ _ h => h) (by intro _; exact Run.assign rfl) ?_)); all_goals ((refine Goal.takeP (listed' := #[Ya,Ya,Ya,Ya,Ya,Ya,Ya,Ya]) 7 ⟨rfl, by kernel_rfl, by kernel_rfl, by kernel_rfl, by kernel_rfl⟩ rfl (fun _ _ _ _ h => h) (by intro _; exact Run.assign rfl) ?_)); all_goals (refine Goal.allUp (by kernel_rfl) ?_)) | ((refine Goal.up (i := 3) (listed' := #[Ya,No,Ya,Ya,No,No,No,No]) rfl (by kernel_rfl) ?_; (first | refine Loud.makeSlice rfl T.slc_30 T.inf_3 rfl rfl (by decide) rfl rfl rfl rfl (by omega) (by omega) (by omega) (fun b13 => ?_) | refine Loud.makeSlice rfl T.slc_30 T.inf_3 rfl rfl (by decide) rfl rfl (Int.toNat_of_nonneg (by omega)).symm (Int.toNat_of_nonneg (by omega)).symm (by omega) (by omega) (by omega) (fun b13 => ?_)); first | refine Goal.tail rfl ?_ | refine Goal.kept (by (first | exact s0 | exact s1 | exact s2 | exact s3 | exact sd | exact sa | exact sn (by simp))) ?_); all_goals (refine Goal.ready1 (i := 1) (by kernel_rfl) ?_); all_goals ((refine Goal.up (i := 1) (listed' := #[Ya,Ya,Ya,Ya,No,No,No,No]) rfl (by kernel_rfl) ?_; (first | refine Loud.makeSlice rfl T.slc_30 T.inf_3 rfl rfl (by decide) rfl rfl rfl rfl (by omega) (by omega) (by omega) (fun b11 => ?_) | refine Loud.makeSlice rfl T.slc_30 T.inf_3 rfl rfl (by decide) rfl rfl (Int.toNat_of_nonneg (by omega)).symm (Int.toNat_of_nonneg (by omega)).symm (by omega) (by omega) (by omega) (fun b11 => ?_)); first | refine Goal.tail rfl ?_ | refine Goal.kept (by (first | exact s0 | exact s1 | exact s2 | exact s3 | exact sd | exact sa | exact sn (by simp))) ?_)); all_goals ((refine Goal.takeP (listed' := #[Ya,Ya,Ya,Ya,Ya,No,No,No]) 4 ⟨rfl, by kernel_rfl, by kernel_rfl, by kernel_rfl, by kernel_rfl⟩ rfl (fun _ _ _ _ h => h) (by intro _; exact Run.build (cs := [_, _, _]) T.lay_89 rfl rfl) ?_)); all_goals (refine Goal.ready1 (i := 5) (by kernel_rfl) ?_); all_goals ((refine Goal.up (i := 5) (listed' := #[Ya,Ya,Ya,Ya,Ya,Ya,No,No]) rfl (by kernel_rfl) ?_; (first | refine Loud.boxA rfl rfl (fun b15 => ?_) | refine Loud.box1 rfl rfl rfl (fun b15 => ?_)); first | refine Goal.tail rfl ?_ | refine Goal.kept (by (first | exact s0 | exact s1 | exact s2 | exact s3 | exact sd | exact sa | exact sn (by simp))) ?_)); all_goals ((refine Goal.takeP (listed' := #[Ya,Ya,Ya,Ya,Ya,Ya,Ya,No]) 6 ⟨rfl, by kernel_rfl, by kernel_rfl, by kernel_rfl, by kernel_rfl⟩ rfl (fun _ _ _ _ h => h) (by intro _; exact Run.assign rfl) ?_)); all_goals ((refine Goal.takeP (listed' := #[Ya,Ya,Ya,Ya,Ya,Ya,Ya,Ya]) 7 ⟨rfl, by kernel_rfl, by kernel_rfl, by kernel_rfl, by kernel_rfl⟩ rfl (fun _ _ _ _ h => h) (by intro _; exact Run.assign rfl) ?_)); all_goals (refine Goal.allUp (by kernel_rfl) ?_))))
    | (apply G.move; exact rfl; exact rfl)
    | (apply G.assign; exact rfl; exact rfl)
    | refine Goal.seq (fun _ _ => ?_)
    | refine Goal.next (by assumption) ?_
    | refine Goal.lnil ?_
    | refine Goal.region ?_
    | refine Goal.skip ?_
    | refine Goal.block ?_
    | refine Goal.exit ?_
    | refine Goal.ret ?_
    | refine Goal.then_exit ?_
    | refine Goal.then_ret ?_
    | refine Goal.inBlock_exit ?_
    | refine Goal.inBlock_normal ?_
    | refine Goal.inBlock_ret ?_
    | refine Goal.inBlock_other rfl ?_
    | (apply Goal.condT; exact rfl)
    | (apply Goal.condF; exact rfl)
    | (refine Goal.condD rfl (fun hc => ?_) (fun hc => ?_) <;> first | (exfalso; omega) | contradiction | skip)
    | refine Goal.condB rfl (fun hc => ?_) (fun hc => ?_)
    | refine Goal.guardT rfl rfl ?_
    | refine Goal.guardF rfl rfl rfl rfl ?_
    | refine Goal.guardU rfl rfl rfl ?_
    | (refine Goal.guardD rfl rfl (fun hc => ?_) (fun hc => ?_) <;> first | (exfalso; omega) | contradiction | skip)
    | refine Goal.guardB rfl rfl (fun hc => ?_) (fun hc => ?_)
    | (apply G.pickT; exact rfl; exact rfl; exact rfl)
    | (apply G.pickF; exact rfl; exact rfl; exact rfl)
    | (apply G.lss; exact rfl; exact rfl; exact rfl)
    | (apply G.gtr; exact rfl; exact rfl; exact rfl)
    | (apply G.build (cs := [_, _, _]); exact rfl; exact T.lay_89; exact rfl; exact rfl))
  · skip
    refine Goal.done (vs := [_, _]) (by first | exact .inl rfl | exact .inr rfl) Try.results83 ⟨rfl, rfl, trivial⟩ rfl (fun w' H => ⟨⟨b15, b11, b13, _⟩, fin b15 b11 b13, rfl, H.perm (.cons _ (.swap _ _ _))⟩)
  · skip
    refine Goal.done (vs := [_, _]) (by first | exact .inl rfl | exact .inr rfl) Try.results83 ⟨rfl, rfl, trivial⟩ rfl (fun w' H => ⟨⟨b15, b11, b13, _⟩, fin b15 b11 b13, rfl, H⟩)
end Go.Proofs.Ytldoplehchngfaa
