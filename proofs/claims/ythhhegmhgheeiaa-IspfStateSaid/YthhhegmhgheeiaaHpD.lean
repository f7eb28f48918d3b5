/- The heap of the program, by what it holds: Set and Remove. -/
import Derived.Test.YthhhegmhgheeiaaHpC
namespace Go.Proofs.Ythhhegmhgheeiaa
open Go.Wf
set_option linter.unusedVariables false
/-- The blocks A are those of a heap for n items that holds m. -/
def HpA (bh bk bp n : Nat) (m : Int → Option Int) (A : List Blk) : Prop := ∃ (K Pl O : List Int) (vo : Value) (Ao : List Blk),
  A = (bh, .cells #[.slice (some ⟨bk, 0, none⟩) n n, .slice (some ⟨bp, 0, none⟩) n n, vo] 114) :: (bk, .cells (ints K).toArray 3) :: (bp, .cells (ints Pl).toArray 3) :: Ao ∧
  Sl vo 3 1 O.length (ints O) Ao ∧ Inv n K Pl O ∧ Hord K O.length (ia O) ∧ ∀ i : Int, 0 ≤ i → i < n → m i = if ia Pl i = 0 then none else some (ia K i)
def upd (m : Int → Option Int) (i : Int) (o : Option Int) : Int → Option Int := fun j => if j = i then o else m j
section
variable {bh bk bp n : Nat} {m : Int → Option Int} {A : List Blk}
theorem ints_snoc (O : List Int) (i : Int) : ints O ++ [Value.int .i64 i] = ints (O ++ [i]) := by simp [ints]
theorem HpA.mk {cap bo : Nat} {rest : List Value} {K Pl O : List Int} (hI : Inv n K Pl O) (hr : O.length + rest.length = cap) (hH : Hord K O.length (ia O)) (hm : ∀ i : Int, 0 ≤ i → i < n → m i = if ia Pl i = 0 then none else some (ia K i)) : HpA bh bk bp n m (HL n bh bk bp bo O.length cap rest K Pl O) :=
  ⟨K, Pl, O, _, _, rfl, Sl.mk (by simp [ints_len]) (by rw [ints_len]; omega) (by omega), hI, hH, hm⟩
theorem HpA.mk' {l cap bo : Nat} {rest : List Value} {K Pl O : List Int} (hI : Inv n K Pl O) (hO : O.length = l) (hr : l + rest.length = cap) (hH : Hord K l (ia O)) (hm : ∀ i : Int, 0 ≤ i → i < n → m i = if ia Pl i = 0 then none else some (ia K i)) : HpA bh bk bp n m (HL n bh bk bp bo l cap rest K Pl O) := by
  subst hO; exact HpA.mk hI hr hH hm
theorem m_set {K Pl Pl2 : List Int} {i k : Int} (hK : K.length = n) (hi : 0 ≤ i ∧ i < n) (hm : ∀ j : Int, 0 ≤ j → j < n → m j = if ia Pl j = 0 then none else some (ia K j)) (h2 : ∀ j : Int, 0 ≤ j → j < n → (ia Pl2 j = 0 ↔ (j ≠ i ∧ ia Pl j = 0))) :
    ∀ j : Int, 0 ≤ j → j < n → upd m i (some k) j = if ia Pl2 j = 0 then none else some (ia (K.set i.toNat k) j) := fun j h0 hj => by
  have e2 := h2 j h0 hj
  unfold upd
  rw [ia_set (by omega) (by omega)]
  by_cases e : j = i
  · rw [if_pos e, if_neg (fun h => (e2.1 h).1 e), if_pos e.symm]
  · rw [if_neg e, hm j h0 hj, if_neg (fun e' : i = j => e e'.symm)]
    by_cases e3 : ia Pl j = 0
    · rw [if_pos e3, if_pos (e2.2 ⟨e, e3⟩)]
    · rw [if_neg e3, if_neg (fun h => e3 (e2.1 h).2)]
set_option maxHeartbeats 2000000 in
theorem set_ok (hA : HpA bh bk bp n m A) (hn : n ≤ 65536) (i k : Int) :
    MCalls Try.prog 84 [.pointer (some ⟨bh, 0, none⟩), .int .i64 i, .int .i64 k] A
      (fun A' : List Blk => HpA bh bk bp n (if 0 ≤ i ∧ i < n then upd m i (some k) else m) A') (fun _ => .int .i64 (if 0 ≤ i ∧ i < n then 0 else 2)) (fun A' => A') := .mk fun w hw => by
  obtain ⟨K, Pl, O, vo, Ao, rfl, hS, hI, hH, hm⟩ := hA
  have hPn := hI.hP
  have hKn := hI.hK
  have hle := hI.len_le
  by_cases hi : 0 ≤ i ∧ i < n
  · by_cases hz : ia Pl i = 0
    · have i1 := hI.push (k := k) hi hz
      have u1 := hI.push_up hH (k := k) hi hz
      have hle2 := i1.len_le
      have hl2 : (O ++ [i]).length = O.length + 1 := by simp
      have e1 : ia (Pl.set i.toNat ((O.length : Int) + 1)) i = O.length + 1 := by rw [ia_set (by omega) (by omega), if_pos rfl]
      have hPs : (Pl.set i.toNat ((O.length : Int) + 1)).length = n := by rw [set_len]; omega
      have hc1 : ((O.length + 1 : Nat) : Int) = O.length + 1 := by omega
      rw [← hc1] at i1 e1 hPs
      have up2 : Up (K.set i.toNat k) ((O.length + 1 : Nat) : Int) (ia (O ++ [i])) (ia (Pl.set i.toNat ((O.length + 1 : Nat) : Int)) i - 1) := by
        rw [e1, hc1, show (O.length : Int) + 1 - 1 = O.length by omega]; exact u1
      refine Goal.enter (args := [.pointer (some ⟨bh, 0, none⟩), .int .i64 i, .int .i64 k]) Try.func84 rfl Try.ntmps84 rfl (hw) ?_
      repeat' (first | (refine Goal.drawAll (id := 8) 11 T.mixed ?_; all_goals ((refine Goal.takeP (listed' := #[Ya,No,No,No,No,No,No,No,No,No,No,No]) 0 ⟨rfl, by kernel_rfl, by kernel_rfl, by kernel_rfl, by kernel_rfl⟩ rfl (fun _ _ _ _ h => h) (by intro _; exact Run.move rfl) ?_)); all_goals ((refine Goal.takeP (listed' := #[Ya,Ya,No,No,No,No,No,No,No,No,No,No]) 1 ⟨rfl, by kernel_rfl, by kernel_rfl, by kernel_rfl, by kernel_rfl⟩ rfl (fun _ _ _ _ h => h) (by intro _; exact Run.nilCheckP rfl) ?_)); all_goals ((refine Goal.takeP (listed' := #[Ya,Ya,Ya,No,No,No,No,No,No,No,No,No]) 2 ⟨rfl, by kernel_rfl, by kernel_rfl, by kernel_rfl, by kernel_rfl⟩ rfl (fun _ _ _ _ h => h) (by intro _; exact Run.fieldAddr T.fld_114_1 rfl) ?_)); all_goals ((refine Goal.takeP (listed' := #[Ya,Ya,Ya,No,Ya,No,No,No,No,No,No,No]) 4 ⟨rfl, by kernel_rfl, by kernel_rfl, by kernel_rfl, by kernel_rfl⟩ rfl (fun _ _ _ _ h => h) (by intro _; exact Run.move rfl) ?_)); all_goals ((refine Goal.takeP (listed' := #[Ya,Ya,Ya,No,Ya,Ya,No,No,No,No,No,No]) 5 ⟨rfl, by kernel_rfl, by kernel_rfl, by kernel_rfl, by kernel_rfl⟩ rfl (fun _ _ _ _ h => h) (by intro _; exact Run.move rfl) ?_)); all_goals ((refine Goal.takeP (listed' := #[Ya,Ya,Ya,No,Ya,Ya,Ya,No,No,No,No,No]) 6 ⟨rfl, by kernel_rfl, by kernel_rfl, by kernel_rfl, by kernel_rfl⟩ rfl (fun _ _ _ _ h => h) (by intro _; exact Run.nilCheckP rfl) ?_)); all_goals ((refine Goal.takeP (listed' := #[Ya,Ya,Ya,No,Ya,Ya,Ya,Ya,No,No,No,No]) 7 ⟨rfl, by kernel_rfl, by kernel_rfl, by kernel_rfl, by kernel_rfl⟩ rfl (fun _ _ _ _ h => h) (by intro _; exact Run.fieldAddr T.fld_114_2 rfl) ?_)); all_goals ((refine Goal.take (listed' := #[Ya,Ya,Ya,Ya,Ya,Ya,Ya,Ya,No,No,No,No]) 3 ⟨rfl, by kernel_rfl, by kernel_rfl, by kernel_rfl, by kernel_rfl, by kernel_rfl⟩ rfl (by (exact s0)) (fun _ _ _ _ h => h) (by (apply Run.load; exact rfl; exact LoadOK.one T.one_46 0 rfl rfl)) ?_)); all_goals ((refine Goal.take (listed' := #[Ya,Ya,Ya,Ya,Ya,Ya,Ya,Ya,Ya,No,No,No]) 8 ⟨rfl, by kernel_rfl, by kernel_rfl, by kernel_rfl, by kernel_rfl, by kernel_rfl⟩ rfl (by (exact s0)) (fun _ _ _ _ h => h) (by (apply Run.load; exact rfl; exact LoadOK.one T.one_46 0 rfl rfl)) ?_)); all_goals ((refine Goal.takeP (listed' := #[Ya,Ya,Ya,Ya,Ya,Ya,Ya,Ya,Ya,Ya,No,No]) 9 ⟨rfl, by kernel_rfl, by kernel_rfl, by kernel_rfl, by kernel_rfl⟩ rfl (fun _ _ _ _ h => h) (by intro _; exact Run.len T.slc_46 rfl) ?_)); all_goals ((refine Goal.takeP (listed' := #[Ya,Ya,Ya,Ya,Ya,Ya,Ya,Ya,Ya,Ya,Ya,No]) 10 ⟨rfl, by kernel_rfl, by kernel_rfl, by kernel_rfl, by kernel_rfl⟩ rfl (fun _ _ _ _ h => h) (by intro _; exact Run.indexAddr1 T.slc_46 T.sz_3 rfl rfl (Int.toNat_of_nonneg (by omega)).symm (by omega)) ?_)); all_goals (refine Goal.ready1 (i := 11) (by kernel_rfl) ?_); all_goals ((refine Goal.up (i := 11) (listed' := #[Ya,Ya,Ya,Ya,Ya,Ya,Ya,Ya,Ya,Ya,Ya,Ya]) rfl (by kernel_rfl) ?_; ((refine Loud.store2 rfl rfl T.sz_3 rfl rfl rfl (by rw [List.size_toArray, ints_len]; omega) (wr_ints (by omega)) ?_)); refine Goal.tail rfl ?_)); all_goals (refine Goal.allUp (by kernel_rfl) ?_)) | (refine Goal.loud (o := ⟨some 42, _, _, _, _, _⟩) rfl ?_; refine Loud.appendT rfl T.slc_46 T.inf_3 rfl [_, _, _] rfl hS rfl rfl rfl rfl (by omega) (by omega) ?_; intro v' A' hA'; rw [ints_snoc] at hA'; obtain ⟨bo, rest, cap, rfl, rfl, hv1, hv2, hv3⟩ := hA'.pos (by omega)) | (refine Goal.loud (o := ⟨some 65, _, _, _, _, _⟩) rfl ?_; refine Loud.callM [] (settle_ok i1 hl2 (by omega) (ia (Pl.set i.toNat ((O.length + 1 : Nat) : Int)) i - 1) (by omega) up2) rfl rfl rfl rfl T.bod_92 (fun _ h => h) ?_; rintro ⟨Pl2, O2⟩ ⟨s1, s2, s3, s4⟩; dsimp only at s1 s2 s3 s4 ⊢) | (refine Goal.loud (o := ⟨some 41, _, _, _, _, _⟩) rfl ?_; refine Loud.buildSlice (cs := [_]) rfl T.slc_46 T.inf_3 rfl rfl (by decide) rfl rfl rfl (fun b41 => ?_)) | (apply G.move; exact rfl; exact rfl) | (apply G.assign; exact rfl; exact rfl) | refine Goal.seq (fun _ _ => ?_) | refine Goal.next (by assumption) ?_ | refine Goal.lnil ?_ | refine Goal.region ?_ | refine Goal.skip ?_ | refine Goal.ret ?_ | (apply Goal.condF; exact rfl) | (refine Goal.condD rfl (fun hc => ?_) (fun hc => ?_) <;> first | (exfalso; omega) | skip) | refine Goal.guardT rfl rfl ?_ | (refine Goal.guardD rfl rfl (fun hc => ?_) (fun hc => ?_) <;> first | (exfalso; omega) | skip) | (apply G.fieldAddr; exact rfl; exact rfl; (first | exact T.fld_114_0 | exact T.fld_114_1 | exact T.fld_114_2)) | (apply G.load; exact rfl; exact rfl; first | exact LoadOK.ia T.one_3 2 rfl (by omega) | ((refine LoadOK.one ?_ 0 rfl rfl); exact T.one_46)) | (apply G.pickF; exact rfl; exact rfl; exact rfl) | (apply G.lss; exact rfl; exact rfl; exact rfl) | (apply G.geq; exact rfl; exact rfl; exact rfl) | (apply G.eql; exact rfl; exact rfl; exact rfl) | (apply G.sub; exact rfl; exact rfl; exact rfl; exact IntWalk.i64_in _ (by omega)) | (refine Goal.quiet rfl (Run.eqlP T.ptr_104 rfl rfl rfl) ?_) | (apply G.len; exact rfl; exact rfl; exact T.slc_46) | (apply G.nilCheckP; exact rfl; exact rfl) | (refine G.indexAddr1 rfl T.slc_46 T.sz_3 rfl rfl _ (Int.toNat_of_nonneg (by omega)).symm (by omega) ?_) | (refine Goal.loud rfl ?_; refine Loud.store1 rfl rfl T.sz_3 rfl rfl rfl (by rw [List.size_toArray, ints_len]; omega) (wr_ints (by omega)) ?_) | (refine Goal.loud rfl ?_; (refine Loud.store0 rfl rfl (by exact T.sz_46) rfl rfl rfl ?_ rfl ?_); exact Nat.le_of_ble_eq_true rfl))
      refine Goal.done (vs := [_]) (by first | exact .inl rfl | exact .inr rfl) Try.results84 ⟨rfl, trivial⟩ rfl (?_)
      · intro w' H
        refine ⟨_, ?_, by rw [if_pos hi], H⟩
        rw [if_pos hi]
        refine HpA.mk' s1 s2 (by rw [ints_len] at hv2; omega) s3 (m_set hKn hi hm fun j h0 hj => ?_)
        have e2 := s4 j h0 hj
        rw [ia_set (by omega) (by omega)] at e2
        rw [e2]
        split
        · rename_i e; constructor
          · intro h; omega
          · intro h; exact absurd e.symm h.1
        · rename_i e; exact ⟨fun h => ⟨fun e' => e e'.symm, h⟩, fun h => h.2⟩
    · have i1 := hI.rekey (k := k) hi hz
      have u1 := hI.rekey_up hH (k := k) hi hz
      have un := hI.un i hi.1 hi.2 hz
      obtain ⟨bo, rest, cap, rfl, rfl, hv1, hv2, hv3⟩ := hS.pos (by omega)
      refine Goal.enter (args := [.pointer (some ⟨bh, 0, none⟩), .int .i64 i, .int .i64 k]) Try.func84 rfl Try.ntmps84 rfl (hw) ?_
      repeat' (first | (refine Goal.loud (o := ⟨some 65, _, _, _, _, _⟩) rfl ?_; refine Loud.callM [] (settle_ok i1 rfl (by omega) (ia Pl i - 1) (by omega) u1) rfl rfl rfl rfl T.bod_92 (fun _ h => h) ?_; rintro ⟨Pl2, O2⟩ ⟨s1, s2, s3, s4⟩; dsimp only at s1 s2 s3 s4 ⊢) | (apply G.move; exact rfl; exact rfl) | (apply G.assign; exact rfl; exact rfl) | refine Goal.seq (fun _ _ => ?_) | refine Goal.next (by assumption) ?_ | refine Goal.lnil ?_ | refine Goal.region ?_ | refine Goal.skip ?_ | refine Goal.ret ?_ | (apply Goal.condF; exact rfl) | (refine Goal.condD rfl (fun hc => ?_) (fun hc => ?_) <;> first | (exfalso; omega) | skip) | refine Goal.guardT rfl rfl ?_ | (refine Goal.guardD rfl rfl (fun hc => ?_) (fun hc => ?_) <;> first | (exfalso; omega) | skip) | (apply G.fieldAddr; exact rfl; exact rfl; (first | exact T.fld_114_0 | exact T.fld_114_1)) | (apply G.load; exact rfl; exact rfl; first | exact LoadOK.ia T.one_3 2 rfl (by omega) | ((refine LoadOK.one ?_ 0 rfl rfl); exact T.one_46)) | (apply G.pickF; exact rfl; exact rfl; exact rfl) | (apply G.lss; exact rfl; exact rfl; exact rfl) | (apply G.geq; exact rfl; exact rfl; exact rfl) | (apply G.eql; exact rfl; exact rfl; exact rfl) | (apply G.sub; exact rfl; exact rfl; exact rfl; exact IntWalk.i64_in _ (by omega)) | (refine Goal.quiet rfl (Run.eqlP T.ptr_104 rfl rfl rfl) ?_) | (apply G.len; exact rfl; exact rfl; exact T.slc_46) | (apply G.nilCheckP; exact rfl; exact rfl) | (refine G.indexAddr1 rfl T.slc_46 T.sz_3 rfl rfl _ (Int.toNat_of_nonneg (by omega)).symm (by omega) ?_) | (refine Goal.loud rfl ?_; refine Loud.store1 rfl rfl T.sz_3 rfl rfl rfl (by rw [List.size_toArray, ints_len]; omega) (wr_ints (by omega)) ?_))
      refine Goal.done (vs := [_]) (by first | exact .inl rfl | exact .inr rfl) Try.results84 ⟨rfl, trivial⟩ rfl (?_)
      · intro w' H
        refine ⟨_, ?_, by rw [if_pos hi], H⟩
        rw [if_pos hi]
        refine HpA.mk' s1 s2 (by rw [ints_len] at hv2; omega) s3 (m_set hKn hi hm fun j h0 hj => ?_)
        rw [s4 j h0 hj]
        exact ⟨fun h => ⟨fun e => hz (e ▸ h), h⟩, fun h => h.2⟩
  · refine Goal.enter (args := [.pointer (some ⟨bh, 0, none⟩), .int .i64 i, .int .i64 k]) Try.func84 rfl Try.ntmps84 rfl (hw) ?_
    repeat' (first | (apply G.move; exact rfl; exact rfl) | (apply G.assign; exact rfl; exact rfl) | refine Goal.seq (fun _ _ => ?_) | refine Goal.next (by assumption) ?_ | refine Goal.lnil ?_ | refine Goal.region ?_ | refine Goal.skip ?_ | refine Goal.ret ?_ | refine Goal.then_ret ?_ | (apply Goal.condT; exact rfl) | (apply Goal.condF; exact rfl) | (refine Goal.condD rfl (fun hc => ?_) (fun hc => ?_) <;> first | (exfalso; omega) | skip) | refine Goal.guardT rfl rfl ?_ | refine Goal.guardF rfl rfl rfl rfl ?_ | (refine Goal.guardD rfl rfl (fun hc => ?_) (fun hc => ?_) <;> skip) | (apply G.fieldAddr; exact rfl; exact rfl; (exact T.fld_114_0)) | (apply G.load; exact rfl; exact rfl; ((refine LoadOK.one ?_ 0 rfl rfl); exact T.one_46)) | (apply G.pickT; exact rfl; exact rfl; exact rfl) | (apply G.pickF; exact rfl; exact rfl; exact rfl) | (apply G.lss; exact rfl; exact rfl; exact rfl) | (apply G.geq; exact rfl; exact rfl; exact rfl) | (refine Goal.quiet rfl (Run.eqlP T.ptr_104 rfl rfl rfl) ?_) | (apply G.len; exact rfl; exact rfl; exact T.slc_46) | (apply G.nilCheckP; exact rfl; exact rfl))
    all_goals
      refine Goal.done (vs := [_]) (by first | exact .inl rfl | exact .inr rfl) Try.results84 ⟨rfl, trivial⟩ rfl (fun w' H => ⟨_, by rw [if_neg hi]; exact ⟨K, Pl, O, vo, Ao, rfl, hS, hI, hH, hm⟩, by rw [if_neg hi], H⟩)
end
end Go.Proofs.Ythhhegmhgheeiaa
