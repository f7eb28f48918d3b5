/- The heap of the document, by what it holds. -/
import Derived.Test.YtknkakaffjhlmaaHpG
namespace Go.Proofs.Ytknkakaffjhlmaa
open Go.Wf
set_option linter.unusedVariables false
theorem ba_set {l : List Bool} {i j : Int} {x : Bool} (hi : 0 ≤ i ∧ i < l.length) (hj : 0 ≤ j ∧ j < l.length) : ba (l.set i.toNat x) j = if i = j then x else ba l j := by
  unfold ba
  split
  · subst_vars
    have : j.toNat < l.length := by omega
    simp [List.getD_eq_getElem?_getD, this]
  · have : i.toNat ≠ j.toNat := by omega
    simp [List.getD_eq_getElem?_getD, List.getElem?_set_ne this]
theorem bset_len (l : List Bool) (i : Nat) (x : Bool) : (l.set i x).length = l.length := by simp
theorem ba_zero (n : Nat) (i : Int) : ba (List.replicate n false) i = false := by
  unfold ba
  simp [List.getD_eq_getElem?_getD, List.getElem?_replicate]
  split <;> rfl
/-- The blocks A are those of the document's heap for n items that holds m. -/
def RpA (br bh bk n : Nat) (m : Int → Option Int) (A : List Blk) : Prop := ∃ (Has : List Bool) (Keys : List Int),
  A = [(br, .cells #[.slice (some ⟨bh, 0, none⟩) n n, .slice (some ⟨bk, 0, none⟩) n n] 52), (bh, .cells (bools Has).toArray 4), (bk, .cells (ints Keys).toArray 3)] ∧
  Has.length = n ∧ Keys.length = n ∧ ∀ i : Int, 0 ≤ i → i < n → m i = if ba Has i = true then some (ia Keys i) else none
section
variable {br bh bk n : Nat} {m : Int → Option Int} {A : List Blk}
theorem in_ok {Has : List Bool} {Keys : List Int} (i : Int) (A : List Blk) (hA : A = [(br, .cells #[.slice (some ⟨bh, 0, none⟩) n n, .slice (some ⟨bk, 0, none⟩) n n] 52), (bh, .cells (bools Has).toArray 4), (bk, .cells (ints Keys).toArray 3)]) :
    MCalls Try.prog 23 [.pointer (some ⟨br, 0, none⟩), .int .i64 i] A (fun _ : Unit => True) (fun _ => .bool (decide (0 ≤ i ∧ i < n))) (fun _ => A) := .mk fun w hw => by
  subst hA
  refine Goal.enter (args := [.pointer (some ⟨br, 0, none⟩), .int .i64 i]) Try.func23 rfl Try.ntmps23 rfl (hw) ?_
  repeat' (first
    | (apply G.move; exact rfl; exact rfl)
    | (apply G.assign; exact rfl; exact rfl)
    | refine Goal.seq (fun _ _ => ?_)
    | refine Goal.next (by assumption) ?_
    | refine Goal.lnil ?_
    | refine Goal.region ?_
    | refine Goal.skip ?_
    | refine Goal.block ?_
    | refine Goal.exit ?_
    | refine Goal.ret ?_
    | refine Goal.then_exit ?_
    | refine Goal.then_ret ?_
    | refine Goal.inBlock_exit ?_
    | refine Goal.inBlock_normal ?_
    | refine Goal.inBlock_ret ?_
    | refine Goal.inBlock_other rfl ?_
    | (apply Goal.condT; exact rfl)
    | (apply Goal.condF; exact rfl)
    | (refine Goal.condD rfl (fun hc => ?_) (fun hc => ?_) <;> first | (exfalso; omega) | contradiction | skip)
    | refine Goal.condB rfl (fun hc => ?_) (fun hc => ?_)
    | refine Goal.guardT rfl rfl ?_
    | refine Goal.guardF rfl rfl rfl rfl ?_
    | refine Goal.guardU rfl rfl rfl ?_
    | (refine Goal.guardD rfl rfl (fun hc => ?_) (fun hc => ?_) <;> first | (exfalso; omega) | contradiction | skip)
    | refine Goal.guardB rfl rfl (fun hc => ?_) (fun hc => ?_)
    | (apply G.fieldAddr; exact rfl; exact rfl; exact T.fld_52_0)
    | (apply G.load; exact rfl; exact rfl; first | exact LoadOK.one T.one_29 0 rfl rfl | exact LoadOK.one T.one_29 1 rfl rfl | exact LoadOK.one T.one_29 2 rfl rfl | exact LoadOK.one T.one_29 3 rfl rfl | exact LoadOK.one T.one_29 4 rfl rfl | exact LoadOK.one T.one_29 5 rfl rfl | exact LoadOK.one T.one_29 6 rfl rfl | exact LoadOK.one T.one_29 7 rfl rfl)
    | (apply G.pickT; exact rfl; exact rfl; exact rfl)
    | (apply G.pickF; exact rfl; exact rfl; exact rfl)
    | (apply G.lss; exact rfl; exact rfl; exact rfl)
    | (apply G.geq; exact rfl; exact rfl; exact rfl)
    | (apply G.len; exact rfl; exact rfl; exact T.slc_29)
    | (apply G.nilCheckP; exact rfl; exact rfl))
  all_goals
    refine Goal.done (vs := [_]) (by first | exact .inl rfl | exact .inr rfl) Try.results23 ⟨rfl, trivial⟩ rfl (fun w' H => ⟨(), trivial, ret_bool (by first | exact (decide_eq_true (by omega)).symm | exact (decide_eq_false (by omega)).symm | exact decide_eq_decide.2 (by omega)), H⟩)
theorem rset_ok (hA : RpA br bh bk n m A) (i k : Int) :
    MCalls Try.prog 13 [.pointer (some ⟨br, 0, none⟩), .int .i64 i, .int .i64 k] A
      (fun A' : List Blk => RpA br bh bk n (if 0 ≤ i ∧ i < n then upd m i (some k) else m) A') (fun _ => .int .i64 (if 0 ≤ i ∧ i < n then 0 else 2)) (fun A' => A') := .mk fun w hw => by
  obtain ⟨Has, Keys, hA, h1, h2, hm⟩ := hA
  have hA' := hA
  subst hA
  by_cases hi : 0 ≤ i ∧ i < n
  · refine Goal.enter (args := [.pointer (some ⟨br, 0, none⟩), .int .i64 i, .int .i64 k]) Try.func13 rfl Try.ntmps13 rfl (hw) ?_
    repeat' (first
      | (refine Goal.drawAll (id := 3) 12 T.mixed ?_; all_goals ((refine Goal.takeP (listed' := #[true, false, false, false, false, false, false, false, false, false, false, false, false, false, false]) 0 ⟨rfl, by kernel_rfl, by kernel_rfl, by kernel_rfl, by kernel_rfl⟩ rfl (fun _ _ _ _ h => h) (by intro _; exact Run.move rfl) ?_)); all_goals ((refine Goal.takeP (listed' := #[true, true, false, false, false, false, false, false, false, false, false, false, false, false, false]) 1 ⟨rfl, by kernel_rfl, by kernel_rfl, by kernel_rfl, by kernel_rfl⟩ rfl (fun _ _ _ _ h => h) (by intro _; exact Run.nilCheckP rfl) ?_)); all_goals ((refine Goal.takeP (listed' := #[true, true, true, false, false, false, false, false, false, false, false, false, false, false, false]) 2 ⟨rfl, by kernel_rfl, by kernel_rfl, by kernel_rfl, by kernel_rfl⟩ rfl (fun _ _ _ _ h => h) (by intro _; exact Run.fieldAddr T.fld_52_0 rfl) ?_)); all_goals ((refine Goal.takeP (listed' := #[true, true, true, false, true, false, false, false, false, false, false, false, false, false, false]) 4 ⟨rfl, by kernel_rfl, by kernel_rfl, by kernel_rfl, by kernel_rfl⟩ rfl (fun _ _ _ _ h => h) (by intro _; exact Run.move rfl) ?_)); all_goals ((refine Goal.takeP (listed' := #[true, true, true, false, true, true, false, false, false, false, false, false, false, false, false]) 5 ⟨rfl, by kernel_rfl, by kernel_rfl, by kernel_rfl, by kernel_rfl⟩ rfl (fun _ _ _ _ h => h) (by intro _; exact Run.move rfl) ?_)); all_goals ((refine Goal.takeP (listed' := #[true, true, true, false, true, true, true, false, false, false, false, false, false, false, false]) 6 ⟨rfl, by kernel_rfl, by kernel_rfl, by kernel_rfl, by kernel_rfl⟩ rfl (fun _ _ _ _ h => h) (by intro _; exact Run.nilCheckP rfl) ?_)); all_goals ((refine Goal.takeP (listed' := #[true, true, true, false, true, true, true, true, false, false, false, false, false, false, false]) 7 ⟨rfl, by kernel_rfl, by kernel_rfl, by kernel_rfl, by kernel_rfl⟩ rfl (fun _ _ _ _ h => h) (by intro _; exact Run.fieldAddr T.fld_52_1 rfl) ?_)); all_goals ((refine Goal.takeP (listed' := #[true, true, true, false, true, true, true, true, false, true, false, false, false, false, false]) 9 ⟨rfl, by kernel_rfl, by kernel_rfl, by kernel_rfl, by kernel_rfl⟩ rfl (fun _ _ _ _ h => h) (by intro _; exact Run.move rfl) ?_)); all_goals ((refine Goal.takeP (listed' := #[true, true, true, false, true, true, true, true, false, true, true, false, false, false, false]) 10 ⟨rfl, by kernel_rfl, by kernel_rfl, by kernel_rfl, by kernel_rfl⟩ rfl (fun _ _ _ _ h => h) (by intro _; exact Run.move rfl) ?_)); all_goals ((refine Goal.take (listed' := #[true, true, true, true, true, true, true, true, false, true, true, false, false, false, false]) 3 ⟨rfl, by kernel_rfl, by kernel_rfl, by kernel_rfl, by kernel_rfl, by kernel_rfl⟩ rfl (by (first | exact fun _ h => h | exact fun _ h => h.sub (.cons _ (.refl _)) | exact fun _ h => h.sub (.cons _ (.cons _ (.refl _))) | exact fun _ h => h.sub (.cons _ (.cons _ (.cons _ (.refl _)))) | exact fun _ h => h.drop)) (fun _ _ _ _ h => h) (by (apply Run.load; exact rfl; first | exact LoadOK.one T.one_29 0 rfl rfl | exact LoadOK.one T.one_29 1 rfl rfl | exact LoadOK.one T.one_29 2 rfl rfl | exact LoadOK.one T.one_29 3 rfl rfl | exact LoadOK.one T.one_29 4 rfl rfl | exact LoadOK.one T.one_29 5 rfl rfl | exact LoadOK.one T.one_29 6 rfl rfl | exact LoadOK.one T.one_29 7 rfl rfl)) ?_)); all_goals ((refine Goal.take (listed' := #[true, true, true, true, true, true, true, true, true, true, true, false, false, false, false]) 8 ⟨rfl, by kernel_rfl, by kernel_rfl, by kernel_rfl, by kernel_rfl, by kernel_rfl⟩ rfl (by (first | exact fun _ h => h | exact fun _ h => h.sub (.cons _ (.refl _)) | exact fun _ h => h.sub (.cons _ (.cons _ (.refl _))) | exact fun _ h => h.sub (.cons _ (.cons _ (.cons _ (.refl _)))) | exact fun _ h => h.drop)) (fun _ _ _ _ h => h) (by (apply Run.load; exact rfl; first | exact LoadOK.one T.one_22 0 rfl rfl | exact LoadOK.one T.one_22 1 rfl rfl | exact LoadOK.one T.one_22 2 rfl rfl | exact LoadOK.one T.one_22 3 rfl rfl | exact LoadOK.one T.one_22 4 rfl rfl | exact LoadOK.one T.one_22 5 rfl rfl | exact LoadOK.one T.one_22 6 rfl rfl | exact LoadOK.one T.one_22 7 rfl rfl)) ?_)); all_goals ((refine Goal.takeP (listed' := #[true, true, true, true, true, true, true, true, true, true, true, true, false, false, false]) 11 ⟨rfl, by kernel_rfl, by kernel_rfl, by kernel_rfl, by kernel_rfl⟩ rfl (fun _ _ _ _ h => h) (by intro _; first | exact Run.indexAddr1 T.slc_29 T.sz_4 rfl rfl rfl (by omega) | exact Run.indexAddr1 T.slc_29 T.sz_4 rfl rfl (Int.toNat_of_nonneg (by omega)).symm (by omega)) ?_)); all_goals (refine Goal.ready1 (i := 12) (by kernel_rfl) ?_); all_goals ((refine Goal.up (i := 12) (listed' := #[true, true, true, true, true, true, true, true, true, true, true, true, true, false, false]) rfl (by kernel_rfl) ?_; (first | refine Loud.store1 rfl rfl T.sz_4 rfl rfl rfl (by rw [List.size_toArray, bools_len]; omega) (wr_bools (by omega)) ?_ | refine Loud.store2 rfl rfl T.sz_4 rfl rfl rfl (by rw [List.size_toArray, ints_len]; omega) (wr_ints (by omega)) ?_ | refine Loud.store0 rfl rfl T.sz_4 rfl rfl rfl (by first | exact Nat.le_refl _ | decide | (simp; omega)) rfl ?_ | refine Loud.store1 rfl rfl T.sz_4 rfl rfl rfl (by first | exact Nat.le_refl _ | decide | (simp; omega)) rfl ?_ | refine Loud.store2 rfl rfl T.sz_4 rfl rfl rfl (by first | exact Nat.le_refl _ | decide | (simp; omega)) rfl ?_ | refine Loud.store3 rfl rfl T.sz_4 rfl rfl rfl (by first | exact Nat.le_refl _ | decide | (simp; omega)) rfl ?_ | refine Loud.store4 rfl rfl T.sz_4 rfl rfl rfl (by first | exact Nat.le_refl _ | decide | (simp; omega)) rfl ?_ | refine Loud.store5 rfl rfl T.sz_4 rfl rfl rfl (by first | exact Nat.le_refl _ | decide | (simp; omega)) rfl ?_ | refine Loud.store6 rfl rfl T.sz_4 rfl rfl rfl (by first | exact Nat.le_refl _ | decide | (simp; omega)) rfl ?_ | refine Loud.store7 rfl rfl T.sz_4 rfl rfl rfl (by first | exact Nat.le_refl _ | decide | (simp; omega)) rfl ?_); first | refine Goal.tail rfl ?_ | refine Goal.kept (by (first | exact fun _ h => h | exact fun _ h => h.sub (.cons _ (.refl _)) | exact fun _ h => h.sub (.cons _ (.cons _ (.refl _))) | exact fun _ h => h.sub (.cons _ (.cons _ (.cons _ (.refl _)))) | exact fun _ h => h.drop)) ?_)); all_goals ((refine Goal.takeP (listed' := #[true, true, true, true, true, true, true, true, true, true, true, true, true, true, false]) 13 ⟨rfl, by kernel_rfl, by kernel_rfl, by kernel_rfl, by kernel_rfl⟩ rfl (fun _ _ _ _ h => h) (by intro _; first | exact Run.indexAddr1 T.slc_22 T.sz_3 rfl rfl rfl (by omega) | exact Run.indexAddr1 T.slc_22 T.sz_3 rfl rfl (Int.toNat_of_nonneg (by omega)).symm (by omega)) ?_)); all_goals (refine Goal.ready1 (i := 14) (by kernel_rfl) ?_); all_goals ((refine Goal.up (i := 14) (listed' := #[true, true, true, true, true, true, true, true, true, true, true, true, true, true, true]) rfl (by kernel_rfl) ?_; (first | refine Loud.store1 rfl rfl T.sz_3 rfl rfl rfl (by rw [List.size_toArray, bools_len]; omega) (wr_bools (by omega)) ?_ | refine Loud.store2 rfl rfl T.sz_3 rfl rfl rfl (by rw [List.size_toArray, ints_len]; omega) (wr_ints (by omega)) ?_ | refine Loud.store0 rfl rfl T.sz_3 rfl rfl rfl (by first | exact Nat.le_refl _ | decide | (simp; omega)) rfl ?_ | refine Loud.store1 rfl rfl T.sz_3 rfl rfl rfl (by first | exact Nat.le_refl _ | decide | (simp; omega)) rfl ?_ | refine Loud.store2 rfl rfl T.sz_3 rfl rfl rfl (by first | exact Nat.le_refl _ | decide | (simp; omega)) rfl ?_ | refine Loud.store3 rfl rfl T.sz_3 rfl rfl rfl (by first | exact Nat.le_refl _ | decide | (simp; omega)) rfl ?_ | refine Loud.store4 rfl rfl T.sz_3 rfl rfl rfl (by first | exact Nat.le_refl _ | decide | (simp; omega)) rfl ?_ | refine Loud.store5 rfl rfl T.sz_3 rfl rfl rfl (by first | exact Nat.le_refl _ | decide | (simp; omega)) rfl ?_ | refine Loud.store6 rfl rfl T.sz_3 rfl rfl rfl (by first | exact Nat.le_refl _ | decide | (simp; omega)) rfl ?_ | refine Loud.store7 rfl rfl T.sz_3 rfl rfl rfl (by first | exact Nat.le_refl _ | decide | (simp; omega)) rfl ?_); first | refine Goal.tail rfl ?_ | refine Goal.kept (by (first | exact fun _ h => h | exact fun _ h => h.sub (.cons _ (.refl _)) | exact fun _ h => h.sub (.cons _ (.cons _ (.refl _))) | exact fun _ h => h.sub (.cons _ (.cons _ (.cons _ (.refl _)))) | exact fun _ h => h.drop)) ?_)); all_goals (refine Goal.allUp (by kernel_rfl) ?_))
      | (refine Goal.loud (o := ⟨some 9, _, _, _, _, _⟩) rfl ?_; refine Loud.callE ([]) (in_ok i _ rfl) rfl rfl rfl rfl T.bod_23 (fun _ h => h) ?_; rintro ⟨⟩ -; rw [decide_eq_true hi])
      | (apply G.move; exact rfl; exact rfl)
      | (apply G.assign; exact rfl; exact rfl)
      | refine Goal.seq (fun _ _ => ?_)
      | refine Goal.next (by assumption) ?_
      | refine Goal.lnil ?_
      | refine Goal.region ?_
      | refine Goal.skip ?_
      | refine Goal.block ?_
      | refine Goal.exit ?_
      | refine Goal.ret ?_
      | refine Goal.then_exit ?_
      | refine Goal.then_ret ?_
      | refine Goal.inBlock_exit ?_
      | refine Goal.inBlock_normal ?_
      | refine Goal.inBlock_ret ?_
      | refine Goal.inBlock_other rfl ?_
      | (apply Goal.condT; exact rfl)
      | (apply Goal.condF; exact rfl)
      | (refine Goal.condD rfl (fun hc => ?_) (fun hc => ?_) <;> first | (exfalso; omega) | contradiction | skip)
      | refine Goal.condB rfl (fun hc => ?_) (fun hc => ?_)
      | (apply G.fieldAddr; exact rfl; exact rfl; (first | exact T.fld_52_0 | exact T.fld_52_1))
      | (apply G.load; exact rfl; exact rfl; first | exact LoadOK.one (by first | exact T.one_22 | exact T.one_29) 0 rfl rfl | exact LoadOK.one (by first | exact T.one_22 | exact T.one_29) 1 rfl rfl | exact LoadOK.one (by first | exact T.one_22 | exact T.one_29) 2 rfl rfl | exact LoadOK.one (by first | exact T.one_22 | exact T.one_29) 3 rfl rfl | exact LoadOK.one (by first | exact T.one_22 | exact T.one_29) 4 rfl rfl | exact LoadOK.one (by first | exact T.one_22 | exact T.one_29) 5 rfl rfl | exact LoadOK.one (by first | exact T.one_22 | exact T.one_29) 6 rfl rfl | exact LoadOK.one (by first | exact T.one_22 | exact T.one_29) 7 rfl rfl)
      | (apply G.notT; exact rfl; exact rfl)
      | (apply G.notF; exact rfl; exact rfl)
      | (refine G.notD rfl rfl ?_)
      | (apply G.notB; exact rfl; exact rfl)
      | (apply G.nilCheckP; exact rfl; exact rfl)
      | (refine G.indexAddr1 rfl (by first | exact T.slc_22 | exact T.slc_29) (by first | exact T.sz_3 | exact T.sz_4) rfl rfl _ rfl (by omega) ?_)
      | (refine G.indexAddr1 rfl (by first | exact T.slc_22 | exact T.slc_29) (by first | exact T.sz_3 | exact T.sz_4) rfl rfl _ (Int.toNat_of_nonneg (by omega)).symm (by omega) ?_)
      | (refine Goal.loud rfl ?_; refine Loud.store1 rfl rfl T.sz_4 rfl rfl rfl (by rw [List.size_toArray, bools_len]; omega) (wr_bools (by omega)) ?_)
      | (refine Goal.loud rfl ?_; refine Loud.store2 rfl rfl T.sz_3 rfl rfl rfl (by rw [List.size_toArray, ints_len]; omega) (wr_ints (by omega)) ?_)
      | (refine Goal.loud rfl ?_; refine Loud.store0 rfl rfl (by first | exact T.sz_3 | exact T.sz_4) rfl rfl rfl (by first | exact Nat.le_refl _ | decide | (simp; omega)) rfl ?_)
      | (refine Goal.loud rfl ?_; refine Loud.store1 rfl rfl (by first | exact T.sz_3 | exact T.sz_4) rfl rfl rfl (by first | exact Nat.le_refl _ | decide | (simp; omega)) rfl ?_)
      | (refine Goal.loud rfl ?_; refine Loud.store2 rfl rfl (by first | exact T.sz_3 | exact T.sz_4) rfl rfl rfl (by first | exact Nat.le_refl _ | decide | (simp; omega)) rfl ?_)
      | (refine Goal.loud rfl ?_; refine Loud.store3 rfl rfl (by first | exact T.sz_3 | exact T.sz_4) rfl rfl rfl (by first | exact Nat.le_refl _ | decide | (simp; omega)) rfl ?_)
      | (refine Goal.loud rfl ?_; refine Loud.store4 rfl rfl (by first | exact T.sz_3 | exact T.sz_4) rfl rfl rfl (by first | exact Nat.le_refl _ | decide | (simp; omega)) rfl ?_)
      | (refine Goal.loud rfl ?_; refine Loud.store5 rfl rfl (by first | exact T.sz_3 | exact T.sz_4) rfl rfl rfl (by first | exact Nat.le_refl _ | decide | (simp; omega)) rfl ?_)
      | (refine Goal.loud rfl ?_; refine Loud.store6 rfl rfl (by first | exact T.sz_3 | exact T.sz_4) rfl rfl rfl (by first | exact Nat.le_refl _ | decide | (simp; omega)) rfl ?_)
      | (refine Goal.loud rfl ?_; refine Loud.store7 rfl rfl (by first | exact T.sz_3 | exact T.sz_4) rfl rfl rfl (by first | exact Nat.le_refl _ | decide | (simp; omega)) rfl ?_))
    refine Goal.done (vs := [_]) (by first | exact .inl rfl | exact .inr rfl) Try.results13 ⟨rfl, trivial⟩ rfl (?_)
    · intro w' H
      refine ⟨_, ?_, by rw [if_pos hi], H⟩
      rw [if_pos hi]
      refine ⟨_, _, rfl, by simp [h1], by simp [h2], fun j h0 hj => ?_⟩
      unfold upd
      rw [ba_set (by omega) (by omega), ia_set (by omega) (by omega)]
      by_cases e : j = i
      · rw [if_pos e, if_pos e.symm, if_pos rfl, if_pos e.symm]
      · rw [if_neg e, if_neg (fun e' : i = j => e e'.symm), if_neg (fun e' : i = j => e e'.symm)]
        exact hm j h0 hj
  · refine Goal.enter (args := [.pointer (some ⟨br, 0, none⟩), .int .i64 i, .int .i64 k]) Try.func13 rfl Try.ntmps13 rfl (hw) ?_
    repeat' (first
      | (refine Goal.loud (o := ⟨some 9, _, _, _, _, _⟩) rfl ?_; refine Loud.callE ([]) (in_ok i _ rfl) rfl rfl rfl rfl T.bod_23 (fun _ h => h) ?_; rintro ⟨⟩ -; rw [decide_eq_false hi])
      | (apply G.move; exact rfl; exact rfl)
      | (apply G.assign; exact rfl; exact rfl)
      | refine Goal.seq (fun _ _ => ?_)
      | refine Goal.next (by assumption) ?_
      | refine Goal.lnil ?_
      | refine Goal.region ?_
      | refine Goal.skip ?_
      | refine Goal.block ?_
      | refine Goal.exit ?_
      | refine Goal.ret ?_
      | refine Goal.then_exit ?_
      | refine Goal.then_ret ?_
      | refine Goal.inBlock_exit ?_
      | refine Goal.inBlock_normal ?_
      | refine Goal.inBlock_ret ?_
      | refine Goal.inBlock_other rfl ?_
      | (apply Goal.condT; exact rfl)
      | (apply Goal.condF; exact rfl)
      | (refine Goal.condD rfl (fun hc => ?_) (fun hc => ?_) <;> first | (exfalso; omega) | contradiction | skip)
      | refine Goal.condB rfl (fun hc => ?_) (fun hc => ?_)
      | (apply G.fieldAddr; exact rfl; exact rfl; (first | exact T.fld_52_0 | exact T.fld_52_1))
      | (apply G.load; exact rfl; exact rfl; first | exact LoadOK.one (by first | exact T.one_22 | exact T.one_29) 0 rfl rfl | exact LoadOK.one (by first | exact T.one_22 | exact T.one_29) 1 rfl rfl | exact LoadOK.one (by first | exact T.one_22 | exact T.one_29) 2 rfl rfl | exact LoadOK.one (by first | exact T.one_22 | exact T.one_29) 3 rfl rfl | exact LoadOK.one (by first | exact T.one_22 | exact T.one_29) 4 rfl rfl | exact LoadOK.one (by first | exact T.one_22 | exact T.one_29) 5 rfl rfl | exact LoadOK.one (by first | exact T.one_22 | exact T.one_29) 6 rfl rfl | exact LoadOK.one (by first | exact T.one_22 | exact T.one_29) 7 rfl rfl)
      | (apply G.notT; exact rfl; exact rfl)
      | (apply G.notF; exact rfl; exact rfl)
      | (refine G.notD rfl rfl ?_)
      | (apply G.notB; exact rfl; exact rfl)
      | (apply G.nilCheckP; exact rfl; exact rfl)
      | (refine G.indexAddr1 rfl (by first | exact T.slc_22 | exact T.slc_29) (by first | exact T.sz_3 | exact T.sz_4) rfl rfl _ rfl (by omega) ?_)
      | (refine G.indexAddr1 rfl (by first | exact T.slc_22 | exact T.slc_29) (by first | exact T.sz_3 | exact T.sz_4) rfl rfl _ (Int.toNat_of_nonneg (by omega)).symm (by omega) ?_)
      | (refine Goal.loud rfl ?_; refine Loud.store0 rfl rfl (by first | exact T.sz_3 | exact T.sz_4) rfl rfl rfl (by first | exact Nat.le_refl _ | decide | (simp; omega)) rfl ?_)
      | (refine Goal.loud rfl ?_; refine Loud.store1 rfl rfl (by first | exact T.sz_3 | exact T.sz_4) rfl rfl rfl (by first | exact Nat.le_refl _ | decide | (simp; omega)) rfl ?_)
      | (refine Goal.loud rfl ?_; refine Loud.store2 rfl rfl (by first | exact T.sz_3 | exact T.sz_4) rfl rfl rfl (by first | exact Nat.le_refl _ | decide | (simp; omega)) rfl ?_)
      | (refine Goal.loud rfl ?_; refine Loud.store3 rfl rfl (by first | exact T.sz_3 | exact T.sz_4) rfl rfl rfl (by first | exact Nat.le_refl _ | decide | (simp; omega)) rfl ?_)
      | (refine Goal.loud rfl ?_; refine Loud.store4 rfl rfl (by first | exact T.sz_3 | exact T.sz_4) rfl rfl rfl (by first | exact Nat.le_refl _ | decide | (simp; omega)) rfl ?_)
      | (refine Goal.loud rfl ?_; refine Loud.store5 rfl rfl (by first | exact T.sz_3 | exact T.sz_4) rfl rfl rfl (by first | exact Nat.le_refl _ | decide | (simp; omega)) rfl ?_)
      | (refine Goal.loud rfl ?_; refine Loud.store6 rfl rfl (by first | exact T.sz_3 | exact T.sz_4) rfl rfl rfl (by first | exact Nat.le_refl _ | decide | (simp; omega)) rfl ?_)
      | (refine Goal.loud rfl ?_; refine Loud.store7 rfl rfl (by first | exact T.sz_3 | exact T.sz_4) rfl rfl rfl (by first | exact Nat.le_refl _ | decide | (simp; omega)) rfl ?_))
    refine Goal.done (vs := [_]) (by first | exact .inl rfl | exact .inr rfl) Try.results13 ⟨rfl, trivial⟩ rfl (fun w' H => ⟨_, by rw [if_neg hi]; exact ⟨Has, Keys, rfl, h1, h2, hm⟩, by rw [if_neg hi], H⟩)
theorem rremove_ok (hA : RpA br bh bk n m A) (i : Int) :
    MCalls Try.prog 15 [.pointer (some ⟨br, 0, none⟩), .int .i64 i] A
      (fun A' : List Blk => RpA br bh bk n (if 0 ≤ i ∧ i < n then upd m i none else m) A') (fun _ => .int .i64 (if 0 ≤ i ∧ i < n then (if m i = none then 8 else 0) else 2)) (fun A' => A') := .mk fun w hw => by
  obtain ⟨Has, Keys, hA, h1, h2, hm⟩ := hA
  have hA' := hA
  subst hA
  by_cases hi : 0 ≤ i ∧ i < n
  · have hmi := hm i hi.1 hi.2
    by_cases hz : ba Has i = true
    · rw [if_pos hz] at hmi
      have hmi2 : ¬ m i = none := by rw [hmi]; exact fun h => by cases h
      refine Goal.enter (args := [.pointer (some ⟨br, 0, none⟩), .int .i64 i]) Try.func15 rfl Try.ntmps15 rfl (hw) ?_
      repeat' (first
        | (refine Goal.loud (o := ⟨some 7, _, _, _, _, _⟩) rfl ?_; refine Loud.callE ([]) (in_ok i _ rfl) rfl rfl rfl rfl T.bod_23 (fun _ h => h) ?_; rintro ⟨⟩ -; rw [decide_eq_true hi])
        | (apply G.move; exact rfl; exact rfl)
        | (apply G.assign; exact rfl; exact rfl)
        | refine Goal.seq (fun _ _ => ?_)
        | refine Goal.next (by assumption) ?_
        | refine Goal.lnil ?_
        | refine Goal.region ?_
        | refine Goal.skip ?_
        | refine Goal.block ?_
        | refine Goal.exit ?_
        | refine Goal.ret ?_
        | refine Goal.then_exit ?_
        | refine Goal.then_ret ?_
        | refine Goal.inBlock_exit ?_
        | refine Goal.inBlock_normal ?_
        | refine Goal.inBlock_ret ?_
        | refine Goal.inBlock_other rfl ?_
        | (apply Goal.condT; exact rfl)
        | (apply Goal.condF; exact rfl)
        | (refine Goal.condD rfl (fun hc => ?_) (fun hc => ?_) <;> first | (exfalso; omega) | contradiction | skip)
        | refine Goal.condB rfl (fun hc => ?_) (fun hc => ?_)
        | (apply G.fieldAddr; exact rfl; exact rfl; exact T.fld_52_0)
        | (apply G.load; exact rfl; exact rfl; first | exact LoadOK.baE T.one_4 1 rfl (by omega) hz | exact LoadOK.one (by first | exact T.one_4 | exact T.one_29) 0 rfl rfl | exact LoadOK.one (by first | exact T.one_4 | exact T.one_29) 1 rfl rfl | exact LoadOK.one (by first | exact T.one_4 | exact T.one_29) 2 rfl rfl | exact LoadOK.one (by first | exact T.one_4 | exact T.one_29) 3 rfl rfl | exact LoadOK.one (by first | exact T.one_4 | exact T.one_29) 4 rfl rfl | exact LoadOK.one (by first | exact T.one_4 | exact T.one_29) 5 rfl rfl | exact LoadOK.one (by first | exact T.one_4 | exact T.one_29) 6 rfl rfl | exact LoadOK.one (by first | exact T.one_4 | exact T.one_29) 7 rfl rfl)
        | (apply G.notT; exact rfl; exact rfl)
        | (apply G.notF; exact rfl; exact rfl)
        | (refine G.notD rfl rfl ?_)
        | (apply G.notB; exact rfl; exact rfl)
        | (apply G.nilCheckP; exact rfl; exact rfl)
        | (refine G.indexAddr1 rfl T.slc_29 T.sz_4 rfl rfl _ rfl (by omega) ?_)
        | (refine G.indexAddr1 rfl T.slc_29 T.sz_4 rfl rfl _ (Int.toNat_of_nonneg (by omega)).symm (by omega) ?_)
        | (refine Goal.loud rfl ?_; refine Loud.store1 rfl rfl T.sz_4 rfl rfl rfl (by rw [List.size_toArray, bools_len]; omega) (wr_bools (by omega)) ?_)
        | (refine Goal.loud rfl ?_; refine Loud.store0 rfl rfl T.sz_4 rfl rfl rfl (by first | exact Nat.le_refl _ | decide | (simp; omega)) rfl ?_)
        | (refine Goal.loud rfl ?_; refine Loud.store1 rfl rfl T.sz_4 rfl rfl rfl (by first | exact Nat.le_refl _ | decide | (simp; omega)) rfl ?_)
        | (refine Goal.loud rfl ?_; refine Loud.store2 rfl rfl T.sz_4 rfl rfl rfl (by first | exact Nat.le_refl _ | decide | (simp; omega)) rfl ?_)
        | (refine Goal.loud rfl ?_; refine Loud.store3 rfl rfl T.sz_4 rfl rfl rfl (by first | exact Nat.le_refl _ | decide | (simp; omega)) rfl ?_)
        | (refine Goal.loud rfl ?_; refine Loud.store4 rfl rfl T.sz_4 rfl rfl rfl (by first | exact Nat.le_refl _ | decide | (simp; omega)) rfl ?_)
        | (refine Goal.loud rfl ?_; refine Loud.store5 rfl rfl T.sz_4 rfl rfl rfl (by first | exact Nat.le_refl _ | decide | (simp; omega)) rfl ?_)
        | (refine Goal.loud rfl ?_; refine Loud.store6 rfl rfl T.sz_4 rfl rfl rfl (by first | exact Nat.le_refl _ | decide | (simp; omega)) rfl ?_)
        | (refine Goal.loud rfl ?_; refine Loud.store7 rfl rfl T.sz_4 rfl rfl rfl (by first | exact Nat.le_refl _ | decide | (simp; omega)) rfl ?_))
      refine Goal.done (vs := [_]) (by first | exact .inl rfl | exact .inr rfl) Try.results15 ⟨rfl, trivial⟩ rfl (?_)
      · intro w' H
        refine ⟨_, ?_, by rw [if_pos hi, if_neg hmi2], H⟩
        rw [if_pos hi]
        refine ⟨_, _, rfl, by simp [h1], h2, fun j h0 hj => ?_⟩
        unfold upd
        rw [ba_set (by omega) (by omega)]
        by_cases e : j = i
        · rw [if_pos e, if_pos e.symm, if_neg (by decide)]
        · rw [if_neg e, if_neg (fun e' : i = j => e e'.symm)]
          exact hm j h0 hj
    · rw [if_neg hz] at hmi
      have hz' : ba Has i = false := by simpa using hz
      refine Goal.enter (args := [.pointer (some ⟨br, 0, none⟩), .int .i64 i]) Try.func15 rfl Try.ntmps15 rfl (hw) ?_
      repeat' (first
        | (refine Goal.loud (o := ⟨some 7, _, _, _, _, _⟩) rfl ?_; refine Loud.callE ([]) (in_ok i _ rfl) rfl rfl rfl rfl T.bod_23 (fun _ h => h) ?_; rintro ⟨⟩ -; rw [decide_eq_true hi])
        | (apply G.move; exact rfl; exact rfl)
        | (apply G.assign; exact rfl; exact rfl)
        | refine Goal.seq (fun _ _ => ?_)
        | refine Goal.next (by assumption) ?_
        | refine Goal.lnil ?_
        | refine Goal.region ?_
        | refine Goal.skip ?_
        | refine Goal.block ?_
        | refine Goal.exit ?_
        | refine Goal.ret ?_
        | refine Goal.then_exit ?_
        | refine Goal.then_ret ?_
        | refine Goal.inBlock_exit ?_
        | refine Goal.inBlock_normal ?_
        | refine Goal.inBlock_ret ?_
        | refine Goal.inBlock_other rfl ?_
        | (apply Goal.condT; exact rfl)
        | (apply Goal.condF; exact rfl)
        | (refine Goal.condD rfl (fun hc => ?_) (fun hc => ?_) <;> first | (exfalso; omega) | contradiction | skip)
        | refine Goal.condB rfl (fun hc => ?_) (fun hc => ?_)
        | (apply G.fieldAddr; exact rfl; exact rfl; exact T.fld_52_0)
        | (apply G.load; exact rfl; exact rfl; first | exact LoadOK.baE T.one_4 1 rfl (by omega) hz' | exact LoadOK.one (by first | exact T.one_4 | exact T.one_29) 0 rfl rfl | exact LoadOK.one (by first | exact T.one_4 | exact T.one_29) 1 rfl rfl | exact LoadOK.one (by first | exact T.one_4 | exact T.one_29) 2 rfl rfl | exact LoadOK.one (by first | exact T.one_4 | exact T.one_29) 3 rfl rfl | exact LoadOK.one (by first | exact T.one_4 | exact T.one_29) 4 rfl rfl | exact LoadOK.one (by first | exact T.one_4 | exact T.one_29) 5 rfl rfl | exact LoadOK.one (by first | exact T.one_4 | exact T.one_29) 6 rfl rfl | exact LoadOK.one (by first | exact T.one_4 | exact T.one_29) 7 rfl rfl)
        | (apply G.notT; exact rfl; exact rfl)
        | (apply G.notF; exact rfl; exact rfl)
        | (refine G.notD rfl rfl ?_)
        | (apply G.notB; exact rfl; exact rfl)
        | (apply G.nilCheckP; exact rfl; exact rfl)
        | (refine G.indexAddr1 rfl T.slc_29 T.sz_4 rfl rfl _ rfl (by omega) ?_)
        | (refine G.indexAddr1 rfl T.slc_29 T.sz_4 rfl rfl _ (Int.toNat_of_nonneg (by omega)).symm (by omega) ?_)
        | (refine Goal.loud rfl ?_; refine Loud.store0 rfl rfl T.sz_4 rfl rfl rfl (by first | exact Nat.le_refl _ | decide | (simp; omega)) rfl ?_)
        | (refine Goal.loud rfl ?_; refine Loud.store1 rfl rfl T.sz_4 rfl rfl rfl (by first | exact Nat.le_refl _ | decide | (simp; omega)) rfl ?_)
        | (refine Goal.loud rfl ?_; refine Loud.store2 rfl rfl T.sz_4 rfl rfl rfl (by first | exact Nat.le_refl _ | decide | (simp; omega)) rfl ?_)
        | (refine Goal.loud rfl ?_; refine Loud.store3 rfl rfl T.sz_4 rfl rfl rfl (by first | exact Nat.le_refl _ | decide | (simp; omega)) rfl ?_)
        | (refine Goal.loud rfl ?_; refine Loud.store4 rfl rfl T.sz_4 rfl rfl rfl (by first | exact Nat.le_refl _ | decide | (simp; omega)) rfl ?_)
        | (refine Goal.loud rfl ?_; refine Loud.store5 rfl rfl T.sz_4 rfl rfl rfl (by first | exact Nat.le_refl _ | decide | (simp; omega)) rfl ?_)
        | (refine Goal.loud rfl ?_; refine Loud.store6 rfl rfl T.sz_4 rfl rfl rfl (by first | exact Nat.le_refl _ | decide | (simp; omega)) rfl ?_)
        | (refine Goal.loud rfl ?_; refine Loud.store7 rfl rfl T.sz_4 rfl rfl rfl (by first | exact Nat.le_refl _ | decide | (simp; omega)) rfl ?_))
      refine Goal.done (vs := [_]) (by first | exact .inl rfl | exact .inr rfl) Try.results15 ⟨rfl, trivial⟩ rfl (?_)
      · intro w' H
        refine ⟨_, ?_, by rw [if_pos hi, if_pos hmi], H⟩
        rw [if_pos hi]
        refine ⟨Has, Keys, rfl, h1, h2, fun j h0 hj => ?_⟩
        unfold upd
        by_cases e : j = i
        · rw [if_pos e, e, if_neg hz]
        · rw [if_neg e]; exact hm j h0 hj
  · refine Goal.enter (args := [.pointer (some ⟨br, 0, none⟩), .int .i64 i]) Try.func15 rfl Try.ntmps15 rfl (hw) ?_
    repeat' (first
      | (refine Goal.loud (o := ⟨some 7, _, _, _, _, _⟩) rfl ?_; refine Loud.callE ([]) (in_ok i _ rfl) rfl rfl rfl rfl T.bod_23 (fun _ h => h) ?_; rintro ⟨⟩ -; rw [decide_eq_false hi])
      | (apply G.move; exact rfl; exact rfl)
      | (apply G.assign; exact rfl; exact rfl)
      | refine Goal.seq (fun _ _ => ?_)
      | refine Goal.next (by assumption) ?_
      | refine Goal.lnil ?_
      | refine Goal.region ?_
      | refine Goal.skip ?_
      | refine Goal.block ?_
      | refine Goal.exit ?_
      | refine Goal.ret ?_
      | refine Goal.then_exit ?_
      | refine Goal.then_ret ?_
      | refine Goal.inBlock_exit ?_
      | refine Goal.inBlock_normal ?_
      | refine Goal.inBlock_ret ?_
      | refine Goal.inBlock_other rfl ?_
      | (apply Goal.condT; exact rfl)
      | (apply Goal.condF; exact rfl)
      | (refine Goal.condD rfl (fun hc => ?_) (fun hc => ?_) <;> first | (exfalso; omega) | contradiction | skip)
      | refine Goal.condB rfl (fun hc => ?_) (fun hc => ?_)
      | (apply G.fieldAddr; exact rfl; exact rfl; exact T.fld_52_0)
      | (apply G.load; exact rfl; exact rfl; first | exact LoadOK.one (by first | exact T.one_4 | exact T.one_29) 0 rfl rfl | exact LoadOK.one (by first | exact T.one_4 | exact T.one_29) 1 rfl rfl | exact LoadOK.one (by first | exact T.one_4 | exact T.one_29) 2 rfl rfl | exact LoadOK.one (by first | exact T.one_4 | exact T.one_29) 3 rfl rfl | exact LoadOK.one (by first | exact T.one_4 | exact T.one_29) 4 rfl rfl | exact LoadOK.one (by first | exact T.one_4 | exact T.one_29) 5 rfl rfl | exact LoadOK.one (by first | exact T.one_4 | exact T.one_29) 6 rfl rfl | exact LoadOK.one (by first | exact T.one_4 | exact T.one_29) 7 rfl rfl)
      | (apply G.notT; exact rfl; exact rfl)
      | (apply G.notF; exact rfl; exact rfl)
      | (refine G.notD rfl rfl ?_)
      | (apply G.notB; exact rfl; exact rfl)
      | (apply G.nilCheckP; exact rfl; exact rfl)
      | (refine G.indexAddr1 rfl T.slc_29 T.sz_4 rfl rfl _ rfl (by omega) ?_)
      | (refine G.indexAddr1 rfl T.slc_29 T.sz_4 rfl rfl _ (Int.toNat_of_nonneg (by omega)).symm (by omega) ?_)
      | (refine Goal.loud rfl ?_; refine Loud.store0 rfl rfl T.sz_4 rfl rfl rfl (by first | exact Nat.le_refl _ | decide | (simp; omega)) rfl ?_)
      | (refine Goal.loud rfl ?_; refine Loud.store1 rfl rfl T.sz_4 rfl rfl rfl (by first | exact Nat.le_refl _ | decide | (simp; omega)) rfl ?_)
      | (refine Goal.loud rfl ?_; refine Loud.store2 rfl rfl T.sz_4 rfl rfl rfl (by first | exact Nat.le_refl _ | decide | (simp; omega)) rfl ?_)
      | (refine Goal.loud rfl ?_; refine Loud.store3 rfl rfl T.sz_4 rfl rfl rfl (by first | exact Nat.le_refl _ | decide | (simp; omega)) rfl ?_)
      | (refine Goal.loud rfl ?_; refine Loud.store4 rfl rfl T.sz_4 rfl rfl rfl (by first | exact Nat.le_refl _ | decide | (simp; omega)) rfl ?_)
      | (refine Goal.loud rfl ?_; refine Loud.store5 rfl rfl T.sz_4 rfl rfl rfl (by first | exact Nat.le_refl _ | decide | (simp; omega)) rfl ?_)
      | (refine Goal.loud rfl ?_; refine Loud.store6 rfl rfl T.sz_4 rfl rfl rfl (by first | exact Nat.le_refl _ | decide | (simp; omega)) rfl ?_)
      | (refine Goal.loud rfl ?_; refine Loud.store7 rfl rfl T.sz_4 rfl rfl rfl (by first | exact Nat.le_refl _ | decide | (simp; omega)) rfl ?_))
    refine Goal.done (vs := [_]) (by first | exact .inl rfl | exact .inr rfl) Try.results15 ⟨rfl, trivial⟩ rfl (fun w' H => ⟨_, by rw [if_neg hi]; exact ⟨Has, Keys, rfl, h1, h2, hm⟩, by rw [if_neg hi], H⟩)
theorem rkey_ok (hA : RpA br bh bk n m A) (i : Int) :
    MCalls Try.prog 19 [.pointer (some ⟨br, 0, none⟩), .int .i64 i] A (fun _ : Unit => True) (fun _ => .tuple #[.int .i64 (keyV n m i).1, .bool (keyV n m i).2]) (fun _ => A) := .mk fun w hw => by
  obtain ⟨Has, Keys, hA, h1, h2, hm⟩ := hA
  have hA' := hA
  subst hA
  by_cases hi : 0 ≤ i ∧ i < n
  · have hmi := hm i hi.1 hi.2
    by_cases hz : ba Has i = true
    · rw [if_pos hz] at hmi
      refine Goal.enter (args := [.pointer (some ⟨br, 0, none⟩), .int .i64 i]) Try.func19 rfl Try.ntmps19 rfl (hw) ?_
      repeat' (first
        | (refine Goal.loud (o := ⟨some 8, _, _, _, _, _⟩) rfl ?_; refine Loud.callE ([]) (in_ok i _ rfl) rfl rfl rfl rfl T.bod_23 (fun _ h => h) ?_; rintro ⟨⟩ -; rw [decide_eq_true hi])
        | (apply G.move; exact rfl; exact rfl)
        | (apply G.assign; exact rfl; exact rfl)
        | refine Goal.seq (fun _ _ => ?_)
        | refine Goal.next (by assumption) ?_
        | refine Goal.lnil ?_
        | refine Goal.region ?_
        | refine Goal.skip ?_
        | refine Goal.block ?_
        | refine Goal.exit ?_
        | refine Goal.ret ?_
        | refine Goal.then_exit ?_
        | refine Goal.then_ret ?_
        | refine Goal.inBlock_exit ?_
        | refine Goal.inBlock_normal ?_
        | refine Goal.inBlock_ret ?_
        | refine Goal.inBlock_other rfl ?_
        | (apply Goal.condT; exact rfl)
        | (apply Goal.condF; exact rfl)
        | (refine Goal.condD rfl (fun hc => ?_) (fun hc => ?_) <;> first | (exfalso; omega) | contradiction | skip)
        | refine Goal.condB rfl (fun hc => ?_) (fun hc => ?_)
        | refine Goal.guardT rfl rfl ?_
        | refine Goal.guardF rfl rfl rfl rfl ?_
        | refine Goal.guardU rfl rfl rfl ?_
        | (refine Goal.guardD rfl rfl (fun hc => ?_) (fun hc => ?_) <;> first | (exfalso; omega) | contradiction | skip)
        | refine Goal.guardB rfl rfl (fun hc => ?_) (fun hc => ?_)
        | (apply G.fieldAddr; exact rfl; exact rfl; (first | exact T.fld_52_0 | exact T.fld_52_1))
        | (apply G.load; exact rfl; exact rfl; first | exact LoadOK.baE T.one_4 1 rfl (by omega) hz | exact LoadOK.ia T.one_3 2 rfl (by omega) | exact LoadOK.one (by first | exact T.one_3 | exact T.one_4 | exact T.one_22 | exact T.one_29) 0 rfl rfl | exact LoadOK.one (by first | exact T.one_3 | exact T.one_4 | exact T.one_22 | exact T.one_29) 1 rfl rfl | exact LoadOK.one (by first | exact T.one_3 | exact T.one_4 | exact T.one_22 | exact T.one_29) 2 rfl rfl | exact LoadOK.one (by first | exact T.one_3 | exact T.one_4 | exact T.one_22 | exact T.one_29) 3 rfl rfl | exact LoadOK.one (by first | exact T.one_3 | exact T.one_4 | exact T.one_22 | exact T.one_29) 4 rfl rfl | exact LoadOK.one (by first | exact T.one_3 | exact T.one_4 | exact T.one_22 | exact T.one_29) 5 rfl rfl | exact LoadOK.one (by first | exact T.one_3 | exact T.one_4 | exact T.one_22 | exact T.one_29) 6 rfl rfl | exact LoadOK.one (by first | exact T.one_3 | exact T.one_4 | exact T.one_22 | exact T.one_29) 7 rfl rfl)
        | (apply G.pickT; exact rfl; exact rfl; exact rfl)
        | (apply G.pickF; exact rfl; exact rfl; exact rfl)
        | (apply G.notT; exact rfl; exact rfl)
        | (apply G.notF; exact rfl; exact rfl)
        | (refine G.notD rfl rfl ?_)
        | (apply G.notB; exact rfl; exact rfl)
        | (apply G.nilCheckP; exact rfl; exact rfl)
        | (refine G.indexAddr1 rfl (by first | exact T.slc_22 | exact T.slc_29) (by first | exact T.sz_3 | exact T.sz_4) rfl rfl _ rfl (by omega) ?_)
        | (refine G.indexAddr1 rfl (by first | exact T.slc_22 | exact T.slc_29) (by first | exact T.sz_3 | exact T.sz_4) rfl rfl _ (Int.toNat_of_nonneg (by omega)).symm (by omega) ?_))
      refine Goal.done (vs := [_, _]) (by first | exact .inl rfl | exact .inr rfl) Try.results19 ⟨rfl, rfl, trivial⟩ rfl (fun w' H => ⟨(), trivial, by unfold keyV; rw [if_pos hi, hmi], H⟩)
    · rw [if_neg hz] at hmi
      have hz' : ba Has i = false := by simpa using hz
      refine Goal.enter (args := [.pointer (some ⟨br, 0, none⟩), .int .i64 i]) Try.func19 rfl Try.ntmps19 rfl (hw) ?_
      repeat' (first
        | (refine Goal.loud (o := ⟨some 8, _, _, _, _, _⟩) rfl ?_; refine Loud.callE ([]) (in_ok i _ rfl) rfl rfl rfl rfl T.bod_23 (fun _ h => h) ?_; rintro ⟨⟩ -; rw [decide_eq_true hi])
        | (apply G.move; exact rfl; exact rfl)
        | (apply G.assign; exact rfl; exact rfl)
        | refine Goal.seq (fun _ _ => ?_)
        | refine Goal.next (by assumption) ?_
        | refine Goal.lnil ?_
        | refine Goal.region ?_
        | refine Goal.skip ?_
        | refine Goal.block ?_
        | refine Goal.exit ?_
        | refine Goal.ret ?_
        | refine Goal.then_exit ?_
        | refine Goal.then_ret ?_
        | refine Goal.inBlock_exit ?_
        | refine Goal.inBlock_normal ?_
        | refine Goal.inBlock_ret ?_
        | refine Goal.inBlock_other rfl ?_
        | (apply Goal.condT; exact rfl)
        | (apply Goal.condF; exact rfl)
        | (refine Goal.condD rfl (fun hc => ?_) (fun hc => ?_) <;> first | (exfalso; omega) | contradiction | skip)
        | refine Goal.condB rfl (fun hc => ?_) (fun hc => ?_)
        | refine Goal.guardT rfl rfl ?_
        | refine Goal.guardF rfl rfl rfl rfl ?_
        | refine Goal.guardU rfl rfl rfl ?_
        | (refine Goal.guardD rfl rfl (fun hc => ?_) (fun hc => ?_) <;> first | (exfalso; omega) | contradiction | skip)
        | refine Goal.guardB rfl rfl (fun hc => ?_) (fun hc => ?_)
        | (apply G.fieldAddr; exact rfl; exact rfl; (first | exact T.fld_52_0 | exact T.fld_52_1))
        | (apply G.load; exact rfl; exact rfl; first | exact LoadOK.baE T.one_4 1 rfl (by omega) hz' | exact LoadOK.one (by first | exact T.one_3 | exact T.one_4 | exact T.one_22 | exact T.one_29) 0 rfl rfl | exact LoadOK.one (by first | exact T.one_3 | exact T.one_4 | exact T.one_22 | exact T.one_29) 1 rfl rfl | exact LoadOK.one (by first | exact T.one_3 | exact T.one_4 | exact T.one_22 | exact T.one_29) 2 rfl rfl | exact LoadOK.one (by first | exact T.one_3 | exact T.one_4 | exact T.one_22 | exact T.one_29) 3 rfl rfl | exact LoadOK.one (by first | exact T.one_3 | exact T.one_4 | exact T.one_22 | exact T.one_29) 4 rfl rfl | exact LoadOK.one (by first | exact T.one_3 | exact T.one_4 | exact T.one_22 | exact T.one_29) 5 rfl rfl | exact LoadOK.one (by first | exact T.one_3 | exact T.one_4 | exact T.one_22 | exact T.one_29) 6 rfl rfl | exact LoadOK.one (by first | exact T.one_3 | exact T.one_4 | exact T.one_22 | exact T.one_29) 7 rfl rfl)
        | (apply G.pickT; exact rfl; exact rfl; exact rfl)
        | (apply G.pickF; exact rfl; exact rfl; exact rfl)
        | (apply G.notT; exact rfl; exact rfl)
        | (apply G.notF; exact rfl; exact rfl)
        | (refine G.notD rfl rfl ?_)
        | (apply G.notB; exact rfl; exact rfl)
        | (apply G.nilCheckP; exact rfl; exact rfl)
        | (refine G.indexAddr1 rfl (by first | exact T.slc_22 | exact T.slc_29) (by first | exact T.sz_3 | exact T.sz_4) rfl rfl _ rfl (by omega) ?_)
        | (refine G.indexAddr1 rfl (by first | exact T.slc_22 | exact T.slc_29) (by first | exact T.sz_3 | exact T.sz_4) rfl rfl _ (Int.toNat_of_nonneg (by omega)).symm (by omega) ?_))
      refine Goal.done (vs := [_, _]) (by first | exact .inl rfl | exact .inr rfl) Try.results19 ⟨rfl, rfl, trivial⟩ rfl (fun w' H => ⟨(), trivial, by unfold keyV; rw [if_pos hi, hmi], H⟩)
  · refine Goal.enter (args := [.pointer (some ⟨br, 0, none⟩), .int .i64 i]) Try.func19 rfl Try.ntmps19 rfl (hw) ?_
    repeat' (first
      | (refine Goal.loud (o := ⟨some 8, _, _, _, _, _⟩) rfl ?_; refine Loud.callE ([]) (in_ok i _ rfl) rfl rfl rfl rfl T.bod_23 (fun _ h => h) ?_; rintro ⟨⟩ -; rw [decide_eq_false hi])
      | (apply G.move; exact rfl; exact rfl)
      | (apply G.assign; exact rfl; exact rfl)
      | refine Goal.seq (fun _ _ => ?_)
      | refine Goal.next (by assumption) ?_
      | refine Goal.lnil ?_
      | refine Goal.region ?_
      | refine Goal.skip ?_
      | refine Goal.block ?_
      | refine Goal.exit ?_
      | refine Goal.ret ?_
      | refine Goal.then_exit ?_
      | refine Goal.then_ret ?_
      | refine Goal.inBlock_exit ?_
      | refine Goal.inBlock_normal ?_
      | refine Goal.inBlock_ret ?_
      | refine Goal.inBlock_other rfl ?_
      | (apply Goal.condT; exact rfl)
      | (apply Goal.condF; exact rfl)
      | (refine Goal.condD rfl (fun hc => ?_) (fun hc => ?_) <;> first | (exfalso; omega) | contradiction | skip)
      | refine Goal.condB rfl (fun hc => ?_) (fun hc => ?_)
      | refine Goal.guardT rfl rfl ?_
      | refine Goal.guardF rfl rfl rfl rfl ?_
      | refine Goal.guardU rfl rfl rfl ?_
      | (refine Goal.guardD rfl rfl (fun hc => ?_) (fun hc => ?_) <;> first | (exfalso; omega) | contradiction | skip)
      | refine Goal.guardB rfl rfl (fun hc => ?_) (fun hc => ?_)
      | (apply G.fieldAddr; exact rfl; exact rfl; (first | exact T.fld_52_0 | exact T.fld_52_1))
      | (apply G.load; exact rfl; exact rfl; first | exact LoadOK.one (by first | exact T.one_3 | exact T.one_4 | exact T.one_22 | exact T.one_29) 0 rfl rfl | exact LoadOK.one (by first | exact T.one_3 | exact T.one_4 | exact T.one_22 | exact T.one_29) 1 rfl rfl | exact LoadOK.one (by first | exact T.one_3 | exact T.one_4 | exact T.one_22 | exact T.one_29) 2 rfl rfl | exact LoadOK.one (by first | exact T.one_3 | exact T.one_4 | exact T.one_22 | exact T.one_29) 3 rfl rfl | exact LoadOK.one (by first | exact T.one_3 | exact T.one_4 | exact T.one_22 | exact T.one_29) 4 rfl rfl | exact LoadOK.one (by first | exact T.one_3 | exact T.one_4 | exact T.one_22 | exact T.one_29) 5 rfl rfl | exact LoadOK.one (by first | exact T.one_3 | exact T.one_4 | exact T.one_22 | exact T.one_29) 6 rfl rfl | exact LoadOK.one (by first | exact T.one_3 | exact T.one_4 | exact T.one_22 | exact T.one_29) 7 rfl rfl)
      | (apply G.pickT; exact rfl; exact rfl; exact rfl)
      | (apply G.pickF; exact rfl; exact rfl; exact rfl)
      | (apply G.notT; exact rfl; exact rfl)
      | (apply G.notF; exact rfl; exact rfl)
      | (refine G.notD rfl rfl ?_)
      | (apply G.notB; exact rfl; exact rfl)
      | (apply G.nilCheckP; exact rfl; exact rfl)
      | (refine G.indexAddr1 rfl (by first | exact T.slc_22 | exact T.slc_29) (by first | exact T.sz_3 | exact T.sz_4) rfl rfl _ rfl (by omega) ?_)
      | (refine G.indexAddr1 rfl (by first | exact T.slc_22 | exact T.slc_29) (by first | exact T.sz_3 | exact T.sz_4) rfl rfl _ (Int.toNat_of_nonneg (by omega)).symm (by omega) ?_))
    refine Goal.done (vs := [_, _]) (by first | exact .inl rfl | exact .inr rfl) Try.results19 ⟨rfl, rfl, trivial⟩ rfl (fun w' H => ⟨(), trivial, by unfold keyV; rw [if_neg hi], H⟩)
end
end Go.Proofs.Ytknkakaffjhlmaa
