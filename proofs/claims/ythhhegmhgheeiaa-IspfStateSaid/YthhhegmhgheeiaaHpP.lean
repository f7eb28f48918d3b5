/- The heap of the program, by what it holds: Pop. (For seats that do not reach Remove.) -/
import Derived.Test.YthhhegmhgheeiaaHpD
namespace Go.Proofs.Ythhhegmhgheeiaa
open Go.Wf
set_option linter.unusedVariables false
section
variable {bh bk bp n : Nat} {m : Int → Option Int} {A : List Blk}
theorem m_del {K Pl Pl2 : List Int} {i : Int} (hK : K.length = n) (hi : 0 ≤ i ∧ i < n) (hm : ∀ j : Int, 0 ≤ j → j < n → m j = if ia Pl j = 0 then none else some (ia K j)) (h2 : ∀ j : Int, 0 ≤ j → j < n → (ia Pl2 j = 0 ↔ (ia Pl j = 0 ∨ j = i))) :
    ∀ j : Int, 0 ≤ j → j < n → upd m i none j = if ia Pl2 j = 0 then none else some (ia (K.set i.toNat 0) j) := fun j h0 hj => by
  have e2 := h2 j h0 hj
  unfold upd
  rw [ia_set (by omega) (by omega)]
  by_cases e : j = i
  · rw [if_pos e, if_pos (e2.2 (.inr e))]
  · rw [if_neg e, hm j h0 hj, if_neg (fun e' : i = j => e e'.symm)]
    by_cases e3 : ia Pl j = 0
    · rw [if_pos e3, if_pos (e2.2 (.inl e3))]
    · rw [if_neg e3, if_neg (fun h => (e2.1 h).elim e3 e)]
/-- What Pop is to return. -/
def popS (n : Nat) (m : Int → Option Int) (i k : Int) (ok : Bool) : Prop :=
  (ok = false ∧ i = 0 ∧ k = 0 ∧ ∀ j : Int, 0 ≤ j → j < n → m j = none) ∨ (ok = true ∧ 0 ≤ i ∧ i < n ∧ m i = some k ∧ ∀ j k' : Int, 0 ≤ j → j < n → m j = some k' → k < k' ∨ (k = k' ∧ i ≤ j))
theorem popS_one {i k i' k' : Int} {ok ok' : Bool} (h : popS n m i k ok) (h' : popS n m i' k' ok') : i = i' ∧ k = k' ∧ ok = ok' := by
  rcases h with ⟨rfl, rfl, rfl, h⟩ | ⟨rfl, h0, h1, h2, h3⟩ <;> rcases h' with ⟨rfl, rfl, rfl, h'⟩ | ⟨rfl, h0', h1', h2', h3'⟩
  · exact ⟨rfl, rfl, rfl⟩
  · rw [h _ h0' h1'] at h2'; cases h2'
  · rw [h' _ h0 h1] at h2; cases h2
  · have a := h3 _ _ h0' h1' h2'
    have b := h3' _ _ h0 h1 h2
    refine ⟨by omega, by omega, rfl⟩
structure PX where
  (i k : Int) (ok : Bool) (A : List Blk)
set_option maxHeartbeats 2000000 in
theorem pop_ok (hA : HpA bh bk bp n m A) (hn : n ≤ 65536) :
    MCalls Try.prog 85 [.pointer (some ⟨bh, 0, none⟩)] A
      (fun x : PX => popS n m x.i x.k x.ok ∧ HpA bh bk bp n (if x.ok then upd m x.i none else m) x.A) (fun x => .tuple #[.int .i64 x.i, .int .i64 x.k, .bool x.ok]) (fun x => x.A) := .mk fun w hw => by
  obtain ⟨K, Pl, O, vo, Ao, rfl, hS, hI, hH, hm⟩ := hA
  have hPn := hI.hP
  have hKn := hI.hK
  have hle := hI.len_le
  by_cases h0 : O.length = 0
  · obtain ⟨ad, cap, rfl⟩ := hS.shape
    have hnone : ∀ j : Int, 0 ≤ j → j < n → m j = none := fun j j0 jn => by
      rw [hm j j0 jn, if_pos]
      refine Decidable.byContradiction fun h => ?_
      have := hI.un j j0 jn h
      omega
    refine Goal.enter (args := [.pointer (some ⟨bh, 0, none⟩)]) Try.func85 rfl Try.ntmps85 rfl (hw) ?_
    repeat' (first | (apply G.move; exact rfl; exact rfl) | (apply G.assign; exact rfl; exact rfl) | refine Goal.seq (fun _ _ => ?_) | refine Goal.next (by assumption) ?_ | refine Goal.lnil ?_ | refine Goal.region ?_ | refine Goal.ret ?_ | refine Goal.then_ret ?_ | (refine Goal.condD rfl (fun hc => ?_) (fun hc => ?_) <;> first | (exfalso; omega) | skip) | refine Goal.guardT rfl rfl ?_ | (apply G.fieldAddr; exact rfl; exact rfl; (exact T.fld_114_2)) | (apply G.load; exact rfl; exact rfl; ((refine LoadOK.one ?_ 0 rfl rfl); exact T.one_46)) | (apply G.pickF; exact rfl; exact rfl; exact rfl) | (apply G.eql; exact rfl; exact rfl; exact rfl) | (refine Goal.quiet rfl (Run.eqlP T.ptr_104 rfl rfl rfl) ?_) | (apply G.len; exact rfl; exact rfl; exact T.slc_46) | (apply G.nilCheckP; exact rfl; exact rfl))
    refine Goal.done (vs := [_, _, _]) (by first | exact .inl rfl | exact .inr rfl) Try.results85 ⟨rfl, rfl, rfl, trivial⟩ rfl (fun w' H => ⟨⟨0, 0, false, _⟩, ⟨.inl ⟨rfl, rfl, rfl, hnone⟩, ⟨K, Pl, O, _, Ao, rfl, hS, hI, hH, hm⟩⟩, rfl, H⟩)
  · have b := hI.el 0 (by omega) (by omega)
    obtain ⟨bo, rest, cap, rfl, rfl, hv1, hv2, hv3⟩ := hS.pos (by omega)
    refine Goal.enter (args := [.pointer (some ⟨bh, 0, none⟩)]) Try.func85 rfl Try.ntmps85 rfl (hw) ?_
    repeat' (first | (refine Goal.loud (o := ⟨some 29, _, _, _, _, _⟩) rfl ?_; refine Loud.callM [] (take_ok hI (by omega) (by rw [ints_len] at hv2; omega) hH 0 (by omega)) rfl rfl rfl rfl T.bod_93 (fun _ h => h) ?_; rintro ⟨K2, Pl2, O2, rest2⟩ ⟨s1, s2, s3, s4, s5, s6⟩; dsimp only at s1 s2 s3 s4 s5 s6 ⊢) | (apply G.move; exact rfl; exact rfl) | (apply G.assign; exact rfl; exact rfl) | refine Goal.seq (fun _ _ => ?_) | refine Goal.next (by assumption) ?_ | refine Goal.lnil ?_ | refine Goal.region ?_ | refine Goal.skip ?_ | refine Goal.ret ?_ | (refine Goal.condD rfl (fun hc => ?_) (fun hc => ?_) <;> first | (exfalso; omega) | skip) | refine Goal.guardT rfl rfl ?_ | (apply G.fieldAddr; exact rfl; exact rfl; (first | exact T.fld_114_0 | exact T.fld_114_2)) | (apply G.load; exact rfl; exact rfl; first | exact LoadOK.i0R T.one_3 3 rfl (by omega) | exact LoadOK.ia T.one_3 1 rfl (by omega) | ((refine LoadOK.one ?_ 0 rfl rfl); exact T.one_46)) | (apply G.pickF; exact rfl; exact rfl; exact rfl) | (apply G.eql; exact rfl; exact rfl; exact rfl) | (refine Goal.quiet rfl (Run.eqlP T.ptr_104 rfl rfl rfl) ?_) | (apply G.len; exact rfl; exact rfl; exact T.slc_46) | (apply G.nilCheckP; exact rfl; exact rfl) | (refine G.indexAddr1 rfl T.slc_46 T.sz_3 rfl rfl _ (Int.toNat_of_nonneg (by omega)).symm (by omega) ?_))
    refine Goal.done (vs := [_, _, _]) (by first | exact .inl rfl | exact .inr rfl) Try.results85 ⟨rfl, rfl, rfl, trivial⟩ rfl (?_)
    · intro w' H
      unfold tkK at s5
      subst s5
      have hp0 := hI.pl 0 (by omega) (by omega)
      refine ⟨⟨ia O 0, ia K (ia O 0), true, _⟩, ⟨.inr ⟨rfl, b.1, b.2, by rw [hm _ b.1 b.2, if_neg (by omega)], fun j k' j0 jn hj => ?_⟩, ?_⟩, rfl, H⟩
      · rw [hm j j0 jn] at hj
        by_cases hz : ia Pl j = 0
        · rw [if_pos hz] at hj; cases hj
        · rw [if_neg hz] at hj
          injection hj with hj
          obtain ⟨u1, u2, u3⟩ := hI.un j j0 jn hz
          have := first hH (ia Pl j - 1).toNat (ia Pl j - 1) (Nat.le_refl _) (by omega) (by omega)
          rw [u3] at this
          unfold less at this
          dsimp only
          omega
      · refine HpA.mk s1 s3 s4 (m_del hKn b hm fun j h0 hj => ?_)
        rw [s6 j h0 hj, (hI.take (p := 0) (by omega)).2 j h0 hj]
end
end Go.Proofs.Ythhhegmhgheeiaa
