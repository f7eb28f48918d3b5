/- The statement HeapSorts: what a heap yields is sorted. -/
import Derived.Test.YtknkakaffjhlmaaHpS
import Derived.Test.YtknkakaffjhlmaaHpH
namespace Go.Proofs.Ytknkakaffjhlmaa
open Go.Wf
set_option linter.unusedVariables false
theorem HpA.congr {bh bk bp n : Nat} {m m' : Int → Option Int} {A : List Blk} (h : HpA bh bk bp n m A) (e : ∀ i : Int, 0 ≤ i → i < n → m' i = m i) : HpA bh bk bp n m' A := by
  obtain ⟨K, Pl, O, vo, Ao, h0, h1, h2, h3, h4⟩ := h
  exact ⟨K, Pl, O, vo, Ao, h0, h1, h2, h3, fun i i0 i1 => (e i i0 i1).trans (h4 i i0 i1)⟩
theorem popS.congr {n : Nat} {m m' : Int → Option Int} {i k : Int} {ok : Bool} (h : popS n m i k ok) (e : ∀ i : Int, 0 ≤ i → i < n → m' i = m i) : popS n m' i k ok := by
  rcases h with ⟨h1, h2, h3, h4⟩ | ⟨h1, h2, h3, h4, h5⟩
  · exact .inl ⟨h1, h2, h3, fun j j0 j1 => (e j j0 j1).trans (h4 j j0 j1)⟩
  · exact .inr ⟨h1, h2, h3, (e i h2 h3).trans h4, fun j k' j0 j1 hj => h5 j k' j0 j1 ((e j j0 j1).symm.trans hj)⟩
/-- A list that is only read, at a place. -/
theorem RdV.int {w : World} {ad : Option Addr} {l : List Int} {c : Nat} (h : RdV w (.slice ad l.length c) (ints l)) (hp : 0 < l.length) : ∃ b o, ad = some ⟨b, o, none⟩ ∧ ∀ i : Int, 0 ≤ i → i < l.length → w.cell? ⟨b, o + i.toNat, none⟩ = some (.int .i64 (ia l i)) := by
  obtain ⟨ad', cap, e, h⟩ := h
  injection e with e _ _
  subst e
  obtain ⟨b, o, rfl, _⟩ := h 0 _ (ints_at hp)
  refine ⟨b, o, rfl, fun i i0 i1 => ?_⟩
  obtain ⟨b', o', e, h2⟩ := h i.toNat _ (ints_at (by omega))
  injection e with e
  injection e with e1 e2 _
  subst e1 e2
  exact h2
theorem cnt_upd {n : Nat} {m : Int → Option Int} {i : Int} (hi : 0 ≤ i ∧ i < n) (hm : (m i).isSome = true) : cnt n (upd m i none) + 1 = cnt n m := by
  induction n with
  | zero => omega
  | succ n ih =>
    rw [cnt_succ, cnt_succ]
    by_cases e : i = n
    · subst e
      have : cnt n (upd m n none) = cnt n m := cnt_same fun j j0 j1 => by unfold upd; rw [if_neg (by omega)]
      rw [this, hm]
      simp [upd]
    · have h1 : upd m i none (n : Int) = m n := by unfold upd; rw [if_neg (fun h => e h.symm)]
      rw [h1]
      have := ih (by omega)
      omega
theorem cnt_pos {n : Nat} {m : Int → Option Int} (h : ∀ i : Int, 0 ≤ i → i < n → m i = none) : cnt n m = 0 := by
  rw [← cnt_none n]
  exact cnt_same h
theorem cnt_full {n : Nat} {m : Int → Option Int} (h : ∀ i : Int, 0 ≤ i → i < n → (m i).isSome = true) : cnt n m = n := by
  induction n with
  | zero => rfl
  | succ n ih => rw [cnt_succ, ih fun i i0 i1 => h i i0 (by omega), h n (by omega) (by omega), if_pos rfl]
theorem pop_some {n : Nat} {m : Int → Option Int} {i k : Int} {ok : Bool} (h : popS n m i k ok) (hc : 0 < cnt n m) : ok = true ∧ (0 ≤ i ∧ i < n) ∧ m i = some k ∧ ∀ j k' : Int, 0 ≤ j → j < n → m j = some k' → k < k' ∨ (k = k' ∧ i ≤ j) := by
  rcases h with ⟨_, _, _, h⟩ | ⟨h1, h2, h3, h4, h5⟩
  · rw [cnt_pos h] at hc; omega
  · exact ⟨h1, ⟨h2, h3⟩, h4, h5⟩
theorem pop_none {n : Nat} {m : Int → Option Int} {i k : Int} {ok : Bool} (h : popS n m i k ok) (hc : cnt n m = 0) : ok = false := by
  rcases h with ⟨h, _, _, _⟩ | ⟨h1, h2, h3, h4, h5⟩
  · exact h
  · have := cnt_upd (m := m) ⟨h2, h3⟩ (by rw [h4]; rfl)
    omega
/-- The items that are not out yet. -/
def left (keys : List Int) (seen : List Bool) : Int → Option Int := fun j => if ba seen j = true then none else some (ia keys j)
theorem left_set {keys : List Int} {seen : List Bool} {i : Int} (hl : seen.length = keys.length) (hi : 0 ≤ i ∧ i < keys.length) : ∀ j : Int, 0 ≤ j → j < keys.length → left keys (seen.set i.toNat true) j = upd (left keys seen) i none j := fun j j0 j1 => by
  unfold left upd
  rw [ba_set (by omega) (by omega)]
  by_cases e : j = i
  · rw [if_pos e.symm, if_pos rfl, if_pos e]
  · rw [if_neg (fun h : i = j => e h.symm), if_neg e]
theorem left_cnt {keys : List Int} {seen : List Bool} {i : Int} (hl : seen.length = keys.length) (hi : 0 ≤ i ∧ i < keys.length) (hs : ba seen i = false) : cnt keys.length (left keys (seen.set i.toNat true)) + 1 = cnt keys.length (left keys seen) := by
  rw [cnt_same (left_set hl hi)]
  exact cnt_upd hi (by unfold left; rw [hs]; rfl)
theorem left_min {keys : List Int} {seen : List Bool} {i : Int} (hl : seen.length = keys.length) (hi : 0 ≤ i ∧ i < keys.length) (hm : ∀ j k' : Int, 0 ≤ j → j < keys.length → left keys seen j = some k' → ia keys i < k' ∨ (ia keys i = k' ∧ i ≤ j)) :
    ∀ j : Int, 0 ≤ j → j < keys.length → ba (seen.set i.toNat true) j = false → ia keys i < ia keys j ∨ (ia keys i = ia keys j ∧ i ≤ j) := fun j j0 j1 hj => by
  rw [ba_set (by omega) (by omega)] at hj
  by_cases e : i = j
  · rw [if_pos e] at hj; cases hj
  · rw [if_neg e] at hj
    exact hm j _ j0 j1 (by unfold left; rw [hj]; rfl)
structure S1 where
  (t : Int) (A : List Blk)
structure S2 where
  (t last : Int) (seen : List Bool) (A : List Blk)
set_option maxHeartbeats 4000000 in
theorem law_sorts (keys : List Int) (v : Value) (w : World) (hr : RdV w v (ints keys)) : Calls Try.prog 3 #[v] w fun e w' => e = .returned (.bool true) ∧ Mod [] w w' := by
  obtain ⟨ad, cap, rfl, hr'⟩ := id hr
  rw [ints_len] at hr ⊢
  by_cases hbig : 300 < keys.length
  · refine Goal.enter (args := [.slice ad keys.length cap]) Try.func3 rfl Try.ntmps3 rfl (St.nil w) ?_
    repeat' (first
      | (refine Goal.loud (o := ⟨some 14, _, _, _, _, _⟩) rfl ?_; apply Loud.call0; exact rfl; exact rfl; exact rfl; exact rfl; exact T.bod_8; exact (fun w H => awake_any w))
      | (refine Goal.loud (o := ⟨some 55, _, _, _, _, _⟩) rfl ?_; first | refine Loud.makeSlice rfl T.slc_29 T.inf_4 rfl rfl (by decide) rfl rfl rfl rfl (by omega) (by omega) (by omega) (fun b55 => ?_) | refine Loud.makeSlice rfl T.slc_29 T.inf_4 rfl rfl (by decide) rfl rfl (Int.toNat_of_nonneg (by omega)).symm (Int.toNat_of_nonneg (by omega)).symm (by omega) (by omega) (by omega) (fun b55 => ?_))
      | (apply G.move; exact rfl; exact rfl)
      | (apply G.assign; exact rfl; exact rfl)
      | refine Goal.seq (fun _ _ => ?_)
      | refine Goal.next (by assumption) ?_
      | refine Goal.lnil ?_
      | refine Goal.region ?_
      | refine Goal.skip ?_
      | refine Goal.block ?_
      | refine Goal.exit ?_
      | refine Goal.ret ?_
      | refine Goal.then_exit ?_
      | refine Goal.then_ret ?_
      | refine Goal.inBlock_exit ?_
      | refine Goal.inBlock_normal ?_
      | refine Goal.inBlock_ret ?_
      | refine Goal.inBlock_other rfl ?_
      | (apply Goal.condT; exact rfl)
      | (apply Goal.condF; exact rfl)
      | (refine Goal.condD rfl (fun hc => ?_) (fun hc => ?_) <;> first | (exfalso; omega) | contradiction | skip)
      | refine Goal.condB rfl (fun hc => ?_) (fun hc => ?_)
      | refine Goal.guardT rfl rfl ?_
      | refine Goal.guardF rfl rfl rfl rfl ?_
      | refine Goal.guardU rfl rfl rfl ?_
      | (refine Goal.guardD rfl rfl (fun hc => ?_) (fun hc => ?_) <;> first | (exfalso; omega) | contradiction | skip)
      | refine Goal.guardB rfl rfl (fun hc => ?_) (fun hc => ?_)
      | (apply G.load; exact rfl; exact rfl; first | exact LoadOK.one (by first | exact T.one_3 | exact T.one_4) 0 rfl rfl | exact LoadOK.one (by first | exact T.one_3 | exact T.one_4) 1 rfl rfl | exact LoadOK.one (by first | exact T.one_3 | exact T.one_4) 2 rfl rfl | exact LoadOK.one (by first | exact T.one_3 | exact T.one_4) 3 rfl rfl | exact LoadOK.one (by first | exact T.one_3 | exact T.one_4) 4 rfl rfl | exact LoadOK.one (by first | exact T.one_3 | exact T.one_4) 5 rfl rfl | exact LoadOK.one (by first | exact T.one_3 | exact T.one_4) 6 rfl rfl | exact LoadOK.one (by first | exact T.one_3 | exact T.one_4) 7 rfl rfl)
      | (apply G.pickT; exact rfl; exact rfl; exact rfl)
      | (apply G.pickF; exact rfl; exact rfl; exact rfl)
      | (apply G.lss; exact rfl; exact rfl; exact rfl)
      | (apply G.gtr; exact rfl; exact rfl; exact rfl)
      | (apply G.geq; exact rfl; exact rfl; exact rfl)
      | (apply G.eql; exact rfl; exact rfl; exact rfl)
      | (apply G.neq; exact rfl; exact rfl; exact rfl)
      | (apply G.add; exact rfl; exact rfl; exact rfl; first | exact IntWalk.i64_in _ (by omega) | exact IntWalk.u8_in _ (by omega) | exact IntWalk.u16_in _ (by omega) | exact IntWalk.u32_in _ (by omega) | exact IntWalk.u64_in _ (by omega))
      | (apply G.sub; exact rfl; exact rfl; exact rfl; first | exact IntWalk.i64_in _ (by omega) | exact IntWalk.u8_in _ (by omega) | exact IntWalk.u16_in _ (by omega) | exact IntWalk.u32_in _ (by omega) | exact IntWalk.u64_in _ (by omega))
      | (refine Goal.quiet rfl (Run.eqlP T.ptr_24 rfl rfl rfl) ?_)
      | (refine Goal.quiet rfl (Run.neqP T.ptr_24 rfl rfl rfl) ?_)
      | (apply G.notT; exact rfl; exact rfl)
      | (apply G.notF; exact rfl; exact rfl)
      | (refine G.notD rfl rfl ?_)
      | (apply G.notB; exact rfl; exact rfl)
      | (apply G.extract; exact rfl; exact rfl; exact rfl)
      | (apply G.len; exact rfl; exact rfl; exact T.slc_22)
      | (refine G.indexAddr1 rfl (by first | exact T.slc_22 | exact T.slc_29) (by first | exact T.sz_3 | exact T.sz_4) rfl rfl _ rfl (by omega) ?_)
      | (refine G.indexAddr1 rfl (by first | exact T.slc_22 | exact T.slc_29) (by first | exact T.sz_3 | exact T.sz_4) rfl rfl _ (Int.toNat_of_nonneg (by omega)).symm (by omega) ?_)
      | (refine Goal.loud rfl ?_; refine Loud.store0 rfl rfl T.sz_4 rfl rfl rfl (by first | exact Nat.le_refl _ | decide | (simp; omega)) rfl ?_)
      | (refine Goal.loud rfl ?_; refine Loud.store1 rfl rfl T.sz_4 rfl rfl rfl (by first | exact Nat.le_refl _ | decide | (simp; omega)) rfl ?_)
      | (refine Goal.loud rfl ?_; refine Loud.store2 rfl rfl T.sz_4 rfl rfl rfl (by first | exact Nat.le_refl _ | decide | (simp; omega)) rfl ?_)
      | (refine Goal.loud rfl ?_; refine Loud.store3 rfl rfl T.sz_4 rfl rfl rfl (by first | exact Nat.le_refl _ | decide | (simp; omega)) rfl ?_)
      | (refine Goal.loud rfl ?_; refine Loud.store4 rfl rfl T.sz_4 rfl rfl rfl (by first | exact Nat.le_refl _ | decide | (simp; omega)) rfl ?_)
      | (refine Goal.loud rfl ?_; refine Loud.store5 rfl rfl T.sz_4 rfl rfl rfl (by first | exact Nat.le_refl _ | decide | (simp; omega)) rfl ?_)
      | (refine Goal.loud rfl ?_; refine Loud.store6 rfl rfl T.sz_4 rfl rfl rfl (by first | exact Nat.le_refl _ | decide | (simp; omega)) rfl ?_)
      | (refine Goal.loud rfl ?_; refine Loud.store7 rfl rfl T.sz_4 rfl rfl rfl (by first | exact Nat.le_refl _ | decide | (simp; omega)) rfl ?_))
    all_goals
      refine Goal.done (vs := [_]) (by first | exact .inl rfl | exact .inr rfl) Try.results3 ⟨rfl, trivial⟩ rfl (fun w' H => ⟨rfl, H.mod⟩)
  · refine Goal.enter (args := [.slice ad keys.length cap]) Try.func3 rfl Try.ntmps3 rfl (St.nil w) ?_
    repeat' (first
      | (refine Goal.loud (o := ⟨some 14, _, _, _, _, _⟩) rfl ?_; apply Loud.call0; exact rfl; exact rfl; exact rfl; exact rfl; exact T.bod_8; exact (fun w H => awake_any w))
      | (refine Goal.loud (o := ⟨some 22, _, _, _, _, _⟩) rfl ?_; apply Loud.callN; exact rfl; exact rfl; exact rfl; exact rfl; exact T.bod_9; exact (fun w H => new_ok (keys.length : Int) (by omega) w); rintro ⟨bh, bk, bp, A1⟩ h1; rw [Int.toNat_natCast] at h1; dsimp only at h1 ⊢)
      | (refine Goal.loud (o := ⟨some 55, _, _, _, _, _⟩) rfl ?_; first | refine Loud.makeSlice rfl T.slc_29 T.inf_4 rfl rfl (by decide) rfl rfl rfl rfl (by omega) (by omega) (by omega) (fun b55 => ?_) | refine Loud.makeSlice rfl T.slc_29 T.inf_4 rfl rfl (by decide) rfl rfl (Int.toNat_of_nonneg (by omega)).symm (Int.toNat_of_nonneg (by omega)).symm (by omega) (by omega) (by omega) (fun b55 => ?_))
      | (apply G.move; exact rfl; exact rfl)
      | (apply G.assign; exact rfl; exact rfl)
      | refine Goal.seq (fun _ _ => ?_)
      | refine Goal.next (by assumption) ?_
      | refine Goal.lnil ?_
      | refine Goal.region ?_
      | refine Goal.skip ?_
      | refine Goal.block ?_
      | refine Goal.exit ?_
      | refine Goal.ret ?_
      | refine Goal.then_exit ?_
      | refine Goal.then_ret ?_
      | refine Goal.inBlock_exit ?_
      | refine Goal.inBlock_normal ?_
      | refine Goal.inBlock_ret ?_
      | refine Goal.inBlock_other rfl ?_
      | (apply Goal.condT; exact rfl)
      | (apply Goal.condF; exact rfl)
      | (refine Goal.condD rfl (fun hc => ?_) (fun hc => ?_) <;> first | (exfalso; omega) | contradiction | skip)
      | refine Goal.condB rfl (fun hc => ?_) (fun hc => ?_)
      | refine Goal.guardT rfl rfl ?_
      | refine Goal.guardF rfl rfl rfl rfl ?_
      | refine Goal.guardU rfl rfl rfl ?_
      | (refine Goal.guardD rfl rfl (fun hc => ?_) (fun hc => ?_) <;> first | (exfalso; omega) | contradiction | skip)
      | refine Goal.guardB rfl rfl (fun hc => ?_) (fun hc => ?_)
      | (apply G.load; exact rfl; exact rfl; first | exact LoadOK.one (by first | exact T.one_3 | exact T.one_4) 0 rfl rfl | exact LoadOK.one (by first | exact T.one_3 | exact T.one_4) 1 rfl rfl | exact LoadOK.one (by first | exact T.one_3 | exact T.one_4) 2 rfl rfl | exact LoadOK.one (by first | exact T.one_3 | exact T.one_4) 3 rfl rfl | exact LoadOK.one (by first | exact T.one_3 | exact T.one_4) 4 rfl rfl | exact LoadOK.one (by first | exact T.one_3 | exact T.one_4) 5 rfl rfl | exact LoadOK.one (by first | exact T.one_3 | exact T.one_4) 6 rfl rfl | exact LoadOK.one (by first | exact T.one_3 | exact T.one_4) 7 rfl rfl)
      | (apply G.pickT; exact rfl; exact rfl; exact rfl)
      | (apply G.pickF; exact rfl; exact rfl; exact rfl)
      | (apply G.lss; exact rfl; exact rfl; exact rfl)
      | (apply G.gtr; exact rfl; exact rfl; exact rfl)
      | (apply G.geq; exact rfl; exact rfl; exact rfl)
      | (apply G.eql; exact rfl; exact rfl; exact rfl)
      | (apply G.neq; exact rfl; exact rfl; exact rfl)
      | (apply G.add; exact rfl; exact rfl; exact rfl; first | exact IntWalk.i64_in _ (by omega) | exact IntWalk.u8_in _ (by omega) | exact IntWalk.u16_in _ (by omega) | exact IntWalk.u32_in _ (by omega) | exact IntWalk.u64_in _ (by omega))
      | (apply G.sub; exact rfl; exact rfl; exact rfl; first | exact IntWalk.i64_in _ (by omega) | exact IntWalk.u8_in _ (by omega) | exact IntWalk.u16_in _ (by omega) | exact IntWalk.u32_in _ (by omega) | exact IntWalk.u64_in _ (by omega))
      | (refine Goal.quiet rfl (Run.eqlP T.ptr_24 rfl rfl rfl) ?_)
      | (refine Goal.quiet rfl (Run.neqP T.ptr_24 rfl rfl rfl) ?_)
      | (apply G.notT; exact rfl; exact rfl)
      | (apply G.notF; exact rfl; exact rfl)
      | (refine G.notD rfl rfl ?_)
      | (apply G.notB; exact rfl; exact rfl)
      | (apply G.extract; exact rfl; exact rfl; exact rfl)
      | (apply G.len; exact rfl; exact rfl; exact T.slc_22)
      | (refine G.indexAddr1 rfl (by first | exact T.slc_22 | exact T.slc_29) (by first | exact T.sz_3 | exact T.sz_4) rfl rfl _ rfl (by omega) ?_)
      | (refine G.indexAddr1 rfl (by first | exact T.slc_22 | exact T.slc_29) (by first | exact T.sz_3 | exact T.sz_4) rfl rfl _ (Int.toNat_of_nonneg (by omega)).symm (by omega) ?_)
      | (refine Goal.loud rfl ?_; refine Loud.store0 rfl rfl T.sz_4 rfl rfl rfl (by first | exact Nat.le_refl _ | decide | (simp; omega)) rfl ?_)
      | (refine Goal.loud rfl ?_; refine Loud.store1 rfl rfl T.sz_4 rfl rfl rfl (by first | exact Nat.le_refl _ | decide | (simp; omega)) rfl ?_)
      | (refine Goal.loud rfl ?_; refine Loud.store2 rfl rfl T.sz_4 rfl rfl rfl (by first | exact Nat.le_refl _ | decide | (simp; omega)) rfl ?_)
      | (refine Goal.loud rfl ?_; refine Loud.store3 rfl rfl T.sz_4 rfl rfl rfl (by first | exact Nat.le_refl _ | decide | (simp; omega)) rfl ?_)
      | (refine Goal.loud rfl ?_; refine Loud.store4 rfl rfl T.sz_4 rfl rfl rfl (by first | exact Nat.le_refl _ | decide | (simp; omega)) rfl ?_)
      | (refine Goal.loud rfl ?_; refine Loud.store5 rfl rfl T.sz_4 rfl rfl rfl (by first | exact Nat.le_refl _ | decide | (simp; omega)) rfl ?_)
      | (refine Goal.loud rfl ?_; refine Loud.store6 rfl rfl T.sz_4 rfl rfl rfl (by first | exact Nat.le_refl _ | decide | (simp; omega)) rfl ?_)
      | (refine Goal.loud rfl ?_; refine Loud.store7 rfl rfl T.sz_4 rfl rfl rfl (by first | exact Nat.le_refl _ | decide | (simp; omega)) rfl ?_))
    refine Goal.loopP (X := S1) (fun x => [(0, .slice ad keys.length cap), (3, .pointer (some ⟨bh, 0, none⟩)), (32, .int .i64 keys.length), (33, .int .i64 x.t)]) (fun x => x.A)
      (fun x => (0 ≤ x.t ∧ x.t ≤ keys.length) ∧ HpA bh bk bp keys.length (fun j => if (keys.length : Int) - x.t ≤ j then some (ia keys j) else none) x.A) (fun x => (keys.length - x.t).toNat) ⟨0, A1⟩ ⟨rfl, rfl, rfl, rfl, trivial⟩ (fun _ h => h)
      ⟨by dsimp only; omega, h1.congr fun i i0 i1 => by dsimp only; rw [if_neg (by omega)]⟩ ?_
    rintro ⟨t, A⟩ ⟨ht, hA⟩
    dsimp only at ht hA ⊢
    by_cases hlt : t < keys.length
    · obtain ⟨b, o, rfl, hk⟩ := RdV.int hr (by omega)
      repeat' (first
        | (refine Goal.loud (o := ⟨some 50, _, _, _, _, _⟩) rfl ?_; refine Loud.callE ([]) (set_ok hA (by omega) ((keys.length : Int) - 1 - t) (ia keys ((keys.length : Int) - 1 - t))) rfl rfl rfl rfl T.bod_10 (fun _ h => h) ?_; intro A2 h2; rw [if_pos (by omega)] at h2 ⊢)
        | (refine Goal.loud (o := ⟨some 55, _, _, _, _, _⟩) rfl ?_; first | refine Loud.makeSlice rfl T.slc_29 T.inf_4 rfl rfl (by decide) rfl rfl rfl rfl (by omega) (by omega) (by omega) (fun b55 => ?_) | refine Loud.makeSlice rfl T.slc_29 T.inf_4 rfl rfl (by decide) rfl rfl (Int.toNat_of_nonneg (by omega)).symm (Int.toNat_of_nonneg (by omega)).symm (by omega) (by omega) (by omega) (fun b55 => ?_))
        | (apply G.move; exact rfl; exact rfl)
        | (apply G.assign; exact rfl; exact rfl)
        | refine Goal.seq (fun _ _ => ?_)
        | refine Goal.next (by assumption) ?_
        | refine Goal.lnil ?_
        | refine Goal.region ?_
        | refine Goal.skip ?_
        | refine Goal.block ?_
        | refine Goal.exit ?_
        | refine Goal.ret ?_
        | refine Goal.then_exit ?_
        | refine Goal.then_ret ?_
        | refine Goal.inBlock_exit ?_
        | refine Goal.inBlock_normal ?_
        | refine Goal.inBlock_ret ?_
        | refine Goal.inBlock_other rfl ?_
        | (apply Goal.condT; exact rfl)
        | (apply Goal.condF; exact rfl)
        | (refine Goal.condD rfl (fun hc => ?_) (fun hc => ?_) <;> first | (exfalso; omega) | contradiction | skip)
        | refine Goal.condB rfl (fun hc => ?_) (fun hc => ?_)
        | refine Goal.guardT rfl rfl ?_
        | refine Goal.guardF rfl rfl rfl rfl ?_
        | refine Goal.guardU rfl rfl rfl ?_
        | (refine Goal.guardD rfl rfl (fun hc => ?_) (fun hc => ?_) <;> first | (exfalso; omega) | contradiction | skip)
        | refine Goal.guardB rfl rfl (fun hc => ?_) (fun hc => ?_)
        | (apply G.load; exact rfl; exact rfl; first | exact LoadOK.old T.one_3 (hk _ (by omega) (by omega)) (by simp) | exact LoadOK.one (by first | exact T.one_3 | exact T.one_4) 0 rfl rfl | exact LoadOK.one (by first | exact T.one_3 | exact T.one_4) 1 rfl rfl | exact LoadOK.one (by first | exact T.one_3 | exact T.one_4) 2 rfl rfl | exact LoadOK.one (by first | exact T.one_3 | exact T.one_4) 3 rfl rfl | exact LoadOK.one (by first | exact T.one_3 | exact T.one_4) 4 rfl rfl | exact LoadOK.one (by first | exact T.one_3 | exact T.one_4) 5 rfl rfl | exact LoadOK.one (by first | exact T.one_3 | exact T.one_4) 6 rfl rfl | exact LoadOK.one (by first | exact T.one_3 | exact T.one_4) 7 rfl rfl)
        | (apply G.pickT; exact rfl; exact rfl; exact rfl)
        | (apply G.pickF; exact rfl; exact rfl; exact rfl)
        | (apply G.lss; exact rfl; exact rfl; exact rfl)
        | (apply G.gtr; exact rfl; exact rfl; exact rfl)
        | (apply G.geq; exact rfl; exact rfl; exact rfl)
        | (apply G.eql; exact rfl; exact rfl; exact rfl)
        | (apply G.neq; exact rfl; exact rfl; exact rfl)
        | (apply G.add; exact rfl; exact rfl; exact rfl; first | exact IntWalk.i64_in _ (by omega) | exact IntWalk.u8_in _ (by omega) | exact IntWalk.u16_in _ (by omega) | exact IntWalk.u32_in _ (by omega) | exact IntWalk.u64_in _ (by omega))
        | (apply G.sub; exact rfl; exact rfl; exact rfl; first | exact IntWalk.i64_in _ (by omega) | exact IntWalk.u8_in _ (by omega) | exact IntWalk.u16_in _ (by omega) | exact IntWalk.u32_in _ (by omega) | exact IntWalk.u64_in _ (by omega))
        | (refine Goal.quiet rfl (Run.eqlP T.ptr_24 rfl rfl rfl) ?_)
        | (refine Goal.quiet rfl (Run.neqP T.ptr_24 rfl rfl rfl) ?_)
        | (apply G.notT; exact rfl; exact rfl)
        | (apply G.notF; exact rfl; exact rfl)
        | (refine G.notD rfl rfl ?_)
        | (apply G.notB; exact rfl; exact rfl)
        | (apply G.extract; exact rfl; exact rfl; exact rfl)
        | (apply G.len; exact rfl; exact rfl; exact T.slc_22)
        | (refine G.indexAddr1 rfl (by first | exact T.slc_22 | exact T.slc_29) (by first | exact T.sz_3 | exact T.sz_4) rfl rfl _ rfl (by omega) ?_)
        | (refine G.indexAddr1 rfl (by first | exact T.slc_22 | exact T.slc_29) (by first | exact T.sz_3 | exact T.sz_4) rfl rfl _ (Int.toNat_of_nonneg (by omega)).symm (by omega) ?_)
        | (refine Goal.loud rfl ?_; refine Loud.store0 rfl rfl T.sz_4 rfl rfl rfl (by first | exact Nat.le_refl _ | decide | (simp; omega)) rfl ?_)
        | (refine Goal.loud rfl ?_; refine Loud.store1 rfl rfl T.sz_4 rfl rfl rfl (by first | exact Nat.le_refl _ | decide | (simp; omega)) rfl ?_)
        | (refine Goal.loud rfl ?_; refine Loud.store2 rfl rfl T.sz_4 rfl rfl rfl (by first | exact Nat.le_refl _ | decide | (simp; omega)) rfl ?_)
        | (refine Goal.loud rfl ?_; refine Loud.store3 rfl rfl T.sz_4 rfl rfl rfl (by first | exact Nat.le_refl _ | decide | (simp; omega)) rfl ?_)
        | (refine Goal.loud rfl ?_; refine Loud.store4 rfl rfl T.sz_4 rfl rfl rfl (by first | exact Nat.le_refl _ | decide | (simp; omega)) rfl ?_)
        | (refine Goal.loud rfl ?_; refine Loud.store5 rfl rfl T.sz_4 rfl rfl rfl (by first | exact Nat.le_refl _ | decide | (simp; omega)) rfl ?_)
        | (refine Goal.loud rfl ?_; refine Loud.store6 rfl rfl T.sz_4 rfl rfl rfl (by first | exact Nat.le_refl _ | decide | (simp; omega)) rfl ?_)
        | (refine Goal.loud rfl ?_; refine Loud.store7 rfl rfl T.sz_4 rfl rfl rfl (by first | exact Nat.le_refl _ | decide | (simp; omega)) rfl ?_))
      refine Goal.again ⟨t + 1, A2⟩ ⟨by dsimp only; omega, h2.congr fun i i0 i1 => ?_⟩ (by dsimp only; omega) ⟨rfl, rfl, rfl, rfl, trivial⟩ (fun _ h => h)
      unfold upd
      dsimp only
      by_cases e : i = (keys.length : Int) - 1 - t
      · rw [if_pos e, if_pos (by omega), e]
      · rw [if_neg e]
        by_cases e2 : (keys.length : Int) - t ≤ i
        · rw [if_pos e2, if_pos (by omega)]
        · rw [if_neg e2, if_neg (by omega)]
    · skip
      repeat' (first
        | (refine Goal.loud (o := ⟨some 55, _, _, _, _, _⟩) rfl ?_; first | refine Loud.makeSlice rfl T.slc_29 T.inf_4 rfl rfl (by decide) rfl rfl rfl rfl (by omega) (by omega) (by omega) (fun b55 => ?_) | refine Loud.makeSlice rfl T.slc_29 T.inf_4 rfl rfl (by decide) rfl rfl (Int.toNat_of_nonneg (by omega)).symm (Int.toNat_of_nonneg (by omega)).symm (by omega) (by omega) (by omega) (fun b55 => ?_))
        | (apply G.move; exact rfl; exact rfl)
        | (apply G.assign; exact rfl; exact rfl)
        | refine Goal.seq (fun _ _ => ?_)
        | refine Goal.next (by assumption) ?_
        | refine Goal.lnil ?_
        | refine Goal.region ?_
        | refine Goal.skip ?_
        | refine Goal.block ?_
        | refine Goal.exit ?_
        | refine Goal.ret ?_
        | refine Goal.then_exit ?_
        | refine Goal.then_ret ?_
        | refine Goal.inBlock_exit ?_
        | refine Goal.inBlock_normal ?_
        | refine Goal.inBlock_ret ?_
        | refine Goal.inBlock_other rfl ?_
        | (apply Goal.condT; exact rfl)
        | (apply Goal.condF; exact rfl)
        | (refine Goal.condD rfl (fun hc => ?_) (fun hc => ?_) <;> first | (exfalso; omega) | contradiction | skip)
        | refine Goal.condB rfl (fun hc => ?_) (fun hc => ?_)
        | refine Goal.guardT rfl rfl ?_
        | refine Goal.guardF rfl rfl rfl rfl ?_
        | refine Goal.guardU rfl rfl rfl ?_
        | (refine Goal.guardD rfl rfl (fun hc => ?_) (fun hc => ?_) <;> first | (exfalso; omega) | contradiction | skip)
        | refine Goal.guardB rfl rfl (fun hc => ?_) (fun hc => ?_)
        | (apply G.load; exact rfl; exact rfl; first | exact LoadOK.one (by first | exact T.one_3 | exact T.one_4) 0 rfl rfl | exact LoadOK.one (by first | exact T.one_3 | exact T.one_4) 1 rfl rfl | exact LoadOK.one (by first | exact T.one_3 | exact T.one_4) 2 rfl rfl | exact LoadOK.one (by first | exact T.one_3 | exact T.one_4) 3 rfl rfl | exact LoadOK.one (by first | exact T.one_3 | exact T.one_4) 4 rfl rfl | exact LoadOK.one (by first | exact T.one_3 | exact T.one_4) 5 rfl rfl | exact LoadOK.one (by first | exact T.one_3 | exact T.one_4) 6 rfl rfl | exact LoadOK.one (by first | exact T.one_3 | exact T.one_4) 7 rfl rfl)
        | (apply G.pickT; exact rfl; exact rfl; exact rfl)
        | (apply G.pickF; exact rfl; exact rfl; exact rfl)
        | (apply G.lss; exact rfl; exact rfl; exact rfl)
        | (apply G.gtr; exact rfl; exact rfl; exact rfl)
        | (apply G.geq; exact rfl; exact rfl; exact rfl)
        | (apply G.eql; exact rfl; exact rfl; exact rfl)
        | (apply G.neq; exact rfl; exact rfl; exact rfl)
        | (apply G.add; exact rfl; exact rfl; exact rfl; first | exact IntWalk.i64_in _ (by omega) | exact IntWalk.u8_in _ (by omega) | exact IntWalk.u16_in _ (by omega) | exact IntWalk.u32_in _ (by omega) | exact IntWalk.u64_in _ (by omega))
        | (apply G.sub; exact rfl; exact rfl; exact rfl; first | exact IntWalk.i64_in _ (by omega) | exact IntWalk.u8_in _ (by omega) | exact IntWalk.u16_in _ (by omega) | exact IntWalk.u32_in _ (by omega) | exact IntWalk.u64_in _ (by omega))
        | (refine Goal.quiet rfl (Run.eqlP T.ptr_24 rfl rfl rfl) ?_)
        | (refine Goal.quiet rfl (Run.neqP T.ptr_24 rfl rfl rfl) ?_)
        | (apply G.notT; exact rfl; exact rfl)
        | (apply G.notF; exact rfl; exact rfl)
        | (refine G.notD rfl rfl ?_)
        | (apply G.notB; exact rfl; exact rfl)
        | (apply G.extract; exact rfl; exact rfl; exact rfl)
        | (apply G.len; exact rfl; exact rfl; exact T.slc_22)
        | (refine G.indexAddr1 rfl (by first | exact T.slc_22 | exact T.slc_29) (by first | exact T.sz_3 | exact T.sz_4) rfl rfl _ rfl (by omega) ?_)
        | (refine G.indexAddr1 rfl (by first | exact T.slc_22 | exact T.slc_29) (by first | exact T.sz_3 | exact T.sz_4) rfl rfl _ (Int.toNat_of_nonneg (by omega)).symm (by omega) ?_)
        | (refine Goal.loud rfl ?_; refine Loud.store0 rfl rfl T.sz_4 rfl rfl rfl (by first | exact Nat.le_refl _ | decide | (simp; omega)) rfl ?_)
        | (refine Goal.loud rfl ?_; refine Loud.store1 rfl rfl T.sz_4 rfl rfl rfl (by first | exact Nat.le_refl _ | decide | (simp; omega)) rfl ?_)
        | (refine Goal.loud rfl ?_; refine Loud.store2 rfl rfl T.sz_4 rfl rfl rfl (by first | exact Nat.le_refl _ | decide | (simp; omega)) rfl ?_)
        | (refine Goal.loud rfl ?_; refine Loud.store3 rfl rfl T.sz_4 rfl rfl rfl (by first | exact Nat.le_refl _ | decide | (simp; omega)) rfl ?_)
        | (refine Goal.loud rfl ?_; refine Loud.store4 rfl rfl T.sz_4 rfl rfl rfl (by first | exact Nat.le_refl _ | decide | (simp; omega)) rfl ?_)
        | (refine Goal.loud rfl ?_; refine Loud.store5 rfl rfl T.sz_4 rfl rfl rfl (by first | exact Nat.le_refl _ | decide | (simp; omega)) rfl ?_)
        | (refine Goal.loud rfl ?_; refine Loud.store6 rfl rfl T.sz_4 rfl rfl rfl (by first | exact Nat.le_refl _ | decide | (simp; omega)) rfl ?_)
        | (refine Goal.loud rfl ?_; refine Loud.store7 rfl rfl T.sz_4 rfl rfl rfl (by first | exact Nat.le_refl _ | decide | (simp; omega)) rfl ?_))
      refine Goal.loopP (X := S2) (fun x => [(0, .slice ad keys.length cap), (3, .pointer (some ⟨bh, 0, none⟩)), (6, .slice (some ⟨b55, 0, none⟩) keys.length keys.length), (7, .int .i64 x.last), (57, .int .i64 keys.length), (58, .int .i64 x.t)]) (fun x => (b55, .cells (bools x.seen).toArray 4) :: x.A)
        (fun x => (0 ≤ x.t ∧ x.t ≤ keys.length) ∧ x.seen.length = keys.length ∧ HpA bh bk bp keys.length (fun j => if ba x.seen j = true then none else some (ia keys j)) x.A ∧ (cnt keys.length (fun j => if ba x.seen j = true then none else some (ia keys j)) : Int) + x.t = keys.length ∧
          (x.last = -1 ∨ ((0 ≤ x.last ∧ x.last < keys.length) ∧ ∀ j : Int, 0 ≤ j → j < keys.length → ba x.seen j = false → ia keys x.last < ia keys j ∨ (ia keys x.last = ia keys j ∧ x.last ≤ j)))) (fun x => (keys.length - x.t).toNat) ⟨0, -1, List.replicate keys.length false, A⟩ ⟨rfl, rfl, rfl, rfl, rfl, rfl, trivial⟩ (fun _ h => by rw [← rep_bools]; exact h)
        ⟨by dsimp only; omega, by simp, hA.congr fun i i0 i1 => by dsimp only; rw [ba_zero, if_neg (by decide), if_pos (by omega)], by dsimp only; rw [cnt_full fun i i0 i1 => by rw [ba_zero]; rfl]; omega, .inl rfl⟩ ?_
      clear hA
      rintro ⟨t2, last, seen, A'⟩ ⟨ht2, hsl, hA, hcn, hla⟩
      dsimp only at ht2 hsl hA hcn hla ⊢
      by_cases hlt2 : t2 < keys.length
      · obtain ⟨b, o, rfl, hk⟩ := RdV.int hr (by omega)
        rcases hla with rfl | ⟨hl0, hl1⟩
        · skip
          repeat' (first
            | (refine Goal.loud (o := ⟨some 62, _, _, _, _, _⟩) rfl ?_; refine Loud.callE ([_]) (pop_ok hA (by omega)) rfl rfl rfl rfl T.bod_11 (fun _ h => h) ?_; rintro ⟨i, k, ok, A3⟩ ⟨hp, h3⟩; dsimp only at hp h3 ⊢; obtain ⟨rfl, hi, hmi, hmin⟩ := pop_some hp (by omega); have hsi : ba seen i = false := (by cases hb : ba seen i <;> simp [hb] at hmi ⊢); rw [hsi] at hmi; obtain rfl : ia keys i = k := (by simpa using hmi); rw [if_pos rfl] at h3)
            | (refine Goal.loud (o := ⟨some 55, _, _, _, _, _⟩) rfl ?_; first | refine Loud.makeSlice rfl T.slc_29 T.inf_4 rfl rfl (by decide) rfl rfl rfl rfl (by omega) (by omega) (by omega) (fun b55 => ?_) | refine Loud.makeSlice rfl T.slc_29 T.inf_4 rfl rfl (by decide) rfl rfl (Int.toNat_of_nonneg (by omega)).symm (Int.toNat_of_nonneg (by omega)).symm (by omega) (by omega) (by omega) (fun b55 => ?_))
            | (apply G.move; exact rfl; exact rfl)
            | (apply G.assign; exact rfl; exact rfl)
            | refine Goal.seq (fun _ _ => ?_)
            | refine Goal.next (by assumption) ?_
            | refine Goal.lnil ?_
            | refine Goal.region ?_
            | refine Goal.skip ?_
            | refine Goal.block ?_
            | refine Goal.exit ?_
            | refine Goal.ret ?_
            | refine Goal.then_exit ?_
            | refine Goal.then_ret ?_
            | refine Goal.inBlock_exit ?_
            | refine Goal.inBlock_normal ?_
            | refine Goal.inBlock_ret ?_
            | refine Goal.inBlock_other rfl ?_
            | (apply Goal.condT; exact rfl)
            | (apply Goal.condF; exact rfl)
            | (refine Goal.condD rfl (fun hc => ?_) (fun hc => ?_) <;> first | (exfalso; omega) | contradiction | skip)
            | refine Goal.condB rfl (fun hc => ?_) (fun hc => ?_)
            | refine Goal.guardT rfl rfl ?_
            | refine Goal.guardF rfl rfl rfl rfl ?_
            | refine Goal.guardU rfl rfl rfl ?_
            | (refine Goal.guardD rfl rfl (fun hc => ?_) (fun hc => ?_) <;> first | (exfalso; omega) | contradiction | skip)
            | refine Goal.guardB rfl rfl (fun hc => ?_) (fun hc => ?_)
            | (apply G.load; exact rfl; exact rfl; first | exact LoadOK.old T.one_3 (hk _ (by omega) (by omega)) (by simp) | exact LoadOK.baE T.one_4 0 rfl (by omega) hsi | exact LoadOK.one (by first | exact T.one_3 | exact T.one_4) 0 rfl rfl | exact LoadOK.one (by first | exact T.one_3 | exact T.one_4) 1 rfl rfl | exact LoadOK.one (by first | exact T.one_3 | exact T.one_4) 2 rfl rfl | exact LoadOK.one (by first | exact T.one_3 | exact T.one_4) 3 rfl rfl | exact LoadOK.one (by first | exact T.one_3 | exact T.one_4) 4 rfl rfl | exact LoadOK.one (by first | exact T.one_3 | exact T.one_4) 5 rfl rfl | exact LoadOK.one (by first | exact T.one_3 | exact T.one_4) 6 rfl rfl | exact LoadOK.one (by first | exact T.one_3 | exact T.one_4) 7 rfl rfl)
            | (apply G.pickT; exact rfl; exact rfl; exact rfl)
            | (apply G.pickF; exact rfl; exact rfl; exact rfl)
            | (apply G.lss; exact rfl; exact rfl; exact rfl)
            | (apply G.gtr; exact rfl; exact rfl; exact rfl)
            | (apply G.geq; exact rfl; exact rfl; exact rfl)
            | (apply G.eql; exact rfl; exact rfl; exact rfl)
            | (apply G.neq; exact rfl; exact rfl; exact rfl)
            | (apply G.add; exact rfl; exact rfl; exact rfl; first | exact IntWalk.i64_in _ (by omega) | exact IntWalk.u8_in _ (by omega) | exact IntWalk.u16_in _ (by omega) | exact IntWalk.u32_in _ (by omega) | exact IntWalk.u64_in _ (by omega))
            | (apply G.sub; exact rfl; exact rfl; exact rfl; first | exact IntWalk.i64_in _ (by omega) | exact IntWalk.u8_in _ (by omega) | exact IntWalk.u16_in _ (by omega) | exact IntWalk.u32_in _ (by omega) | exact IntWalk.u64_in _ (by omega))
            | (refine Goal.quiet rfl (Run.eqlP T.ptr_24 rfl rfl rfl) ?_)
            | (refine Goal.quiet rfl (Run.neqP T.ptr_24 rfl rfl rfl) ?_)
            | (apply G.notT; exact rfl; exact rfl)
            | (apply G.notF; exact rfl; exact rfl)
            | (refine G.notD rfl rfl ?_)
            | (apply G.notB; exact rfl; exact rfl)
            | (apply G.extract; exact rfl; exact rfl; exact rfl)
            | (apply G.len; exact rfl; exact rfl; exact T.slc_22)
            | (refine G.indexAddr1 rfl (by first | exact T.slc_22 | exact T.slc_29) (by first | exact T.sz_3 | exact T.sz_4) rfl rfl _ rfl (by omega) ?_)
            | (refine G.indexAddr1 rfl (by first | exact T.slc_22 | exact T.slc_29) (by first | exact T.sz_3 | exact T.sz_4) rfl rfl _ (Int.toNat_of_nonneg (by omega)).symm (by omega) ?_)
            | (refine Goal.loud rfl ?_; refine Loud.store0 rfl rfl T.sz_4 rfl rfl rfl (by rw [List.size_toArray, bools_len]; omega) (wr_bools (by omega)) ?_)
            | (refine Goal.loud rfl ?_; refine Loud.store0 rfl rfl T.sz_4 rfl rfl rfl (by first | exact Nat.le_refl _ | decide | (simp; omega)) rfl ?_)
            | (refine Goal.loud rfl ?_; refine Loud.store1 rfl rfl T.sz_4 rfl rfl rfl (by first | exact Nat.le_refl _ | decide | (simp; omega)) rfl ?_)
            | (refine Goal.loud rfl ?_; refine Loud.store2 rfl rfl T.sz_4 rfl rfl rfl (by first | exact Nat.le_refl _ | decide | (simp; omega)) rfl ?_)
            | (refine Goal.loud rfl ?_; refine Loud.store3 rfl rfl T.sz_4 rfl rfl rfl (by first | exact Nat.le_refl _ | decide | (simp; omega)) rfl ?_)
            | (refine Goal.loud rfl ?_; refine Loud.store4 rfl rfl T.sz_4 rfl rfl rfl (by first | exact Nat.le_refl _ | decide | (simp; omega)) rfl ?_)
            | (refine Goal.loud rfl ?_; refine Loud.store5 rfl rfl T.sz_4 rfl rfl rfl (by first | exact Nat.le_refl _ | decide | (simp; omega)) rfl ?_)
            | (refine Goal.loud rfl ?_; refine Loud.store6 rfl rfl T.sz_4 rfl rfl rfl (by first | exact Nat.le_refl _ | decide | (simp; omega)) rfl ?_)
            | (refine Goal.loud rfl ?_; refine Loud.store7 rfl rfl T.sz_4 rfl rfl rfl (by first | exact Nat.le_refl _ | decide | (simp; omega)) rfl ?_))
          all_goals
            have hcl := left_cnt hsl hi hsi
            unfold left at hcl
            refine Goal.again ⟨t2 + 1, i, seen.set i.toNat true, A3⟩ ⟨by dsimp only; omega, by simp [hsl], h3.congr (left_set hsl hi), by dsimp only; omega, .inr ⟨hi, left_min hsl hi hmin⟩⟩ (by dsimp only; omega) ⟨rfl, rfl, rfl, rfl, rfl, rfl, trivial⟩ (fun _ h => h)
        · skip
          repeat' (first
            | (refine Goal.loud (o := ⟨some 62, _, _, _, _, _⟩) rfl ?_; refine Loud.callE ([_]) (pop_ok hA (by omega)) rfl rfl rfl rfl T.bod_11 (fun _ h => h) ?_; rintro ⟨i, k, ok, A3⟩ ⟨hp, h3⟩; dsimp only at hp h3 ⊢; obtain ⟨rfl, hi, hmi, hmin⟩ := pop_some hp (by omega); have hsi : ba seen i = false := (by cases hb : ba seen i <;> simp [hb] at hmi ⊢); rw [hsi] at hmi; obtain rfl : ia keys i = k := (by simpa using hmi); rw [if_pos rfl] at h3; have hli := hl1 i hi.1 hi.2 hsi)
            | (refine Goal.loud (o := ⟨some 55, _, _, _, _, _⟩) rfl ?_; first | refine Loud.makeSlice rfl T.slc_29 T.inf_4 rfl rfl (by decide) rfl rfl rfl rfl (by omega) (by omega) (by omega) (fun b55 => ?_) | refine Loud.makeSlice rfl T.slc_29 T.inf_4 rfl rfl (by decide) rfl rfl (Int.toNat_of_nonneg (by omega)).symm (Int.toNat_of_nonneg (by omega)).symm (by omega) (by omega) (by omega) (fun b55 => ?_))
            | (apply G.move; exact rfl; exact rfl)
            | (apply G.assign; exact rfl; exact rfl)
            | refine Goal.seq (fun _ _ => ?_)
            | refine Goal.next (by assumption) ?_
            | refine Goal.lnil ?_
            | refine Goal.region ?_
            | refine Goal.skip ?_
            | refine Goal.block ?_
            | refine Goal.exit ?_
            | refine Goal.ret ?_
            | refine Goal.then_exit ?_
            | refine Goal.then_ret ?_
            | refine Goal.inBlock_exit ?_
            | refine Goal.inBlock_normal ?_
            | refine Goal.inBlock_ret ?_
            | refine Goal.inBlock_other rfl ?_
            | (apply Goal.condT; exact rfl)
            | (apply Goal.condF; exact rfl)
            | (refine Goal.condD rfl (fun hc => ?_) (fun hc => ?_) <;> first | (exfalso; omega) | contradiction | skip)
            | refine Goal.condB rfl (fun hc => ?_) (fun hc => ?_)
            | refine Goal.guardT rfl rfl ?_
            | refine Goal.guardF rfl rfl rfl rfl ?_
            | refine Goal.guardU rfl rfl rfl ?_
            | (refine Goal.guardD rfl rfl (fun hc => ?_) (fun hc => ?_) <;> first | (exfalso; omega) | contradiction | skip)
            | refine Goal.guardB rfl rfl (fun hc => ?_) (fun hc => ?_)
            | (apply G.load; exact rfl; exact rfl; first | exact LoadOK.old T.one_3 (hk _ (by omega) (by omega)) (by simp) | exact LoadOK.baE T.one_4 0 rfl (by omega) hsi | exact LoadOK.one (by first | exact T.one_3 | exact T.one_4) 0 rfl rfl | exact LoadOK.one (by first | exact T.one_3 | exact T.one_4) 1 rfl rfl | exact LoadOK.one (by first | exact T.one_3 | exact T.one_4) 2 rfl rfl | exact LoadOK.one (by first | exact T.one_3 | exact T.one_4) 3 rfl rfl | exact LoadOK.one (by first | exact T.one_3 | exact T.one_4) 4 rfl rfl | exact LoadOK.one (by first | exact T.one_3 | exact T.one_4) 5 rfl rfl | exact LoadOK.one (by first | exact T.one_3 | exact T.one_4) 6 rfl rfl | exact LoadOK.one (by first | exact T.one_3 | exact T.one_4) 7 rfl rfl)
            | (apply G.pickT; exact rfl; exact rfl; exact rfl)
            | (apply G.pickF; exact rfl; exact rfl; exact rfl)
            | (apply G.lss; exact rfl; exact rfl; exact rfl)
            | (apply G.gtr; exact rfl; exact rfl; exact rfl)
            | (apply G.geq; exact rfl; exact rfl; exact rfl)
            | (apply G.eql; exact rfl; exact rfl; exact rfl)
            | (apply G.neq; exact rfl; exact rfl; exact rfl)
            | (apply G.add; exact rfl; exact rfl; exact rfl; first | exact IntWalk.i64_in _ (by omega) | exact IntWalk.u8_in _ (by omega) | exact IntWalk.u16_in _ (by omega) | exact IntWalk.u32_in _ (by omega) | exact IntWalk.u64_in _ (by omega))
            | (apply G.sub; exact rfl; exact rfl; exact rfl; first | exact IntWalk.i64_in _ (by omega) | exact IntWalk.u8_in _ (by omega) | exact IntWalk.u16_in _ (by omega) | exact IntWalk.u32_in _ (by omega) | exact IntWalk.u64_in _ (by omega))
            | (refine Goal.quiet rfl (Run.eqlP T.ptr_24 rfl rfl rfl) ?_)
            | (refine Goal.quiet rfl (Run.neqP T.ptr_24 rfl rfl rfl) ?_)
            | (apply G.notT; exact rfl; exact rfl)
            | (apply G.notF; exact rfl; exact rfl)
            | (refine G.notD rfl rfl ?_)
            | (apply G.notB; exact rfl; exact rfl)
            | (apply G.extract; exact rfl; exact rfl; exact rfl)
            | (apply G.len; exact rfl; exact rfl; exact T.slc_22)
            | (refine G.indexAddr1 rfl (by first | exact T.slc_22 | exact T.slc_29) (by first | exact T.sz_3 | exact T.sz_4) rfl rfl _ rfl (by omega) ?_)
            | (refine G.indexAddr1 rfl (by first | exact T.slc_22 | exact T.slc_29) (by first | exact T.sz_3 | exact T.sz_4) rfl rfl _ (Int.toNat_of_nonneg (by omega)).symm (by omega) ?_)
            | (refine Goal.loud rfl ?_; refine Loud.store0 rfl rfl T.sz_4 rfl rfl rfl (by rw [List.size_toArray, bools_len]; omega) (wr_bools (by omega)) ?_)
            | (refine Goal.loud rfl ?_; refine Loud.store0 rfl rfl T.sz_4 rfl rfl rfl (by first | exact Nat.le_refl _ | decide | (simp; omega)) rfl ?_)
            | (refine Goal.loud rfl ?_; refine Loud.store1 rfl rfl T.sz_4 rfl rfl rfl (by first | exact Nat.le_refl _ | decide | (simp; omega)) rfl ?_)
            | (refine Goal.loud rfl ?_; refine Loud.store2 rfl rfl T.sz_4 rfl rfl rfl (by first | exact Nat.le_refl _ | decide | (simp; omega)) rfl ?_)
            | (refine Goal.loud rfl ?_; refine Loud.store3 rfl rfl T.sz_4 rfl rfl rfl (by first | exact Nat.le_refl _ | decide | (simp; omega)) rfl ?_)
            | (refine Goal.loud rfl ?_; refine Loud.store4 rfl rfl T.sz_4 rfl rfl rfl (by first | exact Nat.le_refl _ | decide | (simp; omega)) rfl ?_)
            | (refine Goal.loud rfl ?_; refine Loud.store5 rfl rfl T.sz_4 rfl rfl rfl (by first | exact Nat.le_refl _ | decide | (simp; omega)) rfl ?_)
            | (refine Goal.loud rfl ?_; refine Loud.store6 rfl rfl T.sz_4 rfl rfl rfl (by first | exact Nat.le_refl _ | decide | (simp; omega)) rfl ?_)
            | (refine Goal.loud rfl ?_; refine Loud.store7 rfl rfl T.sz_4 rfl rfl rfl (by first | exact Nat.le_refl _ | decide | (simp; omega)) rfl ?_))
          all_goals
            have hcl := left_cnt hsl hi hsi
            unfold left at hcl
            refine Goal.again ⟨t2 + 1, i, seen.set i.toNat true, A3⟩ ⟨by dsimp only; omega, by simp [hsl], h3.congr (left_set hsl hi), by dsimp only; omega, .inr ⟨hi, left_min hsl hi hmin⟩⟩ (by dsimp only; omega) ⟨rfl, rfl, rfl, rfl, rfl, rfl, trivial⟩ (fun _ h => h)
      · skip
        repeat' (first
          | (refine Goal.loud (o := ⟨some 124, _, _, _, _, _⟩) rfl ?_; refine Loud.callE ([_]) (pop_ok hA (by omega)) rfl rfl rfl rfl T.bod_11 (fun _ h => h) ?_; rintro ⟨i, k, ok, A3⟩ ⟨hp, h3⟩; dsimp only at hp h3 ⊢; obtain rfl := pop_none hp (by omega))
          | (refine Goal.loud (o := ⟨some 55, _, _, _, _, _⟩) rfl ?_; first | refine Loud.makeSlice rfl T.slc_29 T.inf_4 rfl rfl (by decide) rfl rfl rfl rfl (by omega) (by omega) (by omega) (fun b55 => ?_) | refine Loud.makeSlice rfl T.slc_29 T.inf_4 rfl rfl (by decide) rfl rfl (Int.toNat_of_nonneg (by omega)).symm (Int.toNat_of_nonneg (by omega)).symm (by omega) (by omega) (by omega) (fun b55 => ?_))
          | (apply G.move; exact rfl; exact rfl)
          | (apply G.assign; exact rfl; exact rfl)
          | refine Goal.seq (fun _ _ => ?_)
          | refine Goal.next (by assumption) ?_
          | refine Goal.lnil ?_
          | refine Goal.region ?_
          | refine Goal.skip ?_
          | refine Goal.block ?_
          | refine Goal.exit ?_
          | refine Goal.ret ?_
          | refine Goal.then_exit ?_
          | refine Goal.then_ret ?_
          | refine Goal.inBlock_exit ?_
          | refine Goal.inBlock_normal ?_
          | refine Goal.inBlock_ret ?_
          | refine Goal.inBlock_other rfl ?_
          | (apply Goal.condT; exact rfl)
          | (apply Goal.condF; exact rfl)
          | (refine Goal.condD rfl (fun hc => ?_) (fun hc => ?_) <;> first | (exfalso; omega) | contradiction | skip)
          | refine Goal.condB rfl (fun hc => ?_) (fun hc => ?_)
          | refine Goal.guardT rfl rfl ?_
          | refine Goal.guardF rfl rfl rfl rfl ?_
          | refine Goal.guardU rfl rfl rfl ?_
          | (refine Goal.guardD rfl rfl (fun hc => ?_) (fun hc => ?_) <;> first | (exfalso; omega) | contradiction | skip)
          | refine Goal.guardB rfl rfl (fun hc => ?_) (fun hc => ?_)
          | (apply G.load; exact rfl; exact rfl; first | exact LoadOK.one (by first | exact T.one_3 | exact T.one_4) 0 rfl rfl | exact LoadOK.one (by first | exact T.one_3 | exact T.one_4) 1 rfl rfl | exact LoadOK.one (by first | exact T.one_3 | exact T.one_4) 2 rfl rfl | exact LoadOK.one (by first | exact T.one_3 | exact T.one_4) 3 rfl rfl | exact LoadOK.one (by first | exact T.one_3 | exact T.one_4) 4 rfl rfl | exact LoadOK.one (by first | exact T.one_3 | exact T.one_4) 5 rfl rfl | exact LoadOK.one (by first | exact T.one_3 | exact T.one_4) 6 rfl rfl | exact LoadOK.one (by first | exact T.one_3 | exact T.one_4) 7 rfl rfl)
          | (apply G.pickT; exact rfl; exact rfl; exact rfl)
          | (apply G.pickF; exact rfl; exact rfl; exact rfl)
          | (apply G.lss; exact rfl; exact rfl; exact rfl)
          | (apply G.gtr; exact rfl; exact rfl; exact rfl)
          | (apply G.geq; exact rfl; exact rfl; exact rfl)
          | (apply G.eql; exact rfl; exact rfl; exact rfl)
          | (apply G.neq; exact rfl; exact rfl; exact rfl)
          | (apply G.add; exact rfl; exact rfl; exact rfl; first | exact IntWalk.i64_in _ (by omega) | exact IntWalk.u8_in _ (by omega) | exact IntWalk.u16_in _ (by omega) | exact IntWalk.u32_in _ (by omega) | exact IntWalk.u64_in _ (by omega))
          | (apply G.sub; exact rfl; exact rfl; exact rfl; first | exact IntWalk.i64_in _ (by omega) | exact IntWalk.u8_in _ (by omega) | exact IntWalk.u16_in _ (by omega) | exact IntWalk.u32_in _ (by omega) | exact IntWalk.u64_in _ (by omega))
          | (refine Goal.quiet rfl (Run.eqlP T.ptr_24 rfl rfl rfl) ?_)
          | (refine Goal.quiet rfl (Run.neqP T.ptr_24 rfl rfl rfl) ?_)
          | (apply G.notT; exact rfl; exact rfl)
          | (apply G.notF; exact rfl; exact rfl)
          | (refine G.notD rfl rfl ?_)
          | (apply G.notB; exact rfl; exact rfl)
          | (apply G.extract; exact rfl; exact rfl; exact rfl)
          | (apply G.len; exact rfl; exact rfl; exact T.slc_22)
          | (refine G.indexAddr1 rfl (by first | exact T.slc_22 | exact T.slc_29) (by first | exact T.sz_3 | exact T.sz_4) rfl rfl _ rfl (by omega) ?_)
          | (refine G.indexAddr1 rfl (by first | exact T.slc_22 | exact T.slc_29) (by first | exact T.sz_3 | exact T.sz_4) rfl rfl _ (Int.toNat_of_nonneg (by omega)).symm (by omega) ?_)
          | (refine Goal.loud rfl ?_; refine Loud.store0 rfl rfl T.sz_4 rfl rfl rfl (by first | exact Nat.le_refl _ | decide | (simp; omega)) rfl ?_)
          | (refine Goal.loud rfl ?_; refine Loud.store1 rfl rfl T.sz_4 rfl rfl rfl (by first | exact Nat.le_refl _ | decide | (simp; omega)) rfl ?_)
          | (refine Goal.loud rfl ?_; refine Loud.store2 rfl rfl T.sz_4 rfl rfl rfl (by first | exact Nat.le_refl _ | decide | (simp; omega)) rfl ?_)
          | (refine Goal.loud rfl ?_; refine Loud.store3 rfl rfl T.sz_4 rfl rfl rfl (by first | exact Nat.le_refl _ | decide | (simp; omega)) rfl ?_)
          | (refine Goal.loud rfl ?_; refine Loud.store4 rfl rfl T.sz_4 rfl rfl rfl (by first | exact Nat.le_refl _ | decide | (simp; omega)) rfl ?_)
          | (refine Goal.loud rfl ?_; refine Loud.store5 rfl rfl T.sz_4 rfl rfl rfl (by first | exact Nat.le_refl _ | decide | (simp; omega)) rfl ?_)
          | (refine Goal.loud rfl ?_; refine Loud.store6 rfl rfl T.sz_4 rfl rfl rfl (by first | exact Nat.le_refl _ | decide | (simp; omega)) rfl ?_)
          | (refine Goal.loud rfl ?_; refine Loud.store7 rfl rfl T.sz_4 rfl rfl rfl (by first | exact Nat.le_refl _ | decide | (simp; omega)) rfl ?_))
        refine Goal.done (vs := [_]) (by first | exact .inl rfl | exact .inr rfl) Try.results3 ⟨rfl, trivial⟩ rfl (fun w' H => ⟨rfl, H.mod⟩)
end Go.Proofs.Ytknkakaffjhlmaa
