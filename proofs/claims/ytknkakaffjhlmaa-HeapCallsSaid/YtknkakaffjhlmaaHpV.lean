/- The statement HeapChanged: changes before anything is popped. -/
import Derived.Test.YtknkakaffjhlmaaHpT
import Derived.Test.YtknkakaffjhlmaaFrame
namespace Go.Proofs.Ytknkakaffjhlmaa
open Go.Wf
set_option linter.unusedVariables false
/-- A list of numbers that is only read, at a place. -/
theorem RdV.nums {w : World} {k : IntKind} {ad : Option Addr} {l : List Int} {c : Nat} (h : RdV w (.slice ad l.length c) (l.map (.int k))) (hp : 0 < l.length) : ∃ b o, ad = some ⟨b, o, none⟩ ∧ ∀ i : Int, 0 ≤ i → i < l.length → w.cell? ⟨b, o + i.toNat, none⟩ = some (.int k (ia l i)) := by
  obtain ⟨ad', cap, e, h⟩ := h
  injection e with e _ _
  subst e
  have at_ : ∀ j, j < l.length → (l.map (Value.int k))[j]? = some (.int k (l.getD j 0)) := fun j hj => by simp [hj]
  obtain ⟨b, o, rfl, _⟩ := h 0 _ (at_ 0 hp)
  refine ⟨b, o, rfl, fun i i0 i1 => ?_⟩
  obtain ⟨b', o', e, h2⟩ := h i.toNat _ (at_ _ (by omega))
  injection e with e
  injection e with e1 e2 _
  subst e1 e2
  exact h2
/-- A list of pairs that is only read, at a place. -/
theorem RdE.at {α : Type} {f : α → List Value} {w : World} {sz : Nat} {ad : Option Addr} {l : List α} {c : Nat} (h : RdE w (.slice ad l.length c) sz (l.map f)) (hp : 0 < l.length) : ∃ b o, ad = some ⟨b, o, none⟩ ∧
    ∀ i : Nat, ∀ hi : i < l.length, ∀ j v, (f l[i])[j]? = some v → w.cell? ⟨b, o + i * sz + j, none⟩ = some v := by
  obtain ⟨ad', cap, e, h⟩ := h
  injection e with e _ _
  subst e
  have at_ : ∀ j, ∀ hj : j < l.length, (l.map f)[j]? = some (f l[j]) := fun j hj => by simp [hj]
  obtain ⟨_, b, o, rfl, _⟩ := h 0 _ (at_ 0 hp)
  refine ⟨b, o, rfl, fun i hi j v hv => ?_⟩
  obtain ⟨_, b', o', e, h2⟩ := h i _ (at_ i hi)
  injection e with e
  injection e with e1 e2 _
  subst e1 e2
  exact h2 j v hv
theorem ia_mem {l : List Int} {i : Int} (h : 0 ≤ i ∧ i < l.length) : ia l i ∈ l := by
  unfold ia
  rw [List.getD_eq_getElem?_getD, List.getElem?_eq_getElem (by omega)]
  exact List.getElem_mem _
section
variable {P : Program} {ops : Array Oper} {Q : Exit → Go.Act → World → Prop} {n : Nat} {w0 : World} {S : List Nat} {F : Fr} {L : List Blk} {p : Blk}
/-- A region of which the first block alone is looked at while others change. -/
theorem Goal.drawHd {id : Nat} (m : Nat) (hm : P.follows .mixedOrders = true) (h : Goal n w0 S F (p :: L) (AW P ops Q m w0 S [p] ops.size (Array.replicate ops.size false))) : Goal n w0 S F (p :: L) (CW P Q (Code.region id ops true)) := Goal.draw m [p] hm h
end
structure V1 where
  (t : Int) (m : Int → Option Int) (A R : List Blk)
set_option maxHeartbeats 8000000 in
theorem law_changed (keys gone : List Int) (chs : List (Int × Int)) (v v1 v2 : Value) (w : World) (hr : RdV w v (ints keys)) (hr1 : RdE w v1 2 (chs.map fun a => [.int .i64 a.1, .int .i64 a.2])) (hr2 : RdV w v2 (gone.map (.int .u8))) (hq2 : ∀ n ∈ gone, (Lit.int .u8 n).wf = true) : Calls Try.prog 4 #[v, v1, v2] w fun e w' => e = .returned (.bool true) ∧ Mod [] w w' := by
  obtain ⟨ad, cap, rfl, hr'⟩ := id hr
  obtain ⟨ad1, cap1, rfl, hr1'⟩ := id hr1
  obtain ⟨ad2, cap2, rfl, hr2'⟩ := id hr2
  simp only [ints_len, List.length_map] at hr hr1 hr2 ⊢
  by_cases hbig : 100 < keys.length ∨ keys.length = 0 ∨ 200 < chs.length ∨ 100 < gone.length
  · refine Goal.enter (args := [.slice ad keys.length cap, .slice ad1 chs.length cap1, .slice ad2 gone.length cap2]) Try.func4 rfl Try.ntmps4 rfl (St.nil w) ?_
    repeat' (first
      | (refine Goal.loud (o := ⟨some 22, _, _, _, _, _⟩) rfl ?_; apply Loud.call0; exact rfl; exact rfl; exact rfl; exact rfl; exact T.bod_8; exact (fun w H => awake_any w))
      | (refine Goal.loud (o := ⟨some 13, _, _, _, _, _⟩) rfl ?_; refine Loud.allocA rfl T.inf_37 (fun b13 => ?_))
      | (apply G.move; exact rfl; exact rfl)
      | (apply G.assign; exact rfl; exact rfl)
      | refine Goal.seq (fun _ _ => ?_)
      | refine Goal.next (by assumption) ?_
      | refine Goal.lnil ?_
      | refine Goal.region ?_
      | refine Goal.skip ?_
      | refine Goal.block ?_
      | refine Goal.exit ?_
      | refine Goal.ret ?_
      | refine Goal.then_exit ?_
      | refine Goal.then_ret ?_
      | refine Goal.inBlock_exit ?_
      | refine Goal.inBlock_normal ?_
      | refine Goal.inBlock_ret ?_
      | refine Goal.inBlock_other rfl ?_
      | (apply Goal.condT; exact rfl)
      | (apply Goal.condF; exact rfl)
      | (refine Goal.condD rfl (fun hc => ?_) (fun hc => ?_) <;> first | (exfalso; omega) | contradiction | skip)
      | refine Goal.condB rfl (fun hc => ?_) (fun hc => ?_)
      | refine Goal.guardT rfl rfl ?_
      | refine Goal.guardF rfl rfl rfl rfl ?_
      | refine Goal.guardU rfl rfl rfl ?_
      | (refine Goal.guardD rfl rfl (fun hc => ?_) (fun hc => ?_) <;> first | (exfalso; omega) | contradiction | skip)
      | refine Goal.guardB rfl rfl (fun hc => ?_) (fun hc => ?_)
      | (apply G.load; exact rfl; exact rfl; first | exact LoadOK.one (by first | exact T.one_3 | exact T.one_5) 0 rfl rfl | exact LoadOK.one (by first | exact T.one_3 | exact T.one_5) 1 rfl rfl | exact LoadOK.one (by first | exact T.one_3 | exact T.one_5) 2 rfl rfl | exact LoadOK.one (by first | exact T.one_3 | exact T.one_5) 3 rfl rfl | exact LoadOK.one (by first | exact T.one_3 | exact T.one_5) 4 rfl rfl | exact LoadOK.one (by first | exact T.one_3 | exact T.one_5) 5 rfl rfl | exact LoadOK.one (by first | exact T.one_3 | exact T.one_5) 6 rfl rfl | exact LoadOK.one (by first | exact T.one_3 | exact T.one_5) 7 rfl rfl | exact LoadOK.agg (vs := [_, _]) T.agg_37 0 rfl rfl ⟨rfl, rfl, trivial⟩ | exact LoadOK.agg (vs := [_, _]) T.agg_37 1 rfl rfl ⟨rfl, rfl, trivial⟩ | exact LoadOK.agg (vs := [_, _]) T.agg_37 2 rfl rfl ⟨rfl, rfl, trivial⟩ | exact LoadOK.agg (vs := [_, _]) T.agg_37 3 rfl rfl ⟨rfl, rfl, trivial⟩ | exact LoadOK.agg (vs := [_, _]) T.agg_37 4 rfl rfl ⟨rfl, rfl, trivial⟩ | exact LoadOK.agg (vs := [_, _]) T.agg_37 5 rfl rfl ⟨rfl, rfl, trivial⟩ | exact LoadOK.agg (vs := [_, _]) T.agg_37 6 rfl rfl ⟨rfl, rfl, trivial⟩ | exact LoadOK.agg (vs := [_, _]) T.agg_37 7 rfl rfl ⟨rfl, rfl, trivial⟩)
      | (apply G.pickT; exact rfl; exact rfl; exact rfl)
      | (apply G.pickF; exact rfl; exact rfl; exact rfl)
      | (apply G.lss; exact rfl; exact rfl; exact rfl)
      | (apply G.gtr; exact rfl; exact rfl; exact rfl)
      | (apply G.eql; exact rfl; exact rfl; exact rfl)
      | (apply G.neq; exact rfl; exact rfl; exact rfl)
      | (apply G.add; exact rfl; exact rfl; exact rfl; first | exact IntWalk.i64_in _ (by omega) | exact IntWalk.u8_in _ (by omega) | exact IntWalk.u16_in _ (by omega) | exact IntWalk.u32_in _ (by omega) | exact IntWalk.u64_in _ (by omega))
      | (apply G.eqlB; exact rfl; exact T.boo_4; exact rfl; exact rfl)
      | (refine Goal.quiet rfl (Run.eqlP T.ptr_24 rfl rfl rfl) ?_)
      | (apply G.neqB; exact rfl; exact T.boo_4; exact rfl; exact rfl)
      | (refine Goal.quiet rfl (Run.neqP T.ptr_24 rfl rfl rfl) ?_)
      | (apply G.conv; exact rfl; exact rfl; (first | exact T.int_3 | exact T.int_5); (first | exact T.int_3 | exact T.int_5); first | exact IntWalk.i64_in _ (by omega) | exact IntWalk.u8_in _ (by omega) | exact IntWalk.u16_in _ (by omega) | exact IntWalk.u32_in _ (by omega) | exact IntWalk.u64_in _ (by omega))
      | (apply G.notT; exact rfl; exact rfl)
      | (apply G.notF; exact rfl; exact rfl)
      | (refine G.notD rfl rfl ?_)
      | (apply G.notB; exact rfl; exact rfl)
      | (apply G.extract; exact rfl; exact rfl; exact rfl)
      | (apply G.len; exact rfl; exact rfl; (first | exact T.slc_22 | exact T.slc_33 | exact T.slc_34))
      | (refine G.indexAddr1 rfl (by first | exact T.slc_22 | exact T.slc_33 | exact T.slc_34) (by first | exact T.sz_3 | exact T.sz_5) rfl rfl _ rfl (by omega) ?_)
      | (refine G.indexAddr1 rfl (by first | exact T.slc_22 | exact T.slc_33 | exact T.slc_34) (by first | exact T.sz_3 | exact T.sz_5) rfl rfl _ (Int.toNat_of_nonneg (by omega)).symm (by omega) ?_)
      | (refine G.indexAddr rfl (by first | exact T.slc_22 | exact T.slc_33 | exact T.slc_34) T.sz_37 rfl rfl _ rfl (by omega) ?_)
      | (refine G.indexAddr rfl (by first | exact T.slc_22 | exact T.slc_33 | exact T.slc_34) T.sz_37 rfl rfl _ (Int.toNat_of_nonneg (by omega)).symm (by omega) ?_)
      | (refine G.indexAddrA rfl T.arr_37 (by first | exact T.sz_3 | exact T.sz_5 | exact T.sz_37) rfl rfl _ rfl (by omega) ?_)
      | (refine G.indexAddrA rfl T.arr_37 (by first | exact T.sz_3 | exact T.sz_5 | exact T.sz_37) rfl rfl _ (Int.toNat_of_nonneg (by omega)).symm (by omega) ?_)
      | (refine Goal.loud rfl ?_; refine Loud.store0 rfl rfl T.sz_37 rfl rfl rfl (by first | exact Nat.le_refl _ | decide | (simp; omega)) rfl ?_)
      | (refine Goal.loud rfl ?_; refine Loud.store1 rfl rfl T.sz_37 rfl rfl rfl (by first | exact Nat.le_refl _ | decide | (simp; omega)) rfl ?_)
      | (refine Goal.loud rfl ?_; refine Loud.store2 rfl rfl T.sz_37 rfl rfl rfl (by first | exact Nat.le_refl _ | decide | (simp; omega)) rfl ?_)
      | (refine Goal.loud rfl ?_; refine Loud.store3 rfl rfl T.sz_37 rfl rfl rfl (by first | exact Nat.le_refl _ | decide | (simp; omega)) rfl ?_)
      | (refine Goal.loud rfl ?_; refine Loud.store4 rfl rfl T.sz_37 rfl rfl rfl (by first | exact Nat.le_refl _ | decide | (simp; omega)) rfl ?_)
      | (refine Goal.loud rfl ?_; refine Loud.store5 rfl rfl T.sz_37 rfl rfl rfl (by first | exact Nat.le_refl _ | decide | (simp; omega)) rfl ?_)
      | (refine Goal.loud rfl ?_; refine Loud.store6 rfl rfl T.sz_37 rfl rfl rfl (by first | exact Nat.le_refl _ | decide | (simp; omega)) rfl ?_)
      | (refine Goal.loud rfl ?_; refine Loud.store7 rfl rfl T.sz_37 rfl rfl rfl (by first | exact Nat.le_refl _ | decide | (simp; omega)) rfl ?_))
    all_goals
      refine Goal.done (vs := [_]) (by first | exact .inl rfl | exact .inr rfl) Try.results4 ⟨rfl, trivial⟩ rfl (fun w' H => ⟨rfl, H.mod⟩)
  · obtain ⟨bb, o, rfl, hk⟩ := RdV.int hr (by omega)
    refine Goal.enter (args := [.slice (some ⟨bb, o, none⟩) keys.length cap, .slice ad1 chs.length cap1, .slice ad2 gone.length cap2]) Try.func4 rfl Try.ntmps4 rfl (St.nil w) ?_
    repeat' (first
      | (refine Goal.loud (o := ⟨some 22, _, _, _, _, _⟩) rfl ?_; apply Loud.call0; exact rfl; exact rfl; exact rfl; exact rfl; exact T.bod_8; exact (fun w H => awake_any w))
      | (refine Goal.loud (o := ⟨some 45, _, _, _, _, _⟩) rfl ?_; apply Loud.callN; exact rfl; exact rfl; exact rfl; exact rfl; exact T.bod_9; exact (fun w H => new_ok (keys.length : Int) (by omega) w); rintro ⟨bh, bk, bp, A1⟩ h1; rw [Int.toNat_natCast] at h1; dsimp only at h1 ⊢)
      | (refine Goal.loud (o := ⟨some 50, _, _, _, _, _⟩) rfl ?_; apply Loud.callN; exact rfl; exact rfl; exact rfl; exact rfl; exact T.bod_12; exact (fun w H => rnew_ok (keys.length : Int) (by omega) w); rintro ⟨br, ch, ck, R1⟩ g1; rw [Int.toNat_natCast] at g1; dsimp only at g1 ⊢)
      | (refine Goal.loud (o := ⟨some 13, _, _, _, _, _⟩) rfl ?_; refine Loud.allocA rfl T.inf_37 (fun b13 => ?_))
      | (apply G.move; exact rfl; exact rfl)
      | (apply G.assign; exact rfl; exact rfl)
      | refine Goal.seq (fun _ _ => ?_)
      | refine Goal.next (by assumption) ?_
      | refine Goal.lnil ?_
      | refine Goal.region ?_
      | refine Goal.skip ?_
      | refine Goal.block ?_
      | refine Goal.exit ?_
      | refine Goal.ret ?_
      | refine Goal.then_exit ?_
      | refine Goal.then_ret ?_
      | refine Goal.inBlock_exit ?_
      | refine Goal.inBlock_normal ?_
      | refine Goal.inBlock_ret ?_
      | refine Goal.inBlock_other rfl ?_
      | (apply Goal.condT; exact rfl)
      | (apply Goal.condF; exact rfl)
      | (refine Goal.condD rfl (fun hc => ?_) (fun hc => ?_) <;> first | (exfalso; omega) | contradiction | skip)
      | refine Goal.condB rfl (fun hc => ?_) (fun hc => ?_)
      | refine Goal.guardT rfl rfl ?_
      | refine Goal.guardF rfl rfl rfl rfl ?_
      | refine Goal.guardU rfl rfl rfl ?_
      | (refine Goal.guardD rfl rfl (fun hc => ?_) (fun hc => ?_) <;> first | (exfalso; omega) | contradiction | skip)
      | refine Goal.guardB rfl rfl (fun hc => ?_) (fun hc => ?_)
      | (apply G.load; exact rfl; exact rfl; first | exact LoadOK.one (by first | exact T.one_3 | exact T.one_5) 0 rfl rfl | exact LoadOK.one (by first | exact T.one_3 | exact T.one_5) 1 rfl rfl | exact LoadOK.one (by first | exact T.one_3 | exact T.one_5) 2 rfl rfl | exact LoadOK.one (by first | exact T.one_3 | exact T.one_5) 3 rfl rfl | exact LoadOK.one (by first | exact T.one_3 | exact T.one_5) 4 rfl rfl | exact LoadOK.one (by first | exact T.one_3 | exact T.one_5) 5 rfl rfl | exact LoadOK.one (by first | exact T.one_3 | exact T.one_5) 6 rfl rfl | exact LoadOK.one (by first | exact T.one_3 | exact T.one_5) 7 rfl rfl | exact LoadOK.agg (vs := [_, _]) T.agg_37 0 rfl rfl ⟨rfl, rfl, trivial⟩ | exact LoadOK.agg (vs := [_, _]) T.agg_37 1 rfl rfl ⟨rfl, rfl, trivial⟩ | exact LoadOK.agg (vs := [_, _]) T.agg_37 2 rfl rfl ⟨rfl, rfl, trivial⟩ | exact LoadOK.agg (vs := [_, _]) T.agg_37 3 rfl rfl ⟨rfl, rfl, trivial⟩ | exact LoadOK.agg (vs := [_, _]) T.agg_37 4 rfl rfl ⟨rfl, rfl, trivial⟩ | exact LoadOK.agg (vs := [_, _]) T.agg_37 5 rfl rfl ⟨rfl, rfl, trivial⟩ | exact LoadOK.agg (vs := [_, _]) T.agg_37 6 rfl rfl ⟨rfl, rfl, trivial⟩ | exact LoadOK.agg (vs := [_, _]) T.agg_37 7 rfl rfl ⟨rfl, rfl, trivial⟩)
      | (apply G.pickT; exact rfl; exact rfl; exact rfl)
      | (apply G.pickF; exact rfl; exact rfl; exact rfl)
      | (apply G.lss; exact rfl; exact rfl; exact rfl)
      | (apply G.gtr; exact rfl; exact rfl; exact rfl)
      | (apply G.eql; exact rfl; exact rfl; exact rfl)
      | (apply G.neq; exact rfl; exact rfl; exact rfl)
      | (apply G.add; exact rfl; exact rfl; exact rfl; first | exact IntWalk.i64_in _ (by omega) | exact IntWalk.u8_in _ (by omega) | exact IntWalk.u16_in _ (by omega) | exact IntWalk.u32_in _ (by omega) | exact IntWalk.u64_in _ (by omega))
      | (apply G.eqlB; exact rfl; exact T.boo_4; exact rfl; exact rfl)
      | (refine Goal.quiet rfl (Run.eqlP T.ptr_24 rfl rfl rfl) ?_)
      | (apply G.neqB; exact rfl; exact T.boo_4; exact rfl; exact rfl)
      | (refine Goal.quiet rfl (Run.neqP T.ptr_24 rfl rfl rfl) ?_)
      | (apply G.conv; exact rfl; exact rfl; (first | exact T.int_3 | exact T.int_5); (first | exact T.int_3 | exact T.int_5); first | exact IntWalk.i64_in _ (by omega) | exact IntWalk.u8_in _ (by omega) | exact IntWalk.u16_in _ (by omega) | exact IntWalk.u32_in _ (by omega) | exact IntWalk.u64_in _ (by omega))
      | (apply G.notT; exact rfl; exact rfl)
      | (apply G.notF; exact rfl; exact rfl)
      | (refine G.notD rfl rfl ?_)
      | (apply G.notB; exact rfl; exact rfl)
      | (apply G.extract; exact rfl; exact rfl; exact rfl)
      | (apply G.len; exact rfl; exact rfl; (first | exact T.slc_22 | exact T.slc_33 | exact T.slc_34))
      | (refine G.indexAddr1 rfl (by first | exact T.slc_22 | exact T.slc_33 | exact T.slc_34) (by first | exact T.sz_3 | exact T.sz_5) rfl rfl _ rfl (by omega) ?_)
      | (refine G.indexAddr1 rfl (by first | exact T.slc_22 | exact T.slc_33 | exact T.slc_34) (by first | exact T.sz_3 | exact T.sz_5) rfl rfl _ (Int.toNat_of_nonneg (by omega)).symm (by omega) ?_)
      | (refine G.indexAddr rfl (by first | exact T.slc_22 | exact T.slc_33 | exact T.slc_34) T.sz_37 rfl rfl _ rfl (by omega) ?_)
      | (refine G.indexAddr rfl (by first | exact T.slc_22 | exact T.slc_33 | exact T.slc_34) T.sz_37 rfl rfl _ (Int.toNat_of_nonneg (by omega)).symm (by omega) ?_)
      | (refine G.indexAddrA rfl T.arr_37 (by first | exact T.sz_3 | exact T.sz_5 | exact T.sz_37) rfl rfl _ rfl (by omega) ?_)
      | (refine G.indexAddrA rfl T.arr_37 (by first | exact T.sz_3 | exact T.sz_5 | exact T.sz_37) rfl rfl _ (Int.toNat_of_nonneg (by omega)).symm (by omega) ?_)
      | (refine Goal.loud rfl ?_; refine Loud.store0 rfl rfl T.sz_37 rfl rfl rfl (by first | exact Nat.le_refl _ | decide | (simp; omega)) rfl ?_)
      | (refine Goal.loud rfl ?_; refine Loud.store1 rfl rfl T.sz_37 rfl rfl rfl (by first | exact Nat.le_refl _ | decide | (simp; omega)) rfl ?_)
      | (refine Goal.loud rfl ?_; refine Loud.store2 rfl rfl T.sz_37 rfl rfl rfl (by first | exact Nat.le_refl _ | decide | (simp; omega)) rfl ?_)
      | (refine Goal.loud rfl ?_; refine Loud.store3 rfl rfl T.sz_37 rfl rfl rfl (by first | exact Nat.le_refl _ | decide | (simp; omega)) rfl ?_)
      | (refine Goal.loud rfl ?_; refine Loud.store4 rfl rfl T.sz_37 rfl rfl rfl (by first | exact Nat.le_refl _ | decide | (simp; omega)) rfl ?_)
      | (refine Goal.loud rfl ?_; refine Loud.store5 rfl rfl T.sz_37 rfl rfl rfl (by first | exact Nat.le_refl _ | decide | (simp; omega)) rfl ?_)
      | (refine Goal.loud rfl ?_; refine Loud.store6 rfl rfl T.sz_37 rfl rfl rfl (by first | exact Nat.le_refl _ | decide | (simp; omega)) rfl ?_)
      | (refine Goal.loud rfl ?_; refine Loud.store7 rfl rfl T.sz_37 rfl rfl rfl (by first | exact Nat.le_refl _ | decide | (simp; omega)) rfl ?_))
    refine Goal.loopP (X := V1) (fun x => [(0, .slice (some ⟨bb, o, none⟩) keys.length cap), (1, .slice ad1 chs.length cap1), (2, .slice ad2 gone.length cap2), (7, .pointer (some ⟨bh, 0, none⟩)), (9, .pointer (some ⟨br, 0, none⟩)), (57, .slice (some ⟨bb, o, none⟩) keys.length cap), (58, .int .i64 keys.length), (59, .int .i64 x.t)]) (fun x => x.A ++ x.R)
      (fun x => (0 ≤ x.t ∧ x.t ≤ keys.length) ∧ HpA bh bk bp keys.length x.m x.A ∧ RpA br ch ck keys.length x.m x.R) (fun x => (keys.length - x.t).toNat) ⟨0, fun _ => none, A1, R1⟩ ⟨rfl, rfl, rfl, rfl, rfl, rfl, rfl, rfl, trivial⟩ (fun _ h => h)
      ⟨by dsimp only; omega, h1, g1⟩ ?_
    rintro ⟨t, m, A, R⟩ ⟨ht, hA, hR⟩
    dsimp only at ht hA hR ⊢
    by_cases hlt : t < keys.length
    · skip
      repeat' (first
        | (refine Goal.loud (o := ⟨some 67, _, _, _, _, _⟩) rfl ?_; refine Loud.callM ([]) (set_ok hA (by omega) t (ia keys t)) rfl rfl rfl rfl T.bod_10 (fun _ h => h) ?_; intro A2 h2; rw [if_pos (by omega)] at h2 ⊢)
        | (refine Goal.loud (o := ⟨some 71, _, _, _, _, _⟩) rfl ?_; refine Loud.callE (A2) (rset_ok hR t (ia keys t)) rfl rfl rfl rfl T.bod_13 (fun _ h => h) ?_; intro R2 g2; rw [if_pos (by omega)] at g2 ⊢)
        | (refine Goal.loud (o := ⟨some 13, _, _, _, _, _⟩) rfl ?_; refine Loud.allocA rfl T.inf_37 (fun b13 => ?_))
        | (apply G.move; exact rfl; exact rfl)
        | (apply G.assign; exact rfl; exact rfl)
        | refine Goal.seq (fun _ _ => ?_)
        | refine Goal.next (by assumption) ?_
        | refine Goal.lnil ?_
        | refine Goal.region ?_
        | refine Goal.skip ?_
        | refine Goal.block ?_
        | refine Goal.exit ?_
        | refine Goal.ret ?_
        | refine Goal.then_exit ?_
        | refine Goal.then_ret ?_
        | refine Goal.inBlock_exit ?_
        | refine Goal.inBlock_normal ?_
        | refine Goal.inBlock_ret ?_
        | refine Goal.inBlock_other rfl ?_
        | (apply Goal.condT; exact rfl)
        | (apply Goal.condF; exact rfl)
        | (refine Goal.condD rfl (fun hc => ?_) (fun hc => ?_) <;> first | (exfalso; omega) | contradiction | skip)
        | refine Goal.condB rfl (fun hc => ?_) (fun hc => ?_)
        | refine Goal.guardT rfl rfl ?_
        | refine Goal.guardF rfl rfl rfl rfl ?_
        | refine Goal.guardU rfl rfl rfl ?_
        | (refine Goal.guardD rfl rfl (fun hc => ?_) (fun hc => ?_) <;> first | (exfalso; omega) | contradiction | skip)
        | refine Goal.guardB rfl rfl (fun hc => ?_) (fun hc => ?_)
        | (apply G.load; exact rfl; exact rfl; first | exact LoadOK.old T.one_3 (hk _ (by omega) (by omega)) (by simp) | exact LoadOK.one (by first | exact T.one_3 | exact T.one_5) 0 rfl rfl | exact LoadOK.one (by first | exact T.one_3 | exact T.one_5) 1 rfl rfl | exact LoadOK.one (by first | exact T.one_3 | exact T.one_5) 2 rfl rfl | exact LoadOK.one (by first | exact T.one_3 | exact T.one_5) 3 rfl rfl | exact LoadOK.one (by first | exact T.one_3 | exact T.one_5) 4 rfl rfl | exact LoadOK.one (by first | exact T.one_3 | exact T.one_5) 5 rfl rfl | exact LoadOK.one (by first | exact T.one_3 | exact T.one_5) 6 rfl rfl | exact LoadOK.one (by first | exact T.one_3 | exact T.one_5) 7 rfl rfl | exact LoadOK.agg (vs := [_, _]) T.agg_37 0 rfl rfl ⟨rfl, rfl, trivial⟩ | exact LoadOK.agg (vs := [_, _]) T.agg_37 1 rfl rfl ⟨rfl, rfl, trivial⟩ | exact LoadOK.agg (vs := [_, _]) T.agg_37 2 rfl rfl ⟨rfl, rfl, trivial⟩ | exact LoadOK.agg (vs := [_, _]) T.agg_37 3 rfl rfl ⟨rfl, rfl, trivial⟩ | exact LoadOK.agg (vs := [_, _]) T.agg_37 4 rfl rfl ⟨rfl, rfl, trivial⟩ | exact LoadOK.agg (vs := [_, _]) T.agg_37 5 rfl rfl ⟨rfl, rfl, trivial⟩ | exact LoadOK.agg (vs := [_, _]) T.agg_37 6 rfl rfl ⟨rfl, rfl, trivial⟩ | exact LoadOK.agg (vs := [_, _]) T.agg_37 7 rfl rfl ⟨rfl, rfl, trivial⟩)
        | (apply G.pickT; exact rfl; exact rfl; exact rfl)
        | (apply G.pickF; exact rfl; exact rfl; exact rfl)
        | (apply G.lss; exact rfl; exact rfl; exact rfl)
        | (apply G.gtr; exact rfl; exact rfl; exact rfl)
        | (apply G.eql; exact rfl; exact rfl; exact rfl)
        | (apply G.neq; exact rfl; exact rfl; exact rfl)
        | (apply G.add; exact rfl; exact rfl; exact rfl; first | exact IntWalk.i64_in _ (by omega) | exact IntWalk.u8_in _ (by omega) | exact IntWalk.u16_in _ (by omega) | exact IntWalk.u32_in _ (by omega) | exact IntWalk.u64_in _ (by omega))
        | (apply G.eqlB; exact rfl; exact T.boo_4; exact rfl; exact rfl)
        | (refine Goal.quiet rfl (Run.eqlP T.ptr_24 rfl rfl rfl) ?_)
        | (apply G.neqB; exact rfl; exact T.boo_4; exact rfl; exact rfl)
        | (refine Goal.quiet rfl (Run.neqP T.ptr_24 rfl rfl rfl) ?_)
        | (apply G.conv; exact rfl; exact rfl; (first | exact T.int_3 | exact T.int_5); (first | exact T.int_3 | exact T.int_5); first | exact IntWalk.i64_in _ (by omega) | exact IntWalk.u8_in _ (by omega) | exact IntWalk.u16_in _ (by omega) | exact IntWalk.u32_in _ (by omega) | exact IntWalk.u64_in _ (by omega))
        | (apply G.notT; exact rfl; exact rfl)
        | (apply G.notF; exact rfl; exact rfl)
        | (refine G.notD rfl rfl ?_)
        | (apply G.notB; exact rfl; exact rfl)
        | (apply G.extract; exact rfl; exact rfl; exact rfl)
        | (apply G.len; exact rfl; exact rfl; (first | exact T.slc_22 | exact T.slc_33 | exact T.slc_34))
        | (refine G.indexAddr1 rfl (by first | exact T.slc_22 | exact T.slc_33 | exact T.slc_34) (by first | exact T.sz_3 | exact T.sz_5) rfl rfl _ rfl (by omega) ?_)
        | (refine G.indexAddr1 rfl (by first | exact T.slc_22 | exact T.slc_33 | exact T.slc_34) (by first | exact T.sz_3 | exact T.sz_5) rfl rfl _ (Int.toNat_of_nonneg (by omega)).symm (by omega) ?_)
        | (refine G.indexAddr rfl (by first | exact T.slc_22 | exact T.slc_33 | exact T.slc_34) T.sz_37 rfl rfl _ rfl (by omega) ?_)
        | (refine G.indexAddr rfl (by first | exact T.slc_22 | exact T.slc_33 | exact T.slc_34) T.sz_37 rfl rfl _ (Int.toNat_of_nonneg (by omega)).symm (by omega) ?_)
        | (refine G.indexAddrA rfl T.arr_37 (by first | exact T.sz_3 | exact T.sz_5 | exact T.sz_37) rfl rfl _ rfl (by omega) ?_)
        | (refine G.indexAddrA rfl T.arr_37 (by first | exact T.sz_3 | exact T.sz_5 | exact T.sz_37) rfl rfl _ (Int.toNat_of_nonneg (by omega)).symm (by omega) ?_)
        | (refine Goal.loud rfl ?_; refine Loud.store0 rfl rfl T.sz_37 rfl rfl rfl (by first | exact Nat.le_refl _ | decide | (simp; omega)) rfl ?_)
        | (refine Goal.loud rfl ?_; refine Loud.store1 rfl rfl T.sz_37 rfl rfl rfl (by first | exact Nat.le_refl _ | decide | (simp; omega)) rfl ?_)
        | (refine Goal.loud rfl ?_; refine Loud.store2 rfl rfl T.sz_37 rfl rfl rfl (by first | exact Nat.le_refl _ | decide | (simp; omega)) rfl ?_)
        | (refine Goal.loud rfl ?_; refine Loud.store3 rfl rfl T.sz_37 rfl rfl rfl (by first | exact Nat.le_refl _ | decide | (simp; omega)) rfl ?_)
        | (refine Goal.loud rfl ?_; refine Loud.store4 rfl rfl T.sz_37 rfl rfl rfl (by first | exact Nat.le_refl _ | decide | (simp; omega)) rfl ?_)
        | (refine Goal.loud rfl ?_; refine Loud.store5 rfl rfl T.sz_37 rfl rfl rfl (by first | exact Nat.le_refl _ | decide | (simp; omega)) rfl ?_)
        | (refine Goal.loud rfl ?_; refine Loud.store6 rfl rfl T.sz_37 rfl rfl rfl (by first | exact Nat.le_refl _ | decide | (simp; omega)) rfl ?_)
        | (refine Goal.loud rfl ?_; refine Loud.store7 rfl rfl T.sz_37 rfl rfl rfl (by first | exact Nat.le_refl _ | decide | (simp; omega)) rfl ?_))
      refine Goal.again ⟨t + 1, upd m t (some (ia keys t)), A2, R2⟩ ⟨by dsimp only; omega, h2, g2⟩ (by dsimp only; omega) ⟨rfl, rfl, rfl, rfl, rfl, rfl, rfl, rfl, trivial⟩ (fun _ h => h)
    · skip
      repeat' (first
        | (refine Goal.loud (o := ⟨some 13, _, _, _, _, _⟩) rfl ?_; refine Loud.allocA rfl T.inf_37 (fun b13 => ?_))
        | (apply G.move; exact rfl; exact rfl)
        | (apply G.assign; exact rfl; exact rfl)
        | refine Goal.seq (fun _ _ => ?_)
        | refine Goal.next (by assumption) ?_
        | refine Goal.lnil ?_
        | refine Goal.region ?_
        | refine Goal.skip ?_
        | refine Goal.block ?_
        | refine Goal.exit ?_
        | refine Goal.ret ?_
        | refine Goal.then_exit ?_
        | refine Goal.then_ret ?_
        | refine Goal.inBlock_exit ?_
        | refine Goal.inBlock_normal ?_
        | refine Goal.inBlock_ret ?_
        | refine Goal.inBlock_other rfl ?_
        | (apply Goal.condT; exact rfl)
        | (apply Goal.condF; exact rfl)
        | (refine Goal.condD rfl (fun hc => ?_) (fun hc => ?_) <;> first | (exfalso; omega) | contradiction | skip)
        | refine Goal.condB rfl (fun hc => ?_) (fun hc => ?_)
        | refine Goal.guardT rfl rfl ?_
        | refine Goal.guardF rfl rfl rfl rfl ?_
        | refine Goal.guardU rfl rfl rfl ?_
        | (refine Goal.guardD rfl rfl (fun hc => ?_) (fun hc => ?_) <;> first | (exfalso; omega) | contradiction | skip)
        | refine Goal.guardB rfl rfl (fun hc => ?_) (fun hc => ?_)
        | (apply G.load; exact rfl; exact rfl; first | exact LoadOK.one (by first | exact T.one_3 | exact T.one_5) 0 rfl rfl | exact LoadOK.one (by first | exact T.one_3 | exact T.one_5) 1 rfl rfl | exact LoadOK.one (by first | exact T.one_3 | exact T.one_5) 2 rfl rfl | exact LoadOK.one (by first | exact T.one_3 | exact T.one_5) 3 rfl rfl | exact LoadOK.one (by first | exact T.one_3 | exact T.one_5) 4 rfl rfl | exact LoadOK.one (by first | exact T.one_3 | exact T.one_5) 5 rfl rfl | exact LoadOK.one (by first | exact T.one_3 | exact T.one_5) 6 rfl rfl | exact LoadOK.one (by first | exact T.one_3 | exact T.one_5) 7 rfl rfl | exact LoadOK.agg (vs := [_, _]) T.agg_37 0 rfl rfl ⟨rfl, rfl, trivial⟩ | exact LoadOK.agg (vs := [_, _]) T.agg_37 1 rfl rfl ⟨rfl, rfl, trivial⟩ | exact LoadOK.agg (vs := [_, _]) T.agg_37 2 rfl rfl ⟨rfl, rfl, trivial⟩ | exact LoadOK.agg (vs := [_, _]) T.agg_37 3 rfl rfl ⟨rfl, rfl, trivial⟩ | exact LoadOK.agg (vs := [_, _]) T.agg_37 4 rfl rfl ⟨rfl, rfl, trivial⟩ | exact LoadOK.agg (vs := [_, _]) T.agg_37 5 rfl rfl ⟨rfl, rfl, trivial⟩ | exact LoadOK.agg (vs := [_, _]) T.agg_37 6 rfl rfl ⟨rfl, rfl, trivial⟩ | exact LoadOK.agg (vs := [_, _]) T.agg_37 7 rfl rfl ⟨rfl, rfl, trivial⟩)
        | (apply G.pickT; exact rfl; exact rfl; exact rfl)
        | (apply G.pickF; exact rfl; exact rfl; exact rfl)
        | (apply G.lss; exact rfl; exact rfl; exact rfl)
        | (apply G.gtr; exact rfl; exact rfl; exact rfl)
        | (apply G.eql; exact rfl; exact rfl; exact rfl)
        | (apply G.neq; exact rfl; exact rfl; exact rfl)
        | (apply G.add; exact rfl; exact rfl; exact rfl; first | exact IntWalk.i64_in _ (by omega) | exact IntWalk.u8_in _ (by omega) | exact IntWalk.u16_in _ (by omega) | exact IntWalk.u32_in _ (by omega) | exact IntWalk.u64_in _ (by omega))
        | (apply G.eqlB; exact rfl; exact T.boo_4; exact rfl; exact rfl)
        | (refine Goal.quiet rfl (Run.eqlP T.ptr_24 rfl rfl rfl) ?_)
        | (apply G.neqB; exact rfl; exact T.boo_4; exact rfl; exact rfl)
        | (refine Goal.quiet rfl (Run.neqP T.ptr_24 rfl rfl rfl) ?_)
        | (apply G.conv; exact rfl; exact rfl; (first | exact T.int_3 | exact T.int_5); (first | exact T.int_3 | exact T.int_5); first | exact IntWalk.i64_in _ (by omega) | exact IntWalk.u8_in _ (by omega) | exact IntWalk.u16_in _ (by omega) | exact IntWalk.u32_in _ (by omega) | exact IntWalk.u64_in _ (by omega))
        | (apply G.notT; exact rfl; exact rfl)
        | (apply G.notF; exact rfl; exact rfl)
        | (refine G.notD rfl rfl ?_)
        | (apply G.notB; exact rfl; exact rfl)
        | (apply G.extract; exact rfl; exact rfl; exact rfl)
        | (apply G.len; exact rfl; exact rfl; (first | exact T.slc_22 | exact T.slc_33 | exact T.slc_34))
        | (refine G.indexAddr1 rfl (by first | exact T.slc_22 | exact T.slc_33 | exact T.slc_34) (by first | exact T.sz_3 | exact T.sz_5) rfl rfl _ rfl (by omega) ?_)
        | (refine G.indexAddr1 rfl (by first | exact T.slc_22 | exact T.slc_33 | exact T.slc_34) (by first | exact T.sz_3 | exact T.sz_5) rfl rfl _ (Int.toNat_of_nonneg (by omega)).symm (by omega) ?_)
        | (refine G.indexAddr rfl (by first | exact T.slc_22 | exact T.slc_33 | exact T.slc_34) T.sz_37 rfl rfl _ rfl (by omega) ?_)
        | (refine G.indexAddr rfl (by first | exact T.slc_22 | exact T.slc_33 | exact T.slc_34) T.sz_37 rfl rfl _ (Int.toNat_of_nonneg (by omega)).symm (by omega) ?_)
        | (refine G.indexAddrA rfl T.arr_37 (by first | exact T.sz_3 | exact T.sz_5 | exact T.sz_37) rfl rfl _ rfl (by omega) ?_)
        | (refine G.indexAddrA rfl T.arr_37 (by first | exact T.sz_3 | exact T.sz_5 | exact T.sz_37) rfl rfl _ (Int.toNat_of_nonneg (by omega)).symm (by omega) ?_)
        | (refine Goal.loud rfl ?_; refine Loud.store0 rfl rfl T.sz_37 rfl rfl rfl (by first | exact Nat.le_refl _ | decide | (simp; omega)) rfl ?_)
        | (refine Goal.loud rfl ?_; refine Loud.store1 rfl rfl T.sz_37 rfl rfl rfl (by first | exact Nat.le_refl _ | decide | (simp; omega)) rfl ?_)
        | (refine Goal.loud rfl ?_; refine Loud.store2 rfl rfl T.sz_37 rfl rfl rfl (by first | exact Nat.le_refl _ | decide | (simp; omega)) rfl ?_)
        | (refine Goal.loud rfl ?_; refine Loud.store3 rfl rfl T.sz_37 rfl rfl rfl (by first | exact Nat.le_refl _ | decide | (simp; omega)) rfl ?_)
        | (refine Goal.loud rfl ?_; refine Loud.store4 rfl rfl T.sz_37 rfl rfl rfl (by first | exact Nat.le_refl _ | decide | (simp; omega)) rfl ?_)
        | (refine Goal.loud rfl ?_; refine Loud.store5 rfl rfl T.sz_37 rfl rfl rfl (by first | exact Nat.le_refl _ | decide | (simp; omega)) rfl ?_)
        | (refine Goal.loud rfl ?_; refine Loud.store6 rfl rfl T.sz_37 rfl rfl rfl (by first | exact Nat.le_refl _ | decide | (simp; omega)) rfl ?_)
        | (refine Goal.loud rfl ?_; refine Loud.store7 rfl rfl T.sz_37 rfl rfl rfl (by first | exact Nat.le_refl _ | decide | (simp; omega)) rfl ?_))
      clear hlt ht
      refine Goal.loopP (X := V1) (fun x => [(0, .slice (some ⟨bb, o, none⟩) keys.length cap), (2, .slice ad2 gone.length cap2), (7, .pointer (some ⟨bh, 0, none⟩)), (9, .pointer (some ⟨br, 0, none⟩)), (73, .slice ad1 chs.length cap1), (74, .int .i64 chs.length), (75, .int .i64 x.t)]) (fun x => x.A ++ x.R)
        (fun x => (0 ≤ x.t ∧ x.t ≤ chs.length) ∧ HpA bh bk bp keys.length x.m x.A ∧ RpA br ch ck keys.length x.m x.R) (fun x => (chs.length - x.t).toNat) ⟨0, m, A, R⟩ ⟨rfl, rfl, rfl, rfl, rfl, rfl, rfl, trivial⟩ (fun _ h => h)
        ⟨by dsimp only; omega, hA, hR⟩ ?_
      clear hA hR
      rintro ⟨t, m, A, R⟩ ⟨ht, hA, hR⟩
      dsimp only at ht hA hR ⊢
      by_cases hlt : t < chs.length
      · obtain ⟨b1, o1, rfl, hk1⟩ := RdE.at hr1 (by omega)
        have hk2 := hk1 t.toNat (by omega)
        generalize (chs[t.toNat]'(by omega)).1 = c1 at hk2
        generalize (chs[t.toNat]'(by omega)).2 = c2 at hk2
        by_cases hin : 0 ≤ c1 ∧ c1 < keys.length
        · skip
          repeat' (first
            | (refine Goal.drawHd (id := 18) 13 T.mixed ?_; all_goals ((refine Goal.takeP (listed' := #[true, false, false, false, false, false, false, false, false, false, false, false, false]) 0 ⟨rfl, by kernel_rfl, by kernel_rfl, by kernel_rfl, by kernel_rfl⟩ rfl (fun _ _ _ _ h => h) (by intro _; exact Run.move rfl) ?_)); all_goals ((refine Goal.takeP (listed' := #[true, true, false, false, false, false, false, false, false, false, false, false, false]) 1 ⟨rfl, by kernel_rfl, by kernel_rfl, by kernel_rfl, by kernel_rfl⟩ rfl (fun _ _ _ _ h => h) (by intro _; first | exact Run.indexAddrA T.arr_37 T.sz_3 rfl rfl rfl (by omega) | exact Run.indexAddrA T.arr_37 T.sz_3 rfl rfl (Int.toNat_of_nonneg (by omega)).symm (by omega)) ?_)); all_goals ((refine Goal.takeP (listed' := #[true, true, false, true, false, false, false, false, false, false, false, false, false]) 3 ⟨rfl, by kernel_rfl, by kernel_rfl, by kernel_rfl, by kernel_rfl⟩ rfl (fun _ _ _ _ h => h) (by intro _; first | exact Run.indexAddrA T.arr_37 T.sz_3 rfl rfl rfl (by omega) | exact Run.indexAddrA T.arr_37 T.sz_3 rfl rfl (Int.toNat_of_nonneg (by omega)).symm (by omega)) ?_)); all_goals ((refine Goal.takeP (listed' := #[true, true, false, true, false, false, true, false, false, false, false, false, false]) 6 ⟨rfl, by kernel_rfl, by kernel_rfl, by kernel_rfl, by kernel_rfl⟩ rfl (fun _ _ _ _ h => h) (by intro _; exact Run.move rfl) ?_)); all_goals ((refine Goal.takeP (listed' := #[true, true, false, true, false, false, true, true, false, false, false, false, false]) 7 ⟨rfl, by kernel_rfl, by kernel_rfl, by kernel_rfl, by kernel_rfl⟩ rfl (fun _ _ _ _ h => h) (by intro _; first | exact Run.indexAddrA T.arr_37 T.sz_3 rfl rfl rfl (by omega) | exact Run.indexAddrA T.arr_37 T.sz_3 rfl rfl (Int.toNat_of_nonneg (by omega)).symm (by omega)) ?_)); all_goals ((refine Goal.takeP (listed' := #[true, true, false, true, false, false, true, true, false, true, false, false, false]) 9 ⟨rfl, by kernel_rfl, by kernel_rfl, by kernel_rfl, by kernel_rfl⟩ rfl (fun _ _ _ _ h => h) (by intro _; first | exact Run.indexAddrA T.arr_37 T.sz_3 rfl rfl rfl (by omega) | exact Run.indexAddrA T.arr_37 T.sz_3 rfl rfl (Int.toNat_of_nonneg (by omega)).symm (by omega)) ?_)); all_goals ((refine Goal.take (listed' := #[true, true, true, true, false, false, true, true, false, true, false, false, false]) 2 ⟨rfl, by kernel_rfl, by kernel_rfl, by kernel_rfl, by kernel_rfl, by kernel_rfl⟩ rfl (by (first | exact fun _ h => h.sub (List.Sublist.cons_cons _ (List.nil_sublist _)) | exact fun _ h => h.sub (.cons _ (.refl _)) | exact fun _ h => h.sub (.cons _ (.cons _ (.refl _))) | exact fun _ h => h.sub (.cons _ (.cons _ (.cons _ (.refl _)))) | exact fun _ h => h.drop)) (fun _ _ _ _ h => h) (by (apply Run.load; exact rfl; first | exact LoadOK.oldAgg (vs := [.int .i64 c1, .int .i64 c2]) T.agg_37 rfl hk2 (by simp) | exact LoadOK.one T.one_3 0 rfl rfl | exact LoadOK.one T.one_3 1 rfl rfl | exact LoadOK.one T.one_3 2 rfl rfl | exact LoadOK.one T.one_3 3 rfl rfl | exact LoadOK.one T.one_3 4 rfl rfl | exact LoadOK.one T.one_3 5 rfl rfl | exact LoadOK.one T.one_3 6 rfl rfl | exact LoadOK.one T.one_3 7 rfl rfl)) ?_)); all_goals ((refine Goal.take (listed' := #[true, true, true, true, true, false, true, true, false, true, false, false, false]) 4 ⟨rfl, by kernel_rfl, by kernel_rfl, by kernel_rfl, by kernel_rfl, by kernel_rfl⟩ rfl (by (first | exact fun _ h => h.sub (List.Sublist.cons_cons _ (List.nil_sublist _)) | exact fun _ h => h.sub (.cons _ (.refl _)) | exact fun _ h => h.sub (.cons _ (.cons _ (.refl _))) | exact fun _ h => h.sub (.cons _ (.cons _ (.cons _ (.refl _)))) | exact fun _ h => h.drop)) (fun _ _ _ _ h => h) (by (apply Run.load; exact rfl; first | exact LoadOK.oldAgg (vs := [.int .i64 c1, .int .i64 c2]) T.agg_37 rfl hk2 (by simp) | exact LoadOK.one T.one_3 0 rfl rfl | exact LoadOK.one T.one_3 1 rfl rfl | exact LoadOK.one T.one_3 2 rfl rfl | exact LoadOK.one T.one_3 3 rfl rfl | exact LoadOK.one T.one_3 4 rfl rfl | exact LoadOK.one T.one_3 5 rfl rfl | exact LoadOK.one T.one_3 6 rfl rfl | exact LoadOK.one T.one_3 7 rfl rfl)) ?_)); all_goals ((refine Goal.take (listed' := #[true, true, true, true, true, false, true, true, true, true, false, false, false]) 8 ⟨rfl, by kernel_rfl, by kernel_rfl, by kernel_rfl, by kernel_rfl, by kernel_rfl⟩ rfl (by (first | exact fun _ h => h.sub (List.Sublist.cons_cons _ (List.nil_sublist _)) | exact fun _ h => h.sub (.cons _ (.refl _)) | exact fun _ h => h.sub (.cons _ (.cons _ (.refl _))) | exact fun _ h => h.sub (.cons _ (.cons _ (.cons _ (.refl _)))) | exact fun _ h => h.drop)) (fun _ _ _ _ h => h) (by (apply Run.load; exact rfl; first | exact LoadOK.oldAgg (vs := [.int .i64 c1, .int .i64 c2]) T.agg_37 rfl hk2 (by simp) | exact LoadOK.one T.one_3 0 rfl rfl | exact LoadOK.one T.one_3 1 rfl rfl | exact LoadOK.one T.one_3 2 rfl rfl | exact LoadOK.one T.one_3 3 rfl rfl | exact LoadOK.one T.one_3 4 rfl rfl | exact LoadOK.one T.one_3 5 rfl rfl | exact LoadOK.one T.one_3 6 rfl rfl | exact LoadOK.one T.one_3 7 rfl rfl)) ?_)); all_goals ((refine Goal.take (listed' := #[true, true, true, true, true, false, true, true, true, true, true, false, false]) 10 ⟨rfl, by kernel_rfl, by kernel_rfl, by kernel_rfl, by kernel_rfl, by kernel_rfl⟩ rfl (by (first | exact fun _ h => h.sub (List.Sublist.cons_cons _ (List.nil_sublist _)) | exact fun _ h => h.sub (.cons _ (.refl _)) | exact fun _ h => h.sub (.cons _ (.cons _ (.refl _))) | exact fun _ h => h.sub (.cons _ (.cons _ (.cons _ (.refl _)))) | exact fun _ h => h.drop)) (fun _ _ _ _ h => h) (by (apply Run.load; exact rfl; first | exact LoadOK.oldAgg (vs := [.int .i64 c1, .int .i64 c2]) T.agg_37 rfl hk2 (by simp) | exact LoadOK.one T.one_3 0 rfl rfl | exact LoadOK.one T.one_3 1 rfl rfl | exact LoadOK.one T.one_3 2 rfl rfl | exact LoadOK.one T.one_3 3 rfl rfl | exact LoadOK.one T.one_3 4 rfl rfl | exact LoadOK.one T.one_3 5 rfl rfl | exact LoadOK.one T.one_3 6 rfl rfl | exact LoadOK.one T.one_3 7 rfl rfl)) ?_)); all_goals (refine Goal.ready1 (i := 5) (by kernel_rfl) ?_); all_goals ((refine Goal.up (i := 5) (listed' := #[true, true, true, true, true, true, true, true, true, true, true, false, false]) rfl (by kernel_rfl) ?_; (refine Loud.callM ([_]) (set_ok hA (by omega) c1 c2) rfl rfl rfl rfl T.bod_10 (fun _ h => h) ?_; intro A2 h2; rw [if_pos hin] at h2 ⊢); first | refine Goal.tail rfl ?_ | refine Goal.kept (by (first | exact fun _ h => h.sub (List.Sublist.cons_cons _ (List.nil_sublist _)) | exact fun _ h => h.sub (.cons _ (.refl _)) | exact fun _ h => h.sub (.cons _ (.cons _ (.refl _))) | exact fun _ h => h.sub (.cons _ (.cons _ (.cons _ (.refl _)))) | exact fun _ h => h.drop)) ?_)); all_goals (refine Goal.ready1 (i := 11) (by kernel_rfl) ?_); all_goals ((refine Goal.up (i := 11) (listed' := #[true, true, true, true, true, true, true, true, true, true, true, true, false]) rfl (by kernel_rfl) ?_; (refine Loud.callE (_ :: A2) (rset_ok hR c1 c2) rfl rfl rfl rfl T.bod_13 (fun _ h => h) ?_; intro R2 g2; rw [if_pos hin] at g2 ⊢); first | refine Goal.tail rfl ?_ | refine Goal.kept (by (first | exact fun _ h => h.sub (List.Sublist.cons_cons _ (List.nil_sublist _)) | exact fun _ h => h.sub (.cons _ (.refl _)) | exact fun _ h => h.sub (.cons _ (.cons _ (.refl _))) | exact fun _ h => h.sub (.cons _ (.cons _ (.cons _ (.refl _)))) | exact fun _ h => h.drop)) ?_)); all_goals ((refine Goal.takeP (listed' := #[true, true, true, true, true, true, true, true, true, true, true, true, true]) 12 ⟨rfl, by kernel_rfl, by kernel_rfl, by kernel_rfl, by kernel_rfl⟩ rfl (fun _ _ _ _ h => h) (by intro _; first | exact Run.neq rfl rfl) ?_)); all_goals (refine Goal.allUp (by kernel_rfl) ?_))
            | (refine Goal.loud (o := ⟨some 84, _, _, _, _, _⟩) rfl ?_; refine Loud.callM ([_]) (set_ok hA (by omega) c1 c2) rfl rfl rfl rfl T.bod_10 (fun _ h => h) ?_; intro A2 h2; rw [if_pos hin] at h2 ⊢)
            | (refine Goal.loud (o := ⟨some 90, _, _, _, _, _⟩) rfl ?_; refine Loud.callE (_ :: A2) (rset_ok hR c1 c2) rfl rfl rfl rfl T.bod_13 (fun _ h => h) ?_; intro R2 g2; rw [if_pos hin] at g2 ⊢)
            | (refine Goal.loud (o := ⟨some 13, _, _, _, _, _⟩) rfl ?_; refine Loud.allocA rfl T.inf_37 (fun b13 => ?_))
            | (apply G.move; exact rfl; exact rfl)
            | (apply G.assign; exact rfl; exact rfl)
            | refine Goal.seq (fun _ _ => ?_)
            | refine Goal.next (by assumption) ?_
            | refine Goal.lnil ?_
            | refine Goal.region ?_
            | refine Goal.skip ?_
            | refine Goal.block ?_
            | refine Goal.exit ?_
            | refine Goal.ret ?_
            | refine Goal.then_exit ?_
            | refine Goal.then_ret ?_
            | refine Goal.inBlock_exit ?_
            | refine Goal.inBlock_normal ?_
            | refine Goal.inBlock_ret ?_
            | refine Goal.inBlock_other rfl ?_
            | (apply Goal.condT; exact rfl)
            | (apply Goal.condF; exact rfl)
            | (refine Goal.condD rfl (fun hc => ?_) (fun hc => ?_) <;> first | (exfalso; omega) | contradiction | skip)
            | refine Goal.condB rfl (fun hc => ?_) (fun hc => ?_)
            | refine Goal.guardT rfl rfl ?_
            | refine Goal.guardF rfl rfl rfl rfl ?_
            | refine Goal.guardU rfl rfl rfl ?_
            | (refine Goal.guardD rfl rfl (fun hc => ?_) (fun hc => ?_) <;> first | (exfalso; omega) | contradiction | skip)
            | refine Goal.guardB rfl rfl (fun hc => ?_) (fun hc => ?_)
            | (apply G.load; exact rfl; exact rfl; first | exact LoadOK.oldAgg (vs := [.int .i64 c1, .int .i64 c2]) T.agg_37 rfl hk2 (by simp) | exact LoadOK.one (by first | exact T.one_3 | exact T.one_5) 0 rfl rfl | exact LoadOK.one (by first | exact T.one_3 | exact T.one_5) 1 rfl rfl | exact LoadOK.one (by first | exact T.one_3 | exact T.one_5) 2 rfl rfl | exact LoadOK.one (by first | exact T.one_3 | exact T.one_5) 3 rfl rfl | exact LoadOK.one (by first | exact T.one_3 | exact T.one_5) 4 rfl rfl | exact LoadOK.one (by first | exact T.one_3 | exact T.one_5) 5 rfl rfl | exact LoadOK.one (by first | exact T.one_3 | exact T.one_5) 6 rfl rfl | exact LoadOK.one (by first | exact T.one_3 | exact T.one_5) 7 rfl rfl | exact LoadOK.agg (vs := [_, _]) T.agg_37 0 rfl rfl ⟨rfl, rfl, trivial⟩ | exact LoadOK.agg (vs := [_, _]) T.agg_37 1 rfl rfl ⟨rfl, rfl, trivial⟩ | exact LoadOK.agg (vs := [_, _]) T.agg_37 2 rfl rfl ⟨rfl, rfl, trivial⟩ | exact LoadOK.agg (vs := [_, _]) T.agg_37 3 rfl rfl ⟨rfl, rfl, trivial⟩ | exact LoadOK.agg (vs := [_, _]) T.agg_37 4 rfl rfl ⟨rfl, rfl, trivial⟩ | exact LoadOK.agg (vs := [_, _]) T.agg_37 5 rfl rfl ⟨rfl, rfl, trivial⟩ | exact LoadOK.agg (vs := [_, _]) T.agg_37 6 rfl rfl ⟨rfl, rfl, trivial⟩ | exact LoadOK.agg (vs := [_, _]) T.agg_37 7 rfl rfl ⟨rfl, rfl, trivial⟩)
            | (apply G.pickT; exact rfl; exact rfl; exact rfl)
            | (apply G.pickF; exact rfl; exact rfl; exact rfl)
            | (apply G.lss; exact rfl; exact rfl; exact rfl)
            | (apply G.gtr; exact rfl; exact rfl; exact rfl)
            | (apply G.eql; exact rfl; exact rfl; exact rfl)
            | (apply G.neq; exact rfl; exact rfl; exact rfl)
            | (apply G.add; exact rfl; exact rfl; exact rfl; first | exact IntWalk.i64_in _ (by omega) | exact IntWalk.u8_in _ (by omega) | exact IntWalk.u16_in _ (by omega) | exact IntWalk.u32_in _ (by omega) | exact IntWalk.u64_in _ (by omega))
            | (apply G.eqlB; exact rfl; exact T.boo_4; exact rfl; exact rfl)
            | (refine Goal.quiet rfl (Run.eqlP T.ptr_24 rfl rfl rfl) ?_)
            | (apply G.neqB; exact rfl; exact T.boo_4; exact rfl; exact rfl)
            | (refine Goal.quiet rfl (Run.neqP T.ptr_24 rfl rfl rfl) ?_)
            | (apply G.conv; exact rfl; exact rfl; (first | exact T.int_3 | exact T.int_5); (first | exact T.int_3 | exact T.int_5); first | exact IntWalk.i64_in _ (by omega) | exact IntWalk.u8_in _ (by omega) | exact IntWalk.u16_in _ (by omega) | exact IntWalk.u32_in _ (by omega) | exact IntWalk.u64_in _ (by omega))
            | (apply G.notT; exact rfl; exact rfl)
            | (apply G.notF; exact rfl; exact rfl)
            | (refine G.notD rfl rfl ?_)
            | (apply G.notB; exact rfl; exact rfl)
            | (apply G.extract; exact rfl; exact rfl; exact rfl)
            | (apply G.len; exact rfl; exact rfl; (first | exact T.slc_22 | exact T.slc_33 | exact T.slc_34))
            | (refine G.indexAddr1 rfl (by first | exact T.slc_22 | exact T.slc_33 | exact T.slc_34) (by first | exact T.sz_3 | exact T.sz_5) rfl rfl _ rfl (by omega) ?_)
            | (refine G.indexAddr1 rfl (by first | exact T.slc_22 | exact T.slc_33 | exact T.slc_34) (by first | exact T.sz_3 | exact T.sz_5) rfl rfl _ (Int.toNat_of_nonneg (by omega)).symm (by omega) ?_)
            | (refine G.indexAddr rfl (by first | exact T.slc_22 | exact T.slc_33 | exact T.slc_34) T.sz_37 rfl rfl _ rfl (by omega) ?_)
            | (refine G.indexAddr rfl (by first | exact T.slc_22 | exact T.slc_33 | exact T.slc_34) T.sz_37 rfl rfl _ (Int.toNat_of_nonneg (by omega)).symm (by omega) ?_)
            | (refine G.indexAddrA rfl T.arr_37 (by first | exact T.sz_3 | exact T.sz_5 | exact T.sz_37) rfl rfl _ rfl (by omega) ?_)
            | (refine G.indexAddrA rfl T.arr_37 (by first | exact T.sz_3 | exact T.sz_5 | exact T.sz_37) rfl rfl _ (Int.toNat_of_nonneg (by omega)).symm (by omega) ?_)
            | (refine Goal.loud rfl ?_; refine Loud.store0 rfl rfl T.sz_37 rfl rfl rfl (by first | exact Nat.le_refl _ | decide | (simp; omega)) rfl ?_)
            | (refine Goal.loud rfl ?_; refine Loud.store1 rfl rfl T.sz_37 rfl rfl rfl (by first | exact Nat.le_refl _ | decide | (simp; omega)) rfl ?_)
            | (refine Goal.loud rfl ?_; refine Loud.store2 rfl rfl T.sz_37 rfl rfl rfl (by first | exact Nat.le_refl _ | decide | (simp; omega)) rfl ?_)
            | (refine Goal.loud rfl ?_; refine Loud.store3 rfl rfl T.sz_37 rfl rfl rfl (by first | exact Nat.le_refl _ | decide | (simp; omega)) rfl ?_)
            | (refine Goal.loud rfl ?_; refine Loud.store4 rfl rfl T.sz_37 rfl rfl rfl (by first | exact Nat.le_refl _ | decide | (simp; omega)) rfl ?_)
            | (refine Goal.loud rfl ?_; refine Loud.store5 rfl rfl T.sz_37 rfl rfl rfl (by first | exact Nat.le_refl _ | decide | (simp; omega)) rfl ?_)
            | (refine Goal.loud rfl ?_; refine Loud.store6 rfl rfl T.sz_37 rfl rfl rfl (by first | exact Nat.le_refl _ | decide | (simp; omega)) rfl ?_)
            | (refine Goal.loud rfl ?_; refine Loud.store7 rfl rfl T.sz_37 rfl rfl rfl (by first | exact Nat.le_refl _ | decide | (simp; omega)) rfl ?_))
          refine Goal.again ⟨t + 1, upd m c1 (some c2), A2, R2⟩ ⟨by dsimp only; omega, h2, g2⟩ (by dsimp only; omega) ⟨rfl, rfl, rfl, rfl, rfl, rfl, rfl, trivial⟩ (fun _ h => h.sub (List.sublist_cons_self _ (A2 ++ R2)))
        · skip
          repeat' (first
            | (refine Goal.drawHd (id := 18) 13 T.mixed ?_; all_goals ((refine Goal.takeP (listed' := #[true, false, false, false, false, false, false, false, false, false, false, false, false]) 0 ⟨rfl, by kernel_rfl, by kernel_rfl, by kernel_rfl, by kernel_rfl⟩ rfl (fun _ _ _ _ h => h) (by intro _; exact Run.move rfl) ?_)); all_goals ((refine Goal.takeP (listed' := #[true, true, false, false, false, false, false, false, false, false, false, false, false]) 1 ⟨rfl, by kernel_rfl, by kernel_rfl, by kernel_rfl, by kernel_rfl⟩ rfl (fun _ _ _ _ h => h) (by intro _; first | exact Run.indexAddrA T.arr_37 T.sz_3 rfl rfl rfl (by omega) | exact Run.indexAddrA T.arr_37 T.sz_3 rfl rfl (Int.toNat_of_nonneg (by omega)).symm (by omega)) ?_)); all_goals ((refine Goal.takeP (listed' := #[true, true, false, true, false, false, false, false, false, false, false, false, false]) 3 ⟨rfl, by kernel_rfl, by kernel_rfl, by kernel_rfl, by kernel_rfl⟩ rfl (fun _ _ _ _ h => h) (by intro _; first | exact Run.indexAddrA T.arr_37 T.sz_3 rfl rfl rfl (by omega) | exact Run.indexAddrA T.arr_37 T.sz_3 rfl rfl (Int.toNat_of_nonneg (by omega)).symm (by omega)) ?_)); all_goals ((refine Goal.takeP (listed' := #[true, true, false, true, false, false, true, false, false, false, false, false, false]) 6 ⟨rfl, by kernel_rfl, by kernel_rfl, by kernel_rfl, by kernel_rfl⟩ rfl (fun _ _ _ _ h => h) (by intro _; exact Run.move rfl) ?_)); all_goals ((refine Goal.takeP (listed' := #[true, true, false, true, false, false, true, true, false, false, false, false, false]) 7 ⟨rfl, by kernel_rfl, by kernel_rfl, by kernel_rfl, by kernel_rfl⟩ rfl (fun _ _ _ _ h => h) (by intro _; first | exact Run.indexAddrA T.arr_37 T.sz_3 rfl rfl rfl (by omega) | exact Run.indexAddrA T.arr_37 T.sz_3 rfl rfl (Int.toNat_of_nonneg (by omega)).symm (by omega)) ?_)); all_goals ((refine Goal.takeP (listed' := #[true, true, false, true, false, false, true, true, false, true, false, false, false]) 9 ⟨rfl, by kernel_rfl, by kernel_rfl, by kernel_rfl, by kernel_rfl⟩ rfl (fun _ _ _ _ h => h) (by intro _; first | exact Run.indexAddrA T.arr_37 T.sz_3 rfl rfl rfl (by omega) | exact Run.indexAddrA T.arr_37 T.sz_3 rfl rfl (Int.toNat_of_nonneg (by omega)).symm (by omega)) ?_)); all_goals ((refine Goal.take (listed' := #[true, true, true, true, false, false, true, true, false, true, false, false, false]) 2 ⟨rfl, by kernel_rfl, by kernel_rfl, by kernel_rfl, by kernel_rfl, by kernel_rfl⟩ rfl (by (first | exact fun _ h => h.sub (List.Sublist.cons_cons _ (List.nil_sublist _)) | exact fun _ h => h.sub (.cons _ (.refl _)) | exact fun _ h => h.sub (.cons _ (.cons _ (.refl _))) | exact fun _ h => h.sub (.cons _ (.cons _ (.cons _ (.refl _)))) | exact fun _ h => h.drop)) (fun _ _ _ _ h => h) (by (apply Run.load; exact rfl; first | exact LoadOK.oldAgg (vs := [.int .i64 c1, .int .i64 c2]) T.agg_37 rfl hk2 (by simp) | exact LoadOK.one T.one_3 0 rfl rfl | exact LoadOK.one T.one_3 1 rfl rfl | exact LoadOK.one T.one_3 2 rfl rfl | exact LoadOK.one T.one_3 3 rfl rfl | exact LoadOK.one T.one_3 4 rfl rfl | exact LoadOK.one T.one_3 5 rfl rfl | exact LoadOK.one T.one_3 6 rfl rfl | exact LoadOK.one T.one_3 7 rfl rfl)) ?_)); all_goals ((refine Goal.take (listed' := #[true, true, true, true, true, false, true, true, false, true, false, false, false]) 4 ⟨rfl, by kernel_rfl, by kernel_rfl, by kernel_rfl, by kernel_rfl, by kernel_rfl⟩ rfl (by (first | exact fun _ h => h.sub (List.Sublist.cons_cons _ (List.nil_sublist _)) | exact fun _ h => h.sub (.cons _ (.refl _)) | exact fun _ h => h.sub (.cons _ (.cons _ (.refl _))) | exact fun _ h => h.sub (.cons _ (.cons _ (.cons _ (.refl _)))) | exact fun _ h => h.drop)) (fun _ _ _ _ h => h) (by (apply Run.load; exact rfl; first | exact LoadOK.oldAgg (vs := [.int .i64 c1, .int .i64 c2]) T.agg_37 rfl hk2 (by simp) | exact LoadOK.one T.one_3 0 rfl rfl | exact LoadOK.one T.one_3 1 rfl rfl | exact LoadOK.one T.one_3 2 rfl rfl | exact LoadOK.one T.one_3 3 rfl rfl | exact LoadOK.one T.one_3 4 rfl rfl | exact LoadOK.one T.one_3 5 rfl rfl | exact LoadOK.one T.one_3 6 rfl rfl | exact LoadOK.one T.one_3 7 rfl rfl)) ?_)); all_goals ((refine Goal.take (listed' := #[true, true, true, true, true, false, true, true, true, true, false, false, false]) 8 ⟨rfl, by kernel_rfl, by kernel_rfl, by kernel_rfl, by kernel_rfl, by kernel_rfl⟩ rfl (by (first | exact fun _ h => h.sub (List.Sublist.cons_cons _ (List.nil_sublist _)) | exact fun _ h => h.sub (.cons _ (.refl _)) | exact fun _ h => h.sub (.cons _ (.cons _ (.refl _))) | exact fun _ h => h.sub (.cons _ (.cons _ (.cons _ (.refl _)))) | exact fun _ h => h.drop)) (fun _ _ _ _ h => h) (by (apply Run.load; exact rfl; first | exact LoadOK.oldAgg (vs := [.int .i64 c1, .int .i64 c2]) T.agg_37 rfl hk2 (by simp) | exact LoadOK.one T.one_3 0 rfl rfl | exact LoadOK.one T.one_3 1 rfl rfl | exact LoadOK.one T.one_3 2 rfl rfl | exact LoadOK.one T.one_3 3 rfl rfl | exact LoadOK.one T.one_3 4 rfl rfl | exact LoadOK.one T.one_3 5 rfl rfl | exact LoadOK.one T.one_3 6 rfl rfl | exact LoadOK.one T.one_3 7 rfl rfl)) ?_)); all_goals ((refine Goal.take (listed' := #[true, true, true, true, true, false, true, true, true, true, true, false, false]) 10 ⟨rfl, by kernel_rfl, by kernel_rfl, by kernel_rfl, by kernel_rfl, by kernel_rfl⟩ rfl (by (first | exact fun _ h => h.sub (List.Sublist.cons_cons _ (List.nil_sublist _)) | exact fun _ h => h.sub (.cons _ (.refl _)) | exact fun _ h => h.sub (.cons _ (.cons _ (.refl _))) | exact fun _ h => h.sub (.cons _ (.cons _ (.cons _ (.refl _)))) | exact fun _ h => h.drop)) (fun _ _ _ _ h => h) (by (apply Run.load; exact rfl; first | exact LoadOK.oldAgg (vs := [.int .i64 c1, .int .i64 c2]) T.agg_37 rfl hk2 (by simp) | exact LoadOK.one T.one_3 0 rfl rfl | exact LoadOK.one T.one_3 1 rfl rfl | exact LoadOK.one T.one_3 2 rfl rfl | exact LoadOK.one T.one_3 3 rfl rfl | exact LoadOK.one T.one_3 4 rfl rfl | exact LoadOK.one T.one_3 5 rfl rfl | exact LoadOK.one T.one_3 6 rfl rfl | exact LoadOK.one T.one_3 7 rfl rfl)) ?_)); all_goals (refine Goal.ready1 (i := 5) (by kernel_rfl) ?_); all_goals ((refine Goal.up (i := 5) (listed' := #[true, true, true, true, true, true, true, true, true, true, true, false, false]) rfl (by kernel_rfl) ?_; (refine Loud.callM ([_]) (set_ok hA (by omega) c1 c2) rfl rfl rfl rfl T.bod_10 (fun _ h => h) ?_; intro A2 h2; rw [if_neg hin] at h2 ⊢); first | refine Goal.tail rfl ?_ | refine Goal.kept (by (first | exact fun _ h => h.sub (List.Sublist.cons_cons _ (List.nil_sublist _)) | exact fun _ h => h.sub (.cons _ (.refl _)) | exact fun _ h => h.sub (.cons _ (.cons _ (.refl _))) | exact fun _ h => h.sub (.cons _ (.cons _ (.cons _ (.refl _)))) | exact fun _ h => h.drop)) ?_)); all_goals (refine Goal.ready1 (i := 11) (by kernel_rfl) ?_); all_goals ((refine Goal.up (i := 11) (listed' := #[true, true, true, true, true, true, true, true, true, true, true, true, false]) rfl (by kernel_rfl) ?_; (refine Loud.callE (_ :: A2) (rset_ok hR c1 c2) rfl rfl rfl rfl T.bod_13 (fun _ h => h) ?_; intro R2 g2; rw [if_neg hin] at g2 ⊢); first | refine Goal.tail rfl ?_ | refine Goal.kept (by (first | exact fun _ h => h.sub (List.Sublist.cons_cons _ (List.nil_sublist _)) | exact fun _ h => h.sub (.cons _ (.refl _)) | exact fun _ h => h.sub (.cons _ (.cons _ (.refl _))) | exact fun _ h => h.sub (.cons _ (.cons _ (.cons _ (.refl _)))) | exact fun _ h => h.drop)) ?_)); all_goals ((refine Goal.takeP (listed' := #[true, true, true, true, true, true, true, true, true, true, true, true, true]) 12 ⟨rfl, by kernel_rfl, by kernel_rfl, by kernel_rfl, by kernel_rfl⟩ rfl (fun _ _ _ _ h => h) (by intro _; first | exact Run.neq rfl rfl) ?_)); all_goals (refine Goal.allUp (by kernel_rfl) ?_))
            | (refine Goal.loud (o := ⟨some 84, _, _, _, _, _⟩) rfl ?_; refine Loud.callM ([_]) (set_ok hA (by omega) c1 c2) rfl rfl rfl rfl T.bod_10 (fun _ h => h) ?_; intro A2 h2; rw [if_neg hin] at h2 ⊢)
            | (refine Goal.loud (o := ⟨some 90, _, _, _, _, _⟩) rfl ?_; refine Loud.callE (_ :: A2) (rset_ok hR c1 c2) rfl rfl rfl rfl T.bod_13 (fun _ h => h) ?_; intro R2 g2; rw [if_neg hin] at g2 ⊢)
            | (refine Goal.loud (o := ⟨some 13, _, _, _, _, _⟩) rfl ?_; refine Loud.allocA rfl T.inf_37 (fun b13 => ?_))
            | (apply G.move; exact rfl; exact rfl)
            | (apply G.assign; exact rfl; exact rfl)
            | refine Goal.seq (fun _ _ => ?_)
            | refine Goal.next (by assumption) ?_
            | refine Goal.lnil ?_
            | refine Goal.region ?_
            | refine Goal.skip ?_
            | refine Goal.block ?_
            | refine Goal.exit ?_
            | refine Goal.ret ?_
            | refine Goal.then_exit ?_
            | refine Goal.then_ret ?_
            | refine Goal.inBlock_exit ?_
            | refine Goal.inBlock_normal ?_
            | refine Goal.inBlock_ret ?_
            | refine Goal.inBlock_other rfl ?_
            | (apply Goal.condT; exact rfl)
            | (apply Goal.condF; exact rfl)
            | (refine Goal.condD rfl (fun hc => ?_) (fun hc => ?_) <;> first | (exfalso; omega) | contradiction | skip)
            | refine Goal.condB rfl (fun hc => ?_) (fun hc => ?_)
            | refine Goal.guardT rfl rfl ?_
            | refine Goal.guardF rfl rfl rfl rfl ?_
            | refine Goal.guardU rfl rfl rfl ?_
            | (refine Goal.guardD rfl rfl (fun hc => ?_) (fun hc => ?_) <;> first | (exfalso; omega) | contradiction | skip)
            | refine Goal.guardB rfl rfl (fun hc => ?_) (fun hc => ?_)
            | (apply G.load; exact rfl; exact rfl; first | exact LoadOK.oldAgg (vs := [.int .i64 c1, .int .i64 c2]) T.agg_37 rfl hk2 (by simp) | exact LoadOK.one (by first | exact T.one_3 | exact T.one_5) 0 rfl rfl | exact LoadOK.one (by first | exact T.one_3 | exact T.one_5) 1 rfl rfl | exact LoadOK.one (by first | exact T.one_3 | exact T.one_5) 2 rfl rfl | exact LoadOK.one (by first | exact T.one_3 | exact T.one_5) 3 rfl rfl | exact LoadOK.one (by first | exact T.one_3 | exact T.one_5) 4 rfl rfl | exact LoadOK.one (by first | exact T.one_3 | exact T.one_5) 5 rfl rfl | exact LoadOK.one (by first | exact T.one_3 | exact T.one_5) 6 rfl rfl | exact LoadOK.one (by first | exact T.one_3 | exact T.one_5) 7 rfl rfl | exact LoadOK.agg (vs := [_, _]) T.agg_37 0 rfl rfl ⟨rfl, rfl, trivial⟩ | exact LoadOK.agg (vs := [_, _]) T.agg_37 1 rfl rfl ⟨rfl, rfl, trivial⟩ | exact LoadOK.agg (vs := [_, _]) T.agg_37 2 rfl rfl ⟨rfl, rfl, trivial⟩ | exact LoadOK.agg (vs := [_, _]) T.agg_37 3 rfl rfl ⟨rfl, rfl, trivial⟩ | exact LoadOK.agg (vs := [_, _]) T.agg_37 4 rfl rfl ⟨rfl, rfl, trivial⟩ | exact LoadOK.agg (vs := [_, _]) T.agg_37 5 rfl rfl ⟨rfl, rfl, trivial⟩ | exact LoadOK.agg (vs := [_, _]) T.agg_37 6 rfl rfl ⟨rfl, rfl, trivial⟩ | exact LoadOK.agg (vs := [_, _]) T.agg_37 7 rfl rfl ⟨rfl, rfl, trivial⟩)
            | (apply G.pickT; exact rfl; exact rfl; exact rfl)
            | (apply G.pickF; exact rfl; exact rfl; exact rfl)
            | (apply G.lss; exact rfl; exact rfl; exact rfl)
            | (apply G.gtr; exact rfl; exact rfl; exact rfl)
            | (apply G.eql; exact rfl; exact rfl; exact rfl)
            | (apply G.neq; exact rfl; exact rfl; exact rfl)
            | (apply G.add; exact rfl; exact rfl; exact rfl; first | exact IntWalk.i64_in _ (by omega) | exact IntWalk.u8_in _ (by omega) | exact IntWalk.u16_in _ (by omega) | exact IntWalk.u32_in _ (by omega) | exact IntWalk.u64_in _ (by omega))
            | (apply G.eqlB; exact rfl; exact T.boo_4; exact rfl; exact rfl)
            | (refine Goal.quiet rfl (Run.eqlP T.ptr_24 rfl rfl rfl) ?_)
            | (apply G.neqB; exact rfl; exact T.boo_4; exact rfl; exact rfl)
            | (refine Goal.quiet rfl (Run.neqP T.ptr_24 rfl rfl rfl) ?_)
            | (apply G.conv; exact rfl; exact rfl; (first | exact T.int_3 | exact T.int_5); (first | exact T.int_3 | exact T.int_5); first | exact IntWalk.i64_in _ (by omega) | exact IntWalk.u8_in _ (by omega) | exact IntWalk.u16_in _ (by omega) | exact IntWalk.u32_in _ (by omega) | exact IntWalk.u64_in _ (by omega))
            | (apply G.notT; exact rfl; exact rfl)
            | (apply G.notF; exact rfl; exact rfl)
            | (refine G.notD rfl rfl ?_)
            | (apply G.notB; exact rfl; exact rfl)
            | (apply G.extract; exact rfl; exact rfl; exact rfl)
            | (apply G.len; exact rfl; exact rfl; (first | exact T.slc_22 | exact T.slc_33 | exact T.slc_34))
            | (refine G.indexAddr1 rfl (by first | exact T.slc_22 | exact T.slc_33 | exact T.slc_34) (by first | exact T.sz_3 | exact T.sz_5) rfl rfl _ rfl (by omega) ?_)
            | (refine G.indexAddr1 rfl (by first | exact T.slc_22 | exact T.slc_33 | exact T.slc_34) (by first | exact T.sz_3 | exact T.sz_5) rfl rfl _ (Int.toNat_of_nonneg (by omega)).symm (by omega) ?_)
            | (refine G.indexAddr rfl (by first | exact T.slc_22 | exact T.slc_33 | exact T.slc_34) T.sz_37 rfl rfl _ rfl (by omega) ?_)
            | (refine G.indexAddr rfl (by first | exact T.slc_22 | exact T.slc_33 | exact T.slc_34) T.sz_37 rfl rfl _ (Int.toNat_of_nonneg (by omega)).symm (by omega) ?_)
            | (refine G.indexAddrA rfl T.arr_37 (by first | exact T.sz_3 | exact T.sz_5 | exact T.sz_37) rfl rfl _ rfl (by omega) ?_)
            | (refine G.indexAddrA rfl T.arr_37 (by first | exact T.sz_3 | exact T.sz_5 | exact T.sz_37) rfl rfl _ (Int.toNat_of_nonneg (by omega)).symm (by omega) ?_)
            | (refine Goal.loud rfl ?_; refine Loud.store0 rfl rfl T.sz_37 rfl rfl rfl (by first | exact Nat.le_refl _ | decide | (simp; omega)) rfl ?_)
            | (refine Goal.loud rfl ?_; refine Loud.store1 rfl rfl T.sz_37 rfl rfl rfl (by first | exact Nat.le_refl _ | decide | (simp; omega)) rfl ?_)
            | (refine Goal.loud rfl ?_; refine Loud.store2 rfl rfl T.sz_37 rfl rfl rfl (by first | exact Nat.le_refl _ | decide | (simp; omega)) rfl ?_)
            | (refine Goal.loud rfl ?_; refine Loud.store3 rfl rfl T.sz_37 rfl rfl rfl (by first | exact Nat.le_refl _ | decide | (simp; omega)) rfl ?_)
            | (refine Goal.loud rfl ?_; refine Loud.store4 rfl rfl T.sz_37 rfl rfl rfl (by first | exact Nat.le_refl _ | decide | (simp; omega)) rfl ?_)
            | (refine Goal.loud rfl ?_; refine Loud.store5 rfl rfl T.sz_37 rfl rfl rfl (by first | exact Nat.le_refl _ | decide | (simp; omega)) rfl ?_)
            | (refine Goal.loud rfl ?_; refine Loud.store6 rfl rfl T.sz_37 rfl rfl rfl (by first | exact Nat.le_refl _ | decide | (simp; omega)) rfl ?_)
            | (refine Goal.loud rfl ?_; refine Loud.store7 rfl rfl T.sz_37 rfl rfl rfl (by first | exact Nat.le_refl _ | decide | (simp; omega)) rfl ?_))
          refine Goal.again ⟨t + 1, m, A2, R2⟩ ⟨by dsimp only; omega, h2, g2⟩ (by dsimp only; omega) ⟨rfl, rfl, rfl, rfl, rfl, rfl, rfl, trivial⟩ (fun _ h => h.sub (List.sublist_cons_self _ (A2 ++ R2)))
      · skip
        repeat' (first
          | (refine Goal.loud (o := ⟨some 13, _, _, _, _, _⟩) rfl ?_; refine Loud.allocA rfl T.inf_37 (fun b13 => ?_))
          | (apply G.move; exact rfl; exact rfl)
          | (apply G.assign; exact rfl; exact rfl)
          | refine Goal.seq (fun _ _ => ?_)
          | refine Goal.next (by assumption) ?_
          | refine Goal.lnil ?_
          | refine Goal.region ?_
          | refine Goal.skip ?_
          | refine Goal.block ?_
          | refine Goal.exit ?_
          | refine Goal.ret ?_
          | refine Goal.then_exit ?_
          | refine Goal.then_ret ?_
          | refine Goal.inBlock_exit ?_
          | refine Goal.inBlock_normal ?_
          | refine Goal.inBlock_ret ?_
          | refine Goal.inBlock_other rfl ?_
          | (apply Goal.condT; exact rfl)
          | (apply Goal.condF; exact rfl)
          | (refine Goal.condD rfl (fun hc => ?_) (fun hc => ?_) <;> first | (exfalso; omega) | contradiction | skip)
          | refine Goal.condB rfl (fun hc => ?_) (fun hc => ?_)
          | refine Goal.guardT rfl rfl ?_
          | refine Goal.guardF rfl rfl rfl rfl ?_
          | refine Goal.guardU rfl rfl rfl ?_
          | (refine Goal.guardD rfl rfl (fun hc => ?_) (fun hc => ?_) <;> first | (exfalso; omega) | contradiction | skip)
          | refine Goal.guardB rfl rfl (fun hc => ?_) (fun hc => ?_)
          | (apply G.load; exact rfl; exact rfl; first | exact LoadOK.one (by first | exact T.one_3 | exact T.one_5) 0 rfl rfl | exact LoadOK.one (by first | exact T.one_3 | exact T.one_5) 1 rfl rfl | exact LoadOK.one (by first | exact T.one_3 | exact T.one_5) 2 rfl rfl | exact LoadOK.one (by first | exact T.one_3 | exact T.one_5) 3 rfl rfl | exact LoadOK.one (by first | exact T.one_3 | exact T.one_5) 4 rfl rfl | exact LoadOK.one (by first | exact T.one_3 | exact T.one_5) 5 rfl rfl | exact LoadOK.one (by first | exact T.one_3 | exact T.one_5) 6 rfl rfl | exact LoadOK.one (by first | exact T.one_3 | exact T.one_5) 7 rfl rfl | exact LoadOK.agg (vs := [_, _]) T.agg_37 0 rfl rfl ⟨rfl, rfl, trivial⟩ | exact LoadOK.agg (vs := [_, _]) T.agg_37 1 rfl rfl ⟨rfl, rfl, trivial⟩ | exact LoadOK.agg (vs := [_, _]) T.agg_37 2 rfl rfl ⟨rfl, rfl, trivial⟩ | exact LoadOK.agg (vs := [_, _]) T.agg_37 3 rfl rfl ⟨rfl, rfl, trivial⟩ | exact LoadOK.agg (vs := [_, _]) T.agg_37 4 rfl rfl ⟨rfl, rfl, trivial⟩ | exact LoadOK.agg (vs := [_, _]) T.agg_37 5 rfl rfl ⟨rfl, rfl, trivial⟩ | exact LoadOK.agg (vs := [_, _]) T.agg_37 6 rfl rfl ⟨rfl, rfl, trivial⟩ | exact LoadOK.agg (vs := [_, _]) T.agg_37 7 rfl rfl ⟨rfl, rfl, trivial⟩)
          | (apply G.pickT; exact rfl; exact rfl; exact rfl)
          | (apply G.pickF; exact rfl; exact rfl; exact rfl)
          | (apply G.lss; exact rfl; exact rfl; exact rfl)
          | (apply G.gtr; exact rfl; exact rfl; exact rfl)
          | (apply G.eql; exact rfl; exact rfl; exact rfl)
          | (apply G.neq; exact rfl; exact rfl; exact rfl)
          | (apply G.add; exact rfl; exact rfl; exact rfl; first | exact IntWalk.i64_in _ (by omega) | exact IntWalk.u8_in _ (by omega) | exact IntWalk.u16_in _ (by omega) | exact IntWalk.u32_in _ (by omega) | exact IntWalk.u64_in _ (by omega))
          | (apply G.eqlB; exact rfl; exact T.boo_4; exact rfl; exact rfl)
          | (refine Goal.quiet rfl (Run.eqlP T.ptr_24 rfl rfl rfl) ?_)
          | (apply G.neqB; exact rfl; exact T.boo_4; exact rfl; exact rfl)
          | (refine Goal.quiet rfl (Run.neqP T.ptr_24 rfl rfl rfl) ?_)
          | (apply G.conv; exact rfl; exact rfl; (first | exact T.int_3 | exact T.int_5); (first | exact T.int_3 | exact T.int_5); first | exact IntWalk.i64_in _ (by omega) | exact IntWalk.u8_in _ (by omega) | exact IntWalk.u16_in _ (by omega) | exact IntWalk.u32_in _ (by omega) | exact IntWalk.u64_in _ (by omega))
          | (apply G.notT; exact rfl; exact rfl)
          | (apply G.notF; exact rfl; exact rfl)
          | (refine G.notD rfl rfl ?_)
          | (apply G.notB; exact rfl; exact rfl)
          | (apply G.extract; exact rfl; exact rfl; exact rfl)
          | (apply G.len; exact rfl; exact rfl; (first | exact T.slc_22 | exact T.slc_33 | exact T.slc_34))
          | (refine G.indexAddr1 rfl (by first | exact T.slc_22 | exact T.slc_33 | exact T.slc_34) (by first | exact T.sz_3 | exact T.sz_5) rfl rfl _ rfl (by omega) ?_)
          | (refine G.indexAddr1 rfl (by first | exact T.slc_22 | exact T.slc_33 | exact T.slc_34) (by first | exact T.sz_3 | exact T.sz_5) rfl rfl _ (Int.toNat_of_nonneg (by omega)).symm (by omega) ?_)
          | (refine G.indexAddr rfl (by first | exact T.slc_22 | exact T.slc_33 | exact T.slc_34) T.sz_37 rfl rfl _ rfl (by omega) ?_)
          | (refine G.indexAddr rfl (by first | exact T.slc_22 | exact T.slc_33 | exact T.slc_34) T.sz_37 rfl rfl _ (Int.toNat_of_nonneg (by omega)).symm (by omega) ?_)
          | (refine G.indexAddrA rfl T.arr_37 (by first | exact T.sz_3 | exact T.sz_5 | exact T.sz_37) rfl rfl _ rfl (by omega) ?_)
          | (refine G.indexAddrA rfl T.arr_37 (by first | exact T.sz_3 | exact T.sz_5 | exact T.sz_37) rfl rfl _ (Int.toNat_of_nonneg (by omega)).symm (by omega) ?_)
          | (refine Goal.loud rfl ?_; refine Loud.store0 rfl rfl T.sz_37 rfl rfl rfl (by first | exact Nat.le_refl _ | decide | (simp; omega)) rfl ?_)
          | (refine Goal.loud rfl ?_; refine Loud.store1 rfl rfl T.sz_37 rfl rfl rfl (by first | exact Nat.le_refl _ | decide | (simp; omega)) rfl ?_)
          | (refine Goal.loud rfl ?_; refine Loud.store2 rfl rfl T.sz_37 rfl rfl rfl (by first | exact Nat.le_refl _ | decide | (simp; omega)) rfl ?_)
          | (refine Goal.loud rfl ?_; refine Loud.store3 rfl rfl T.sz_37 rfl rfl rfl (by first | exact Nat.le_refl _ | decide | (simp; omega)) rfl ?_)
          | (refine Goal.loud rfl ?_; refine Loud.store4 rfl rfl T.sz_37 rfl rfl rfl (by first | exact Nat.le_refl _ | decide | (simp; omega)) rfl ?_)
          | (refine Goal.loud rfl ?_; refine Loud.store5 rfl rfl T.sz_37 rfl rfl rfl (by first | exact Nat.le_refl _ | decide | (simp; omega)) rfl ?_)
          | (refine Goal.loud rfl ?_; refine Loud.store6 rfl rfl T.sz_37 rfl rfl rfl (by first | exact Nat.le_refl _ | decide | (simp; omega)) rfl ?_)
          | (refine Goal.loud rfl ?_; refine Loud.store7 rfl rfl T.sz_37 rfl rfl rfl (by first | exact Nat.le_refl _ | decide | (simp; omega)) rfl ?_))
        clear hlt ht
        refine Goal.loopP (X := V1) (fun x => [(0, .slice (some ⟨bb, o, none⟩) keys.length cap), (7, .pointer (some ⟨bh, 0, none⟩)), (9, .pointer (some ⟨br, 0, none⟩)), (93, .slice ad2 gone.length cap2), (94, .int .i64 gone.length), (95, .int .i64 x.t)]) (fun x => x.A ++ x.R)
          (fun x => (0 ≤ x.t ∧ x.t ≤ gone.length) ∧ HpA bh bk bp keys.length x.m x.A ∧ RpA br ch ck keys.length x.m x.R) (fun x => (gone.length - x.t).toNat) ⟨0, m, A, R⟩ ⟨rfl, rfl, rfl, rfl, rfl, rfl, trivial⟩ (fun _ h => h)
          ⟨by dsimp only; omega, hA, hR⟩ ?_
        clear hA hR
        rintro ⟨t, m, A, R⟩ ⟨ht, hA, hR⟩
        dsimp only at ht hA hR ⊢
        by_cases hlt : t < gone.length
        · obtain ⟨b1, o1, rfl, hk1⟩ := RdV.nums hr2 (by omega)
          have hk2 := hk1 t (by omega) (by omega)
          have hb := bounds_u8 (hq2 _ (ia_mem ⟨ht.1, hlt⟩))
          generalize ia gone t = g at hk2 hb
          repeat' (first
            | (refine Goal.loud (o := ⟨some 102, _, _, _, _, _⟩) rfl ?_; refine Loud.callM ([]) (remove_ok hA (by omega) g) rfl rfl rfl rfl T.bod_14 (fun _ h => h) ?_; intro A2 h2; generalize hz : (if 0 ≤ g ∧ g < keys.length then (if m g = none then (8 : Int) else 0) else 2) = z)
            | (refine Goal.loud (o := ⟨some 106, _, _, _, _, _⟩) rfl ?_; refine Loud.callE (A2) (rremove_ok hR g) rfl rfl rfl rfl T.bod_15 (fun _ h => h) ?_; intro R2 g2; rw [hz])
            | (refine Goal.loud (o := ⟨some 13, _, _, _, _, _⟩) rfl ?_; refine Loud.allocA rfl T.inf_37 (fun b13 => ?_))
            | (apply G.move; exact rfl; exact rfl)
            | (apply G.assign; exact rfl; exact rfl)
            | refine Goal.seq (fun _ _ => ?_)
            | refine Goal.next (by assumption) ?_
            | refine Goal.lnil ?_
            | refine Goal.region ?_
            | refine Goal.skip ?_
            | refine Goal.block ?_
            | refine Goal.exit ?_
            | refine Goal.ret ?_
            | refine Goal.then_exit ?_
            | refine Goal.then_ret ?_
            | refine Goal.inBlock_exit ?_
            | refine Goal.inBlock_normal ?_
            | refine Goal.inBlock_ret ?_
            | refine Goal.inBlock_other rfl ?_
            | (apply Goal.condT; exact rfl)
            | (apply Goal.condF; exact rfl)
            | (refine Goal.condD rfl (fun hc => ?_) (fun hc => ?_) <;> first | (exfalso; omega) | contradiction | skip)
            | refine Goal.condB rfl (fun hc => ?_) (fun hc => ?_)
            | refine Goal.guardT rfl rfl ?_
            | refine Goal.guardF rfl rfl rfl rfl ?_
            | refine Goal.guardU rfl rfl rfl ?_
            | (refine Goal.guardD rfl rfl (fun hc => ?_) (fun hc => ?_) <;> first | (exfalso; omega) | contradiction | skip)
            | refine Goal.guardB rfl rfl (fun hc => ?_) (fun hc => ?_)
            | (apply G.load; exact rfl; exact rfl; first | exact LoadOK.old T.one_5 hk2 (by simp) | exact LoadOK.one (by first | exact T.one_3 | exact T.one_5) 0 rfl rfl | exact LoadOK.one (by first | exact T.one_3 | exact T.one_5) 1 rfl rfl | exact LoadOK.one (by first | exact T.one_3 | exact T.one_5) 2 rfl rfl | exact LoadOK.one (by first | exact T.one_3 | exact T.one_5) 3 rfl rfl | exact LoadOK.one (by first | exact T.one_3 | exact T.one_5) 4 rfl rfl | exact LoadOK.one (by first | exact T.one_3 | exact T.one_5) 5 rfl rfl | exact LoadOK.one (by first | exact T.one_3 | exact T.one_5) 6 rfl rfl | exact LoadOK.one (by first | exact T.one_3 | exact T.one_5) 7 rfl rfl | exact LoadOK.agg (vs := [_, _]) T.agg_37 0 rfl rfl ⟨rfl, rfl, trivial⟩ | exact LoadOK.agg (vs := [_, _]) T.agg_37 1 rfl rfl ⟨rfl, rfl, trivial⟩ | exact LoadOK.agg (vs := [_, _]) T.agg_37 2 rfl rfl ⟨rfl, rfl, trivial⟩ | exact LoadOK.agg (vs := [_, _]) T.agg_37 3 rfl rfl ⟨rfl, rfl, trivial⟩ | exact LoadOK.agg (vs := [_, _]) T.agg_37 4 rfl rfl ⟨rfl, rfl, trivial⟩ | exact LoadOK.agg (vs := [_, _]) T.agg_37 5 rfl rfl ⟨rfl, rfl, trivial⟩ | exact LoadOK.agg (vs := [_, _]) T.agg_37 6 rfl rfl ⟨rfl, rfl, trivial⟩ | exact LoadOK.agg (vs := [_, _]) T.agg_37 7 rfl rfl ⟨rfl, rfl, trivial⟩)
            | (apply G.pickT; exact rfl; exact rfl; exact rfl)
            | (apply G.pickF; exact rfl; exact rfl; exact rfl)
            | (apply G.lss; exact rfl; exact rfl; exact rfl)
            | (apply G.gtr; exact rfl; exact rfl; exact rfl)
            | (apply G.eql; exact rfl; exact rfl; exact rfl)
            | (apply G.neq; exact rfl; exact rfl; exact rfl)
            | (apply G.add; exact rfl; exact rfl; exact rfl; first | exact IntWalk.i64_in _ (by omega) | exact IntWalk.u8_in _ (by omega) | exact IntWalk.u16_in _ (by omega) | exact IntWalk.u32_in _ (by omega) | exact IntWalk.u64_in _ (by omega))
            | (apply G.eqlB; exact rfl; exact T.boo_4; exact rfl; exact rfl)
            | (refine Goal.quiet rfl (Run.eqlP T.ptr_24 rfl rfl rfl) ?_)
            | (apply G.neqB; exact rfl; exact T.boo_4; exact rfl; exact rfl)
            | (refine Goal.quiet rfl (Run.neqP T.ptr_24 rfl rfl rfl) ?_)
            | (apply G.conv; exact rfl; exact rfl; (first | exact T.int_3 | exact T.int_5); (first | exact T.int_3 | exact T.int_5); first | exact IntWalk.i64_in _ (by omega) | exact IntWalk.u8_in _ (by omega) | exact IntWalk.u16_in _ (by omega) | exact IntWalk.u32_in _ (by omega) | exact IntWalk.u64_in _ (by omega))
            | (apply G.notT; exact rfl; exact rfl)
            | (apply G.notF; exact rfl; exact rfl)
            | (refine G.notD rfl rfl ?_)
            | (apply G.notB; exact rfl; exact rfl)
            | (apply G.extract; exact rfl; exact rfl; exact rfl)
            | (apply G.len; exact rfl; exact rfl; (first | exact T.slc_22 | exact T.slc_33 | exact T.slc_34))
            | (refine G.indexAddr1 rfl (by first | exact T.slc_22 | exact T.slc_33 | exact T.slc_34) (by first | exact T.sz_3 | exact T.sz_5) rfl rfl _ rfl (by omega) ?_)
            | (refine G.indexAddr1 rfl (by first | exact T.slc_22 | exact T.slc_33 | exact T.slc_34) (by first | exact T.sz_3 | exact T.sz_5) rfl rfl _ (Int.toNat_of_nonneg (by omega)).symm (by omega) ?_)
            | (refine G.indexAddr rfl (by first | exact T.slc_22 | exact T.slc_33 | exact T.slc_34) T.sz_37 rfl rfl _ rfl (by omega) ?_)
            | (refine G.indexAddr rfl (by first | exact T.slc_22 | exact T.slc_33 | exact T.slc_34) T.sz_37 rfl rfl _ (Int.toNat_of_nonneg (by omega)).symm (by omega) ?_)
            | (refine G.indexAddrA rfl T.arr_37 (by first | exact T.sz_3 | exact T.sz_5 | exact T.sz_37) rfl rfl _ rfl (by omega) ?_)
            | (refine G.indexAddrA rfl T.arr_37 (by first | exact T.sz_3 | exact T.sz_5 | exact T.sz_37) rfl rfl _ (Int.toNat_of_nonneg (by omega)).symm (by omega) ?_)
            | (refine Goal.loud rfl ?_; refine Loud.store0 rfl rfl T.sz_37 rfl rfl rfl (by first | exact Nat.le_refl _ | decide | (simp; omega)) rfl ?_)
            | (refine Goal.loud rfl ?_; refine Loud.store1 rfl rfl T.sz_37 rfl rfl rfl (by first | exact Nat.le_refl _ | decide | (simp; omega)) rfl ?_)
            | (refine Goal.loud rfl ?_; refine Loud.store2 rfl rfl T.sz_37 rfl rfl rfl (by first | exact Nat.le_refl _ | decide | (simp; omega)) rfl ?_)
            | (refine Goal.loud rfl ?_; refine Loud.store3 rfl rfl T.sz_37 rfl rfl rfl (by first | exact Nat.le_refl _ | decide | (simp; omega)) rfl ?_)
            | (refine Goal.loud rfl ?_; refine Loud.store4 rfl rfl T.sz_37 rfl rfl rfl (by first | exact Nat.le_refl _ | decide | (simp; omega)) rfl ?_)
            | (refine Goal.loud rfl ?_; refine Loud.store5 rfl rfl T.sz_37 rfl rfl rfl (by first | exact Nat.le_refl _ | decide | (simp; omega)) rfl ?_)
            | (refine Goal.loud rfl ?_; refine Loud.store6 rfl rfl T.sz_37 rfl rfl rfl (by first | exact Nat.le_refl _ | decide | (simp; omega)) rfl ?_)
            | (refine Goal.loud rfl ?_; refine Loud.store7 rfl rfl T.sz_37 rfl rfl rfl (by first | exact Nat.le_refl _ | decide | (simp; omega)) rfl ?_))
          refine Goal.again ⟨t + 1, if 0 ≤ g ∧ g < keys.length then upd m g none else m, A2, R2⟩ ⟨by dsimp only; omega, h2, g2⟩ (by dsimp only; omega) ⟨rfl, rfl, rfl, rfl, rfl, rfl, trivial⟩ (fun _ h => h)
        · skip
          repeat' (first
            | (refine Goal.loud (o := ⟨some 13, _, _, _, _, _⟩) rfl ?_; refine Loud.allocA rfl T.inf_37 (fun b13 => ?_))
            | (apply G.move; exact rfl; exact rfl)
            | (apply G.assign; exact rfl; exact rfl)
            | refine Goal.seq (fun _ _ => ?_)
            | refine Goal.next (by assumption) ?_
            | refine Goal.lnil ?_
            | refine Goal.region ?_
            | refine Goal.skip ?_
            | refine Goal.block ?_
            | refine Goal.exit ?_
            | refine Goal.ret ?_
            | refine Goal.then_exit ?_
            | refine Goal.then_ret ?_
            | refine Goal.inBlock_exit ?_
            | refine Goal.inBlock_normal ?_
            | refine Goal.inBlock_ret ?_
            | refine Goal.inBlock_other rfl ?_
            | (apply Goal.condT; exact rfl)
            | (apply Goal.condF; exact rfl)
            | (refine Goal.condD rfl (fun hc => ?_) (fun hc => ?_) <;> first | (exfalso; omega) | contradiction | skip)
            | refine Goal.condB rfl (fun hc => ?_) (fun hc => ?_)
            | refine Goal.guardT rfl rfl ?_
            | refine Goal.guardF rfl rfl rfl rfl ?_
            | refine Goal.guardU rfl rfl rfl ?_
            | (refine Goal.guardD rfl rfl (fun hc => ?_) (fun hc => ?_) <;> first | (exfalso; omega) | contradiction | skip)
            | refine Goal.guardB rfl rfl (fun hc => ?_) (fun hc => ?_)
            | (apply G.load; exact rfl; exact rfl; first | exact LoadOK.one (by first | exact T.one_3 | exact T.one_5) 0 rfl rfl | exact LoadOK.one (by first | exact T.one_3 | exact T.one_5) 1 rfl rfl | exact LoadOK.one (by first | exact T.one_3 | exact T.one_5) 2 rfl rfl | exact LoadOK.one (by first | exact T.one_3 | exact T.one_5) 3 rfl rfl | exact LoadOK.one (by first | exact T.one_3 | exact T.one_5) 4 rfl rfl | exact LoadOK.one (by first | exact T.one_3 | exact T.one_5) 5 rfl rfl | exact LoadOK.one (by first | exact T.one_3 | exact T.one_5) 6 rfl rfl | exact LoadOK.one (by first | exact T.one_3 | exact T.one_5) 7 rfl rfl | exact LoadOK.agg (vs := [_, _]) T.agg_37 0 rfl rfl ⟨rfl, rfl, trivial⟩ | exact LoadOK.agg (vs := [_, _]) T.agg_37 1 rfl rfl ⟨rfl, rfl, trivial⟩ | exact LoadOK.agg (vs := [_, _]) T.agg_37 2 rfl rfl ⟨rfl, rfl, trivial⟩ | exact LoadOK.agg (vs := [_, _]) T.agg_37 3 rfl rfl ⟨rfl, rfl, trivial⟩ | exact LoadOK.agg (vs := [_, _]) T.agg_37 4 rfl rfl ⟨rfl, rfl, trivial⟩ | exact LoadOK.agg (vs := [_, _]) T.agg_37 5 rfl rfl ⟨rfl, rfl, trivial⟩ | exact LoadOK.agg (vs := [_, _]) T.agg_37 6 rfl rfl ⟨rfl, rfl, trivial⟩ | exact LoadOK.agg (vs := [_, _]) T.agg_37 7 rfl rfl ⟨rfl, rfl, trivial⟩)
            | (apply G.pickT; exact rfl; exact rfl; exact rfl)
            | (apply G.pickF; exact rfl; exact rfl; exact rfl)
            | (apply G.lss; exact rfl; exact rfl; exact rfl)
            | (apply G.gtr; exact rfl; exact rfl; exact rfl)
            | (apply G.eql; exact rfl; exact rfl; exact rfl)
            | (apply G.neq; exact rfl; exact rfl; exact rfl)
            | (apply G.add; exact rfl; exact rfl; exact rfl; first | exact IntWalk.i64_in _ (by omega) | exact IntWalk.u8_in _ (by omega) | exact IntWalk.u16_in _ (by omega) | exact IntWalk.u32_in _ (by omega) | exact IntWalk.u64_in _ (by omega))
            | (apply G.eqlB; exact rfl; exact T.boo_4; exact rfl; exact rfl)
            | (refine Goal.quiet rfl (Run.eqlP T.ptr_24 rfl rfl rfl) ?_)
            | (apply G.neqB; exact rfl; exact T.boo_4; exact rfl; exact rfl)
            | (refine Goal.quiet rfl (Run.neqP T.ptr_24 rfl rfl rfl) ?_)
            | (apply G.conv; exact rfl; exact rfl; (first | exact T.int_3 | exact T.int_5); (first | exact T.int_3 | exact T.int_5); first | exact IntWalk.i64_in _ (by omega) | exact IntWalk.u8_in _ (by omega) | exact IntWalk.u16_in _ (by omega) | exact IntWalk.u32_in _ (by omega) | exact IntWalk.u64_in _ (by omega))
            | (apply G.notT; exact rfl; exact rfl)
            | (apply G.notF; exact rfl; exact rfl)
            | (refine G.notD rfl rfl ?_)
            | (apply G.notB; exact rfl; exact rfl)
            | (apply G.extract; exact rfl; exact rfl; exact rfl)
            | (apply G.len; exact rfl; exact rfl; (first | exact T.slc_22 | exact T.slc_33 | exact T.slc_34))
            | (refine G.indexAddr1 rfl (by first | exact T.slc_22 | exact T.slc_33 | exact T.slc_34) (by first | exact T.sz_3 | exact T.sz_5) rfl rfl _ rfl (by omega) ?_)
            | (refine G.indexAddr1 rfl (by first | exact T.slc_22 | exact T.slc_33 | exact T.slc_34) (by first | exact T.sz_3 | exact T.sz_5) rfl rfl _ (Int.toNat_of_nonneg (by omega)).symm (by omega) ?_)
            | (refine G.indexAddr rfl (by first | exact T.slc_22 | exact T.slc_33 | exact T.slc_34) T.sz_37 rfl rfl _ rfl (by omega) ?_)
            | (refine G.indexAddr rfl (by first | exact T.slc_22 | exact T.slc_33 | exact T.slc_34) T.sz_37 rfl rfl _ (Int.toNat_of_nonneg (by omega)).symm (by omega) ?_)
            | (refine G.indexAddrA rfl T.arr_37 (by first | exact T.sz_3 | exact T.sz_5 | exact T.sz_37) rfl rfl _ rfl (by omega) ?_)
            | (refine G.indexAddrA rfl T.arr_37 (by first | exact T.sz_3 | exact T.sz_5 | exact T.sz_37) rfl rfl _ (Int.toNat_of_nonneg (by omega)).symm (by omega) ?_)
            | (refine Goal.loud rfl ?_; refine Loud.store0 rfl rfl T.sz_37 rfl rfl rfl (by first | exact Nat.le_refl _ | decide | (simp; omega)) rfl ?_)
            | (refine Goal.loud rfl ?_; refine Loud.store1 rfl rfl T.sz_37 rfl rfl rfl (by first | exact Nat.le_refl _ | decide | (simp; omega)) rfl ?_)
            | (refine Goal.loud rfl ?_; refine Loud.store2 rfl rfl T.sz_37 rfl rfl rfl (by first | exact Nat.le_refl _ | decide | (simp; omega)) rfl ?_)
            | (refine Goal.loud rfl ?_; refine Loud.store3 rfl rfl T.sz_37 rfl rfl rfl (by first | exact Nat.le_refl _ | decide | (simp; omega)) rfl ?_)
            | (refine Goal.loud rfl ?_; refine Loud.store4 rfl rfl T.sz_37 rfl rfl rfl (by first | exact Nat.le_refl _ | decide | (simp; omega)) rfl ?_)
            | (refine Goal.loud rfl ?_; refine Loud.store5 rfl rfl T.sz_37 rfl rfl rfl (by first | exact Nat.le_refl _ | decide | (simp; omega)) rfl ?_)
            | (refine Goal.loud rfl ?_; refine Loud.store6 rfl rfl T.sz_37 rfl rfl rfl (by first | exact Nat.le_refl _ | decide | (simp; omega)) rfl ?_)
            | (refine Goal.loud rfl ?_; refine Loud.store7 rfl rfl T.sz_37 rfl rfl rfl (by first | exact Nat.le_refl _ | decide | (simp; omega)) rfl ?_))
          clear hlt ht
          refine Goal.loopP (X := V1) (fun x => [(7, .pointer (some ⟨bh, 0, none⟩)), (9, .pointer (some ⟨br, 0, none⟩)), (111, .int .i64 (keys.length + 1)), (112, .int .i64 x.t)]) (fun x => x.A ++ x.R)
            (fun x => (0 ≤ x.t ∧ x.t ≤ keys.length + 1) ∧ HpA bh bk bp keys.length x.m x.A ∧ RpA br ch ck keys.length x.m x.R) (fun x => (keys.length + 1 - x.t).toNat) ⟨0, m, A, R⟩ ⟨rfl, rfl, rfl, rfl, trivial⟩ (fun _ h => h)
            ⟨by dsimp only; omega, hA, hR⟩ ?_
          clear hA hR
          rintro ⟨t, m, A, R⟩ ⟨ht, hA, hR⟩
          dsimp only at ht hA hR ⊢
          by_cases hlt : t < keys.length + 1
          · skip
            repeat' (first
              | (refine Goal.loud (o := ⟨some 116, _, _, _, _, _⟩) rfl ?_; refine Loud.callM ([]) (pop_ok hA (by omega)) rfl rfl rfl rfl T.bod_11 (fun _ h => h) ?_; rintro ⟨i, k, ok, A2⟩ ⟨hp, h2⟩; dsimp only at hp h2 ⊢)
              | (refine Goal.loud (o := ⟨some 122, _, _, _, _, _⟩) rfl ?_; refine Loud.callE (A2) (rpop_ok hR (by omega)) rfl rfl rfl rfl T.bod_16 (fun _ h => h) ?_; rintro ⟨i', k', ok', R2⟩ ⟨gp, g2⟩; dsimp only at gp g2 ⊢; obtain ⟨rfl, rfl, rfl⟩ := popS_one hp gp)
              | (refine Goal.loud (o := ⟨some 13, _, _, _, _, _⟩) rfl ?_; refine Loud.allocA rfl T.inf_37 (fun b13 => ?_))
              | (apply G.move; exact rfl; exact rfl)
              | (apply G.assign; exact rfl; exact rfl)
              | refine Goal.seq (fun _ _ => ?_)
              | refine Goal.next (by assumption) ?_
              | refine Goal.lnil ?_
              | refine Goal.region ?_
              | refine Goal.skip ?_
              | refine Goal.block ?_
              | refine Goal.exit ?_
              | refine Goal.ret ?_
              | refine Goal.then_exit ?_
              | refine Goal.then_ret ?_
              | refine Goal.inBlock_exit ?_
              | refine Goal.inBlock_normal ?_
              | refine Goal.inBlock_ret ?_
              | refine Goal.inBlock_other rfl ?_
              | (apply Goal.condT; exact rfl)
              | (apply Goal.condF; exact rfl)
              | (refine Goal.condD rfl (fun hc => ?_) (fun hc => ?_) <;> first | (exfalso; omega) | contradiction | skip)
              | refine Goal.condB rfl (fun hc => ?_) (fun hc => ?_)
              | refine Goal.guardT rfl rfl ?_
              | refine Goal.guardF rfl rfl rfl rfl ?_
              | refine Goal.guardU rfl rfl rfl ?_
              | (refine Goal.guardD rfl rfl (fun hc => ?_) (fun hc => ?_) <;> first | (exfalso; omega) | contradiction | skip)
              | refine Goal.guardB rfl rfl (fun hc => ?_) (fun hc => ?_)
              | (apply G.load; exact rfl; exact rfl; first | exact LoadOK.one (by first | exact T.one_3 | exact T.one_5) 0 rfl rfl | exact LoadOK.one (by first | exact T.one_3 | exact T.one_5) 1 rfl rfl | exact LoadOK.one (by first | exact T.one_3 | exact T.one_5) 2 rfl rfl | exact LoadOK.one (by first | exact T.one_3 | exact T.one_5) 3 rfl rfl | exact LoadOK.one (by first | exact T.one_3 | exact T.one_5) 4 rfl rfl | exact LoadOK.one (by first | exact T.one_3 | exact T.one_5) 5 rfl rfl | exact LoadOK.one (by first | exact T.one_3 | exact T.one_5) 6 rfl rfl | exact LoadOK.one (by first | exact T.one_3 | exact T.one_5) 7 rfl rfl | exact LoadOK.agg (vs := [_, _]) T.agg_37 0 rfl rfl ⟨rfl, rfl, trivial⟩ | exact LoadOK.agg (vs := [_, _]) T.agg_37 1 rfl rfl ⟨rfl, rfl, trivial⟩ | exact LoadOK.agg (vs := [_, _]) T.agg_37 2 rfl rfl ⟨rfl, rfl, trivial⟩ | exact LoadOK.agg (vs := [_, _]) T.agg_37 3 rfl rfl ⟨rfl, rfl, trivial⟩ | exact LoadOK.agg (vs := [_, _]) T.agg_37 4 rfl rfl ⟨rfl, rfl, trivial⟩ | exact LoadOK.agg (vs := [_, _]) T.agg_37 5 rfl rfl ⟨rfl, rfl, trivial⟩ | exact LoadOK.agg (vs := [_, _]) T.agg_37 6 rfl rfl ⟨rfl, rfl, trivial⟩ | exact LoadOK.agg (vs := [_, _]) T.agg_37 7 rfl rfl ⟨rfl, rfl, trivial⟩)
              | (apply G.pickT; exact rfl; exact rfl; exact rfl)
              | (apply G.pickF; exact rfl; exact rfl; exact rfl)
              | (apply G.lss; exact rfl; exact rfl; exact rfl)
              | (apply G.gtr; exact rfl; exact rfl; exact rfl)
              | (apply G.eql; exact rfl; exact rfl; exact rfl)
              | (apply G.neq; exact rfl; exact rfl; exact rfl)
              | (apply G.add; exact rfl; exact rfl; exact rfl; first | exact IntWalk.i64_in _ (by omega) | exact IntWalk.u8_in _ (by omega) | exact IntWalk.u16_in _ (by omega) | exact IntWalk.u32_in _ (by omega) | exact IntWalk.u64_in _ (by omega))
              | (apply G.eqlB; exact rfl; exact T.boo_4; exact rfl; exact rfl)
              | (refine Goal.quiet rfl (Run.eqlP T.ptr_24 rfl rfl rfl) ?_)
              | (apply G.neqB; exact rfl; exact T.boo_4; exact rfl; exact rfl)
              | (refine Goal.quiet rfl (Run.neqP T.ptr_24 rfl rfl rfl) ?_)
              | (apply G.conv; exact rfl; exact rfl; (first | exact T.int_3 | exact T.int_5); (first | exact T.int_3 | exact T.int_5); first | exact IntWalk.i64_in _ (by omega) | exact IntWalk.u8_in _ (by omega) | exact IntWalk.u16_in _ (by omega) | exact IntWalk.u32_in _ (by omega) | exact IntWalk.u64_in _ (by omega))
              | (apply G.notT; exact rfl; exact rfl)
              | (apply G.notF; exact rfl; exact rfl)
              | (refine G.notD rfl rfl ?_)
              | (apply G.notB; exact rfl; exact rfl)
              | (apply G.extract; exact rfl; exact rfl; exact rfl)
              | (apply G.len; exact rfl; exact rfl; (first | exact T.slc_22 | exact T.slc_33 | exact T.slc_34))
              | (refine G.indexAddr1 rfl (by first | exact T.slc_22 | exact T.slc_33 | exact T.slc_34) (by first | exact T.sz_3 | exact T.sz_5) rfl rfl _ rfl (by omega) ?_)
              | (refine G.indexAddr1 rfl (by first | exact T.slc_22 | exact T.slc_33 | exact T.slc_34) (by first | exact T.sz_3 | exact T.sz_5) rfl rfl _ (Int.toNat_of_nonneg (by omega)).symm (by omega) ?_)
              | (refine G.indexAddr rfl (by first | exact T.slc_22 | exact T.slc_33 | exact T.slc_34) T.sz_37 rfl rfl _ rfl (by omega) ?_)
              | (refine G.indexAddr rfl (by first | exact T.slc_22 | exact T.slc_33 | exact T.slc_34) T.sz_37 rfl rfl _ (Int.toNat_of_nonneg (by omega)).symm (by omega) ?_)
              | (refine G.indexAddrA rfl T.arr_37 (by first | exact T.sz_3 | exact T.sz_5 | exact T.sz_37) rfl rfl _ rfl (by omega) ?_)
              | (refine G.indexAddrA rfl T.arr_37 (by first | exact T.sz_3 | exact T.sz_5 | exact T.sz_37) rfl rfl _ (Int.toNat_of_nonneg (by omega)).symm (by omega) ?_)
              | (refine Goal.loud rfl ?_; refine Loud.store0 rfl rfl T.sz_37 rfl rfl rfl (by first | exact Nat.le_refl _ | decide | (simp; omega)) rfl ?_)
              | (refine Goal.loud rfl ?_; refine Loud.store1 rfl rfl T.sz_37 rfl rfl rfl (by first | exact Nat.le_refl _ | decide | (simp; omega)) rfl ?_)
              | (refine Goal.loud rfl ?_; refine Loud.store2 rfl rfl T.sz_37 rfl rfl rfl (by first | exact Nat.le_refl _ | decide | (simp; omega)) rfl ?_)
              | (refine Goal.loud rfl ?_; refine Loud.store3 rfl rfl T.sz_37 rfl rfl rfl (by first | exact Nat.le_refl _ | decide | (simp; omega)) rfl ?_)
              | (refine Goal.loud rfl ?_; refine Loud.store4 rfl rfl T.sz_37 rfl rfl rfl (by first | exact Nat.le_refl _ | decide | (simp; omega)) rfl ?_)
              | (refine Goal.loud rfl ?_; refine Loud.store5 rfl rfl T.sz_37 rfl rfl rfl (by first | exact Nat.le_refl _ | decide | (simp; omega)) rfl ?_)
              | (refine Goal.loud rfl ?_; refine Loud.store6 rfl rfl T.sz_37 rfl rfl rfl (by first | exact Nat.le_refl _ | decide | (simp; omega)) rfl ?_)
              | (refine Goal.loud rfl ?_; refine Loud.store7 rfl rfl T.sz_37 rfl rfl rfl (by first | exact Nat.le_refl _ | decide | (simp; omega)) rfl ?_))
            refine Goal.again ⟨t + 1, _, A2, R2⟩ ⟨by dsimp only; omega, h2, g2⟩ (by dsimp only; omega) ⟨rfl, rfl, rfl, rfl, trivial⟩ (fun _ h => h)
          · skip
            repeat' (first
              | (refine Goal.loud (o := ⟨some 13, _, _, _, _, _⟩) rfl ?_; refine Loud.allocA rfl T.inf_37 (fun b13 => ?_))
              | (apply G.move; exact rfl; exact rfl)
              | (apply G.assign; exact rfl; exact rfl)
              | refine Goal.seq (fun _ _ => ?_)
              | refine Goal.next (by assumption) ?_
              | refine Goal.lnil ?_
              | refine Goal.region ?_
              | refine Goal.skip ?_
              | refine Goal.block ?_
              | refine Goal.exit ?_
              | refine Goal.ret ?_
              | refine Goal.then_exit ?_
              | refine Goal.then_ret ?_
              | refine Goal.inBlock_exit ?_
              | refine Goal.inBlock_normal ?_
              | refine Goal.inBlock_ret ?_
              | refine Goal.inBlock_other rfl ?_
              | (apply Goal.condT; exact rfl)
              | (apply Goal.condF; exact rfl)
              | (refine Goal.condD rfl (fun hc => ?_) (fun hc => ?_) <;> first | (exfalso; omega) | contradiction | skip)
              | refine Goal.condB rfl (fun hc => ?_) (fun hc => ?_)
              | refine Goal.guardT rfl rfl ?_
              | refine Goal.guardF rfl rfl rfl rfl ?_
              | refine Goal.guardU rfl rfl rfl ?_
              | (refine Goal.guardD rfl rfl (fun hc => ?_) (fun hc => ?_) <;> first | (exfalso; omega) | contradiction | skip)
              | refine Goal.guardB rfl rfl (fun hc => ?_) (fun hc => ?_)
              | (apply G.load; exact rfl; exact rfl; first | exact LoadOK.one (by first | exact T.one_3 | exact T.one_5) 0 rfl rfl | exact LoadOK.one (by first | exact T.one_3 | exact T.one_5) 1 rfl rfl | exact LoadOK.one (by first | exact T.one_3 | exact T.one_5) 2 rfl rfl | exact LoadOK.one (by first | exact T.one_3 | exact T.one_5) 3 rfl rfl | exact LoadOK.one (by first | exact T.one_3 | exact T.one_5) 4 rfl rfl | exact LoadOK.one (by first | exact T.one_3 | exact T.one_5) 5 rfl rfl | exact LoadOK.one (by first | exact T.one_3 | exact T.one_5) 6 rfl rfl | exact LoadOK.one (by first | exact T.one_3 | exact T.one_5) 7 rfl rfl | exact LoadOK.agg (vs := [_, _]) T.agg_37 0 rfl rfl ⟨rfl, rfl, trivial⟩ | exact LoadOK.agg (vs := [_, _]) T.agg_37 1 rfl rfl ⟨rfl, rfl, trivial⟩ | exact LoadOK.agg (vs := [_, _]) T.agg_37 2 rfl rfl ⟨rfl, rfl, trivial⟩ | exact LoadOK.agg (vs := [_, _]) T.agg_37 3 rfl rfl ⟨rfl, rfl, trivial⟩ | exact LoadOK.agg (vs := [_, _]) T.agg_37 4 rfl rfl ⟨rfl, rfl, trivial⟩ | exact LoadOK.agg (vs := [_, _]) T.agg_37 5 rfl rfl ⟨rfl, rfl, trivial⟩ | exact LoadOK.agg (vs := [_, _]) T.agg_37 6 rfl rfl ⟨rfl, rfl, trivial⟩ | exact LoadOK.agg (vs := [_, _]) T.agg_37 7 rfl rfl ⟨rfl, rfl, trivial⟩)
              | (apply G.pickT; exact rfl; exact rfl; exact rfl)
              | (apply G.pickF; exact rfl; exact rfl; exact rfl)
              | (apply G.lss; exact rfl; exact rfl; exact rfl)
              | (apply G.gtr; exact rfl; exact rfl; exact rfl)
              | (apply G.eql; exact rfl; exact rfl; exact rfl)
              | (apply G.neq; exact rfl; exact rfl; exact rfl)
              | (apply G.add; exact rfl; exact rfl; exact rfl; first | exact IntWalk.i64_in _ (by omega) | exact IntWalk.u8_in _ (by omega) | exact IntWalk.u16_in _ (by omega) | exact IntWalk.u32_in _ (by omega) | exact IntWalk.u64_in _ (by omega))
              | (apply G.eqlB; exact rfl; exact T.boo_4; exact rfl; exact rfl)
              | (refine Goal.quiet rfl (Run.eqlP T.ptr_24 rfl rfl rfl) ?_)
              | (apply G.neqB; exact rfl; exact T.boo_4; exact rfl; exact rfl)
              | (refine Goal.quiet rfl (Run.neqP T.ptr_24 rfl rfl rfl) ?_)
              | (apply G.conv; exact rfl; exact rfl; (first | exact T.int_3 | exact T.int_5); (first | exact T.int_3 | exact T.int_5); first | exact IntWalk.i64_in _ (by omega) | exact IntWalk.u8_in _ (by omega) | exact IntWalk.u16_in _ (by omega) | exact IntWalk.u32_in _ (by omega) | exact IntWalk.u64_in _ (by omega))
              | (apply G.notT; exact rfl; exact rfl)
              | (apply G.notF; exact rfl; exact rfl)
              | (refine G.notD rfl rfl ?_)
              | (apply G.notB; exact rfl; exact rfl)
              | (apply G.extract; exact rfl; exact rfl; exact rfl)
              | (apply G.len; exact rfl; exact rfl; (first | exact T.slc_22 | exact T.slc_33 | exact T.slc_34))
              | (refine G.indexAddr1 rfl (by first | exact T.slc_22 | exact T.slc_33 | exact T.slc_34) (by first | exact T.sz_3 | exact T.sz_5) rfl rfl _ rfl (by omega) ?_)
              | (refine G.indexAddr1 rfl (by first | exact T.slc_22 | exact T.slc_33 | exact T.slc_34) (by first | exact T.sz_3 | exact T.sz_5) rfl rfl _ (Int.toNat_of_nonneg (by omega)).symm (by omega) ?_)
              | (refine G.indexAddr rfl (by first | exact T.slc_22 | exact T.slc_33 | exact T.slc_34) T.sz_37 rfl rfl _ rfl (by omega) ?_)
              | (refine G.indexAddr rfl (by first | exact T.slc_22 | exact T.slc_33 | exact T.slc_34) T.sz_37 rfl rfl _ (Int.toNat_of_nonneg (by omega)).symm (by omega) ?_)
              | (refine G.indexAddrA rfl T.arr_37 (by first | exact T.sz_3 | exact T.sz_5 | exact T.sz_37) rfl rfl _ rfl (by omega) ?_)
              | (refine G.indexAddrA rfl T.arr_37 (by first | exact T.sz_3 | exact T.sz_5 | exact T.sz_37) rfl rfl _ (Int.toNat_of_nonneg (by omega)).symm (by omega) ?_)
              | (refine Goal.loud rfl ?_; refine Loud.store0 rfl rfl T.sz_37 rfl rfl rfl (by first | exact Nat.le_refl _ | decide | (simp; omega)) rfl ?_)
              | (refine Goal.loud rfl ?_; refine Loud.store1 rfl rfl T.sz_37 rfl rfl rfl (by first | exact Nat.le_refl _ | decide | (simp; omega)) rfl ?_)
              | (refine Goal.loud rfl ?_; refine Loud.store2 rfl rfl T.sz_37 rfl rfl rfl (by first | exact Nat.le_refl _ | decide | (simp; omega)) rfl ?_)
              | (refine Goal.loud rfl ?_; refine Loud.store3 rfl rfl T.sz_37 rfl rfl rfl (by first | exact Nat.le_refl _ | decide | (simp; omega)) rfl ?_)
              | (refine Goal.loud rfl ?_; refine Loud.store4 rfl rfl T.sz_37 rfl rfl rfl (by first | exact Nat.le_refl _ | decide | (simp; omega)) rfl ?_)
              | (refine Goal.loud rfl ?_; refine Loud.store5 rfl rfl T.sz_37 rfl rfl rfl (by first | exact Nat.le_refl _ | decide | (simp; omega)) rfl ?_)
              | (refine Goal.loud rfl ?_; refine Loud.store6 rfl rfl T.sz_37 rfl rfl rfl (by first | exact Nat.le_refl _ | decide | (simp; omega)) rfl ?_)
              | (refine Goal.loud rfl ?_; refine Loud.store7 rfl rfl T.sz_37 rfl rfl rfl (by first | exact Nat.le_refl _ | decide | (simp; omega)) rfl ?_))
            refine Goal.done (vs := [_]) (by first | exact .inl rfl | exact .inr rfl) Try.results4 ⟨rfl, trivial⟩ rfl (fun w' H => ⟨rfl, H.mod⟩)
end Go.Proofs.Ytknkakaffjhlmaa
