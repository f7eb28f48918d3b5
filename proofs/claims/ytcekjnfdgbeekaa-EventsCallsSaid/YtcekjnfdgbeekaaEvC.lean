/- The queue of events: a slot for a new time. -/
import Derived.Test.YtcekjnfdgbeekaaEvB
namespace Go.Proofs.Ytcekjnfdgbeekaa
open Go.Wf
set_option linter.unusedVariables false
section
variable {bq : Nat} {q : Rep} {A : List Blk}
theorem St.assoc5 {w0 w : World} {S : List Nat} {X Y Z : Blk} {AO AU AI A3 : List Blk} (h : St w0 S w ((X :: Y :: Z :: (AO ++ (AU ++ AI))) ++ (A3 ++ []))) : St w0 S w (X :: Y :: Z :: (AO ++ (AU ++ (AI ++ A3)))) := by simpa using h
theorem un_split {un : List Int} (h : 0 < un.length) : ints un = ints (un.take (un.length - 1)) ++ [.int .i64 (ia un ((un.length : Int) - 1))] := by
  have e : un.take (un.length - 1) ++ [ia un ((un.length : Int) - 1)] = un := by
    unfold ia
    rw [List.getD_eq_getElem?_getD, show ((un.length : Int) - 1).toNat = un.length - 1 by omega, List.getElem?_eq_getElem (by omega)]
    have := List.take_succ_eq_append_getElem (l := un) (i := un.length - 1) (by omega)
    rw [show un.length - 1 + 1 = un.length by omega, List.take_length] at this
    exact this.symm
  conv => lhs; rw [← e]
  simp [ints]
set_option maxHeartbeats 4000000 in
theorem open_old (hA : EvM bq q A) (hu : 0 < q.un.length) (time : Int) (hf : q.ft time = none) (hi : 0 ≤ ia q.un ((q.un.length : Int) - 1) ∧ ia q.un ((q.un.length : Int) - 1) < 65536) (hb : q.un.length ≤ 1048576 ∧ q.ls.length ≤ 1048576) :
    MCalls Try.prog 22 [.pointer (some ⟨bq, 0, none⟩), .int .i64 time] A
      (fun A' : List Blk => EvM bq { q with m := upd q.m (ia q.un ((q.un.length : Int) - 1)) (some time), un := q.un.take (q.un.length - 1), ft := fun j => if j = time then some (ia q.un ((q.un.length : Int) - 1)) else q.ft j, nt := q.nt + 1 } A') (fun _ => .int .i64 (ia q.un ((q.un.length : Int) - 1))) (fun A' => A') := .mk fun w hw => by
  obtain ⟨bt, bi, ct, ci, bh, bk, bp, mt, mi, vL, vU, vs, AO, AU, AI, AH, rfl, hL, hU, hI, hH, hT, hD⟩ := hA
  obtain ⟨aL, cL, rfl⟩ := hL.shape
  obtain ⟨bu, rest, cap, rfl, rfl, h1, h2, h3⟩ := hU.pos hu
  have hsp := un_split hu
  have hU2 : Sl (.slice (some ⟨bu, 0, none⟩) (q.un.length - 1) cap) 3 1 (q.un.take (q.un.length - 1)).length (ints (q.un.take (q.un.length - 1))) [(bu, .cells (ints q.un ++ rest).toArray 3)] := by
    rw [hsp, List.append_assoc]
    have hl : (q.un.take (q.un.length - 1)).length = q.un.length - 1 := by rw [List.length_take]; omega
    rw [hl]
    exact Sl.mk (by rw [ints_len, hl]; omega) (by rw [ints_len, hl, List.length_append]; rw [ints_len] at h2; simp; omega) (by omega)
  generalize hslot : ia q.un ((q.un.length : Int) - 1) = slot at hi hU2 ⊢
  have hT2 := hT.put (v := slot) ct hf
  refine Goal.enter (args := [.pointer (some ⟨bq, 0, none⟩), .int .i64 time]) Try.func22 rfl Try.ntmps22 rfl (hw) ?_
  repeat' (first
    | (refine Goal.loud (o := ⟨some 58, _, _, _, _, _⟩) rfl ?_; refine Loud.callM (_ :: _ :: _ :: (AO ++ ([_] ++ AI))) (G := []) (set_ok hH (by omega) slot time) rfl rfl rfl rfl T.bod_29 (fun _ h => by first | exact h | simpa only [List.append_eq, List.append_assoc, List.cons_append, List.nil_append, List.append_nil] using h) ?_; intro A3 h3)
    | (refine Goal.loud (o := ⟨some 42, _, _, _, _, _⟩) rfl ?_; refine Loud.buildSlice (cs := [_]) rfl T.slc_53 T.inf_60 rfl rfl (by decide) rfl rfl rfl (fun b42 => ?_))
    | (refine Goal.quiet rfl (Run.sliceH T.slc_29 T.sz_3 rfl rfl (q.un.length - 1) (by omega) (by omega)) ?_)
    | (apply G.move; exact rfl; exact rfl)
    | (apply G.assign; exact rfl; exact rfl)
    | refine Goal.seq (fun _ _ => ?_)
    | refine Goal.next (by assumption) ?_
    | refine Goal.lnil ?_
    | refine Goal.region ?_
    | refine Goal.skip ?_
    | refine Goal.block ?_
    | refine Goal.exit ?_
    | refine Goal.ret ?_
    | refine Goal.then_exit ?_
    | refine Goal.then_ret ?_
    | refine Goal.inBlock_exit ?_
    | refine Goal.inBlock_normal ?_
    | refine Goal.inBlock_ret ?_
    | refine Goal.inBlock_other rfl ?_
    | (apply Goal.condT; exact rfl)
    | (apply Goal.condF; exact rfl)
    | (refine Goal.condD rfl (fun hc => ?_) (fun hc => ?_) <;> first | (exfalso; omega) | contradiction | skip)
    | refine Goal.condB rfl (fun hc => ?_) (fun hc => ?_)
    | (apply G.fieldAddr; exact rfl; exact rfl; (first | exact T.fld_56_2 | exact T.fld_56_3 | exact T.fld_56_4 | exact T.fld_56_5))
    | (apply G.load; exact rfl; exact rfl; first | exact LoadOK.iaMe (b := bu) (l := q.un) (rest := rest) (E := 3) (i := (q.un.length : Int) - 1) (x := slot) T.one_3 (by simp) (by omega) hslot | exact LoadOK.one (by first | exact T.one_3 | exact T.one_29 | exact T.one_52 | exact T.one_53 | exact T.one_54) 0 rfl rfl | exact LoadOK.one (by first | exact T.one_3 | exact T.one_29 | exact T.one_52 | exact T.one_53 | exact T.one_54) 1 rfl rfl | exact LoadOK.one (by first | exact T.one_3 | exact T.one_29 | exact T.one_52 | exact T.one_53 | exact T.one_54) 2 rfl rfl | exact LoadOK.one (by first | exact T.one_3 | exact T.one_29 | exact T.one_52 | exact T.one_53 | exact T.one_54) 3 rfl rfl | exact LoadOK.one (by first | exact T.one_3 | exact T.one_29 | exact T.one_52 | exact T.one_53 | exact T.one_54) 4 rfl rfl | exact LoadOK.one (by first | exact T.one_3 | exact T.one_29 | exact T.one_52 | exact T.one_53 | exact T.one_54) 5 rfl rfl | exact LoadOK.one (by first | exact T.one_3 | exact T.one_29 | exact T.one_52 | exact T.one_53 | exact T.one_54) 6 rfl rfl | exact LoadOK.one (by first | exact T.one_3 | exact T.one_29 | exact T.one_52 | exact T.one_53 | exact T.one_54) 7 rfl rfl)
    | (apply G.gtr; exact rfl; exact rfl; exact rfl)
    | (apply G.sub; exact rfl; exact rfl; exact rfl; first | exact IntWalk.i64_in _ (by omega) | exact IntWalk.u8_in _ (by omega) | exact IntWalk.u16_in _ (by omega) | exact IntWalk.u32_in _ (by omega) | exact IntWalk.u64_in _ (by omega))
    | (apply G.len; exact rfl; exact rfl; (first | exact T.slc_29 | exact T.slc_53))
    | (refine Goal.loud rfl ?_; refine Loud.putI0 T.map_54 rfl rfl rfl ?_)
    | (refine Goal.loud rfl ?_; refine Loud.putI1 T.map_54 rfl rfl rfl ?_)
    | (refine Goal.loud rfl ?_; refine Loud.putI2 T.map_54 rfl rfl rfl ?_)
    | (refine Goal.loud rfl ?_; refine Loud.putI3 T.map_54 rfl rfl rfl ?_)
    | (refine Goal.loud rfl ?_; refine Loud.putI4 T.map_54 rfl rfl rfl ?_)
    | (apply G.nilCheckP; exact rfl; exact rfl)
    | (refine Goal.quiet rfl (Run.sliceH T.slc_29 T.sz_3 rfl rfl _ rfl (by omega)) ?_)
    | (refine Goal.quiet rfl (Run.sliceH T.slc_29 T.sz_3 rfl rfl _ (Int.toNat_of_nonneg (by omega)).symm (by omega)) ?_)
    | (refine G.indexAddr1 rfl T.slc_29 T.sz_3 rfl rfl _ rfl (by omega) ?_)
    | (refine G.indexAddr1 rfl T.slc_29 T.sz_3 rfl rfl _ (Int.toNat_of_nonneg (by omega)).symm (by omega) ?_)
    | (refine Goal.loud rfl ?_; refine Loud.store0 rfl rfl (by first | exact T.sz_29 | exact T.sz_53) rfl rfl rfl (by first | exact Nat.le_of_ble_eq_true rfl | exact Nat.le_refl _ | decide | (simp; omega)) rfl ?_)
    | (refine Goal.loud rfl ?_; refine Loud.store1 rfl rfl (by first | exact T.sz_29 | exact T.sz_53) rfl rfl rfl (by first | exact Nat.le_of_ble_eq_true rfl | exact Nat.le_refl _ | decide | (simp; omega)) rfl ?_)
    | (refine Goal.loud rfl ?_; refine Loud.store2 rfl rfl (by first | exact T.sz_29 | exact T.sz_53) rfl rfl rfl (by first | exact Nat.le_of_ble_eq_true rfl | exact Nat.le_refl _ | decide | (simp; omega)) rfl ?_)
    | (refine Goal.loud rfl ?_; refine Loud.store3 rfl rfl (by first | exact T.sz_29 | exact T.sz_53) rfl rfl rfl (by first | exact Nat.le_of_ble_eq_true rfl | exact Nat.le_refl _ | decide | (simp; omega)) rfl ?_)
    | (refine Goal.loud rfl ?_; refine Loud.store4 rfl rfl (by first | exact T.sz_29 | exact T.sz_53) rfl rfl rfl (by first | exact Nat.le_of_ble_eq_true rfl | exact Nat.le_refl _ | decide | (simp; omega)) rfl ?_)
    | (refine Goal.loud rfl ?_; refine Loud.store5 rfl rfl (by first | exact T.sz_29 | exact T.sz_53) rfl rfl rfl (by first | exact Nat.le_of_ble_eq_true rfl | exact Nat.le_refl _ | decide | (simp; omega)) rfl ?_)
    | (refine Goal.loud rfl ?_; refine Loud.store6 rfl rfl (by first | exact T.sz_29 | exact T.sz_53) rfl rfl rfl (by first | exact Nat.le_of_ble_eq_true rfl | exact Nat.le_refl _ | decide | (simp; omega)) rfl ?_)
    | (refine Goal.loud rfl ?_; refine Loud.store7 rfl rfl (by first | exact T.sz_29 | exact T.sz_53) rfl rfl rfl (by first | exact Nat.le_of_ble_eq_true rfl | exact Nat.le_refl _ | decide | (simp; omega)) rfl ?_))
  rw [if_pos (by omega)] at h3
  refine Goal.done (vs := [_]) (by first | exact .inl rfl | exact .inr rfl) Try.results22 ⟨rfl, trivial⟩ rfl (fun w' H => ⟨_, ⟨bt, bi, _, ci, bh, bk, bp, mput mt ct time slot, mi, _, _, vs, AO, [(bu, .cells (ints q.un ++ rest).toArray 3)], AI, A3, rfl, hL, hU2, hI, h3, hT2, hD⟩, rfl, St.assoc5 H⟩)
set_option maxHeartbeats 4000000 in
theorem open_new (hA : EvM bq q A) (hu : q.un.length = 0) (time : Int) (hf : q.ft time = none) (hb : q.ls.length < 65536) :
    MCalls Try.prog 22 [.pointer (some ⟨bq, 0, none⟩), .int .i64 time] A
      (fun A' : List Blk => EvM bq { q with m := upd q.m q.ls.length (some time), ls := q.ls ++ [[]], ft := fun j => if j = time then some (q.ls.length : Int) else q.ft j, nt := q.nt + 1 } A') (fun _ => .int .i64 q.ls.length) (fun A' => A') := .mk fun w hw => by
  obtain ⟨bt, bi, ct, ci, bh, bk, bp, mt, mi, vL, vU, vs, AO, AU, AI, AH, rfl, hL, hU, hI, hH, hT, hD⟩ := hA
  obtain ⟨aL, cL, rfl⟩ := hL.shape
  obtain ⟨aU, cU, rfl⟩ := hU.shape
  have hT2 := hT.put (v := (q.ls.length : Int)) ct hf
  refine Goal.enter (args := [.pointer (some ⟨bq, 0, none⟩), .int .i64 time]) Try.func22 rfl Try.ntmps22 rfl (hw) ?_
  repeat' (first
    | (refine Goal.loud (o := ⟨some 43, _, _, _, _, _⟩) rfl ?_; refine Loud.appendM rfl T.slc_53 T.inf_60 rfl [_, _, _] rfl hL rfl rfl rfl rfl (by omega) (by omega) ?_; intro v2 A2 hA2; obtain ⟨aL2, cL2, rfl⟩ := hA2.shape)
    | (refine Goal.loud (o := ⟨some 58, _, _, _, _, _⟩) rfl ?_; refine Loud.callM (_ :: _ :: _ :: (A2 ++ (AU ++ AI))) (G := []) (set_ok hH (by omega) (q.ls.length : Int) time) rfl rfl rfl rfl T.bod_29 (fun _ h => by first | exact h | simpa only [List.append_eq, List.append_assoc, List.cons_append, List.nil_append, List.append_nil] using h) ?_; intro A3 h3)
    | (refine Goal.loud (o := ⟨some 42, _, _, _, _, _⟩) rfl ?_; refine Loud.buildSlice (cs := [_]) rfl T.slc_53 T.inf_60 rfl rfl (by decide) rfl rfl rfl (fun b42 => ?_))
    | (apply G.move; exact rfl; exact rfl)
    | (apply G.assign; exact rfl; exact rfl)
    | refine Goal.seq (fun _ _ => ?_)
    | refine Goal.next (by assumption) ?_
    | refine Goal.lnil ?_
    | refine Goal.region ?_
    | refine Goal.skip ?_
    | refine Goal.block ?_
    | refine Goal.exit ?_
    | refine Goal.ret ?_
    | refine Goal.then_exit ?_
    | refine Goal.then_ret ?_
    | refine Goal.inBlock_exit ?_
    | refine Goal.inBlock_normal ?_
    | refine Goal.inBlock_ret ?_
    | refine Goal.inBlock_other rfl ?_
    | (apply Goal.condT; exact rfl)
    | (apply Goal.condF; exact rfl)
    | (refine Goal.condD rfl (fun hc => ?_) (fun hc => ?_) <;> first | (exfalso; omega) | contradiction | skip)
    | refine Goal.condB rfl (fun hc => ?_) (fun hc => ?_)
    | (apply G.fieldAddr; exact rfl; exact rfl; (first | exact T.fld_56_2 | exact T.fld_56_3 | exact T.fld_56_4 | exact T.fld_56_5))
    | (apply G.load; exact rfl; exact rfl; first | exact LoadOK.one (by first | exact T.one_3 | exact T.one_29 | exact T.one_52 | exact T.one_53 | exact T.one_54) 0 rfl rfl | exact LoadOK.one (by first | exact T.one_3 | exact T.one_29 | exact T.one_52 | exact T.one_53 | exact T.one_54) 1 rfl rfl | exact LoadOK.one (by first | exact T.one_3 | exact T.one_29 | exact T.one_52 | exact T.one_53 | exact T.one_54) 2 rfl rfl | exact LoadOK.one (by first | exact T.one_3 | exact T.one_29 | exact T.one_52 | exact T.one_53 | exact T.one_54) 3 rfl rfl | exact LoadOK.one (by first | exact T.one_3 | exact T.one_29 | exact T.one_52 | exact T.one_53 | exact T.one_54) 4 rfl rfl | exact LoadOK.one (by first | exact T.one_3 | exact T.one_29 | exact T.one_52 | exact T.one_53 | exact T.one_54) 5 rfl rfl | exact LoadOK.one (by first | exact T.one_3 | exact T.one_29 | exact T.one_52 | exact T.one_53 | exact T.one_54) 6 rfl rfl | exact LoadOK.one (by first | exact T.one_3 | exact T.one_29 | exact T.one_52 | exact T.one_53 | exact T.one_54) 7 rfl rfl)
    | (apply G.gtr; exact rfl; exact rfl; exact rfl)
    | (apply G.sub; exact rfl; exact rfl; exact rfl; first | exact IntWalk.i64_in _ (by omega) | exact IntWalk.u8_in _ (by omega) | exact IntWalk.u16_in _ (by omega) | exact IntWalk.u32_in _ (by omega) | exact IntWalk.u64_in _ (by omega))
    | (apply G.len; exact rfl; exact rfl; (first | exact T.slc_29 | exact T.slc_53))
    | (refine Goal.loud rfl ?_; refine Loud.putI0 T.map_54 rfl rfl rfl ?_)
    | (refine Goal.loud rfl ?_; refine Loud.putI1 T.map_54 rfl rfl rfl ?_)
    | (refine Goal.loud rfl ?_; refine Loud.putI2 T.map_54 rfl rfl rfl ?_)
    | (refine Goal.loud rfl ?_; refine Loud.putI3 T.map_54 rfl rfl rfl ?_)
    | (refine Goal.loud rfl ?_; refine Loud.putI4 T.map_54 rfl rfl rfl ?_)
    | (apply G.nilCheckP; exact rfl; exact rfl)
    | (refine Goal.quiet rfl (Run.sliceH T.slc_29 T.sz_3 rfl rfl _ rfl (by omega)) ?_)
    | (refine Goal.quiet rfl (Run.sliceH T.slc_29 T.sz_3 rfl rfl _ (Int.toNat_of_nonneg (by omega)).symm (by omega)) ?_)
    | (refine G.indexAddr1 rfl T.slc_29 T.sz_3 rfl rfl _ rfl (by omega) ?_)
    | (refine G.indexAddr1 rfl T.slc_29 T.sz_3 rfl rfl _ (Int.toNat_of_nonneg (by omega)).symm (by omega) ?_)
    | (refine Goal.loud rfl ?_; refine Loud.store0 rfl rfl (by first | exact T.sz_29 | exact T.sz_53) rfl rfl rfl (by first | exact Nat.le_of_ble_eq_true rfl | exact Nat.le_refl _ | decide | (simp; omega)) rfl ?_)
    | (refine Goal.loud rfl ?_; refine Loud.store1 rfl rfl (by first | exact T.sz_29 | exact T.sz_53) rfl rfl rfl (by first | exact Nat.le_of_ble_eq_true rfl | exact Nat.le_refl _ | decide | (simp; omega)) rfl ?_)
    | (refine Goal.loud rfl ?_; refine Loud.store2 rfl rfl (by first | exact T.sz_29 | exact T.sz_53) rfl rfl rfl (by first | exact Nat.le_of_ble_eq_true rfl | exact Nat.le_refl _ | decide | (simp; omega)) rfl ?_)
    | (refine Goal.loud rfl ?_; refine Loud.store3 rfl rfl (by first | exact T.sz_29 | exact T.sz_53) rfl rfl rfl (by first | exact Nat.le_of_ble_eq_true rfl | exact Nat.le_refl _ | decide | (simp; omega)) rfl ?_)
    | (refine Goal.loud rfl ?_; refine Loud.store4 rfl rfl (by first | exact T.sz_29 | exact T.sz_53) rfl rfl rfl (by first | exact Nat.le_of_ble_eq_true rfl | exact Nat.le_refl _ | decide | (simp; omega)) rfl ?_)
    | (refine Goal.loud rfl ?_; refine Loud.store5 rfl rfl (by first | exact T.sz_29 | exact T.sz_53) rfl rfl rfl (by first | exact Nat.le_of_ble_eq_true rfl | exact Nat.le_refl _ | decide | (simp; omega)) rfl ?_)
    | (refine Goal.loud rfl ?_; refine Loud.store6 rfl rfl (by first | exact T.sz_29 | exact T.sz_53) rfl rfl rfl (by first | exact Nat.le_of_ble_eq_true rfl | exact Nat.le_refl _ | decide | (simp; omega)) rfl ?_)
    | (refine Goal.loud rfl ?_; refine Loud.store7 rfl rfl (by first | exact T.sz_29 | exact T.sz_53) rfl rfl rfl (by first | exact Nat.le_of_ble_eq_true rfl | exact Nat.le_refl _ | decide | (simp; omega)) rfl ?_))
  rw [if_pos (by omega)] at h3
  refine Goal.done (vs := [_]) (by first | exact .inl rfl | exact .inr rfl) Try.results22 ⟨rfl, trivial⟩ rfl (fun w' H => ⟨_, ⟨bt, bi, _, ci, bh, bk, bp, mput mt ct time q.ls.length, mi, _, _, _, A2, AU, AI, A3, rfl, by rw [List.length_append]; exact hA2, hU, hI.snoc, h3, hT2, hD⟩, rfl, St.assoc5 H⟩)
end
end Go.Proofs.Ytcekjnfdgbeekaa
