/- The queue of events: a slot is given up. -/
import Derived.Test.YtcekjnfdgbeekaaEvD
namespace Go.Proofs.Ytcekjnfdgbeekaa
open Go.Wf
set_option linter.unusedVariables false
theorem St.assoc7 {w0 w : World} {S : List Nat} {X Y Z V : Blk} {AU AI A3 : List Blk} (h : St w0 S w ((X :: Y :: Z :: V :: (AU ++ AI)) ++ (A3 ++ []))) : St w0 S w (X :: Y :: Z :: V :: (AU ++ (AI ++ A3))) := by simpa using h
theorem St.assoc8 {w0 w : World} {S : List Nat} {X Y Z V : Blk} {AU B1 Ai B2 AH : List Blk} (h : St w0 S w ([X, Y, Z, V] ++ (AU ++ ((B1 ++ (Ai ++ B2)) ++ AH)))) : St w0 S w (X :: Y :: Z :: ([V] ++ (AU ++ ((B1 ++ ([] ++ B2)) ++ AH)))) := by
  have h2 := h.sub (List.Sublist.append_left (List.Sublist.append_left (List.Sublist.append_right (List.Sublist.append_left (List.sublist_append_right Ai B2) B1) AH) AU) [X, Y, Z, V])
  simpa using h2
def closed (q : Rep) (i time : Int) : Rep := { q with m := upd q.m i none, ft := fun j => if j = time then none else q.ft j, nt := q.nt - 1, ls := q.ls.set i.toNat [], un := q.un ++ [i] }
section
variable {bq : Nat} {q : Rep} {A : List Blk}
set_option maxHeartbeats 8000000 in
theorem close_ok (hA : EvM bq q A) (i time : Int) (hi : 0 ≤ i ∧ i < q.ls.length) (hb : q.ls.length ≤ 65536 ∧ q.un.length ≤ 65536) (hft : (q.ft time).isSome = true) (hnt : 0 < q.nt) :
    MCalls Try.prog 24 [.pointer (some ⟨bq, 0, none⟩), .int .i64 i, .int .i64 time] A
      (fun A' : List Blk => EvM bq (closed q i time) A') (fun _ => .tuple #[]) (fun A' => A') := .mk fun w hw => by
  obtain ⟨bt, bi, ct, ci, bh, bk, bp, mt, mi, vL, vU, vs, AO, AU, AI, AH, rfl, hL, hU, hI, hH, hT, hD⟩ := hA
  obtain ⟨bo, rest, cap, rfl, rfl, h1, h2, h3⟩ := hL.pos (by omega)
  obtain ⟨aU, cU, rfl⟩ := hU.shape
  obtain ⟨v, B1, Ai, B2, hv, rfl, hsl, hre⟩ := hI.split (i := i.toNat) (by omega)
  have hvl := hI.len
  have hT2 : MapA (mdel mt time) (fun j => if j = time then none else q.ft j) (q.nt - 1) := by
    obtain ⟨k, hk⟩ : ∃ k, q.nt = k + 1 := ⟨q.nt - 1, by omega⟩
    rw [hk] at hT ⊢
    exact hT.del hft
  refine Goal.enter (args := [.pointer (some ⟨bq, 0, none⟩), .int .i64 i, .int .i64 time]) Try.func24 rfl Try.ntmps24 rfl (hw) ?_
  repeat' (first
    | (refine Goal.loud (o := ⟨some 11, _, _, _, _, _⟩) rfl ?_; refine Loud.callM (_ :: _ :: _ :: _ :: (AU ++ (B1 ++ (Ai ++ B2)))) (G := []) (remove_ok hH (by omega) i) rfl rfl rfl rfl T.bod_31 (fun _ h => by first | exact h | simpa only [List.append_eq, List.append_assoc, List.cons_append, List.nil_append, List.append_nil] using h) ?_; intro A3 g3; refine Goal.subL (fun _ h => St.assoc7 h) ?_)
    | (refine Goal.loud (o := ⟨some 30, _, _, _, _, _⟩) rfl ?_; refine Loud.appendM rfl T.slc_29 T.inf_3 rfl [_, _, _, _] rfl hU rfl rfl rfl rfl (by omega) (by omega) ?_; intro v2 A2 hA2; obtain ⟨aU2, cU2, rfl⟩ := hA2.shape)
    | (refine Goal.loud (o := ⟨some 29, _, _, _, _, _⟩) rfl ?_; refine Loud.buildSlice (cs := [_]) rfl T.slc_29 T.inf_3 rfl rfl (by decide) rfl rfl rfl (fun b29 => ?_))
    | (apply G.move; exact rfl; exact rfl)
    | refine Goal.seq (fun _ _ => ?_)
    | refine Goal.next (by assumption) ?_
    | refine Goal.lnil ?_
    | refine Goal.region ?_
    | refine Goal.skip ?_
    | refine Goal.block ?_
    | refine Goal.exit ?_
    | refine Goal.ret ?_
    | refine Goal.then_exit ?_
    | refine Goal.then_ret ?_
    | refine Goal.inBlock_exit ?_
    | refine Goal.inBlock_normal ?_
    | refine Goal.inBlock_ret ?_
    | refine Goal.inBlock_other rfl ?_
    | (apply Goal.condT; exact rfl)
    | (apply Goal.condF; exact rfl)
    | (refine Goal.condD rfl (fun hc => ?_) (fun hc => ?_) <;> first | (exfalso; omega) | contradiction | skip)
    | refine Goal.condB rfl (fun hc => ?_) (fun hc => ?_)
    | (apply G.fieldAddr; exact rfl; exact rfl; (first | exact T.fld_56_2 | exact T.fld_56_3 | exact T.fld_56_4 | exact T.fld_56_5))
    | (apply G.load; exact rfl; exact rfl; first | exact LoadOK.one (by first | exact T.one_29 | exact T.one_52 | exact T.one_53 | exact T.one_54) 0 rfl rfl | exact LoadOK.one (by first | exact T.one_29 | exact T.one_52 | exact T.one_53 | exact T.one_54) 1 rfl rfl | exact LoadOK.one (by first | exact T.one_29 | exact T.one_52 | exact T.one_53 | exact T.one_54) 2 rfl rfl | exact LoadOK.one (by first | exact T.one_29 | exact T.one_52 | exact T.one_53 | exact T.one_54) 3 rfl rfl | exact LoadOK.one (by first | exact T.one_29 | exact T.one_52 | exact T.one_53 | exact T.one_54) 4 rfl rfl | exact LoadOK.one (by first | exact T.one_29 | exact T.one_52 | exact T.one_53 | exact T.one_54) 5 rfl rfl | exact LoadOK.one (by first | exact T.one_29 | exact T.one_52 | exact T.one_53 | exact T.one_54) 6 rfl rfl | exact LoadOK.one (by first | exact T.one_29 | exact T.one_52 | exact T.one_53 | exact T.one_54) 7 rfl rfl)
    | (refine Goal.loud rfl ?_; refine Loud.delI0 T.map_54 rfl rfl ?_)
    | (refine Goal.loud rfl ?_; refine Loud.delI1 T.map_54 rfl rfl ?_)
    | (refine Goal.loud rfl ?_; refine Loud.delI2 T.map_54 rfl rfl ?_)
    | (refine Goal.loud rfl ?_; refine Loud.delI3 T.map_54 rfl rfl ?_)
    | (refine Goal.loud rfl ?_; refine Loud.delI4 T.map_54 rfl rfl ?_)
    | (apply G.nilCheckP; exact rfl; exact rfl)
    | (refine G.indexAddr1 rfl T.slc_53 T.sz_60 rfl rfl _ rfl (by omega) ?_)
    | (refine G.indexAddr1 rfl T.slc_53 T.sz_60 rfl rfl _ (Int.toNat_of_nonneg (by omega)).symm (by omega) ?_)
    | (refine Goal.loud rfl ?_; refine Loud.store3 rfl rfl T.sz_29 rfl rfl rfl (by rw [List.size_toArray, List.length_append]; omega) (wr_valsR (by omega)) ?_)
    | (refine Goal.loud rfl ?_; refine Loud.store3 rfl rfl T.sz_60 rfl rfl rfl (by rw [List.size_toArray, List.length_append]; omega) (wr_valsR (by omega)) ?_)
    | (refine Goal.loud rfl ?_; refine Loud.store0 rfl rfl (by first | exact T.sz_29 | exact T.sz_60) rfl rfl rfl (by first | exact Nat.le_of_ble_eq_true rfl | exact Nat.le_refl _ | decide | (simp; omega)) rfl ?_)
    | (refine Goal.loud rfl ?_; refine Loud.store1 rfl rfl (by first | exact T.sz_29 | exact T.sz_60) rfl rfl rfl (by first | exact Nat.le_of_ble_eq_true rfl | exact Nat.le_refl _ | decide | (simp; omega)) rfl ?_)
    | (refine Goal.loud rfl ?_; refine Loud.store2 rfl rfl (by first | exact T.sz_29 | exact T.sz_60) rfl rfl rfl (by first | exact Nat.le_of_ble_eq_true rfl | exact Nat.le_refl _ | decide | (simp; omega)) rfl ?_)
    | (refine Goal.loud rfl ?_; refine Loud.store3 rfl rfl (by first | exact T.sz_29 | exact T.sz_60) rfl rfl rfl (by first | exact Nat.le_of_ble_eq_true rfl | exact Nat.le_refl _ | decide | (simp; omega)) rfl ?_)
    | (refine Goal.loud rfl ?_; refine Loud.store4 rfl rfl (by first | exact T.sz_29 | exact T.sz_60) rfl rfl rfl (by first | exact Nat.le_of_ble_eq_true rfl | exact Nat.le_refl _ | decide | (simp; omega)) rfl ?_)
    | (refine Goal.loud rfl ?_; refine Loud.store5 rfl rfl (by first | exact T.sz_29 | exact T.sz_60) rfl rfl rfl (by first | exact Nat.le_of_ble_eq_true rfl | exact Nat.le_refl _ | decide | (simp; omega)) rfl ?_)
    | (refine Goal.loud rfl ?_; refine Loud.store6 rfl rfl (by first | exact T.sz_29 | exact T.sz_60) rfl rfl rfl (by first | exact Nat.le_of_ble_eq_true rfl | exact Nat.le_refl _ | decide | (simp; omega)) rfl ?_)
    | (refine Goal.loud rfl ?_; refine Loud.store7 rfl rfl (by first | exact T.sz_29 | exact T.sz_60) rfl rfl rfl (by first | exact Nat.le_of_ble_eq_true rfl | exact Nat.le_refl _ | decide | (simp; omega)) rfl ?_))
  rw [if_pos (by omega)] at g3
  have hI2 := hre (.slice none 0 0) [] [] (SlO.nil _ 2)
  have hU2 : Sl (.slice aU2 (q.un.length + 1) cU2) 3 1 (q.un ++ [i]).length (ints (q.un ++ [i])) A2 := by
    rw [List.length_append, show ints (q.un ++ [i]) = ints q.un ++ [.int .i64 i] by simp [ints]]
    exact hA2
  refine Goal.done (vs := []) (by first | exact .inl rfl | exact .inr rfl) Try.results24 trivial rfl (fun w' H => ⟨_, ⟨bt, bi, _, _, bh, bk, bp, mdel mt time, mi, _, _, vs.set i.toNat (.slice none 0 0), [(bo, .cells (vs.set i.toNat (.slice none 0 0) ++ rest).toArray 60)], A2, B1 ++ ([] ++ B2), A3, rfl, by unfold closed; dsimp only; rw [List.length_set]; exact Sl.mk (by rw [List.length_set]; exact h1) (by rw [List.length_set]; exact h2) h3, hU2, hI2, g3, hT2, hD⟩, rfl, St.assoc8 H⟩)
end
end Go.Proofs.Ytcekjnfdgbeekaa
