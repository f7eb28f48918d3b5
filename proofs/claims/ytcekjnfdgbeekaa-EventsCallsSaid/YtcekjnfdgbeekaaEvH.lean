/- The queue of events: Cancel. -/
import Derived.Test.YtcekjnfdgbeekaaEvG
namespace Go.Proofs.Ytcekjnfdgbeekaa
open Go.Wf
set_option linter.unusedVariables false
def without (E : List Evt) (id : Int) : List Evt := E.filter fun e => !decide (e.id = id)
def hasId (E : List Evt) (id : Int) : Bool := E.any fun e => decide (e.id = id)
theorem find_split {E : List Evt} {id t : Int} (hs : E.Pairwise fun a b => a.id < b.id) (h : (E.find? fun e => decide (e.id = id)).map (·.time) = some t) : ∃ E1 e E2, E = E1 ++ e :: E2 ∧ e.id = id ∧ e.time = t ∧ without E id = E1 ++ E2 ∧ hasId E id = true ∧ ∀ x ∈ E1 ++ E2, x.id ≠ id := by
  obtain ⟨e, he, rfl⟩ := Option.map_eq_some_iff.1 h
  obtain ⟨hid, E1, E2, rfl, h1⟩ := List.find?_eq_some_iff_append.1 he
  have hid2 : e.id = id := by simpa using hid
  have hso := List.pairwise_append.1 hs
  have hso2 := List.pairwise_cons.1 hso.2.1
  have hne : ∀ x ∈ E1 ++ E2, x.id ≠ id := fun x hx => by
    rcases List.mem_append.1 hx with hx | hx
    · have := hso.2.2 x hx e (by simp); omega
    · have := hso2.1 x hx; omega
  refine ⟨E1, e, E2, rfl, hid2, rfl, ?_, ?_, hne⟩
  · unfold without
    rw [List.filter_append, List.filter_cons_of_neg (by simp [hid2])]
    rw [List.filter_eq_self.2 (fun x hx => by simpa using hne x (by simp [hx])), List.filter_eq_self.2 (fun x hx => by simpa using hne x (by simp [hx]))]
  · unfold hasId
    simp [hid2]
theorem find_not {E : List Evt} {id : Int} (h : (E.find? fun e => decide (e.id = id)).map (·.time) = none) : without E id = E ∧ hasId E id = false := by
  rw [Option.map_eq_none_iff, List.find?_eq_none] at h
  refine ⟨List.filter_eq_self.2 fun x hx => by simpa using h x hx, ?_⟩
  unfold hasId
  rw [List.any_eq_false]
  exact h
theorem outs_slot {E1 E2 : List Evt} {e : Evt} (h : ∀ x ∈ E1 ++ E2, x.id ≠ e.id) : outs (fun x => decide (x.1 = e.id)) (slotOf (E1 ++ e :: E2) e.time) = slotOf (E1 ++ E2) e.time := by
  have hk : ∀ F : List Evt, (∀ x ∈ F, x.id ≠ e.id) → outs (fun x => decide (x.1 = e.id)) (slotOf F e.time) = slotOf F e.time := fun F hF => by
    unfold outs slotOf
    rw [List.filter_eq_self]
    intro x hx
    obtain ⟨y, hy, rfl⟩ := List.mem_map.1 hx
    have := hF y (List.mem_filter.1 hy).1
    simpa using this
  rw [slotOf_app, slotOf_cons, if_pos rfl, slotOf_app]
  unfold outs
  rw [List.filter_append, List.filter_append]
  have h1 := hk E1 (fun x hx => h x (by simp [hx]))
  have h2 := hk E2 (fun x hx => h x (by simp [hx]))
  unfold outs at h1 h2
  rw [h1, h2]
  simp
theorem St.box_in {w0 w : World} {S : List Nat} {X Y Z V b3 bs : Blk} {AU B1 B2 AH : List Blk} (h : St w0 S w (b3 :: X :: Y :: Z :: ([V] ++ (AU ++ ((B1 ++ ([bs] ++ B2)) ++ AH))))) : St w0 S w ((X :: Y :: Z :: V :: (AU ++ B1)) ++ ((bs :: [b3]) ++ (B2 ++ AH))) := by
  refine h.perm ?_
  have e1 : X :: Y :: Z :: ([V] ++ (AU ++ ((B1 ++ ([bs] ++ B2)) ++ AH))) = (X :: Y :: Z :: V :: (AU ++ B1) ++ [bs]) ++ (B2 ++ AH) := by simp [List.append_assoc]
  have e2 : (X :: Y :: Z :: V :: (AU ++ B1)) ++ ((bs :: [b3]) ++ (B2 ++ AH)) = (X :: Y :: Z :: V :: (AU ++ B1) ++ [bs]) ++ (b3 :: (B2 ++ AH)) := by simp [List.append_assoc]
  rw [e1, e2]
  exact List.perm_middle.symm
theorem St.box_out {w0 w : World} {S : List Nat} {X Y Z V b3 c : Blk} {AU B1 B2 AH : List Blk} (h : St w0 S w ((X :: Y :: Z :: V :: (AU ++ B1)) ++ ((c :: [b3]) ++ (B2 ++ AH)))) : St w0 S w ((X :: Y :: Z :: V :: (AU ++ B1)) ++ ([c] ++ (B2 ++ AH))) := by
  refine h.sub ?_
  refine List.Sublist.append_left ?_ _
  exact List.Sublist.cons_cons _ (List.sublist_cons_self _ _)
section
variable {bq : Nat} {q : Rep} {A : List Blk} {E : List Evt}
set_option maxHeartbeats 8000000 in
theorem cancel_ok (hA : EvM bq q A) (hQ : QInv E none q) (hE : E.length ≤ 65536) (id : Int) :
    MCalls Try.prog 14 [.pointer (some ⟨bq, 0, none⟩), .int .i64 id] A
      (fun A' : List Blk => QM bq (without E id) q.now q.last A') (fun _ => .int .i64 (if hasId E id then 0 else 8)) (fun A' => A') := .mk fun w hw => by
  have hA0 := hA
  obtain ⟨bt, bi, ct, ci, bh, bk, bp, mt, mi, vL, vU, vs, AO, AU, AI, AH, rfl, hL, hU, hI, hH, hT, hD⟩ := hA
  have hgi := hD.get id
  have hfi := hQ.fi id
  cases hf : q.fi id with
  | none =>
    rw [hf] at hgi hfi
    obtain ⟨e1, e2⟩ := find_not hfi.symm
    refine Goal.enter (args := [.pointer (some ⟨bq, 0, none⟩), .int .i64 id]) Try.func14 rfl Try.ntmps14 rfl (hw) ?_
    repeat' (first
      | (refine Goal.drawAll (id := 3) 11 T.mixed ?_; all_goals ((refine Goal.takeP (listed' := #[true, false, false, false, false, false, false, false, false, false, false]) 0 ⟨rfl, by kernel_rfl, by kernel_rfl, by kernel_rfl, by kernel_rfl⟩ rfl (fun _ _ _ _ h => h) (by intro _; exact Run.move rfl) ?_)); all_goals ((refine Goal.takeP (listed' := #[true, true, false, false, false, false, false, false, false, false, false]) 1 ⟨rfl, by kernel_rfl, by kernel_rfl, by kernel_rfl, by kernel_rfl⟩ rfl (fun _ _ _ _ h => h) (by intro _; exact Run.nilCheckP rfl) ?_)); all_goals ((refine Goal.takeP (listed' := #[true, true, true, false, false, false, false, false, false, false, false]) 2 ⟨rfl, by kernel_rfl, by kernel_rfl, by kernel_rfl, by kernel_rfl⟩ rfl (fun _ _ _ _ h => h) (by intro _; exact Run.fieldAddr T.fld_56_6 rfl) ?_)); all_goals ((refine Goal.take (listed' := #[true, true, true, true, false, false, false, false, false, false, false]) 3 ⟨rfl, by kernel_rfl, by kernel_rfl, by kernel_rfl, by kernel_rfl, by kernel_rfl⟩ rfl (by (first | exact fun _ h => h | exact fun _ h => h.sub (.cons _ (.refl _)) | exact fun _ h => h.sub (.cons _ (.cons _ (.refl _))) | exact fun _ h => h.sub (.cons _ (.cons _ (.cons _ (.refl _)))) | exact fun _ h => h.drop | exact fun _ h => h.sub (List.sublist_append_left _ _) | exact fun _ h => by simpa only [List.append_eq, List.append_assoc, List.cons_append, List.nil_append, List.append_nil] using h)) (fun _ _ _ _ h => h) (by (apply Run.load; exact rfl; first | exact LoadOK.one T.one_54 0 rfl rfl | exact LoadOK.one T.one_54 1 rfl rfl | exact LoadOK.one T.one_54 2 rfl rfl | exact LoadOK.one T.one_54 3 rfl rfl | exact LoadOK.one T.one_54 4 rfl rfl | exact LoadOK.one T.one_54 5 rfl rfl | exact LoadOK.one T.one_54 6 rfl rfl | exact LoadOK.one T.one_54 7 rfl rfl)) ?_)); all_goals ((refine Goal.take (listed' := #[true, true, true, true, true, false, false, false, false, false, false]) 4 ⟨rfl, by kernel_rfl, by kernel_rfl, by kernel_rfl, by kernel_rfl, by kernel_rfl⟩ rfl (by (first | exact fun _ h => h | exact fun _ h => h.sub (.cons _ (.refl _)) | exact fun _ h => h.sub (.cons _ (.cons _ (.refl _))) | exact fun _ h => h.sub (.cons _ (.cons _ (.cons _ (.refl _)))) | exact fun _ h => h.drop | exact fun _ h => h.sub (List.sublist_append_left _ _) | exact fun _ h => by simpa only [List.append_eq, List.append_assoc, List.cons_append, List.nil_append, List.append_nil] using h)) (fun _ _ _ _ h => h) (by (apply Run.load; exact rfl; first | exact LoadOK.one T.one_3 0 rfl rfl | exact LoadOK.one T.one_3 1 rfl rfl | exact LoadOK.one T.one_3 2 rfl rfl | exact LoadOK.one T.one_3 3 rfl rfl | exact LoadOK.one T.one_3 4 rfl rfl | exact LoadOK.one T.one_3 5 rfl rfl | exact LoadOK.one T.one_3 6 rfl rfl | exact LoadOK.one T.one_3 7 rfl rfl)) ?_)); all_goals ((refine Goal.take (listed' := #[true, true, true, true, true, true, false, false, false, false, false]) 5 ⟨rfl, by kernel_rfl, by kernel_rfl, by kernel_rfl, by kernel_rfl, by kernel_rfl⟩ rfl (by (first | exact fun _ h => h | exact fun _ h => h.sub (.cons _ (.refl _)) | exact fun _ h => h.sub (.cons _ (.cons _ (.refl _))) | exact fun _ h => h.sub (.cons _ (.cons _ (.cons _ (.refl _)))) | exact fun _ h => h.drop | exact fun _ h => h.sub (List.sublist_append_left _ _) | exact fun _ h => by simpa only [List.append_eq, List.append_assoc, List.cons_append, List.nil_append, List.append_nil] using h)) (fun _ _ _ _ h => h) (by first | exact Run.lookII 0 T.map_54 rfl rfl rfl | exact Run.lookI 0 T.map_54 rfl rfl rfl | exact Run.lookII 1 T.map_54 rfl rfl rfl | exact Run.lookI 1 T.map_54 rfl rfl rfl | exact Run.lookII 2 T.map_54 rfl rfl rfl | exact Run.lookI 2 T.map_54 rfl rfl rfl | exact Run.lookII 3 T.map_54 rfl rfl rfl | exact Run.lookI 3 T.map_54 rfl rfl rfl | exact Run.lookII 4 T.map_54 rfl rfl rfl | exact Run.lookI 4 T.map_54 rfl rfl rfl | exact Run.lookNone T.map_54 rfl rfl) ?_)); all_goals ((refine Goal.takeP (listed' := #[true, true, true, true, true, true, true, false, false, false, false]) 6 ⟨rfl, by kernel_rfl, by kernel_rfl, by kernel_rfl, by kernel_rfl⟩ rfl (fun _ _ _ _ h => h) (by intro _; exact Run.move rfl) ?_)); all_goals ((refine Goal.takeP (listed' := #[true, true, true, true, true, true, true, true, false, false, false]) 7 ⟨rfl, by kernel_rfl, by kernel_rfl, by kernel_rfl, by kernel_rfl⟩ rfl (fun _ _ _ _ h => h) (by intro _; exact Run.extract rfl rfl) ?_)); all_goals ((refine Goal.takeP (listed' := #[true, true, true, true, true, true, true, true, true, false, false]) 8 ⟨rfl, by kernel_rfl, by kernel_rfl, by kernel_rfl, by kernel_rfl⟩ rfl (fun _ _ _ _ h => h) (by intro _; exact Run.extract rfl rfl) ?_)); all_goals ((refine Goal.takeP (listed' := #[true, true, true, true, true, true, true, true, true, true, false]) 9 ⟨rfl, by kernel_rfl, by kernel_rfl, by kernel_rfl, by kernel_rfl⟩ rfl (fun _ _ _ _ h => h) (by intro _; exact Run.assign rfl) ?_)); all_goals ((refine Goal.takeP (listed' := #[true, true, true, true, true, true, true, true, true, true, true]) 10 ⟨rfl, by kernel_rfl, by kernel_rfl, by kernel_rfl, by kernel_rfl⟩ rfl (fun _ _ _ _ h => h) (by intro _; exact Run.assign rfl) ?_)); all_goals (refine Goal.allUp (by kernel_rfl) ?_))
      | (refine Goal.loud (o := ⟨some 3, _, _, _, _, _⟩) rfl ?_; first | refine Loud.boxA rfl rfl (fun b3 => ?_) | refine Loud.box1 rfl rfl rfl (fun b3 => ?_))
      | (apply G.move; exact rfl; exact rfl)
      | (apply G.assign; exact rfl; exact rfl)
      | refine Goal.seq (fun _ _ => ?_)
      | refine Goal.next (by assumption) ?_
      | refine Goal.lnil ?_
      | refine Goal.region ?_
      | refine Goal.skip ?_
      | refine Goal.block ?_
      | refine Goal.exit ?_
      | refine Goal.ret ?_
      | refine Goal.then_exit ?_
      | refine Goal.then_ret ?_
      | refine Goal.inBlock_exit ?_
      | refine Goal.inBlock_normal ?_
      | refine Goal.inBlock_ret ?_
      | refine Goal.inBlock_other rfl ?_
      | (apply Goal.condT; exact rfl)
      | (apply Goal.condF; exact rfl)
      | (refine Goal.condD rfl (fun hc => ?_) (fun hc => ?_) <;> first | (exfalso; omega) | contradiction | skip)
      | refine Goal.condB rfl (fun hc => ?_) (fun hc => ?_)
      | (apply G.fieldAddr; exact rfl; exact rfl; (first | exact T.fld_56_3 | exact T.fld_56_5 | exact T.fld_56_6))
      | (apply G.load; exact rfl; exact rfl; first | exact LoadOK.one (by first | exact T.one_3 | exact T.one_53 | exact T.one_54 | exact T.one_60) 0 rfl rfl | exact LoadOK.one (by first | exact T.one_3 | exact T.one_53 | exact T.one_54 | exact T.one_60) 1 rfl rfl | exact LoadOK.one (by first | exact T.one_3 | exact T.one_53 | exact T.one_54 | exact T.one_60) 2 rfl rfl | exact LoadOK.one (by first | exact T.one_3 | exact T.one_53 | exact T.one_54 | exact T.one_60) 3 rfl rfl | exact LoadOK.one (by first | exact T.one_3 | exact T.one_53 | exact T.one_54 | exact T.one_60) 4 rfl rfl | exact LoadOK.one (by first | exact T.one_3 | exact T.one_53 | exact T.one_54 | exact T.one_60) 5 rfl rfl | exact LoadOK.one (by first | exact T.one_3 | exact T.one_53 | exact T.one_54 | exact T.one_60) 6 rfl rfl | exact LoadOK.one (by first | exact T.one_3 | exact T.one_53 | exact T.one_54 | exact T.one_60) 7 rfl rfl)
      | (apply G.eql; exact rfl; exact rfl; exact rfl)
      | (refine Goal.quiet rfl (Run.eqlP T.ptr_24 rfl rfl rfl) ?_)
      | (apply G.notT; exact rfl; exact rfl)
      | (apply G.notF; exact rfl; exact rfl)
      | (refine G.notD rfl rfl ?_)
      | (apply G.notB; exact rfl; exact rfl)
      | (apply G.extract; exact rfl; exact rfl; exact rfl)
      | (apply G.len; exact rfl; exact rfl; exact T.slc_60)
      | (refine Goal.quiet rfl (Run.lookII 0 T.map_54 rfl rfl rfl) ?_)
      | (refine Goal.quiet rfl (Run.lookI 0 T.map_54 rfl rfl rfl) ?_)
      | (refine Goal.quiet rfl (Run.lookII 1 T.map_54 rfl rfl rfl) ?_)
      | (refine Goal.quiet rfl (Run.lookI 1 T.map_54 rfl rfl rfl) ?_)
      | (refine Goal.quiet rfl (Run.lookII 2 T.map_54 rfl rfl rfl) ?_)
      | (refine Goal.quiet rfl (Run.lookI 2 T.map_54 rfl rfl rfl) ?_)
      | (refine Goal.quiet rfl (Run.lookII 3 T.map_54 rfl rfl rfl) ?_)
      | (refine Goal.quiet rfl (Run.lookI 3 T.map_54 rfl rfl rfl) ?_)
      | (refine Goal.quiet rfl (Run.lookII 4 T.map_54 rfl rfl rfl) ?_)
      | (refine Goal.quiet rfl (Run.lookI 4 T.map_54 rfl rfl rfl) ?_)
      | (refine Goal.quiet rfl (Run.lookNone T.map_54 rfl rfl) ?_)
      | (refine Goal.loud rfl ?_; refine Loud.delI0 T.map_54 rfl rfl ?_)
      | (refine Goal.loud rfl ?_; refine Loud.delI1 T.map_54 rfl rfl ?_)
      | (refine Goal.loud rfl ?_; refine Loud.delI2 T.map_54 rfl rfl ?_)
      | (refine Goal.loud rfl ?_; refine Loud.delI3 T.map_54 rfl rfl ?_)
      | (refine Goal.loud rfl ?_; refine Loud.delI4 T.map_54 rfl rfl ?_)
      | (apply G.nilCheckP; exact rfl; exact rfl)
      | (apply G.makeFunc; exact rfl; exact rfl; exact rfl)
      | (refine G.indexAddr1 rfl T.slc_53 T.sz_60 rfl rfl _ rfl (by omega) ?_)
      | (refine G.indexAddr1 rfl T.slc_53 T.sz_60 rfl rfl _ (Int.toNat_of_nonneg (by omega)).symm (by omega) ?_)
      | (refine Goal.loud rfl ?_; refine Loud.store0 rfl rfl T.sz_60 rfl rfl rfl (by first | exact Nat.le_of_ble_eq_true rfl | exact Nat.le_refl _ | decide | (simp; omega)) rfl ?_)
      | (refine Goal.loud rfl ?_; refine Loud.store1 rfl rfl T.sz_60 rfl rfl rfl (by first | exact Nat.le_of_ble_eq_true rfl | exact Nat.le_refl _ | decide | (simp; omega)) rfl ?_)
      | (refine Goal.loud rfl ?_; refine Loud.store2 rfl rfl T.sz_60 rfl rfl rfl (by first | exact Nat.le_of_ble_eq_true rfl | exact Nat.le_refl _ | decide | (simp; omega)) rfl ?_)
      | (refine Goal.loud rfl ?_; refine Loud.store3 rfl rfl T.sz_60 rfl rfl rfl (by first | exact Nat.le_of_ble_eq_true rfl | exact Nat.le_refl _ | decide | (simp; omega)) rfl ?_)
      | (refine Goal.loud rfl ?_; refine Loud.store4 rfl rfl T.sz_60 rfl rfl rfl (by first | exact Nat.le_of_ble_eq_true rfl | exact Nat.le_refl _ | decide | (simp; omega)) rfl ?_)
      | (refine Goal.loud rfl ?_; refine Loud.store5 rfl rfl T.sz_60 rfl rfl rfl (by first | exact Nat.le_of_ble_eq_true rfl | exact Nat.le_refl _ | decide | (simp; omega)) rfl ?_)
      | (refine Goal.loud rfl ?_; refine Loud.store6 rfl rfl T.sz_60 rfl rfl rfl (by first | exact Nat.le_of_ble_eq_true rfl | exact Nat.le_refl _ | decide | (simp; omega)) rfl ?_)
      | (refine Goal.loud rfl ?_; refine Loud.store7 rfl rfl T.sz_60 rfl rfl rfl (by first | exact Nat.le_of_ble_eq_true rfl | exact Nat.le_refl _ | decide | (simp; omega)) rfl ?_))
    · refine Goal.done (vs := [_]) (by first | exact .inl rfl | exact .inr rfl) Try.results14 ⟨rfl, trivial⟩ rfl (fun w' H => ⟨_, .inr ⟨q, by rw [e1]; exact hQ, rfl, rfl, by rw [e1]; exact hE, hA0⟩, by rw [e2]; rfl, St.drop1 H⟩)
    · rw [hgi] at hc; cases hc
  | some t =>
    rw [hf] at hgi hfi
    obtain ⟨E1, e, E2, rfl, rfl, rfl, hwo, hh, hne⟩ := find_split hQ.sorted hfi.symm
    have hft : ∃ s, q.ft e.time = some s := by
      cases hft : q.ft e.time with
      | some s => exact ⟨s, rfl⟩
      | none => exact absurd rfl (slotOf_none.1 (hQ.free _ hft) e (by simp))
    obtain ⟨s, hft⟩ := hft
    have hgt := hT.get e.time
    rw [hft] at hgt
    obtain ⟨i0, i1, hlsi, _, hm⟩ := hQ.slot _ _ hft
    refine Goal.enter (args := [.pointer (some ⟨bq, 0, none⟩), .int .i64 e.id]) Try.func14 rfl Try.ntmps14 rfl (hw) ?_
    repeat' (first
      | (refine Goal.drawAll (id := 3) 11 T.mixed ?_; all_goals ((refine Goal.takeP (listed' := #[true, false, false, false, false, false, false, false, false, false, false]) 0 ⟨rfl, by kernel_rfl, by kernel_rfl, by kernel_rfl, by kernel_rfl⟩ rfl (fun _ _ _ _ h => h) (by intro _; exact Run.move rfl) ?_)); all_goals ((refine Goal.takeP (listed' := #[true, true, false, false, false, false, false, false, false, false, false]) 1 ⟨rfl, by kernel_rfl, by kernel_rfl, by kernel_rfl, by kernel_rfl⟩ rfl (fun _ _ _ _ h => h) (by intro _; exact Run.nilCheckP rfl) ?_)); all_goals ((refine Goal.takeP (listed' := #[true, true, true, false, false, false, false, false, false, false, false]) 2 ⟨rfl, by kernel_rfl, by kernel_rfl, by kernel_rfl, by kernel_rfl⟩ rfl (fun _ _ _ _ h => h) (by intro _; exact Run.fieldAddr T.fld_56_6 rfl) ?_)); all_goals ((refine Goal.take (listed' := #[true, true, true, true, false, false, false, false, false, false, false]) 3 ⟨rfl, by kernel_rfl, by kernel_rfl, by kernel_rfl, by kernel_rfl, by kernel_rfl⟩ rfl (by (first | exact fun _ h => h | exact fun _ h => h.sub (.cons _ (.refl _)) | exact fun _ h => h.sub (.cons _ (.cons _ (.refl _))) | exact fun _ h => h.sub (.cons _ (.cons _ (.cons _ (.refl _)))) | exact fun _ h => h.drop | exact fun _ h => h.sub (List.sublist_append_left _ _) | exact fun _ h => by simpa only [List.append_eq, List.append_assoc, List.cons_append, List.nil_append, List.append_nil] using h)) (fun _ _ _ _ h => h) (by (apply Run.load; exact rfl; first | exact LoadOK.one T.one_54 0 rfl rfl | exact LoadOK.one T.one_54 1 rfl rfl | exact LoadOK.one T.one_54 2 rfl rfl | exact LoadOK.one T.one_54 3 rfl rfl | exact LoadOK.one T.one_54 4 rfl rfl | exact LoadOK.one T.one_54 5 rfl rfl | exact LoadOK.one T.one_54 6 rfl rfl | exact LoadOK.one T.one_54 7 rfl rfl)) ?_)); all_goals ((refine Goal.take (listed' := #[true, true, true, true, true, false, false, false, false, false, false]) 4 ⟨rfl, by kernel_rfl, by kernel_rfl, by kernel_rfl, by kernel_rfl, by kernel_rfl⟩ rfl (by (first | exact fun _ h => h | exact fun _ h => h.sub (.cons _ (.refl _)) | exact fun _ h => h.sub (.cons _ (.cons _ (.refl _))) | exact fun _ h => h.sub (.cons _ (.cons _ (.cons _ (.refl _)))) | exact fun _ h => h.drop | exact fun _ h => h.sub (List.sublist_append_left _ _) | exact fun _ h => by simpa only [List.append_eq, List.append_assoc, List.cons_append, List.nil_append, List.append_nil] using h)) (fun _ _ _ _ h => h) (by (apply Run.load; exact rfl; first | exact LoadOK.one T.one_3 0 rfl rfl | exact LoadOK.one T.one_3 1 rfl rfl | exact LoadOK.one T.one_3 2 rfl rfl | exact LoadOK.one T.one_3 3 rfl rfl | exact LoadOK.one T.one_3 4 rfl rfl | exact LoadOK.one T.one_3 5 rfl rfl | exact LoadOK.one T.one_3 6 rfl rfl | exact LoadOK.one T.one_3 7 rfl rfl)) ?_)); all_goals ((refine Goal.take (listed' := #[true, true, true, true, true, true, false, false, false, false, false]) 5 ⟨rfl, by kernel_rfl, by kernel_rfl, by kernel_rfl, by kernel_rfl, by kernel_rfl⟩ rfl (by (first | exact fun _ h => h | exact fun _ h => h.sub (.cons _ (.refl _)) | exact fun _ h => h.sub (.cons _ (.cons _ (.refl _))) | exact fun _ h => h.sub (.cons _ (.cons _ (.cons _ (.refl _)))) | exact fun _ h => h.drop | exact fun _ h => h.sub (List.sublist_append_left _ _) | exact fun _ h => by simpa only [List.append_eq, List.append_assoc, List.cons_append, List.nil_append, List.append_nil] using h)) (fun _ _ _ _ h => h) (by first | exact Run.lookII 0 T.map_54 rfl rfl rfl | exact Run.lookI 0 T.map_54 rfl rfl rfl | exact Run.lookII 1 T.map_54 rfl rfl rfl | exact Run.lookI 1 T.map_54 rfl rfl rfl | exact Run.lookII 2 T.map_54 rfl rfl rfl | exact Run.lookI 2 T.map_54 rfl rfl rfl | exact Run.lookII 3 T.map_54 rfl rfl rfl | exact Run.lookI 3 T.map_54 rfl rfl rfl | exact Run.lookII 4 T.map_54 rfl rfl rfl | exact Run.lookI 4 T.map_54 rfl rfl rfl | exact Run.lookNone T.map_54 rfl rfl) ?_)); all_goals ((refine Goal.takeP (listed' := #[true, true, true, true, true, true, true, false, false, false, false]) 6 ⟨rfl, by kernel_rfl, by kernel_rfl, by kernel_rfl, by kernel_rfl⟩ rfl (fun _ _ _ _ h => h) (by intro _; exact Run.move rfl) ?_)); all_goals ((refine Goal.takeP (listed' := #[true, true, true, true, true, true, true, true, false, false, false]) 7 ⟨rfl, by kernel_rfl, by kernel_rfl, by kernel_rfl, by kernel_rfl⟩ rfl (fun _ _ _ _ h => h) (by intro _; exact Run.extract rfl rfl) ?_)); all_goals ((refine Goal.takeP (listed' := #[true, true, true, true, true, true, true, true, true, false, false]) 8 ⟨rfl, by kernel_rfl, by kernel_rfl, by kernel_rfl, by kernel_rfl⟩ rfl (fun _ _ _ _ h => h) (by intro _; exact Run.extract rfl rfl) ?_)); all_goals ((refine Goal.takeP (listed' := #[true, true, true, true, true, true, true, true, true, true, false]) 9 ⟨rfl, by kernel_rfl, by kernel_rfl, by kernel_rfl, by kernel_rfl⟩ rfl (fun _ _ _ _ h => h) (by intro _; exact Run.assign rfl) ?_)); all_goals ((refine Goal.takeP (listed' := #[true, true, true, true, true, true, true, true, true, true, true]) 10 ⟨rfl, by kernel_rfl, by kernel_rfl, by kernel_rfl, by kernel_rfl⟩ rfl (fun _ _ _ _ h => h) (by intro _; exact Run.assign rfl) ?_)); all_goals (refine Goal.allUp (by kernel_rfl) ?_))
      | (refine Goal.loud (o := ⟨some 3, _, _, _, _, _⟩) rfl ?_; first | refine Loud.boxA rfl rfl (fun b3 => ?_) | refine Loud.box1 rfl rfl rfl (fun b3 => ?_))
      | (apply G.move; exact rfl; exact rfl)
      | (apply G.assign; exact rfl; exact rfl)
      | refine Goal.seq (fun _ _ => ?_)
      | refine Goal.next (by assumption) ?_
      | refine Goal.lnil ?_
      | refine Goal.region ?_
      | refine Goal.skip ?_
      | refine Goal.block ?_
      | refine Goal.exit ?_
      | refine Goal.ret ?_
      | refine Goal.then_exit ?_
      | refine Goal.then_ret ?_
      | refine Goal.inBlock_exit ?_
      | refine Goal.inBlock_normal ?_
      | refine Goal.inBlock_ret ?_
      | refine Goal.inBlock_other rfl ?_
      | (apply Goal.condT; exact rfl)
      | (apply Goal.condF; exact rfl)
      | (refine Goal.condD rfl (fun hc => ?_) (fun hc => ?_) <;> first | (exfalso; omega) | contradiction | skip)
      | refine Goal.condB rfl (fun hc => ?_) (fun hc => ?_)
      | (apply G.fieldAddr; exact rfl; exact rfl; (first | exact T.fld_56_3 | exact T.fld_56_5 | exact T.fld_56_6))
      | (apply G.load; exact rfl; exact rfl; first | exact LoadOK.one (by first | exact T.one_3 | exact T.one_53 | exact T.one_54 | exact T.one_60) 0 rfl rfl | exact LoadOK.one (by first | exact T.one_3 | exact T.one_53 | exact T.one_54 | exact T.one_60) 1 rfl rfl | exact LoadOK.one (by first | exact T.one_3 | exact T.one_53 | exact T.one_54 | exact T.one_60) 2 rfl rfl | exact LoadOK.one (by first | exact T.one_3 | exact T.one_53 | exact T.one_54 | exact T.one_60) 3 rfl rfl | exact LoadOK.one (by first | exact T.one_3 | exact T.one_53 | exact T.one_54 | exact T.one_60) 4 rfl rfl | exact LoadOK.one (by first | exact T.one_3 | exact T.one_53 | exact T.one_54 | exact T.one_60) 5 rfl rfl | exact LoadOK.one (by first | exact T.one_3 | exact T.one_53 | exact T.one_54 | exact T.one_60) 6 rfl rfl | exact LoadOK.one (by first | exact T.one_3 | exact T.one_53 | exact T.one_54 | exact T.one_60) 7 rfl rfl)
      | (apply G.eql; exact rfl; exact rfl; exact rfl)
      | (refine Goal.quiet rfl (Run.eqlP T.ptr_24 rfl rfl rfl) ?_)
      | (apply G.notT; exact rfl; exact rfl)
      | (apply G.notF; exact rfl; exact rfl)
      | (refine G.notD rfl rfl ?_)
      | (apply G.notB; exact rfl; exact rfl)
      | (apply G.extract; exact rfl; exact rfl; exact rfl)
      | (apply G.len; exact rfl; exact rfl; exact T.slc_60)
      | (refine Goal.quiet rfl (Run.lookII 0 T.map_54 rfl rfl rfl) ?_)
      | (refine Goal.quiet rfl (Run.lookI 0 T.map_54 rfl rfl rfl) ?_)
      | (refine Goal.quiet rfl (Run.lookII 1 T.map_54 rfl rfl rfl) ?_)
      | (refine Goal.quiet rfl (Run.lookI 1 T.map_54 rfl rfl rfl) ?_)
      | (refine Goal.quiet rfl (Run.lookII 2 T.map_54 rfl rfl rfl) ?_)
      | (refine Goal.quiet rfl (Run.lookI 2 T.map_54 rfl rfl rfl) ?_)
      | (refine Goal.quiet rfl (Run.lookII 3 T.map_54 rfl rfl rfl) ?_)
      | (refine Goal.quiet rfl (Run.lookI 3 T.map_54 rfl rfl rfl) ?_)
      | (refine Goal.quiet rfl (Run.lookII 4 T.map_54 rfl rfl rfl) ?_)
      | (refine Goal.quiet rfl (Run.lookI 4 T.map_54 rfl rfl rfl) ?_)
      | (refine Goal.quiet rfl (Run.lookNone T.map_54 rfl rfl) ?_)
      | (refine Goal.loud rfl ?_; refine Loud.delI0 T.map_54 rfl rfl ?_)
      | (refine Goal.loud rfl ?_; refine Loud.delI1 T.map_54 rfl rfl ?_)
      | (refine Goal.loud rfl ?_; refine Loud.delI2 T.map_54 rfl rfl ?_)
      | (refine Goal.loud rfl ?_; refine Loud.delI3 T.map_54 rfl rfl ?_)
      | (refine Goal.loud rfl ?_; refine Loud.delI4 T.map_54 rfl rfl ?_)
      | (apply G.nilCheckP; exact rfl; exact rfl)
      | (apply G.makeFunc; exact rfl; exact rfl; exact rfl)
      | (refine G.indexAddr1 rfl T.slc_53 T.sz_60 rfl rfl _ rfl (by omega) ?_)
      | (refine G.indexAddr1 rfl T.slc_53 T.sz_60 rfl rfl _ (Int.toNat_of_nonneg (by omega)).symm (by omega) ?_)
      | (refine Goal.loud rfl ?_; refine Loud.store0 rfl rfl T.sz_60 rfl rfl rfl (by first | exact Nat.le_of_ble_eq_true rfl | exact Nat.le_refl _ | decide | (simp; omega)) rfl ?_)
      | (refine Goal.loud rfl ?_; refine Loud.store1 rfl rfl T.sz_60 rfl rfl rfl (by first | exact Nat.le_of_ble_eq_true rfl | exact Nat.le_refl _ | decide | (simp; omega)) rfl ?_)
      | (refine Goal.loud rfl ?_; refine Loud.store2 rfl rfl T.sz_60 rfl rfl rfl (by first | exact Nat.le_of_ble_eq_true rfl | exact Nat.le_refl _ | decide | (simp; omega)) rfl ?_)
      | (refine Goal.loud rfl ?_; refine Loud.store3 rfl rfl T.sz_60 rfl rfl rfl (by first | exact Nat.le_of_ble_eq_true rfl | exact Nat.le_refl _ | decide | (simp; omega)) rfl ?_)
      | (refine Goal.loud rfl ?_; refine Loud.store4 rfl rfl T.sz_60 rfl rfl rfl (by first | exact Nat.le_of_ble_eq_true rfl | exact Nat.le_refl _ | decide | (simp; omega)) rfl ?_)
      | (refine Goal.loud rfl ?_; refine Loud.store5 rfl rfl T.sz_60 rfl rfl rfl (by first | exact Nat.le_of_ble_eq_true rfl | exact Nat.le_refl _ | decide | (simp; omega)) rfl ?_)
      | (refine Goal.loud rfl ?_; refine Loud.store6 rfl rfl T.sz_60 rfl rfl rfl (by first | exact Nat.le_of_ble_eq_true rfl | exact Nat.le_refl _ | decide | (simp; omega)) rfl ?_)
      | (refine Goal.loud rfl ?_; refine Loud.store7 rfl rfl T.sz_60 rfl rfl rfl (by first | exact Nat.le_of_ble_eq_true rfl | exact Nat.le_refl _ | decide | (simp; omega)) rfl ?_))
    · rw [hgi] at hc; cases hc
    · rw [hgi]
      skip
      repeat' (first
        | (refine Goal.drawAll (id := 6) 5 T.mixed ?_; all_goals ((refine Goal.takeP (listed' := #[true, false, false, false, false, false]) 0 ⟨rfl, by kernel_rfl, by kernel_rfl, by kernel_rfl, by kernel_rfl⟩ rfl (fun _ _ _ _ h => h) (by intro _; exact Run.move rfl) ?_)); all_goals ((refine Goal.takeP (listed' := #[true, true, false, false, false, false]) 1 ⟨rfl, by kernel_rfl, by kernel_rfl, by kernel_rfl, by kernel_rfl⟩ rfl (fun _ _ _ _ h => h) (by intro _; exact Run.nilCheckP rfl) ?_)); all_goals ((refine Goal.takeP (listed' := #[true, true, true, false, false, false]) 2 ⟨rfl, by kernel_rfl, by kernel_rfl, by kernel_rfl, by kernel_rfl⟩ rfl (fun _ _ _ _ h => h) (by intro _; exact Run.fieldAddr T.fld_56_6 rfl) ?_)); all_goals ((refine Goal.take (listed' := #[true, true, true, true, false, false]) 3 ⟨rfl, by kernel_rfl, by kernel_rfl, by kernel_rfl, by kernel_rfl, by kernel_rfl⟩ rfl (by (first | exact fun _ h => h | exact fun _ h => h.sub (.cons _ (.refl _)) | exact fun _ h => h.sub (.cons _ (.cons _ (.refl _))) | exact fun _ h => h.sub (.cons _ (.cons _ (.cons _ (.refl _)))) | exact fun _ h => h.drop | exact fun _ h => h.sub (List.sublist_append_left _ _) | exact fun _ h => by simpa only [List.append_eq, List.append_assoc, List.cons_append, List.nil_append, List.append_nil] using h)) (fun _ _ _ _ h => h) (by (apply Run.load; exact rfl; first | exact LoadOK.one T.one_54 0 rfl rfl | exact LoadOK.one T.one_54 1 rfl rfl | exact LoadOK.one T.one_54 2 rfl rfl | exact LoadOK.one T.one_54 3 rfl rfl | exact LoadOK.one T.one_54 4 rfl rfl | exact LoadOK.one T.one_54 5 rfl rfl | exact LoadOK.one T.one_54 6 rfl rfl | exact LoadOK.one T.one_54 7 rfl rfl)) ?_)); all_goals ((refine Goal.take (listed' := #[true, true, true, true, true, false]) 4 ⟨rfl, by kernel_rfl, by kernel_rfl, by kernel_rfl, by kernel_rfl, by kernel_rfl⟩ rfl (by (first | exact fun _ h => h | exact fun _ h => h.sub (.cons _ (.refl _)) | exact fun _ h => h.sub (.cons _ (.cons _ (.refl _))) | exact fun _ h => h.sub (.cons _ (.cons _ (.cons _ (.refl _)))) | exact fun _ h => h.drop | exact fun _ h => h.sub (List.sublist_append_left _ _) | exact fun _ h => by simpa only [List.append_eq, List.append_assoc, List.cons_append, List.nil_append, List.append_nil] using h)) (fun _ _ _ _ h => h) (by (apply Run.load; exact rfl; first | exact LoadOK.one T.one_3 0 rfl rfl | exact LoadOK.one T.one_3 1 rfl rfl | exact LoadOK.one T.one_3 2 rfl rfl | exact LoadOK.one T.one_3 3 rfl rfl | exact LoadOK.one T.one_3 4 rfl rfl | exact LoadOK.one T.one_3 5 rfl rfl | exact LoadOK.one T.one_3 6 rfl rfl | exact LoadOK.one T.one_3 7 rfl rfl)) ?_)); all_goals (refine Goal.ready1 (i := 5) (by kernel_rfl) ?_); all_goals ((refine Goal.up (i := 5) (listed' := #[true, true, true, true, true, true]) rfl (by kernel_rfl) ?_; (first | refine Loud.delI0 T.map_54 rfl rfl ?_ | refine Loud.delI1 T.map_54 rfl rfl ?_ | refine Loud.delI2 T.map_54 rfl rfl ?_ | refine Loud.delI3 T.map_54 rfl rfl ?_ | refine Loud.delI4 T.map_54 rfl rfl ?_); first | refine Goal.tail rfl ?_ | refine Goal.kept (by (first | exact fun _ h => h | exact fun _ h => h.sub (.cons _ (.refl _)) | exact fun _ h => h.sub (.cons _ (.cons _ (.refl _))) | exact fun _ h => h.sub (.cons _ (.cons _ (.cons _ (.refl _)))) | exact fun _ h => h.drop | exact fun _ h => h.sub (List.sublist_append_left _ _) | exact fun _ h => by simpa only [List.append_eq, List.append_assoc, List.cons_append, List.nil_append, List.append_nil] using h)) ?_)); all_goals (refine Goal.allUp (by kernel_rfl) ?_))
        | (refine Goal.loud (o := ⟨some 3, _, _, _, _, _⟩) rfl ?_; first | refine Loud.boxA rfl rfl (fun b3 => ?_) | refine Loud.box1 rfl rfl rfl (fun b3 => ?_))
        | (apply G.move; exact rfl; exact rfl)
        | (apply G.assign; exact rfl; exact rfl)
        | refine Goal.seq (fun _ _ => ?_)
        | refine Goal.next (by assumption) ?_
        | refine Goal.lnil ?_
        | refine Goal.region ?_
        | refine Goal.skip ?_
        | refine Goal.block ?_
        | refine Goal.exit ?_
        | refine Goal.ret ?_
        | refine Goal.then_exit ?_
        | refine Goal.then_ret ?_
        | refine Goal.inBlock_exit ?_
        | refine Goal.inBlock_normal ?_
        | refine Goal.inBlock_ret ?_
        | refine Goal.inBlock_other rfl ?_
        | (apply Goal.condT; exact rfl)
        | (apply Goal.condF; exact rfl)
        | (refine Goal.condD rfl (fun hc => ?_) (fun hc => ?_) <;> first | (exfalso; omega) | contradiction | skip)
        | refine Goal.condB rfl (fun hc => ?_) (fun hc => ?_)
        | (apply G.fieldAddr; exact rfl; exact rfl; (first | exact T.fld_56_3 | exact T.fld_56_5 | exact T.fld_56_6))
        | (apply G.load; exact rfl; exact rfl; first | exact LoadOK.one (by first | exact T.one_3 | exact T.one_53 | exact T.one_54 | exact T.one_60) 0 rfl rfl | exact LoadOK.one (by first | exact T.one_3 | exact T.one_53 | exact T.one_54 | exact T.one_60) 1 rfl rfl | exact LoadOK.one (by first | exact T.one_3 | exact T.one_53 | exact T.one_54 | exact T.one_60) 2 rfl rfl | exact LoadOK.one (by first | exact T.one_3 | exact T.one_53 | exact T.one_54 | exact T.one_60) 3 rfl rfl | exact LoadOK.one (by first | exact T.one_3 | exact T.one_53 | exact T.one_54 | exact T.one_60) 4 rfl rfl | exact LoadOK.one (by first | exact T.one_3 | exact T.one_53 | exact T.one_54 | exact T.one_60) 5 rfl rfl | exact LoadOK.one (by first | exact T.one_3 | exact T.one_53 | exact T.one_54 | exact T.one_60) 6 rfl rfl | exact LoadOK.one (by first | exact T.one_3 | exact T.one_53 | exact T.one_54 | exact T.one_60) 7 rfl rfl)
        | (apply G.eql; exact rfl; exact rfl; exact rfl)
        | (refine Goal.quiet rfl (Run.eqlP T.ptr_24 rfl rfl rfl) ?_)
        | (apply G.notT; exact rfl; exact rfl)
        | (apply G.notF; exact rfl; exact rfl)
        | (refine G.notD rfl rfl ?_)
        | (apply G.notB; exact rfl; exact rfl)
        | (apply G.extract; exact rfl; exact rfl; exact rfl)
        | (apply G.len; exact rfl; exact rfl; exact T.slc_60)
        | (refine Goal.quiet rfl (Run.lookII 0 T.map_54 rfl rfl rfl) ?_)
        | (refine Goal.quiet rfl (Run.lookI 0 T.map_54 rfl rfl rfl) ?_)
        | (refine Goal.quiet rfl (Run.lookII 1 T.map_54 rfl rfl rfl) ?_)
        | (refine Goal.quiet rfl (Run.lookI 1 T.map_54 rfl rfl rfl) ?_)
        | (refine Goal.quiet rfl (Run.lookII 2 T.map_54 rfl rfl rfl) ?_)
        | (refine Goal.quiet rfl (Run.lookI 2 T.map_54 rfl rfl rfl) ?_)
        | (refine Goal.quiet rfl (Run.lookII 3 T.map_54 rfl rfl rfl) ?_)
        | (refine Goal.quiet rfl (Run.lookI 3 T.map_54 rfl rfl rfl) ?_)
        | (refine Goal.quiet rfl (Run.lookII 4 T.map_54 rfl rfl rfl) ?_)
        | (refine Goal.quiet rfl (Run.lookI 4 T.map_54 rfl rfl rfl) ?_)
        | (refine Goal.quiet rfl (Run.lookNone T.map_54 rfl rfl) ?_)
        | (refine Goal.loud rfl ?_; refine Loud.delI0 T.map_54 rfl rfl ?_)
        | (refine Goal.loud rfl ?_; refine Loud.delI1 T.map_54 rfl rfl ?_)
        | (refine Goal.loud rfl ?_; refine Loud.delI2 T.map_54 rfl rfl ?_)
        | (refine Goal.loud rfl ?_; refine Loud.delI3 T.map_54 rfl rfl ?_)
        | (refine Goal.loud rfl ?_; refine Loud.delI4 T.map_54 rfl rfl ?_)
        | (apply G.nilCheckP; exact rfl; exact rfl)
        | (apply G.makeFunc; exact rfl; exact rfl; exact rfl)
        | (refine G.indexAddr1 rfl T.slc_53 T.sz_60 rfl rfl _ rfl (by omega) ?_)
        | (refine G.indexAddr1 rfl T.slc_53 T.sz_60 rfl rfl _ (Int.toNat_of_nonneg (by omega)).symm (by omega) ?_)
        | (refine Goal.loud rfl ?_; refine Loud.store0 rfl rfl T.sz_60 rfl rfl rfl (by first | exact Nat.le_of_ble_eq_true rfl | exact Nat.le_refl _ | decide | (simp; omega)) rfl ?_)
        | (refine Goal.loud rfl ?_; refine Loud.store1 rfl rfl T.sz_60 rfl rfl rfl (by first | exact Nat.le_of_ble_eq_true rfl | exact Nat.le_refl _ | decide | (simp; omega)) rfl ?_)
        | (refine Goal.loud rfl ?_; refine Loud.store2 rfl rfl T.sz_60 rfl rfl rfl (by first | exact Nat.le_of_ble_eq_true rfl | exact Nat.le_refl _ | decide | (simp; omega)) rfl ?_)
        | (refine Goal.loud rfl ?_; refine Loud.store3 rfl rfl T.sz_60 rfl rfl rfl (by first | exact Nat.le_of_ble_eq_true rfl | exact Nat.le_refl _ | decide | (simp; omega)) rfl ?_)
        | (refine Goal.loud rfl ?_; refine Loud.store4 rfl rfl T.sz_60 rfl rfl rfl (by first | exact Nat.le_of_ble_eq_true rfl | exact Nat.le_refl _ | decide | (simp; omega)) rfl ?_)
        | (refine Goal.loud rfl ?_; refine Loud.store5 rfl rfl T.sz_60 rfl rfl rfl (by first | exact Nat.le_of_ble_eq_true rfl | exact Nat.le_refl _ | decide | (simp; omega)) rfl ?_)
        | (refine Goal.loud rfl ?_; refine Loud.store6 rfl rfl T.sz_60 rfl rfl rfl (by first | exact Nat.le_of_ble_eq_true rfl | exact Nat.le_refl _ | decide | (simp; omega)) rfl ?_)
        | (refine Goal.loud rfl ?_; refine Loud.store7 rfl rfl T.sz_60 rfl rfl rfl (by first | exact Nat.le_of_ble_eq_true rfl | exact Nat.le_refl _ | decide | (simp; omega)) rfl ?_))
      simp only [Option.getD_some]
      rw [hgt, Option.getD_some]
      obtain ⟨bo, rest, cap, rfl, rfl, g1, g2, g3⟩ := hL.pos (by omega)
      obtain ⟨aU, cU, rfl⟩ := hU.shape
      obtain ⟨v, B1, Ai, B2, hv, rfl, hsl, hre⟩ := hI.split (i := s.toNat) (by omega)
      have hvl := hI.len
      have hul := hQ.un_len
      have hll0 := hQ.len
      have hgd : q.ls.getD s.toNat [] = q.ls[s.toNat]'(by omega) := by rw [List.getD_eq_getElem?_getD, List.getElem?_eq_getElem (by omega)]; rfl
      rw [← hgd, hlsi] at hsl
      have hlen := slotOf_len (E1 ++ e :: E2) e.time
      have hEl : (E1 ++ E2).length + 1 = (E1 ++ e :: E2).length := by simp; omega
      have hRm := removed_inv hQ hft q.now
      have hout := outs_slot hne
      have hntp := hT.pos (k := e.time) (by rw [hft]; rfl)
      have hnip := hD.pos (k := e.id) (by rw [hf]; rfl)
      have hlp : 0 < (slotOf (E1 ++ e :: E2) e.time).length := by rw [slotOf_app, slotOf_cons, if_pos rfl]; simp; omega
      have hD2 : MapA (mdel mi e.id) (fun j => if j = e.id then none else q.fi j) (q.ni - 1) := by
        obtain ⟨k, hk⟩ : ∃ k, q.ni = k + 1 := ⟨q.ni - 1, by omega⟩
        rw [hk] at hD ⊢
        exact hD.del (by rw [hf]; rfl)
      generalize hl0 : slotOf (E1 ++ e :: E2) e.time = l0 at hsl hlen hout hlsi hlp
      obtain ⟨bs, st, rs, cp, rfl, rfl, s1, s2, s3⟩ := hsl.pos hlp
      have hv2 : (vs ++ rest)[0 + s.toNat]? = some (.slice (some ⟨bs, st.length, none⟩) l0.length cp) := by rw [Nat.zero_add, List.getElem?_append_left (by omega)]; exact hv
      have hv3 : ∀ x : Value, (vs.set s.toNat x ++ rest)[0 + s.toNat]? = some x := fun x => by
        rw [Nat.zero_add, List.getElem?_append_left (by rw [List.length_set]; omega), List.getElem?_set_self (by omega)]
      refine Goal.subL (L' := ((bq, Obj.cells #[.int .i64 q.now, .int .i64 q.last, .pointer (some ⟨bh, 0, none⟩), .slice (some ⟨bo, 0, none⟩) q.ls.length cap, .slice aU q.un.length cU, .map (some bt), .map (some bi)] 56) :: (bt, mobj mt ct) :: (bi, mobj (mdel mi e.id) ci) :: (bo, Obj.cells (vs ++ rest).toArray 60) :: (AU ++ B1)) ++ (((bs, Obj.cells (st ++ (Els pr l0 ++ rs)).toArray 62) :: [(b3, Obj.cells #[.int .i64 e.id] 3)]) ++ (B2 ++ AH))) (fun _ h => St.box_in h) ?_
      repeat' (first
        | (refine Goal.drawPre4 (id := 8) 15 T.mixed ?_; all_goals ((refine Goal.takeP (listed' := #[true, false, false, false, false, false, false, false, false, false, false, false, false, false, false, false]) 0 ⟨rfl, by kernel_rfl, by kernel_rfl, by kernel_rfl, by kernel_rfl⟩ rfl (fun _ _ _ _ h => h) (by intro _; exact Run.move rfl) ?_)); all_goals ((refine Goal.takeP (listed' := #[true, true, false, false, false, false, false, false, false, false, false, false, false, false, false, false]) 1 ⟨rfl, by kernel_rfl, by kernel_rfl, by kernel_rfl, by kernel_rfl⟩ rfl (fun _ _ _ _ h => h) (by intro _; exact Run.nilCheckP rfl) ?_)); all_goals ((refine Goal.takeP (listed' := #[true, true, true, false, false, false, false, false, false, false, false, false, false, false, false, false]) 2 ⟨rfl, by kernel_rfl, by kernel_rfl, by kernel_rfl, by kernel_rfl⟩ rfl (fun _ _ _ _ h => h) (by intro _; exact Run.fieldAddr T.fld_56_3 rfl) ?_)); all_goals ((refine Goal.takeP (listed' := #[true, true, true, false, true, false, false, false, false, false, false, false, false, false, false, false]) 4 ⟨rfl, by kernel_rfl, by kernel_rfl, by kernel_rfl, by kernel_rfl⟩ rfl (fun _ _ _ _ h => h) (by intro _; exact Run.move rfl) ?_)); all_goals ((refine Goal.takeP (listed' := #[true, true, true, false, true, true, false, false, false, false, false, false, false, false, false, false]) 5 ⟨rfl, by kernel_rfl, by kernel_rfl, by kernel_rfl, by kernel_rfl⟩ rfl (fun _ _ _ _ h => h) (by intro _; exact Run.move rfl) ?_)); all_goals ((refine Goal.takeP (listed' := #[true, true, true, false, true, true, true, false, false, false, false, false, false, false, false, false]) 6 ⟨rfl, by kernel_rfl, by kernel_rfl, by kernel_rfl, by kernel_rfl⟩ rfl (fun _ _ _ _ h => h) (by intro _; exact Run.nilCheckP rfl) ?_)); all_goals ((refine Goal.takeP (listed' := #[true, true, true, false, true, true, true, true, false, false, false, false, false, false, false, false]) 7 ⟨rfl, by kernel_rfl, by kernel_rfl, by kernel_rfl, by kernel_rfl⟩ rfl (fun _ _ _ _ h => h) (by intro _; exact Run.fieldAddr T.fld_56_3 rfl) ?_)); all_goals ((refine Goal.takeP (listed' := #[true, true, true, false, true, true, true, true, false, true, false, false, false, false, false, false]) 9 ⟨rfl, by kernel_rfl, by kernel_rfl, by kernel_rfl, by kernel_rfl⟩ rfl (fun _ _ _ _ h => h) (by intro _; exact Run.move rfl) ?_)); all_goals ((refine Goal.takeP (listed' := #[true, true, true, false, true, true, true, true, false, true, false, false, true, false, false, false]) 12 ⟨rfl, by kernel_rfl, by kernel_rfl, by kernel_rfl, by kernel_rfl⟩ rfl (fun _ _ _ _ h => h) (by intro _; exact Run.makeFunc rfl rfl) ?_)); all_goals ((refine Goal.take (listed' := #[true, true, true, true, true, true, true, true, false, true, false, false, true, false, false, false]) 3 ⟨rfl, by kernel_rfl, by kernel_rfl, by kernel_rfl, by kernel_rfl, by kernel_rfl⟩ rfl (by (first | exact fun _ h => h.sub (List.Sublist.cons_cons _ (List.Sublist.cons_cons _ (List.Sublist.cons_cons _ (List.Sublist.cons_cons _ (List.nil_sublist _))))) | exact fun _ h => h.sub (.cons _ (List.Sublist.cons_cons _ (List.Sublist.cons_cons _ (List.Sublist.cons_cons _ (List.Sublist.cons_cons _ (List.nil_sublist _)))))))) (fun _ _ _ _ h => h) (by (apply Run.load; exact rfl; first | exact LoadOK.one T.one_60 3 rfl hv2 | exact LoadOK.one T.one_53 0 rfl rfl | exact LoadOK.one T.one_53 1 rfl rfl | exact LoadOK.one T.one_53 2 rfl rfl | exact LoadOK.one T.one_53 3 rfl rfl | exact LoadOK.one T.one_53 4 rfl rfl | exact LoadOK.one T.one_53 5 rfl rfl | exact LoadOK.one T.one_53 6 rfl rfl | exact LoadOK.one T.one_53 7 rfl rfl)) ?_)); all_goals ((refine Goal.take (listed' := #[true, true, true, true, true, true, true, true, true, true, false, false, true, false, false, false]) 8 ⟨rfl, by kernel_rfl, by kernel_rfl, by kernel_rfl, by kernel_rfl, by kernel_rfl⟩ rfl (by (first | exact fun _ h => h.sub (List.Sublist.cons_cons _ (List.Sublist.cons_cons _ (List.Sublist.cons_cons _ (List.Sublist.cons_cons _ (List.nil_sublist _))))) | exact fun _ h => h.sub (.cons _ (List.Sublist.cons_cons _ (List.Sublist.cons_cons _ (List.Sublist.cons_cons _ (List.Sublist.cons_cons _ (List.nil_sublist _)))))))) (fun _ _ _ _ h => h) (by (apply Run.load; exact rfl; first | exact LoadOK.one T.one_60 3 rfl hv2 | exact LoadOK.one T.one_53 0 rfl rfl | exact LoadOK.one T.one_53 1 rfl rfl | exact LoadOK.one T.one_53 2 rfl rfl | exact LoadOK.one T.one_53 3 rfl rfl | exact LoadOK.one T.one_53 4 rfl rfl | exact LoadOK.one T.one_53 5 rfl rfl | exact LoadOK.one T.one_53 6 rfl rfl | exact LoadOK.one T.one_53 7 rfl rfl)) ?_)); all_goals ((refine Goal.takeP (listed' := #[true, true, true, true, true, true, true, true, true, true, true, false, true, false, false, false]) 10 ⟨rfl, by kernel_rfl, by kernel_rfl, by kernel_rfl, by kernel_rfl⟩ rfl (fun _ _ _ _ h => h) (by intro _; first | exact Run.indexAddr1 T.slc_53 T.sz_60 rfl rfl rfl (by omega) | exact Run.indexAddr1 T.slc_53 T.sz_60 rfl rfl (Int.toNat_of_nonneg (by omega)).symm (by omega)) ?_)); all_goals ((refine Goal.take (listed' := #[true, true, true, true, true, true, true, true, true, true, true, true, true, false, false, false]) 11 ⟨rfl, by kernel_rfl, by kernel_rfl, by kernel_rfl, by kernel_rfl, by kernel_rfl⟩ rfl (by (first | exact fun _ h => h.sub (List.Sublist.cons_cons _ (List.Sublist.cons_cons _ (List.Sublist.cons_cons _ (List.Sublist.cons_cons _ (List.nil_sublist _))))) | exact fun _ h => h.sub (.cons _ (List.Sublist.cons_cons _ (List.Sublist.cons_cons _ (List.Sublist.cons_cons _ (List.Sublist.cons_cons _ (List.nil_sublist _)))))))) (fun _ _ _ _ h => h) (by (apply Run.load; exact rfl; first | exact LoadOK.one T.one_60 3 rfl hv2 | exact LoadOK.one T.one_60 0 rfl rfl | exact LoadOK.one T.one_60 1 rfl rfl | exact LoadOK.one T.one_60 2 rfl rfl | exact LoadOK.one T.one_60 3 rfl rfl | exact LoadOK.one T.one_60 4 rfl rfl | exact LoadOK.one T.one_60 5 rfl rfl | exact LoadOK.one T.one_60 6 rfl rfl | exact LoadOK.one T.one_60 7 rfl rfl)) ?_)); all_goals (refine Goal.ready1 (i := 13) (by kernel_rfl) ?_); all_goals ((refine Goal.up (i := 13) (listed' := #[true, true, true, true, true, true, true, true, true, true, true, true, true, true, false, false]) rfl (by kernel_rfl) ?_; (refine Loud.callM (_ :: _ :: _ :: _ :: (AU ++ B1)) (G := B2 ++ AH) (delete_ok T.bod_26 (isId_ok b3 e.id) (by omega) (by rw [← Els_len pr_len]; exact s2)) rfl rfl rfl rfl T.bod_25 (fun _ h => by first | exact h | simpa only [List.append_eq, List.append_assoc, List.cons_append, List.nil_append, List.append_nil] using h) ?_; rintro A2 ⟨c, rfl, hs2⟩; refine Goal.subL (fun _ h => St.box_out h) ?_; rw [hout] at hs2 ⊢); first | refine Goal.tail rfl ?_ | refine Goal.kept (by (first | exact fun _ h => h.sub (List.Sublist.cons_cons _ (List.Sublist.cons_cons _ (List.Sublist.cons_cons _ (List.Sublist.cons_cons _ (List.nil_sublist _))))) | exact fun _ h => h.sub (.cons _ (List.Sublist.cons_cons _ (List.Sublist.cons_cons _ (List.Sublist.cons_cons _ (List.Sublist.cons_cons _ (List.nil_sublist _)))))))) ?_)); all_goals ((refine Goal.takeP (listed' := #[true, true, true, true, true, true, true, true, true, true, true, true, true, true, true, false]) 14 ⟨rfl, by kernel_rfl, by kernel_rfl, by kernel_rfl, by kernel_rfl⟩ rfl (fun _ _ _ _ h => h) (by intro _; first | exact Run.indexAddr1 T.slc_53 T.sz_60 rfl rfl rfl (by omega) | exact Run.indexAddr1 T.slc_53 T.sz_60 rfl rfl (Int.toNat_of_nonneg (by omega)).symm (by omega)) ?_)); all_goals (refine Goal.ready1 (i := 15) (by kernel_rfl) ?_); all_goals ((refine Goal.up (i := 15) (listed' := #[true, true, true, true, true, true, true, true, true, true, true, true, true, true, true, true]) rfl (by kernel_rfl) ?_; (first | refine Loud.store3 rfl rfl T.sz_60 rfl rfl rfl (by rw [List.size_toArray, List.length_append]; omega) (wr_valsR (by omega)) ?_ | refine Loud.store0 rfl rfl T.sz_60 rfl rfl rfl (by first | exact Nat.le_of_ble_eq_true rfl | exact Nat.le_refl _ | decide | (simp; omega)) rfl ?_ | refine Loud.store1 rfl rfl T.sz_60 rfl rfl rfl (by first | exact Nat.le_of_ble_eq_true rfl | exact Nat.le_refl _ | decide | (simp; omega)) rfl ?_ | refine Loud.store2 rfl rfl T.sz_60 rfl rfl rfl (by first | exact Nat.le_of_ble_eq_true rfl | exact Nat.le_refl _ | decide | (simp; omega)) rfl ?_ | refine Loud.store3 rfl rfl T.sz_60 rfl rfl rfl (by first | exact Nat.le_of_ble_eq_true rfl | exact Nat.le_refl _ | decide | (simp; omega)) rfl ?_ | refine Loud.store4 rfl rfl T.sz_60 rfl rfl rfl (by first | exact Nat.le_of_ble_eq_true rfl | exact Nat.le_refl _ | decide | (simp; omega)) rfl ?_ | refine Loud.store5 rfl rfl T.sz_60 rfl rfl rfl (by first | exact Nat.le_of_ble_eq_true rfl | exact Nat.le_refl _ | decide | (simp; omega)) rfl ?_ | refine Loud.store6 rfl rfl T.sz_60 rfl rfl rfl (by first | exact Nat.le_of_ble_eq_true rfl | exact Nat.le_refl _ | decide | (simp; omega)) rfl ?_ | refine Loud.store7 rfl rfl T.sz_60 rfl rfl rfl (by first | exact Nat.le_of_ble_eq_true rfl | exact Nat.le_refl _ | decide | (simp; omega)) rfl ?_); first | refine Goal.tail rfl ?_ | refine Goal.kept (by (first | exact fun _ h => h.sub (List.Sublist.cons_cons _ (List.Sublist.cons_cons _ (List.Sublist.cons_cons _ (List.Sublist.cons_cons _ (List.nil_sublist _))))) | exact fun _ h => h.sub (.cons _ (List.Sublist.cons_cons _ (List.Sublist.cons_cons _ (List.Sublist.cons_cons _ (List.Sublist.cons_cons _ (List.nil_sublist _)))))))) ?_)); all_goals (refine Goal.allUp (by kernel_rfl) ?_))
        | (refine Goal.loud (o := ⟨some 45, _, _, _, _, _⟩) rfl ?_; refine Loud.callM (_ :: _ :: _ :: _ :: (AU ++ B1)) (G := B2 ++ AH) (delete_ok T.bod_26 (isId_ok b3 e.id) (by omega) (by rw [← Els_len pr_len]; exact s2)) rfl rfl rfl rfl T.bod_25 (fun _ h => by first | exact h | simpa only [List.append_eq, List.append_assoc, List.cons_append, List.nil_append, List.append_nil] using h) ?_; rintro A2 ⟨c, rfl, hs2⟩; refine Goal.subL (fun _ h => St.box_out h) ?_; rw [hout] at hs2 ⊢)
        | (refine Goal.loud (o := ⟨some 3, _, _, _, _, _⟩) rfl ?_; first | refine Loud.boxA rfl rfl (fun b3 => ?_) | refine Loud.box1 rfl rfl rfl (fun b3 => ?_))
        | (apply G.move; exact rfl; exact rfl)
        | (apply G.assign; exact rfl; exact rfl)
        | refine Goal.seq (fun _ _ => ?_)
        | refine Goal.next (by assumption) ?_
        | refine Goal.lnil ?_
        | refine Goal.region ?_
        | refine Goal.skip ?_
        | refine Goal.block ?_
        | refine Goal.exit ?_
        | refine Goal.ret ?_
        | refine Goal.then_exit ?_
        | refine Goal.then_ret ?_
        | refine Goal.inBlock_exit ?_
        | refine Goal.inBlock_normal ?_
        | refine Goal.inBlock_ret ?_
        | refine Goal.inBlock_other rfl ?_
        | (apply Goal.condT; exact rfl)
        | (apply Goal.condF; exact rfl)
        | (refine Goal.condD rfl (fun hc => ?_) (fun hc => ?_) <;> first | (exfalso; omega) | contradiction | skip)
        | refine Goal.condB rfl (fun hc => ?_) (fun hc => ?_)
        | (apply G.fieldAddr; exact rfl; exact rfl; (first | exact T.fld_56_3 | exact T.fld_56_5 | exact T.fld_56_6))
        | (apply G.load; exact rfl; exact rfl; first | exact LoadOK.one T.one_60 3 rfl hv2 | exact LoadOK.one (by first | exact T.one_3 | exact T.one_53 | exact T.one_54 | exact T.one_60) 0 rfl rfl | exact LoadOK.one (by first | exact T.one_3 | exact T.one_53 | exact T.one_54 | exact T.one_60) 1 rfl rfl | exact LoadOK.one (by first | exact T.one_3 | exact T.one_53 | exact T.one_54 | exact T.one_60) 2 rfl rfl | exact LoadOK.one (by first | exact T.one_3 | exact T.one_53 | exact T.one_54 | exact T.one_60) 3 rfl rfl | exact LoadOK.one (by first | exact T.one_3 | exact T.one_53 | exact T.one_54 | exact T.one_60) 4 rfl rfl | exact LoadOK.one (by first | exact T.one_3 | exact T.one_53 | exact T.one_54 | exact T.one_60) 5 rfl rfl | exact LoadOK.one (by first | exact T.one_3 | exact T.one_53 | exact T.one_54 | exact T.one_60) 6 rfl rfl | exact LoadOK.one (by first | exact T.one_3 | exact T.one_53 | exact T.one_54 | exact T.one_60) 7 rfl rfl)
        | (apply G.eql; exact rfl; exact rfl; exact rfl)
        | (refine Goal.quiet rfl (Run.eqlP T.ptr_24 rfl rfl rfl) ?_)
        | (apply G.notT; exact rfl; exact rfl)
        | (apply G.notF; exact rfl; exact rfl)
        | (refine G.notD rfl rfl ?_)
        | (apply G.notB; exact rfl; exact rfl)
        | (apply G.extract; exact rfl; exact rfl; exact rfl)
        | (apply G.len; exact rfl; exact rfl; exact T.slc_60)
        | (refine Goal.quiet rfl (Run.lookII 0 T.map_54 rfl rfl rfl) ?_)
        | (refine Goal.quiet rfl (Run.lookI 0 T.map_54 rfl rfl rfl) ?_)
        | (refine Goal.quiet rfl (Run.lookII 1 T.map_54 rfl rfl rfl) ?_)
        | (refine Goal.quiet rfl (Run.lookI 1 T.map_54 rfl rfl rfl) ?_)
        | (refine Goal.quiet rfl (Run.lookII 2 T.map_54 rfl rfl rfl) ?_)
        | (refine Goal.quiet rfl (Run.lookI 2 T.map_54 rfl rfl rfl) ?_)
        | (refine Goal.quiet rfl (Run.lookII 3 T.map_54 rfl rfl rfl) ?_)
        | (refine Goal.quiet rfl (Run.lookI 3 T.map_54 rfl rfl rfl) ?_)
        | (refine Goal.quiet rfl (Run.lookII 4 T.map_54 rfl rfl rfl) ?_)
        | (refine Goal.quiet rfl (Run.lookI 4 T.map_54 rfl rfl rfl) ?_)
        | (refine Goal.quiet rfl (Run.lookNone T.map_54 rfl rfl) ?_)
        | (refine Goal.loud rfl ?_; refine Loud.delI0 T.map_54 rfl rfl ?_)
        | (refine Goal.loud rfl ?_; refine Loud.delI1 T.map_54 rfl rfl ?_)
        | (refine Goal.loud rfl ?_; refine Loud.delI2 T.map_54 rfl rfl ?_)
        | (refine Goal.loud rfl ?_; refine Loud.delI3 T.map_54 rfl rfl ?_)
        | (refine Goal.loud rfl ?_; refine Loud.delI4 T.map_54 rfl rfl ?_)
        | (apply G.nilCheckP; exact rfl; exact rfl)
        | (apply G.makeFunc; exact rfl; exact rfl; exact rfl)
        | (refine G.indexAddr1 rfl T.slc_53 T.sz_60 rfl rfl _ rfl (by omega) ?_)
        | (refine G.indexAddr1 rfl T.slc_53 T.sz_60 rfl rfl _ (Int.toNat_of_nonneg (by omega)).symm (by omega) ?_)
        | (refine Goal.loud rfl ?_; refine Loud.store3 rfl rfl T.sz_60 rfl rfl rfl (by rw [List.size_toArray, List.length_append]; omega) (wr_valsR (by omega)) ?_)
        | (refine Goal.loud rfl ?_; refine Loud.store0 rfl rfl T.sz_60 rfl rfl rfl (by first | exact Nat.le_of_ble_eq_true rfl | exact Nat.le_refl _ | decide | (simp; omega)) rfl ?_)
        | (refine Goal.loud rfl ?_; refine Loud.store1 rfl rfl T.sz_60 rfl rfl rfl (by first | exact Nat.le_of_ble_eq_true rfl | exact Nat.le_refl _ | decide | (simp; omega)) rfl ?_)
        | (refine Goal.loud rfl ?_; refine Loud.store2 rfl rfl T.sz_60 rfl rfl rfl (by first | exact Nat.le_of_ble_eq_true rfl | exact Nat.le_refl _ | decide | (simp; omega)) rfl ?_)
        | (refine Goal.loud rfl ?_; refine Loud.store3 rfl rfl T.sz_60 rfl rfl rfl (by first | exact Nat.le_of_ble_eq_true rfl | exact Nat.le_refl _ | decide | (simp; omega)) rfl ?_)
        | (refine Goal.loud rfl ?_; refine Loud.store4 rfl rfl T.sz_60 rfl rfl rfl (by first | exact Nat.le_of_ble_eq_true rfl | exact Nat.le_refl _ | decide | (simp; omega)) rfl ?_)
        | (refine Goal.loud rfl ?_; refine Loud.store5 rfl rfl T.sz_60 rfl rfl rfl (by first | exact Nat.le_of_ble_eq_true rfl | exact Nat.le_refl _ | decide | (simp; omega)) rfl ?_)
        | (refine Goal.loud rfl ?_; refine Loud.store6 rfl rfl T.sz_60 rfl rfl rfl (by first | exact Nat.le_of_ble_eq_true rfl | exact Nat.le_refl _ | decide | (simp; omega)) rfl ?_)
        | (refine Goal.loud rfl ?_; refine Loud.store7 rfl rfl T.sz_60 rfl rfl rfl (by first | exact Nat.le_of_ble_eq_true rfl | exact Nat.le_refl _ | decide | (simp; omega)) rfl ?_))
      generalize htl : slotOf (E1 ++ E2) e.time = tl at hs2 hRm ⊢
      have hI2 := hre _ tl _ hs2
      have hE1 : EvM bq (gone q s e.id q.now tl) ((bq, Obj.cells #[.int .i64 q.now, .int .i64 q.last, .pointer (some ⟨bh, 0, none⟩), .slice (some ⟨bo, 0, none⟩) q.ls.length cap, .slice aU q.un.length cU, .map (some bt), .map (some bi)] 56) :: (bt, mobj mt ct) :: (bi, mobj (mdel mi e.id) ci) :: ([(bo, Obj.cells (vs.set s.toNat (.slice (some ⟨bs, st.length, none⟩) tl.length cp) ++ rest).toArray 60)] ++ (AU ++ ((B1 ++ ([c] ++ B2)) ++ AH)))) :=
        ⟨bt, bi, ct, ci, bh, bk, bp, mt, mdel mi e.id, _, _, _, _, AU, _, AH, by unfold gone; simp only [List.length_set]; try rfl, by unfold gone; dsimp only; rw [List.length_set]; exact Sl.mk (by rw [List.length_set]; exact g1) (by rw [List.length_set]; exact g2) g3, hU, hI2, hH, hT, hD2⟩
      have hEs : (E1 ++ E2).length ≤ 65536 := by omega
      repeat' (first
        | (refine Goal.loud (o := ⟨some 3, _, _, _, _, _⟩) rfl ?_; first | refine Loud.boxA rfl rfl (fun b3 => ?_) | refine Loud.box1 rfl rfl rfl (fun b3 => ?_))
        | (apply G.move; exact rfl; exact rfl)
        | (apply G.assign; exact rfl; exact rfl)
        | refine Goal.seq (fun _ _ => ?_)
        | refine Goal.next (by assumption) ?_
        | refine Goal.lnil ?_
        | refine Goal.region ?_
        | refine Goal.skip ?_
        | refine Goal.block ?_
        | refine Goal.exit ?_
        | refine Goal.ret ?_
        | refine Goal.then_exit ?_
        | refine Goal.then_ret ?_
        | refine Goal.inBlock_exit ?_
        | refine Goal.inBlock_normal ?_
        | refine Goal.inBlock_ret ?_
        | refine Goal.inBlock_other rfl ?_
        | (apply Goal.condT; exact rfl)
        | (apply Goal.condF; exact rfl)
        | (refine Goal.condD rfl (fun hc => ?_) (fun hc => ?_) <;> first | (exfalso; omega) | contradiction | skip)
        | refine Goal.condB rfl (fun hc => ?_) (fun hc => ?_)
        | (apply G.fieldAddr; exact rfl; exact rfl; (first | exact T.fld_56_3 | exact T.fld_56_5 | exact T.fld_56_6))
        | (apply G.load; exact rfl; exact rfl; first | exact LoadOK.one T.one_60 3 rfl (hv3 _) | exact LoadOK.one (by first | exact T.one_3 | exact T.one_53 | exact T.one_54 | exact T.one_60) 0 rfl rfl | exact LoadOK.one (by first | exact T.one_3 | exact T.one_53 | exact T.one_54 | exact T.one_60) 1 rfl rfl | exact LoadOK.one (by first | exact T.one_3 | exact T.one_53 | exact T.one_54 | exact T.one_60) 2 rfl rfl | exact LoadOK.one (by first | exact T.one_3 | exact T.one_53 | exact T.one_54 | exact T.one_60) 3 rfl rfl | exact LoadOK.one (by first | exact T.one_3 | exact T.one_53 | exact T.one_54 | exact T.one_60) 4 rfl rfl | exact LoadOK.one (by first | exact T.one_3 | exact T.one_53 | exact T.one_54 | exact T.one_60) 5 rfl rfl | exact LoadOK.one (by first | exact T.one_3 | exact T.one_53 | exact T.one_54 | exact T.one_60) 6 rfl rfl | exact LoadOK.one (by first | exact T.one_3 | exact T.one_53 | exact T.one_54 | exact T.one_60) 7 rfl rfl)
        | (apply G.eql; exact rfl; exact rfl; exact rfl)
        | (refine Goal.quiet rfl (Run.eqlP T.ptr_24 rfl rfl rfl) ?_)
        | (apply G.notT; exact rfl; exact rfl)
        | (apply G.notF; exact rfl; exact rfl)
        | (refine G.notD rfl rfl ?_)
        | (apply G.notB; exact rfl; exact rfl)
        | (apply G.extract; exact rfl; exact rfl; exact rfl)
        | (apply G.len; exact rfl; exact rfl; exact T.slc_60)
        | (refine Goal.quiet rfl (Run.lookII 0 T.map_54 rfl rfl rfl) ?_)
        | (refine Goal.quiet rfl (Run.lookI 0 T.map_54 rfl rfl rfl) ?_)
        | (refine Goal.quiet rfl (Run.lookII 1 T.map_54 rfl rfl rfl) ?_)
        | (refine Goal.quiet rfl (Run.lookI 1 T.map_54 rfl rfl rfl) ?_)
        | (refine Goal.quiet rfl (Run.lookII 2 T.map_54 rfl rfl rfl) ?_)
        | (refine Goal.quiet rfl (Run.lookI 2 T.map_54 rfl rfl rfl) ?_)
        | (refine Goal.quiet rfl (Run.lookII 3 T.map_54 rfl rfl rfl) ?_)
        | (refine Goal.quiet rfl (Run.lookI 3 T.map_54 rfl rfl rfl) ?_)
        | (refine Goal.quiet rfl (Run.lookII 4 T.map_54 rfl rfl rfl) ?_)
        | (refine Goal.quiet rfl (Run.lookI 4 T.map_54 rfl rfl rfl) ?_)
        | (refine Goal.quiet rfl (Run.lookNone T.map_54 rfl rfl) ?_)
        | (refine Goal.loud rfl ?_; refine Loud.delI0 T.map_54 rfl rfl ?_)
        | (refine Goal.loud rfl ?_; refine Loud.delI1 T.map_54 rfl rfl ?_)
        | (refine Goal.loud rfl ?_; refine Loud.delI2 T.map_54 rfl rfl ?_)
        | (refine Goal.loud rfl ?_; refine Loud.delI3 T.map_54 rfl rfl ?_)
        | (refine Goal.loud rfl ?_; refine Loud.delI4 T.map_54 rfl rfl ?_)
        | (apply G.nilCheckP; exact rfl; exact rfl)
        | (apply G.makeFunc; exact rfl; exact rfl; exact rfl)
        | (refine G.indexAddr1 rfl T.slc_53 T.sz_60 rfl rfl _ rfl (by omega) ?_)
        | (refine G.indexAddr1 rfl T.slc_53 T.sz_60 rfl rfl _ (Int.toNat_of_nonneg (by omega)).symm (by omega) ?_)
        | (refine Goal.loud rfl ?_; refine Loud.store0 rfl rfl T.sz_60 rfl rfl rfl (by first | exact Nat.le_of_ble_eq_true rfl | exact Nat.le_refl _ | decide | (simp; omega)) rfl ?_)
        | (refine Goal.loud rfl ?_; refine Loud.store1 rfl rfl T.sz_60 rfl rfl rfl (by first | exact Nat.le_of_ble_eq_true rfl | exact Nat.le_refl _ | decide | (simp; omega)) rfl ?_)
        | (refine Goal.loud rfl ?_; refine Loud.store2 rfl rfl T.sz_60 rfl rfl rfl (by first | exact Nat.le_of_ble_eq_true rfl | exact Nat.le_refl _ | decide | (simp; omega)) rfl ?_)
        | (refine Goal.loud rfl ?_; refine Loud.store3 rfl rfl T.sz_60 rfl rfl rfl (by first | exact Nat.le_of_ble_eq_true rfl | exact Nat.le_refl _ | decide | (simp; omega)) rfl ?_)
        | (refine Goal.loud rfl ?_; refine Loud.store4 rfl rfl T.sz_60 rfl rfl rfl (by first | exact Nat.le_of_ble_eq_true rfl | exact Nat.le_refl _ | decide | (simp; omega)) rfl ?_)
        | (refine Goal.loud rfl ?_; refine Loud.store5 rfl rfl T.sz_60 rfl rfl rfl (by first | exact Nat.le_of_ble_eq_true rfl | exact Nat.le_refl _ | decide | (simp; omega)) rfl ?_)
        | (refine Goal.loud rfl ?_; refine Loud.store6 rfl rfl T.sz_60 rfl rfl rfl (by first | exact Nat.le_of_ble_eq_true rfl | exact Nat.le_refl _ | decide | (simp; omega)) rfl ?_)
        | (refine Goal.loud rfl ?_; refine Loud.store7 rfl rfl T.sz_60 rfl rfl rfl (by first | exact Nat.le_of_ble_eq_true rfl | exact Nat.le_refl _ | decide | (simp; omega)) rfl ?_))
      · have htl0 : tl = [] := List.length_eq_zero_iff.1 (by omega)
        skip
        repeat' (first
          | (refine Goal.loud (o := ⟨some 59, _, _, _, _, _⟩) rfl ?_; refine Loud.callM ([]) (G := []) (close_ok hE1 s e.time (by unfold gone; dsimp only; rw [List.length_set]; omega) (by unfold gone; dsimp only; rw [List.length_set]; omega) (by unfold gone; dsimp only; rw [hft]; rfl) hntp) rfl rfl rfl rfl T.bod_24 (fun _ h => by first | exact h | simpa only [List.append_eq, List.append_assoc, List.cons_append, List.nil_append, List.append_nil] using h) ?_; intro A3 h3)
          | (refine Goal.loud (o := ⟨some 3, _, _, _, _, _⟩) rfl ?_; first | refine Loud.boxA rfl rfl (fun b3 => ?_) | refine Loud.box1 rfl rfl rfl (fun b3 => ?_))
          | (apply G.move; exact rfl; exact rfl)
          | (apply G.assign; exact rfl; exact rfl)
          | refine Goal.seq (fun _ _ => ?_)
          | refine Goal.next (by assumption) ?_
          | refine Goal.lnil ?_
          | refine Goal.region ?_
          | refine Goal.skip ?_
          | refine Goal.block ?_
          | refine Goal.exit ?_
          | refine Goal.ret ?_
          | refine Goal.then_exit ?_
          | refine Goal.then_ret ?_
          | refine Goal.inBlock_exit ?_
          | refine Goal.inBlock_normal ?_
          | refine Goal.inBlock_ret ?_
          | refine Goal.inBlock_other rfl ?_
          | (apply Goal.condT; exact rfl)
          | (apply Goal.condF; exact rfl)
          | (refine Goal.condD rfl (fun hc => ?_) (fun hc => ?_) <;> first | (exfalso; omega) | contradiction | skip)
          | refine Goal.condB rfl (fun hc => ?_) (fun hc => ?_)
          | (apply G.fieldAddr; exact rfl; exact rfl; (first | exact T.fld_56_3 | exact T.fld_56_5 | exact T.fld_56_6))
          | (apply G.load; exact rfl; exact rfl; first | exact LoadOK.one (by first | exact T.one_3 | exact T.one_53 | exact T.one_54 | exact T.one_60) 0 rfl rfl | exact LoadOK.one (by first | exact T.one_3 | exact T.one_53 | exact T.one_54 | exact T.one_60) 1 rfl rfl | exact LoadOK.one (by first | exact T.one_3 | exact T.one_53 | exact T.one_54 | exact T.one_60) 2 rfl rfl | exact LoadOK.one (by first | exact T.one_3 | exact T.one_53 | exact T.one_54 | exact T.one_60) 3 rfl rfl | exact LoadOK.one (by first | exact T.one_3 | exact T.one_53 | exact T.one_54 | exact T.one_60) 4 rfl rfl | exact LoadOK.one (by first | exact T.one_3 | exact T.one_53 | exact T.one_54 | exact T.one_60) 5 rfl rfl | exact LoadOK.one (by first | exact T.one_3 | exact T.one_53 | exact T.one_54 | exact T.one_60) 6 rfl rfl | exact LoadOK.one (by first | exact T.one_3 | exact T.one_53 | exact T.one_54 | exact T.one_60) 7 rfl rfl)
          | (apply G.eql; exact rfl; exact rfl; exact rfl)
          | (refine Goal.quiet rfl (Run.eqlP T.ptr_24 rfl rfl rfl) ?_)
          | (apply G.notT; exact rfl; exact rfl)
          | (apply G.notF; exact rfl; exact rfl)
          | (refine G.notD rfl rfl ?_)
          | (apply G.notB; exact rfl; exact rfl)
          | (apply G.extract; exact rfl; exact rfl; exact rfl)
          | (apply G.len; exact rfl; exact rfl; exact T.slc_60)
          | (refine Goal.quiet rfl (Run.lookII 0 T.map_54 rfl rfl rfl) ?_)
          | (refine Goal.quiet rfl (Run.lookI 0 T.map_54 rfl rfl rfl) ?_)
          | (refine Goal.quiet rfl (Run.lookII 1 T.map_54 rfl rfl rfl) ?_)
          | (refine Goal.quiet rfl (Run.lookI 1 T.map_54 rfl rfl rfl) ?_)
          | (refine Goal.quiet rfl (Run.lookII 2 T.map_54 rfl rfl rfl) ?_)
          | (refine Goal.quiet rfl (Run.lookI 2 T.map_54 rfl rfl rfl) ?_)
          | (refine Goal.quiet rfl (Run.lookII 3 T.map_54 rfl rfl rfl) ?_)
          | (refine Goal.quiet rfl (Run.lookI 3 T.map_54 rfl rfl rfl) ?_)
          | (refine Goal.quiet rfl (Run.lookII 4 T.map_54 rfl rfl rfl) ?_)
          | (refine Goal.quiet rfl (Run.lookI 4 T.map_54 rfl rfl rfl) ?_)
          | (refine Goal.quiet rfl (Run.lookNone T.map_54 rfl rfl) ?_)
          | (refine Goal.loud rfl ?_; refine Loud.delI0 T.map_54 rfl rfl ?_)
          | (refine Goal.loud rfl ?_; refine Loud.delI1 T.map_54 rfl rfl ?_)
          | (refine Goal.loud rfl ?_; refine Loud.delI2 T.map_54 rfl rfl ?_)
          | (refine Goal.loud rfl ?_; refine Loud.delI3 T.map_54 rfl rfl ?_)
          | (refine Goal.loud rfl ?_; refine Loud.delI4 T.map_54 rfl rfl ?_)
          | (apply G.nilCheckP; exact rfl; exact rfl)
          | (apply G.makeFunc; exact rfl; exact rfl; exact rfl)
          | (refine G.indexAddr1 rfl T.slc_53 T.sz_60 rfl rfl _ rfl (by omega) ?_)
          | (refine G.indexAddr1 rfl T.slc_53 T.sz_60 rfl rfl _ (Int.toNat_of_nonneg (by omega)).symm (by omega) ?_)
          | (refine Goal.loud rfl ?_; refine Loud.store0 rfl rfl T.sz_60 rfl rfl rfl (by first | exact Nat.le_of_ble_eq_true rfl | exact Nat.le_refl _ | decide | (simp; omega)) rfl ?_)
          | (refine Goal.loud rfl ?_; refine Loud.store1 rfl rfl T.sz_60 rfl rfl rfl (by first | exact Nat.le_of_ble_eq_true rfl | exact Nat.le_refl _ | decide | (simp; omega)) rfl ?_)
          | (refine Goal.loud rfl ?_; refine Loud.store2 rfl rfl T.sz_60 rfl rfl rfl (by first | exact Nat.le_of_ble_eq_true rfl | exact Nat.le_refl _ | decide | (simp; omega)) rfl ?_)
          | (refine Goal.loud rfl ?_; refine Loud.store3 rfl rfl T.sz_60 rfl rfl rfl (by first | exact Nat.le_of_ble_eq_true rfl | exact Nat.le_refl _ | decide | (simp; omega)) rfl ?_)
          | (refine Goal.loud rfl ?_; refine Loud.store4 rfl rfl T.sz_60 rfl rfl rfl (by first | exact Nat.le_of_ble_eq_true rfl | exact Nat.le_refl _ | decide | (simp; omega)) rfl ?_)
          | (refine Goal.loud rfl ?_; refine Loud.store5 rfl rfl T.sz_60 rfl rfl rfl (by first | exact Nat.le_of_ble_eq_true rfl | exact Nat.le_refl _ | decide | (simp; omega)) rfl ?_)
          | (refine Goal.loud rfl ?_; refine Loud.store6 rfl rfl T.sz_60 rfl rfl rfl (by first | exact Nat.le_of_ble_eq_true rfl | exact Nat.le_refl _ | decide | (simp; omega)) rfl ?_)
          | (refine Goal.loud rfl ?_; refine Loud.store7 rfl rfl T.sz_60 rfl rfl rfl (by first | exact Nat.le_of_ble_eq_true rfl | exact Nat.le_refl _ | decide | (simp; omega)) rfl ?_))
        refine Goal.done (vs := [_]) (by first | exact .inl rfl | exact .inr rfl) Try.results14 ⟨rfl, trivial⟩ rfl (fun w' H => ⟨_, .inr ⟨closed (gone q s e.id q.now tl) s e.time, by rw [hwo]; exact closed_inv hRm hft (by rw [htl, htl0]), rfl, rfl, by rw [hwo]; exact hEs, h3⟩, by rw [hh]; rfl, by simpa only [List.append_eq, List.append_assoc, List.cons_append, List.nil_append, List.append_nil] using H⟩)
      · have htl0 : ¬ tl = [] := fun h => by subst h; simp at hc
        refine Goal.done (vs := [_]) (by first | exact .inl rfl | exact .inr rfl) Try.results14 ⟨rfl, trivial⟩ rfl (fun w' H => ⟨_, .inr ⟨gone q s e.id q.now tl, by rw [hwo]; exact kept_inv hRm (by rw [htl]; exact htl0), rfl, rfl, by rw [hwo]; exact hEs, hE1⟩, by rw [hh]; rfl, by simpa only [List.append_eq, List.append_assoc, List.cons_append, List.nil_append, List.append_nil] using H⟩)
end
end Go.Proofs.Ytcekjnfdgbeekaa
