/- The queue of events: Next. -/
import Derived.Test.YtcekjnfdgbeekaaEvQ
import Derived.Test.YtcekjnfdgbeekaaCore6
namespace Go.Proofs.Ytcekjnfdgbeekaa
open Go.Wf
set_option linter.unusedVariables false
theorem MapA.pos {l f n} (h : MapA l f n) {k : Int} (hk : (f k).isSome = true) : 0 < n := by
  rw [← h.len]
  cases l with
  | nil => rw [← h.get] at hk; cases hk
  | cons p r => simp
/-- The queue by its events, the present and the last identifier. -/
def QM (bq : Nat) (E : List Evt) (now last : Int) (A : List Blk) : Prop :=
  (E = [] ∧ now = 0 ∧ last = 0 ∧ A = [(bq, .cells #[.int .i64 0, .int .i64 0, .pointer none, .slice none 0 0, .slice none 0 0, .map none, .map none] 56)]) ∨ ∃ q, QInv E none q ∧ q.now = now ∧ q.last = last ∧ E.length ≤ 65536 ∧ EvM bq q A
theorem SlO.rest {b cp E : Nat} {a : Int × Int} {tl : List (Int × Int)} {st rs : List Value} (h1 : (Els pr (a :: tl)).length = (tl.length + 1) * 2) (h2 : (Els pr (a :: tl)).length + rs.length = cp * 2) (h3 : tl.length + 1 ≤ cp) :
    SlO (.slice (some ⟨b, if cp = 1 then st.length else st.length + 1 * 2, none⟩) (tl.length + 1 - 1) (cp - 1)) E 2 tl.length (Els pr tl) [(b, .cells (st ++ (Els pr (a :: tl) ++ rs)).toArray E)] := by
  by_cases h : cp = 1
  · subst h
    have : tl = [] := List.length_eq_zero_iff.1 (by omega)
    subst this
    rw [if_pos rfl]
    exact SlO.void
  · rw [if_neg h, Nat.add_sub_cancel]
    have e : Els pr (a :: tl) = pr a ++ Els pr tl := by simp [Els]
    rw [e] at h2 ⊢
    exact SlO.tail (v := .slice none 0 0) (n := tl.length) rfl (Els_len pr_len tl) h2 h3 (by omega)
theorem St.drop1 {w0 w : World} {S : List Nat} {p : Blk} {L : List Blk} (h : St w0 S w (p :: L)) : St w0 S w L := h.sub (List.sublist_cons_self _ _)
structure NQ where
  (k d : Int) (ok : Bool) (A : List Blk)
section
variable {bq : Nat} {q : Rep} {A : List Blk} {E : List Evt}
set_option maxHeartbeats 8000000 in
theorem next_ok (hA : EvM bq q A) (hQ : QInv E none q) (hE : E.length ≤ 65536) :
    MCalls Try.prog 12 [.pointer (some ⟨bq, 0, none⟩)] A
      (fun x : NQ => (x.ok = false ∧ x.k = 0 ∧ x.d = 0 ∧ E = [] ∧ QM bq E q.now q.last x.A) ∨ (x.ok = true ∧ ∃ E1 e E2, IsFirst E E1 e E2 ∧ x.k = e.time ∧ x.d = e.data ∧ QM bq (E1 ++ E2) e.time q.last x.A))
      (fun x => .tuple #[.int .i64 x.k, .int .i64 x.d, .bool x.ok]) (fun x => x.A) := .mk fun w hw => by
  refine Goal.enter (args := [.pointer (some ⟨bq, 0, none⟩)]) Try.func12 rfl Try.ntmps12 rfl (hw) ?_
  repeat' (first
    | (refine Goal.loud (o := ⟨some 11, _, _, _, _, _⟩) rfl ?_; refine Loud.callE ([]) (first_ok hA) rfl rfl rfl rfl T.bod_23 (fun _ h => h) ?_; rintro ⟨i, k, ok, A1⟩ ⟨hp, h1⟩; dsimp only at hp h1 ⊢)
    | (refine Goal.loud (o := ⟨some 6, _, _, _, _, _⟩) rfl ?_; refine Loud.allocA rfl T.inf_62 (fun b6 => ?_))
    | (apply G.move; exact rfl; exact rfl)
    | (apply G.assign; exact rfl; exact rfl)
    | refine Goal.seq (fun _ _ => ?_)
    | refine Goal.next (by assumption) ?_
    | refine Goal.lnil ?_
    | refine Goal.region ?_
    | refine Goal.skip ?_
    | refine Goal.block ?_
    | refine Goal.exit ?_
    | refine Goal.ret ?_
    | refine Goal.then_exit ?_
    | refine Goal.then_ret ?_
    | refine Goal.inBlock_exit ?_
    | refine Goal.inBlock_normal ?_
    | refine Goal.inBlock_ret ?_
    | refine Goal.inBlock_other rfl ?_
    | (apply Goal.condT; exact rfl)
    | (apply Goal.condF; exact rfl)
    | (refine Goal.condD rfl (fun hc => ?_) (fun hc => ?_) <;> first | (exfalso; omega) | contradiction | skip)
    | refine Goal.condB rfl (fun hc => ?_) (fun hc => ?_)
    | (apply G.fieldAddr; exact rfl; exact rfl; (first | exact T.fld_56_0 | exact T.fld_56_3 | exact T.fld_56_6 | exact T.fld_62_0 | exact T.fld_62_1))
    | (apply G.load; exact rfl; exact rfl; first | exact LoadOK.one (by first | exact T.one_3 | exact T.one_53 | exact T.one_54 | exact T.one_60) 0 rfl rfl | exact LoadOK.one (by first | exact T.one_3 | exact T.one_53 | exact T.one_54 | exact T.one_60) 1 rfl rfl | exact LoadOK.one (by first | exact T.one_3 | exact T.one_53 | exact T.one_54 | exact T.one_60) 2 rfl rfl | exact LoadOK.one (by first | exact T.one_3 | exact T.one_53 | exact T.one_54 | exact T.one_60) 3 rfl rfl | exact LoadOK.one (by first | exact T.one_3 | exact T.one_53 | exact T.one_54 | exact T.one_60) 4 rfl rfl | exact LoadOK.one (by first | exact T.one_3 | exact T.one_53 | exact T.one_54 | exact T.one_60) 5 rfl rfl | exact LoadOK.one (by first | exact T.one_3 | exact T.one_53 | exact T.one_54 | exact T.one_60) 6 rfl rfl | exact LoadOK.one (by first | exact T.one_3 | exact T.one_53 | exact T.one_54 | exact T.one_60) 7 rfl rfl | exact LoadOK.agg (vs := [_, _]) T.agg_62 0 rfl rfl ⟨rfl, rfl, trivial⟩ | exact LoadOK.agg (vs := [_, _]) T.agg_62 1 rfl rfl ⟨rfl, rfl, trivial⟩ | exact LoadOK.agg (vs := [_, _]) T.agg_62 2 rfl rfl ⟨rfl, rfl, trivial⟩ | exact LoadOK.agg (vs := [_, _]) T.agg_62 3 rfl rfl ⟨rfl, rfl, trivial⟩ | exact LoadOK.agg (vs := [_, _]) T.agg_62 4 rfl rfl ⟨rfl, rfl, trivial⟩ | exact LoadOK.agg (vs := [_, _]) T.agg_62 5 rfl rfl ⟨rfl, rfl, trivial⟩ | exact LoadOK.agg (vs := [_, _]) T.agg_62 6 rfl rfl ⟨rfl, rfl, trivial⟩ | exact LoadOK.agg (vs := [_, _]) T.agg_62 7 rfl rfl ⟨rfl, rfl, trivial⟩)
    | (apply G.eql; exact rfl; exact rfl; exact rfl)
    | (refine Goal.quiet rfl (Run.eqlP T.ptr_24 rfl rfl rfl) ?_)
    | (apply G.notT; exact rfl; exact rfl)
    | (apply G.notF; exact rfl; exact rfl)
    | (refine G.notD rfl rfl ?_)
    | (apply G.notB; exact rfl; exact rfl)
    | (apply G.extract; exact rfl; exact rfl; exact rfl)
    | (apply G.len; exact rfl; exact rfl; exact T.slc_60)
    | (refine Goal.loud rfl ?_; refine Loud.delI0 T.map_54 rfl rfl ?_)
    | (refine Goal.loud rfl ?_; refine Loud.delI1 T.map_54 rfl rfl ?_)
    | (refine Goal.loud rfl ?_; refine Loud.delI2 T.map_54 rfl rfl ?_)
    | (refine Goal.loud rfl ?_; refine Loud.delI3 T.map_54 rfl rfl ?_)
    | (refine Goal.loud rfl ?_; refine Loud.delI4 T.map_54 rfl rfl ?_)
    | (apply G.nilCheckP; exact rfl; exact rfl)
    | (refine Goal.quiet rfl (Run.sliceH T.slc_60 T.sz_62 rfl rfl _ rfl (by omega)) ?_)
    | (refine Goal.quiet rfl (Run.sliceH T.slc_60 T.sz_62 rfl rfl _ (Int.toNat_of_nonneg (by omega)).symm (by omega)) ?_)
    | (refine Goal.quiet rfl (Run.sliceL T.slc_60 T.sz_62 rfl rfl 1 rfl (by omega)) ?_)
    | (refine Goal.quiet rfl (Run.sliceL T.slc_60 T.sz_62 rfl rfl _ (Int.toNat_of_nonneg (by omega)).symm (by omega)) ?_)
    | (refine G.indexAddr1 rfl (by first | exact T.slc_53 | exact T.slc_60) T.sz_60 rfl rfl _ rfl (by omega) ?_)
    | (refine G.indexAddr1 rfl (by first | exact T.slc_53 | exact T.slc_60) T.sz_60 rfl rfl _ (Int.toNat_of_nonneg (by omega)).symm (by omega) ?_)
    | (refine G.indexAddr rfl (by first | exact T.slc_53 | exact T.slc_60) T.sz_62 rfl rfl _ rfl (by omega) ?_)
    | (refine G.indexAddr rfl (by first | exact T.slc_53 | exact T.slc_60) T.sz_62 rfl rfl _ (Int.toNat_of_nonneg (by omega)).symm (by omega) ?_)
    | (refine Goal.loud rfl ?_; refine Loud.store0 rfl rfl (by first | exact T.sz_3 | exact T.sz_60 | exact T.sz_62) rfl rfl rfl (by first | exact Nat.le_of_ble_eq_true rfl | exact Nat.le_refl _ | decide | (simp; omega)) rfl ?_)
    | (refine Goal.loud rfl ?_; refine Loud.store1 rfl rfl (by first | exact T.sz_3 | exact T.sz_60 | exact T.sz_62) rfl rfl rfl (by first | exact Nat.le_of_ble_eq_true rfl | exact Nat.le_refl _ | decide | (simp; omega)) rfl ?_)
    | (refine Goal.loud rfl ?_; refine Loud.store2 rfl rfl (by first | exact T.sz_3 | exact T.sz_60 | exact T.sz_62) rfl rfl rfl (by first | exact Nat.le_of_ble_eq_true rfl | exact Nat.le_refl _ | decide | (simp; omega)) rfl ?_)
    | (refine Goal.loud rfl ?_; refine Loud.store3 rfl rfl (by first | exact T.sz_3 | exact T.sz_60 | exact T.sz_62) rfl rfl rfl (by first | exact Nat.le_of_ble_eq_true rfl | exact Nat.le_refl _ | decide | (simp; omega)) rfl ?_)
    | (refine Goal.loud rfl ?_; refine Loud.store4 rfl rfl (by first | exact T.sz_3 | exact T.sz_60 | exact T.sz_62) rfl rfl rfl (by first | exact Nat.le_of_ble_eq_true rfl | exact Nat.le_refl _ | decide | (simp; omega)) rfl ?_)
    | (refine Goal.loud rfl ?_; refine Loud.store5 rfl rfl (by first | exact T.sz_3 | exact T.sz_60 | exact T.sz_62) rfl rfl rfl (by first | exact Nat.le_of_ble_eq_true rfl | exact Nat.le_refl _ | decide | (simp; omega)) rfl ?_)
    | (refine Goal.loud rfl ?_; refine Loud.store6 rfl rfl (by first | exact T.sz_3 | exact T.sz_60 | exact T.sz_62) rfl rfl rfl (by first | exact Nat.le_of_ble_eq_true rfl | exact Nat.le_refl _ | decide | (simp; omega)) rfl ?_)
    | (refine Goal.loud rfl ?_; refine Loud.store7 rfl rfl (by first | exact T.sz_3 | exact T.sz_60 | exact T.sz_62) rfl rfl rfl (by first | exact Nat.le_of_ble_eq_true rfl | exact Nat.le_refl _ | decide | (simp; omega)) rfl ?_))
  · rcases hp with ⟨h0, hk, hi0, hno⟩ | ⟨h0, _⟩
    · refine Goal.done (vs := [_, _, _]) (by first | exact .inl rfl | exact .inr rfl) Try.results12 ⟨rfl, rfl, rfl, trivial⟩ rfl (fun w' H => ⟨⟨0, 0, false, A1⟩, .inl ⟨rfl, rfl, rfl, hQ.empty hno, .inr ⟨q, hQ, rfl, rfl, hE, h1⟩⟩, rfl, H⟩)
    · rw [h0] at hc; cases hc
  · obtain rfl : ok = true := by cases ok <;> simp_all
    obtain ⟨E1, e, E2, hF, rfl, hft, hsl0⟩ := hQ.first hp
    obtain rfl := hF.eq
    obtain ⟨i0, i1, hlsi, _, hm⟩ := hQ.slot _ _ hft
    obtain ⟨bt, bi, ct, ci, bh, bk, bp, mt, mi, vL, vU, vs, AO, AU, AI, AH, rfl, hL, hU, hI, hH, hT, hD⟩ := h1
    obtain ⟨bo, rest, cap, rfl, rfl, g1, g2, g3⟩ := hL.pos (by omega)
    obtain ⟨aU, cU, rfl⟩ := hU.shape
    obtain ⟨v, B1, Ai, B2, hv, rfl, hsl, hre⟩ := hI.split (i := i.toNat) (by omega)
    have hvl := hI.len
    have hul := hQ.un_len
    have hll0 := hQ.len
    have hgd : q.ls.getD i.toNat [] = q.ls[i.toNat]'(by omega) := by rw [List.getD_eq_getElem?_getD, List.getElem?_eq_getElem (by omega)]; rfl
    rw [← hgd, hlsi, hsl0] at hsl
    have hlen := slotOf_len (E1 ++ E2) e.time
    have hEl : (E1 ++ E2).length + 1 = (E1 ++ e :: E2).length := by simp; omega
    have hRm := removed_inv hQ hft e.time
    have hntp := hT.pos (k := e.time) (by rw [hft]; rfl)
    have hfi : (q.fi e.id).isSome = true := by rw [hQ.fi, Option.isSome_map, List.find?_isSome]; exact ⟨e, by simp, by simp⟩
    have hnip := hD.pos hfi
    generalize htl : slotOf (E1 ++ E2) e.time = tl at hsl hlen hsl0 hRm
    obtain ⟨bs, st, rs, cp, rfl, rfl, s1, s2, s3⟩ := hsl.pos (by simp)
    have hsl2 := SlO.rest (b := bs) (E := 62) (st := st) s1 s2 s3
    have hI2 := hre _ tl _ hsl2
    have hv2 : (vs ++ rest)[0 + i.toNat]? = some (.slice (some ⟨bs, st.length, none⟩) (tl.length + 1) cp) := by rw [Nat.zero_add, List.getElem?_append_left (by omega)]; exact hv
    have hv3 : ∀ x : Value, (vs.set i.toNat x ++ rest)[0 + i.toNat]? = some x := fun x => by
      rw [Nat.zero_add, List.getElem?_append_left (by rw [List.length_set]; omega), List.getElem?_set_self (by omega)]
    have hE1 : EvM bq { q with ls := q.ls.set i.toNat tl } ((bq, Obj.cells #[.int .i64 q.now, .int .i64 q.last, .pointer (some ⟨bh, 0, none⟩), .slice (some ⟨bo, 0, none⟩) q.ls.length cap, .slice aU q.un.length cU, .map (some bt), .map (some bi)] 56) :: (bt, mobj mt ct) :: (bi, mobj mi ci) :: ([(bo, Obj.cells (vs.set i.toNat (.slice (some ⟨bs, if cp = 1 then st.length else st.length + 1 * 2, none⟩) (tl.length + 1 - 1) (cp - 1)) ++ rest).toArray 60)] ++ (AU ++ ((B1 ++ ([(bs, Obj.cells (st ++ (Els pr ((e.id, e.data) :: tl) ++ rs)).toArray 62)] ++ B2)) ++ AH)))) :=
      ⟨bt, bi, ct, ci, bh, bk, bp, mt, mi, _, _, _, _, AU, _, AH, rfl, by dsimp only; rw [List.length_set]; exact Sl.mk (by rw [List.length_set]; exact g1) (by rw [List.length_set]; exact g2) g3, hU, hI2, hH, hT, hD⟩
    refine Goal.subL (L' := ((bq, Obj.cells #[.int .i64 q.now, .int .i64 q.last, .pointer (some ⟨bh, 0, none⟩), .slice (some ⟨bo, 0, none⟩) q.ls.length cap, .slice aU q.un.length cU, .map (some bt), .map (some bi)] 56) :: (bt, mobj mt ct) :: (bi, mobj mi ci) :: (bo, Obj.cells (vs ++ rest).toArray 60) :: (AU ++ B1)) ++ ([(bs, Obj.cells (st ++ (Els pr ((e.id, e.data) :: tl) ++ rs)).toArray 62)] ++ (B2 ++ AH))) (fun _ h => by simpa [List.append_assoc] using h) ?_
    repeat' (first
      | (refine Goal.drawAll (id := 7) 14 T.mixed ?_; all_goals ((refine Goal.takeP (listed' := #[true, false, false, false, false, false, false, false, false, false, false, false, false, false, false]) 0 ⟨rfl, by kernel_rfl, by kernel_rfl, by kernel_rfl, by kernel_rfl⟩ rfl (fun _ _ _ _ h => h) (by intro _; exact Run.move rfl) ?_)); all_goals ((refine Goal.takeP (listed' := #[true, true, false, false, false, false, false, false, false, false, false, false, false, false, false]) 1 ⟨rfl, by kernel_rfl, by kernel_rfl, by kernel_rfl, by kernel_rfl⟩ rfl (fun _ _ _ _ h => h) (by intro _; exact Run.nilCheckP rfl) ?_)); all_goals ((refine Goal.takeP (listed' := #[true, true, true, false, false, false, false, false, false, false, false, false, false, false, false]) 2 ⟨rfl, by kernel_rfl, by kernel_rfl, by kernel_rfl, by kernel_rfl⟩ rfl (fun _ _ _ _ h => h) (by intro _; exact Run.fieldAddr T.fld_56_3 rfl) ?_)); all_goals ((refine Goal.takeP (listed' := #[true, true, true, false, true, false, false, false, false, false, false, false, false, false, false]) 4 ⟨rfl, by kernel_rfl, by kernel_rfl, by kernel_rfl, by kernel_rfl⟩ rfl (fun _ _ _ _ h => h) (by intro _; exact Run.move rfl) ?_)); all_goals ((refine Goal.takeP (listed' := #[true, true, true, false, true, true, false, false, false, false, false, false, false, false, false]) 5 ⟨rfl, by kernel_rfl, by kernel_rfl, by kernel_rfl, by kernel_rfl⟩ rfl (fun _ _ _ _ h => h) (by intro _; exact Run.move rfl) ?_)); all_goals ((refine Goal.takeP (listed' := #[true, true, true, false, true, true, true, false, false, false, false, false, false, false, false]) 6 ⟨rfl, by kernel_rfl, by kernel_rfl, by kernel_rfl, by kernel_rfl⟩ rfl (fun _ _ _ _ h => h) (by intro _; exact Run.nilCheckP rfl) ?_)); all_goals ((refine Goal.takeP (listed' := #[true, true, true, false, true, true, true, true, false, false, false, false, false, false, false]) 7 ⟨rfl, by kernel_rfl, by kernel_rfl, by kernel_rfl, by kernel_rfl⟩ rfl (fun _ _ _ _ h => h) (by intro _; exact Run.fieldAddr T.fld_56_3 rfl) ?_)); all_goals ((refine Goal.takeP (listed' := #[true, true, true, false, true, true, true, true, false, true, false, false, false, false, false]) 9 ⟨rfl, by kernel_rfl, by kernel_rfl, by kernel_rfl, by kernel_rfl⟩ rfl (fun _ _ _ _ h => h) (by intro _; exact Run.move rfl) ?_)); all_goals ((refine Goal.take (listed' := #[true, true, true, true, true, true, true, true, false, true, false, false, false, false, false]) 3 ⟨rfl, by kernel_rfl, by kernel_rfl, by kernel_rfl, by kernel_rfl, by kernel_rfl⟩ rfl (by (first | exact fun _ h => h | exact fun _ h => h.sub (.cons _ (.refl _)) | exact fun _ h => h.sub (.cons _ (.cons _ (.refl _))) | exact fun _ h => h.sub (.cons _ (.cons _ (.cons _ (.refl _)))) | exact fun _ h => h.drop | exact fun _ h => h.sub (List.sublist_append_left _ _) | exact fun _ h => by simpa only [List.append_eq, List.append_assoc, List.cons_append, List.nil_append, List.append_nil] using h)) (fun _ _ _ _ h => h) (by (apply Run.load; exact rfl; first | exact LoadOK.one T.one_60 3 rfl hv2 | exact LoadOK.one T.one_60 4 rfl hv2 | exact LoadOK.sl0 (b := bs) (f := pr) (a := (e.id, e.data)) (r := tl) (st := st) (rest := rs) (E := 62) T.agg_62 pr_len (by simp) | exact LoadOK.one T.one_60 4 rfl (hv3 _) | exact LoadOK.one T.one_53 0 rfl rfl | exact LoadOK.one T.one_53 1 rfl rfl | exact LoadOK.one T.one_53 2 rfl rfl | exact LoadOK.one T.one_53 3 rfl rfl | exact LoadOK.one T.one_53 4 rfl rfl | exact LoadOK.one T.one_53 5 rfl rfl | exact LoadOK.one T.one_53 6 rfl rfl | exact LoadOK.one T.one_53 7 rfl rfl)) ?_)); all_goals ((refine Goal.take (listed' := #[true, true, true, true, true, true, true, true, true, true, false, false, false, false, false]) 8 ⟨rfl, by kernel_rfl, by kernel_rfl, by kernel_rfl, by kernel_rfl, by kernel_rfl⟩ rfl (by (first | exact fun _ h => h | exact fun _ h => h.sub (.cons _ (.refl _)) | exact fun _ h => h.sub (.cons _ (.cons _ (.refl _))) | exact fun _ h => h.sub (.cons _ (.cons _ (.cons _ (.refl _)))) | exact fun _ h => h.drop | exact fun _ h => h.sub (List.sublist_append_left _ _) | exact fun _ h => by simpa only [List.append_eq, List.append_assoc, List.cons_append, List.nil_append, List.append_nil] using h)) (fun _ _ _ _ h => h) (by (apply Run.load; exact rfl; first | exact LoadOK.one T.one_60 3 rfl hv2 | exact LoadOK.one T.one_60 4 rfl hv2 | exact LoadOK.sl0 (b := bs) (f := pr) (a := (e.id, e.data)) (r := tl) (st := st) (rest := rs) (E := 62) T.agg_62 pr_len (by simp) | exact LoadOK.one T.one_60 4 rfl (hv3 _) | exact LoadOK.one T.one_53 0 rfl rfl | exact LoadOK.one T.one_53 1 rfl rfl | exact LoadOK.one T.one_53 2 rfl rfl | exact LoadOK.one T.one_53 3 rfl rfl | exact LoadOK.one T.one_53 4 rfl rfl | exact LoadOK.one T.one_53 5 rfl rfl | exact LoadOK.one T.one_53 6 rfl rfl | exact LoadOK.one T.one_53 7 rfl rfl)) ?_)); all_goals ((refine Goal.takeP (listed' := #[true, true, true, true, true, true, true, true, true, true, true, false, false, false, false]) 10 ⟨rfl, by kernel_rfl, by kernel_rfl, by kernel_rfl, by kernel_rfl⟩ rfl (fun _ _ _ _ h => h) (by intro _; first | exact Run.indexAddr1 T.slc_53 T.sz_60 rfl rfl rfl (by omega) | exact Run.indexAddr1 T.slc_53 T.sz_60 rfl rfl (Int.toNat_of_nonneg (by omega)).symm (by omega)) ?_)); all_goals ((refine Goal.take (listed' := #[true, true, true, true, true, true, true, true, true, true, true, true, false, false, false]) 11 ⟨rfl, by kernel_rfl, by kernel_rfl, by kernel_rfl, by kernel_rfl, by kernel_rfl⟩ rfl (by (first | exact fun _ h => h | exact fun _ h => h.sub (.cons _ (.refl _)) | exact fun _ h => h.sub (.cons _ (.cons _ (.refl _))) | exact fun _ h => h.sub (.cons _ (.cons _ (.cons _ (.refl _)))) | exact fun _ h => h.drop | exact fun _ h => h.sub (List.sublist_append_left _ _) | exact fun _ h => by simpa only [List.append_eq, List.append_assoc, List.cons_append, List.nil_append, List.append_nil] using h)) (fun _ _ _ _ h => h) (by (apply Run.load; exact rfl; first | exact LoadOK.one T.one_60 3 rfl hv2 | exact LoadOK.one T.one_60 4 rfl hv2 | exact LoadOK.sl0 (b := bs) (f := pr) (a := (e.id, e.data)) (r := tl) (st := st) (rest := rs) (E := 62) T.agg_62 pr_len (by simp) | exact LoadOK.one T.one_60 4 rfl (hv3 _) | exact LoadOK.one T.one_60 0 rfl rfl | exact LoadOK.one T.one_60 1 rfl rfl | exact LoadOK.one T.one_60 2 rfl rfl | exact LoadOK.one T.one_60 3 rfl rfl | exact LoadOK.one T.one_60 4 rfl rfl | exact LoadOK.one T.one_60 5 rfl rfl | exact LoadOK.one T.one_60 6 rfl rfl | exact LoadOK.one T.one_60 7 rfl rfl)) ?_)); all_goals ((refine Goal.takeP (listed' := #[true, true, true, true, true, true, true, true, true, true, true, true, true, false, false]) 12 ⟨rfl, by kernel_rfl, by kernel_rfl, by kernel_rfl, by kernel_rfl⟩ rfl (fun _ _ _ _ h => h) (by intro _; first | exact Run.sliceL T.slc_60 T.sz_62 rfl rfl 1 rfl (by omega) | exact Run.sliceL T.slc_60 T.sz_62 rfl rfl _ (Int.toNat_of_nonneg (by omega)).symm (by omega)) ?_)); all_goals ((refine Goal.takeP (listed' := #[true, true, true, true, true, true, true, true, true, true, true, true, true, true, false]) 13 ⟨rfl, by kernel_rfl, by kernel_rfl, by kernel_rfl, by kernel_rfl⟩ rfl (fun _ _ _ _ h => h) (by intro _; first | exact Run.indexAddr1 T.slc_53 T.sz_60 rfl rfl rfl (by omega) | exact Run.indexAddr1 T.slc_53 T.sz_60 rfl rfl (Int.toNat_of_nonneg (by omega)).symm (by omega)) ?_)); all_goals (refine Goal.ready1 (i := 14) (by kernel_rfl) ?_); all_goals ((refine Goal.up (i := 14) (listed' := #[true, true, true, true, true, true, true, true, true, true, true, true, true, true, true]) rfl (by kernel_rfl) ?_; (first | refine Loud.store4 rfl rfl T.sz_60 rfl rfl rfl (by rw [List.size_toArray, List.length_append]; omega) (wr_valsR (by omega)) ?_ | refine Loud.store0 rfl rfl T.sz_60 rfl rfl rfl (by first | exact Nat.le_of_ble_eq_true rfl | exact Nat.le_refl _ | decide | (simp; omega)) rfl ?_ | refine Loud.store1 rfl rfl T.sz_60 rfl rfl rfl (by first | exact Nat.le_of_ble_eq_true rfl | exact Nat.le_refl _ | decide | (simp; omega)) rfl ?_ | refine Loud.store2 rfl rfl T.sz_60 rfl rfl rfl (by first | exact Nat.le_of_ble_eq_true rfl | exact Nat.le_refl _ | decide | (simp; omega)) rfl ?_ | refine Loud.store3 rfl rfl T.sz_60 rfl rfl rfl (by first | exact Nat.le_of_ble_eq_true rfl | exact Nat.le_refl _ | decide | (simp; omega)) rfl ?_ | refine Loud.store4 rfl rfl T.sz_60 rfl rfl rfl (by first | exact Nat.le_of_ble_eq_true rfl | exact Nat.le_refl _ | decide | (simp; omega)) rfl ?_ | refine Loud.store5 rfl rfl T.sz_60 rfl rfl rfl (by first | exact Nat.le_of_ble_eq_true rfl | exact Nat.le_refl _ | decide | (simp; omega)) rfl ?_ | refine Loud.store6 rfl rfl T.sz_60 rfl rfl rfl (by first | exact Nat.le_of_ble_eq_true rfl | exact Nat.le_refl _ | decide | (simp; omega)) rfl ?_ | refine Loud.store7 rfl rfl T.sz_60 rfl rfl rfl (by first | exact Nat.le_of_ble_eq_true rfl | exact Nat.le_refl _ | decide | (simp; omega)) rfl ?_); first | refine Goal.tail rfl ?_ | refine Goal.kept (by (first | exact fun _ h => h | exact fun _ h => h.sub (.cons _ (.refl _)) | exact fun _ h => h.sub (.cons _ (.cons _ (.refl _))) | exact fun _ h => h.sub (.cons _ (.cons _ (.cons _ (.refl _)))) | exact fun _ h => h.drop | exact fun _ h => h.sub (List.sublist_append_left _ _) | exact fun _ h => by simpa only [List.append_eq, List.append_assoc, List.cons_append, List.nil_append, List.append_nil] using h)) ?_)); all_goals (refine Goal.allUp (by kernel_rfl) ?_))
      | (refine Goal.loud (o := ⟨some 6, _, _, _, _, _⟩) rfl ?_; refine Loud.allocA rfl T.inf_62 (fun b6 => ?_))
      | (refine Goal.cut (x := Code.seq (Code.region 8 _ _) _) (X := List Blk) (fun _ => [(0, .pointer (some ⟨bq, 0, none⟩)), (2, .int .i64 e.time), (6, .pointer (some ⟨b6, 0, none⟩))]) (fun z => (b6, .cells #[.int .i64 e.id, .int .i64 e.data] 62) :: z) (fun z => EvM bq (if tl = [] then closed { q with ls := q.ls.set i.toNat tl } i e.time else { q with ls := q.ls.set i.toNat tl }) z) ?_ ?_; intro K hk)
      | (apply G.move; exact rfl; exact rfl)
      | (apply G.assign; exact rfl; exact rfl)
      | refine Goal.seq (fun _ _ => ?_)
      | refine Goal.next (by assumption) ?_
      | refine Goal.lnil ?_
      | refine Goal.region ?_
      | refine Goal.skip ?_
      | refine Goal.block ?_
      | refine Goal.exit ?_
      | refine Goal.ret ?_
      | refine Goal.then_exit ?_
      | refine Goal.then_ret ?_
      | refine Goal.inBlock_exit ?_
      | refine Goal.inBlock_normal ?_
      | refine Goal.inBlock_ret ?_
      | refine Goal.inBlock_other rfl ?_
      | (apply Goal.condT; exact rfl)
      | (apply Goal.condF; exact rfl)
      | (refine Goal.condD rfl (fun hc => ?_) (fun hc => ?_) <;> first | (exfalso; omega) | contradiction | skip)
      | refine Goal.condB rfl (fun hc => ?_) (fun hc => ?_)
      | (apply G.fieldAddr; exact rfl; exact rfl; (first | exact T.fld_56_0 | exact T.fld_56_3 | exact T.fld_56_6 | exact T.fld_62_0 | exact T.fld_62_1))
      | (apply G.load; exact rfl; exact rfl; first | exact LoadOK.one T.one_60 3 rfl hv2 | exact LoadOK.one T.one_60 4 rfl hv2 | exact LoadOK.sl0 (b := bs) (f := pr) (a := (e.id, e.data)) (r := tl) (st := st) (rest := rs) (E := 62) T.agg_62 pr_len (by simp) | exact LoadOK.one T.one_60 4 rfl (hv3 _) | exact LoadOK.one (by first | exact T.one_3 | exact T.one_53 | exact T.one_54 | exact T.one_60) 0 rfl rfl | exact LoadOK.one (by first | exact T.one_3 | exact T.one_53 | exact T.one_54 | exact T.one_60) 1 rfl rfl | exact LoadOK.one (by first | exact T.one_3 | exact T.one_53 | exact T.one_54 | exact T.one_60) 2 rfl rfl | exact LoadOK.one (by first | exact T.one_3 | exact T.one_53 | exact T.one_54 | exact T.one_60) 3 rfl rfl | exact LoadOK.one (by first | exact T.one_3 | exact T.one_53 | exact T.one_54 | exact T.one_60) 4 rfl rfl | exact LoadOK.one (by first | exact T.one_3 | exact T.one_53 | exact T.one_54 | exact T.one_60) 5 rfl rfl | exact LoadOK.one (by first | exact T.one_3 | exact T.one_53 | exact T.one_54 | exact T.one_60) 6 rfl rfl | exact LoadOK.one (by first | exact T.one_3 | exact T.one_53 | exact T.one_54 | exact T.one_60) 7 rfl rfl | exact LoadOK.agg (vs := [_, _]) T.agg_62 0 rfl rfl ⟨rfl, rfl, trivial⟩ | exact LoadOK.agg (vs := [_, _]) T.agg_62 1 rfl rfl ⟨rfl, rfl, trivial⟩ | exact LoadOK.agg (vs := [_, _]) T.agg_62 2 rfl rfl ⟨rfl, rfl, trivial⟩ | exact LoadOK.agg (vs := [_, _]) T.agg_62 3 rfl rfl ⟨rfl, rfl, trivial⟩ | exact LoadOK.agg (vs := [_, _]) T.agg_62 4 rfl rfl ⟨rfl, rfl, trivial⟩ | exact LoadOK.agg (vs := [_, _]) T.agg_62 5 rfl rfl ⟨rfl, rfl, trivial⟩ | exact LoadOK.agg (vs := [_, _]) T.agg_62 6 rfl rfl ⟨rfl, rfl, trivial⟩ | exact LoadOK.agg (vs := [_, _]) T.agg_62 7 rfl rfl ⟨rfl, rfl, trivial⟩)
      | (apply G.eql; exact rfl; exact rfl; exact rfl)
      | (refine Goal.quiet rfl (Run.eqlP T.ptr_24 rfl rfl rfl) ?_)
      | (apply G.notT; exact rfl; exact rfl)
      | (apply G.notF; exact rfl; exact rfl)
      | (refine G.notD rfl rfl ?_)
      | (apply G.notB; exact rfl; exact rfl)
      | (apply G.extract; exact rfl; exact rfl; exact rfl)
      | (apply G.len; exact rfl; exact rfl; exact T.slc_60)
      | (refine Goal.loud rfl ?_; refine Loud.delI0 T.map_54 rfl rfl ?_)
      | (refine Goal.loud rfl ?_; refine Loud.delI1 T.map_54 rfl rfl ?_)
      | (refine Goal.loud rfl ?_; refine Loud.delI2 T.map_54 rfl rfl ?_)
      | (refine Goal.loud rfl ?_; refine Loud.delI3 T.map_54 rfl rfl ?_)
      | (refine Goal.loud rfl ?_; refine Loud.delI4 T.map_54 rfl rfl ?_)
      | (apply G.nilCheckP; exact rfl; exact rfl)
      | (refine Goal.quiet rfl (Run.sliceH T.slc_60 T.sz_62 rfl rfl _ rfl (by omega)) ?_)
      | (refine Goal.quiet rfl (Run.sliceH T.slc_60 T.sz_62 rfl rfl _ (Int.toNat_of_nonneg (by omega)).symm (by omega)) ?_)
      | (refine Goal.quiet rfl (Run.sliceL T.slc_60 T.sz_62 rfl rfl 1 rfl (by omega)) ?_)
      | (refine Goal.quiet rfl (Run.sliceL T.slc_60 T.sz_62 rfl rfl _ (Int.toNat_of_nonneg (by omega)).symm (by omega)) ?_)
      | (refine G.indexAddr1 rfl (by first | exact T.slc_53 | exact T.slc_60) T.sz_60 rfl rfl _ rfl (by omega) ?_)
      | (refine G.indexAddr1 rfl (by first | exact T.slc_53 | exact T.slc_60) T.sz_60 rfl rfl _ (Int.toNat_of_nonneg (by omega)).symm (by omega) ?_)
      | (refine G.indexAddr rfl (by first | exact T.slc_53 | exact T.slc_60) T.sz_62 rfl rfl _ rfl (by omega) ?_)
      | (refine G.indexAddr rfl (by first | exact T.slc_53 | exact T.slc_60) T.sz_62 rfl rfl _ (Int.toNat_of_nonneg (by omega)).symm (by omega) ?_)
      | (refine Goal.loud rfl ?_; refine Loud.store4 rfl rfl T.sz_60 rfl rfl rfl (by rw [List.size_toArray, List.length_append]; omega) (wr_valsR (by omega)) ?_)
      | (refine Goal.loud rfl ?_; refine Loud.store0 rfl rfl (by first | exact T.sz_3 | exact T.sz_60 | exact T.sz_62) rfl rfl rfl (by first | exact Nat.le_of_ble_eq_true rfl | exact Nat.le_refl _ | decide | (simp; omega)) rfl ?_)
      | (refine Goal.loud rfl ?_; refine Loud.store1 rfl rfl (by first | exact T.sz_3 | exact T.sz_60 | exact T.sz_62) rfl rfl rfl (by first | exact Nat.le_of_ble_eq_true rfl | exact Nat.le_refl _ | decide | (simp; omega)) rfl ?_)
      | (refine Goal.loud rfl ?_; refine Loud.store2 rfl rfl (by first | exact T.sz_3 | exact T.sz_60 | exact T.sz_62) rfl rfl rfl (by first | exact Nat.le_of_ble_eq_true rfl | exact Nat.le_refl _ | decide | (simp; omega)) rfl ?_)
      | (refine Goal.loud rfl ?_; refine Loud.store3 rfl rfl (by first | exact T.sz_3 | exact T.sz_60 | exact T.sz_62) rfl rfl rfl (by first | exact Nat.le_of_ble_eq_true rfl | exact Nat.le_refl _ | decide | (simp; omega)) rfl ?_)
      | (refine Goal.loud rfl ?_; refine Loud.store4 rfl rfl (by first | exact T.sz_3 | exact T.sz_60 | exact T.sz_62) rfl rfl rfl (by first | exact Nat.le_of_ble_eq_true rfl | exact Nat.le_refl _ | decide | (simp; omega)) rfl ?_)
      | (refine Goal.loud rfl ?_; refine Loud.store5 rfl rfl (by first | exact T.sz_3 | exact T.sz_60 | exact T.sz_62) rfl rfl rfl (by first | exact Nat.le_of_ble_eq_true rfl | exact Nat.le_refl _ | decide | (simp; omega)) rfl ?_)
      | (refine Goal.loud rfl ?_; refine Loud.store6 rfl rfl (by first | exact T.sz_3 | exact T.sz_60 | exact T.sz_62) rfl rfl rfl (by first | exact Nat.le_of_ble_eq_true rfl | exact Nat.le_refl _ | decide | (simp; omega)) rfl ?_)
      | (refine Goal.loud rfl ?_; refine Loud.store7 rfl rfl (by first | exact T.sz_3 | exact T.sz_60 | exact T.sz_62) rfl rfl rfl (by first | exact Nat.le_of_ble_eq_true rfl | exact Nat.le_refl _ | decide | (simp; omega)) rfl ?_))
    · have htl0 : tl = [] := List.length_eq_zero_iff.1 (by omega)
      skip
      repeat' (first
        | (refine Goal.loud (o := ⟨some 52, _, _, _, _, _⟩) rfl ?_; refine Loud.callM ([_]) (G := []) (close_ok hE1 i e.time (by dsimp only; rw [List.length_set]; omega) (by dsimp only; rw [List.length_set]; omega) (by dsimp only; rw [hft]; rfl) hntp) rfl rfl rfl rfl T.bod_24 (fun _ h => by first | exact h | simpa only [List.append_eq, List.append_assoc, List.cons_append, List.nil_append, List.append_nil] using h) ?_; intro A3 h3)
        | (refine Goal.loud (o := ⟨some 6, _, _, _, _, _⟩) rfl ?_; refine Loud.allocA rfl T.inf_62 (fun b6 => ?_))
        | (apply G.move; exact rfl; exact rfl)
        | (apply G.assign; exact rfl; exact rfl)
        | refine Goal.seq (fun _ _ => ?_)
        | refine Goal.next (by assumption) ?_
        | refine Goal.lnil ?_
        | refine Goal.region ?_
        | refine Goal.skip ?_
        | refine Goal.block ?_
        | refine Goal.exit ?_
        | refine Goal.ret ?_
        | refine Goal.then_exit ?_
        | refine Goal.then_ret ?_
        | refine Goal.inBlock_exit ?_
        | refine Goal.inBlock_normal ?_
        | refine Goal.inBlock_ret ?_
        | refine Goal.inBlock_other rfl ?_
        | (apply Goal.condT; exact rfl)
        | (apply Goal.condF; exact rfl)
        | (refine Goal.condD rfl (fun hc => ?_) (fun hc => ?_) <;> first | (exfalso; omega) | contradiction | skip)
        | refine Goal.condB rfl (fun hc => ?_) (fun hc => ?_)
        | (apply G.fieldAddr; exact rfl; exact rfl; (first | exact T.fld_56_0 | exact T.fld_56_3 | exact T.fld_56_6 | exact T.fld_62_0 | exact T.fld_62_1))
        | (apply G.load; exact rfl; exact rfl; first | exact LoadOK.one (by first | exact T.one_3 | exact T.one_53 | exact T.one_54 | exact T.one_60) 0 rfl rfl | exact LoadOK.one (by first | exact T.one_3 | exact T.one_53 | exact T.one_54 | exact T.one_60) 1 rfl rfl | exact LoadOK.one (by first | exact T.one_3 | exact T.one_53 | exact T.one_54 | exact T.one_60) 2 rfl rfl | exact LoadOK.one (by first | exact T.one_3 | exact T.one_53 | exact T.one_54 | exact T.one_60) 3 rfl rfl | exact LoadOK.one (by first | exact T.one_3 | exact T.one_53 | exact T.one_54 | exact T.one_60) 4 rfl rfl | exact LoadOK.one (by first | exact T.one_3 | exact T.one_53 | exact T.one_54 | exact T.one_60) 5 rfl rfl | exact LoadOK.one (by first | exact T.one_3 | exact T.one_53 | exact T.one_54 | exact T.one_60) 6 rfl rfl | exact LoadOK.one (by first | exact T.one_3 | exact T.one_53 | exact T.one_54 | exact T.one_60) 7 rfl rfl | exact LoadOK.agg (vs := [_, _]) T.agg_62 0 rfl rfl ⟨rfl, rfl, trivial⟩ | exact LoadOK.agg (vs := [_, _]) T.agg_62 1 rfl rfl ⟨rfl, rfl, trivial⟩ | exact LoadOK.agg (vs := [_, _]) T.agg_62 2 rfl rfl ⟨rfl, rfl, trivial⟩ | exact LoadOK.agg (vs := [_, _]) T.agg_62 3 rfl rfl ⟨rfl, rfl, trivial⟩ | exact LoadOK.agg (vs := [_, _]) T.agg_62 4 rfl rfl ⟨rfl, rfl, trivial⟩ | exact LoadOK.agg (vs := [_, _]) T.agg_62 5 rfl rfl ⟨rfl, rfl, trivial⟩ | exact LoadOK.agg (vs := [_, _]) T.agg_62 6 rfl rfl ⟨rfl, rfl, trivial⟩ | exact LoadOK.agg (vs := [_, _]) T.agg_62 7 rfl rfl ⟨rfl, rfl, trivial⟩)
        | (apply G.eql; exact rfl; exact rfl; exact rfl)
        | (refine Goal.quiet rfl (Run.eqlP T.ptr_24 rfl rfl rfl) ?_)
        | (apply G.notT; exact rfl; exact rfl)
        | (apply G.notF; exact rfl; exact rfl)
        | (refine G.notD rfl rfl ?_)
        | (apply G.notB; exact rfl; exact rfl)
        | (apply G.extract; exact rfl; exact rfl; exact rfl)
        | (apply G.len; exact rfl; exact rfl; exact T.slc_60)
        | (refine Goal.loud rfl ?_; refine Loud.delI0 T.map_54 rfl rfl ?_)
        | (refine Goal.loud rfl ?_; refine Loud.delI1 T.map_54 rfl rfl ?_)
        | (refine Goal.loud rfl ?_; refine Loud.delI2 T.map_54 rfl rfl ?_)
        | (refine Goal.loud rfl ?_; refine Loud.delI3 T.map_54 rfl rfl ?_)
        | (refine Goal.loud rfl ?_; refine Loud.delI4 T.map_54 rfl rfl ?_)
        | (apply G.nilCheckP; exact rfl; exact rfl)
        | (refine Goal.quiet rfl (Run.sliceH T.slc_60 T.sz_62 rfl rfl _ rfl (by omega)) ?_)
        | (refine Goal.quiet rfl (Run.sliceH T.slc_60 T.sz_62 rfl rfl _ (Int.toNat_of_nonneg (by omega)).symm (by omega)) ?_)
        | (refine Goal.quiet rfl (Run.sliceL T.slc_60 T.sz_62 rfl rfl 1 rfl (by omega)) ?_)
        | (refine Goal.quiet rfl (Run.sliceL T.slc_60 T.sz_62 rfl rfl _ (Int.toNat_of_nonneg (by omega)).symm (by omega)) ?_)
        | (refine G.indexAddr1 rfl (by first | exact T.slc_53 | exact T.slc_60) T.sz_60 rfl rfl _ rfl (by omega) ?_)
        | (refine G.indexAddr1 rfl (by first | exact T.slc_53 | exact T.slc_60) T.sz_60 rfl rfl _ (Int.toNat_of_nonneg (by omega)).symm (by omega) ?_)
        | (refine G.indexAddr rfl (by first | exact T.slc_53 | exact T.slc_60) T.sz_62 rfl rfl _ rfl (by omega) ?_)
        | (refine G.indexAddr rfl (by first | exact T.slc_53 | exact T.slc_60) T.sz_62 rfl rfl _ (Int.toNat_of_nonneg (by omega)).symm (by omega) ?_)
        | (refine Goal.loud rfl ?_; refine Loud.store0 rfl rfl (by first | exact T.sz_3 | exact T.sz_60 | exact T.sz_62) rfl rfl rfl (by first | exact Nat.le_of_ble_eq_true rfl | exact Nat.le_refl _ | decide | (simp; omega)) rfl ?_)
        | (refine Goal.loud rfl ?_; refine Loud.store1 rfl rfl (by first | exact T.sz_3 | exact T.sz_60 | exact T.sz_62) rfl rfl rfl (by first | exact Nat.le_of_ble_eq_true rfl | exact Nat.le_refl _ | decide | (simp; omega)) rfl ?_)
        | (refine Goal.loud rfl ?_; refine Loud.store2 rfl rfl (by first | exact T.sz_3 | exact T.sz_60 | exact T.sz_62) rfl rfl rfl (by first | exact Nat.le_of_ble_eq_true rfl | exact Nat.le_refl _ | decide | (simp; omega)) rfl ?_)
        | (refine Goal.loud rfl ?_; refine Loud.store3 rfl rfl (by first | exact T.sz_3 | exact T.sz_60 | exact T.sz_62) rfl rfl rfl (by first | exact Nat.le_of_ble_eq_true rfl | exact Nat.le_refl _ | decide | (simp; omega)) rfl ?_)
        | (refine Goal.loud rfl ?_; refine Loud.store4 rfl rfl (by first | exact T.sz_3 | exact T.sz_60 | exact T.sz_62) rfl rfl rfl (by first | exact Nat.le_of_ble_eq_true rfl | exact Nat.le_refl _ | decide | (simp; omega)) rfl ?_)
        | (refine Goal.loud rfl ?_; refine Loud.store5 rfl rfl (by first | exact T.sz_3 | exact T.sz_60 | exact T.sz_62) rfl rfl rfl (by first | exact Nat.le_of_ble_eq_true rfl | exact Nat.le_refl _ | decide | (simp; omega)) rfl ?_)
        | (refine Goal.loud rfl ?_; refine Loud.store6 rfl rfl (by first | exact T.sz_3 | exact T.sz_60 | exact T.sz_62) rfl rfl rfl (by first | exact Nat.le_of_ble_eq_true rfl | exact Nat.le_refl _ | decide | (simp; omega)) rfl ?_)
        | (refine Goal.loud rfl ?_; refine Loud.store7 rfl rfl (by first | exact T.sz_3 | exact T.sz_60 | exact T.sz_62) rfl rfl rfl (by first | exact Nat.le_of_ble_eq_true rfl | exact Nat.le_refl _ | decide | (simp; omega)) rfl ?_))
      exact Goal.meet hk A3 (by rw [if_pos htl0]; exact h3) ⟨rfl, rfl, rfl, trivial⟩ (fun _ h => by simpa only [List.append_eq, List.append_assoc, List.cons_append, List.nil_append, List.append_nil] using (show St _ _ _ ((b6, .cells #[.int .i64 e.id, .int .i64 e.data] 62) :: _) from h))
    · have htl0 : ¬ tl = [] := fun h => by subst h; simp at hc
      exact Goal.meet hk _ (by rw [if_neg htl0]; exact hE1) ⟨rfl, rfl, rfl, trivial⟩ (fun _ h => by simpa only [List.append_eq, List.append_assoc, List.cons_append, List.nil_append, List.append_nil] using (show St _ _ _ ((b6, .cells #[.int .i64 e.id, .int .i64 e.data] 62) :: _) from h))
    · intro z hz
      have hfin : ∃ q1, EvM bq q1 z ∧ q1.fi = q.fi ∧ q1.ni = q.ni ∧ QInv (E1 ++ E2) none { q1 with now := e.time, fi := fun j => if j = e.id then none else q1.fi j, ni := q1.ni - 1 } ∧ q1.last = q.last := by
        by_cases h0 : tl = []
        · rw [if_pos h0] at hz
          exact ⟨_, hz, rfl, rfl, closed_inv hRm hft (by rw [htl, h0]), rfl⟩
        · rw [if_neg h0] at hz
          exact ⟨_, hz, rfl, rfl, kept_inv hRm (by rw [htl]; exact h0), rfl⟩
      clear hE1 hI2 hsl2 hD hT hH hI hU hL hre hz
      obtain ⟨q1, hz, hfi1, hni1, hQ1, hla1⟩ := hfin
      obtain ⟨bt, bi, ct, ci, bh, bk, bp, mt, mi, vL, vU, vs, AO, AU, AI, AH, rfl, hL, hU, hI, hH, hT, hD⟩ := hz
      obtain ⟨aL, cL, rfl⟩ := hL.shape
      obtain ⟨aU, cU, rfl⟩ := hU.shape
      have hD2 : MapA (mdel mi e.id) (fun j => if j = e.id then none else q1.fi j) (q1.ni - 1) := by
        obtain ⟨k, hk⟩ : ∃ k, q1.ni = k + 1 := ⟨q1.ni - 1, by omega⟩
        rw [hk] at hD ⊢
        exact hD.del (by rw [hfi1]; exact hfi)
      repeat' (first
        | (refine Goal.drawAll (id := 10) 6 T.mixed ?_; all_goals ((refine Goal.takeP (listed' := #[true, false, false, false, false, false, false]) 0 ⟨rfl, by kernel_rfl, by kernel_rfl, by kernel_rfl, by kernel_rfl⟩ rfl (fun _ _ _ _ h => h) (by intro _; exact Run.move rfl) ?_)); all_goals ((refine Goal.takeP (listed' := #[true, true, false, false, false, false, false]) 1 ⟨rfl, by kernel_rfl, by kernel_rfl, by kernel_rfl, by kernel_rfl⟩ rfl (fun _ _ _ _ h => h) (by intro _; exact Run.nilCheckP rfl) ?_)); all_goals ((refine Goal.takeP (listed' := #[true, true, true, false, false, false, false]) 2 ⟨rfl, by kernel_rfl, by kernel_rfl, by kernel_rfl, by kernel_rfl⟩ rfl (fun _ _ _ _ h => h) (by intro _; exact Run.fieldAddr T.fld_56_6 rfl) ?_)); all_goals ((refine Goal.takeP (listed' := #[true, true, true, false, true, false, false]) 4 ⟨rfl, by kernel_rfl, by kernel_rfl, by kernel_rfl, by kernel_rfl⟩ rfl (fun _ _ _ _ h => h) (by intro _; exact Run.fieldAddr T.fld_62_0 rfl) ?_)); all_goals ((refine Goal.take (listed' := #[true, true, true, true, true, false, false]) 3 ⟨rfl, by kernel_rfl, by kernel_rfl, by kernel_rfl, by kernel_rfl, by kernel_rfl⟩ rfl (by (first | exact fun _ h => h | exact fun _ h => h.sub (.cons _ (.refl _)) | exact fun _ h => h.sub (.cons _ (.cons _ (.refl _))) | exact fun _ h => h.sub (.cons _ (.cons _ (.cons _ (.refl _)))) | exact fun _ h => h.drop | exact fun _ h => h.sub (List.sublist_append_left _ _) | exact fun _ h => by simpa only [List.append_eq, List.append_assoc, List.cons_append, List.nil_append, List.append_nil] using h)) (fun _ _ _ _ h => h) (by (apply Run.load; exact rfl; first | exact LoadOK.one T.one_54 0 rfl rfl | exact LoadOK.one T.one_54 1 rfl rfl | exact LoadOK.one T.one_54 2 rfl rfl | exact LoadOK.one T.one_54 3 rfl rfl | exact LoadOK.one T.one_54 4 rfl rfl | exact LoadOK.one T.one_54 5 rfl rfl | exact LoadOK.one T.one_54 6 rfl rfl | exact LoadOK.one T.one_54 7 rfl rfl)) ?_)); all_goals ((refine Goal.take (listed' := #[true, true, true, true, true, true, false]) 5 ⟨rfl, by kernel_rfl, by kernel_rfl, by kernel_rfl, by kernel_rfl, by kernel_rfl⟩ rfl (by (first | exact fun _ h => h | exact fun _ h => h.sub (.cons _ (.refl _)) | exact fun _ h => h.sub (.cons _ (.cons _ (.refl _))) | exact fun _ h => h.sub (.cons _ (.cons _ (.cons _ (.refl _)))) | exact fun _ h => h.drop | exact fun _ h => h.sub (List.sublist_append_left _ _) | exact fun _ h => by simpa only [List.append_eq, List.append_assoc, List.cons_append, List.nil_append, List.append_nil] using h)) (fun _ _ _ _ h => h) (by (apply Run.load; exact rfl; first | exact LoadOK.one T.one_3 0 rfl rfl | exact LoadOK.one T.one_3 1 rfl rfl | exact LoadOK.one T.one_3 2 rfl rfl | exact LoadOK.one T.one_3 3 rfl rfl | exact LoadOK.one T.one_3 4 rfl rfl | exact LoadOK.one T.one_3 5 rfl rfl | exact LoadOK.one T.one_3 6 rfl rfl | exact LoadOK.one T.one_3 7 rfl rfl)) ?_)); all_goals (refine Goal.ready1 (i := 6) (by kernel_rfl) ?_); all_goals ((refine Goal.up (i := 6) (listed' := #[true, true, true, true, true, true, true]) rfl (by kernel_rfl) ?_; (first | refine Loud.delI0 T.map_54 rfl rfl ?_ | refine Loud.delI1 T.map_54 rfl rfl ?_ | refine Loud.delI2 T.map_54 rfl rfl ?_ | refine Loud.delI3 T.map_54 rfl rfl ?_ | refine Loud.delI4 T.map_54 rfl rfl ?_); first | refine Goal.tail rfl ?_ | refine Goal.kept (by (first | exact fun _ h => h | exact fun _ h => h.sub (.cons _ (.refl _)) | exact fun _ h => h.sub (.cons _ (.cons _ (.refl _))) | exact fun _ h => h.sub (.cons _ (.cons _ (.cons _ (.refl _)))) | exact fun _ h => h.drop | exact fun _ h => h.sub (List.sublist_append_left _ _) | exact fun _ h => by simpa only [List.append_eq, List.append_assoc, List.cons_append, List.nil_append, List.append_nil] using h)) ?_)); all_goals (refine Goal.allUp (by kernel_rfl) ?_))
        | (refine Goal.drawAll (id := 12) 6 T.mixed ?_; all_goals ((refine Goal.takeP (listed' := #[true, false, false, false, false, false]) 0 ⟨rfl, by kernel_rfl, by kernel_rfl, by kernel_rfl, by kernel_rfl⟩ rfl (fun _ _ _ _ h => h) (by intro _; exact Run.move rfl) ?_)); all_goals ((refine Goal.takeP (listed' := #[true, true, false, false, false, false]) 1 ⟨rfl, by kernel_rfl, by kernel_rfl, by kernel_rfl, by kernel_rfl⟩ rfl (fun _ _ _ _ h => h) (by intro _; exact Run.fieldAddr T.fld_62_1 rfl) ?_)); all_goals ((refine Goal.takeP (listed' := #[true, true, false, true, false, false]) 3 ⟨rfl, by kernel_rfl, by kernel_rfl, by kernel_rfl, by kernel_rfl⟩ rfl (fun _ _ _ _ h => h) (by intro _; exact Run.assign rfl) ?_)); all_goals ((refine Goal.take (listed' := #[true, true, true, true, false, false]) 2 ⟨rfl, by kernel_rfl, by kernel_rfl, by kernel_rfl, by kernel_rfl, by kernel_rfl⟩ rfl (by (first | exact fun _ h => h | exact fun _ h => h.sub (.cons _ (.refl _)) | exact fun _ h => h.sub (.cons _ (.cons _ (.refl _))) | exact fun _ h => h.sub (.cons _ (.cons _ (.cons _ (.refl _)))) | exact fun _ h => h.drop | exact fun _ h => h.sub (List.sublist_append_left _ _) | exact fun _ h => by simpa only [List.append_eq, List.append_assoc, List.cons_append, List.nil_append, List.append_nil] using h)) (fun _ _ _ _ h => h) (by (apply Run.load; exact rfl; first | exact LoadOK.one T.one_3 0 rfl rfl | exact LoadOK.one T.one_3 1 rfl rfl | exact LoadOK.one T.one_3 2 rfl rfl | exact LoadOK.one T.one_3 3 rfl rfl | exact LoadOK.one T.one_3 4 rfl rfl | exact LoadOK.one T.one_3 5 rfl rfl | exact LoadOK.one T.one_3 6 rfl rfl | exact LoadOK.one T.one_3 7 rfl rfl)) ?_)); all_goals ((refine Goal.takeP (listed' := #[true, true, true, true, true, false]) 4 ⟨rfl, by kernel_rfl, by kernel_rfl, by kernel_rfl, by kernel_rfl⟩ rfl (fun _ _ _ _ h => h) (by intro _; exact Run.assign rfl) ?_)); all_goals ((refine Goal.takeP (listed' := #[true, true, true, true, true, true]) 5 ⟨rfl, by kernel_rfl, by kernel_rfl, by kernel_rfl, by kernel_rfl⟩ rfl (fun _ _ _ _ h => h) (by intro _; exact Run.assign rfl) ?_)); all_goals (refine Goal.allUp (by kernel_rfl) ?_))
        | (refine Goal.loud (o := ⟨some 6, _, _, _, _, _⟩) rfl ?_; refine Loud.allocA rfl T.inf_62 (fun b6 => ?_))
        | (apply G.move; exact rfl; exact rfl)
        | (apply G.assign; exact rfl; exact rfl)
        | refine Goal.seq (fun _ _ => ?_)
        | refine Goal.next (by assumption) ?_
        | refine Goal.lnil ?_
        | refine Goal.region ?_
        | refine Goal.skip ?_
        | refine Goal.block ?_
        | refine Goal.exit ?_
        | refine Goal.ret ?_
        | refine Goal.then_exit ?_
        | refine Goal.then_ret ?_
        | refine Goal.inBlock_exit ?_
        | refine Goal.inBlock_normal ?_
        | refine Goal.inBlock_ret ?_
        | refine Goal.inBlock_other rfl ?_
        | (apply Goal.condT; exact rfl)
        | (apply Goal.condF; exact rfl)
        | (refine Goal.condD rfl (fun hc => ?_) (fun hc => ?_) <;> first | (exfalso; omega) | contradiction | skip)
        | refine Goal.condB rfl (fun hc => ?_) (fun hc => ?_)
        | (apply G.fieldAddr; exact rfl; exact rfl; (first | exact T.fld_56_0 | exact T.fld_56_3 | exact T.fld_56_6 | exact T.fld_62_0 | exact T.fld_62_1))
        | (apply G.load; exact rfl; exact rfl; first | exact LoadOK.one (by first | exact T.one_3 | exact T.one_53 | exact T.one_54 | exact T.one_60) 0 rfl rfl | exact LoadOK.one (by first | exact T.one_3 | exact T.one_53 | exact T.one_54 | exact T.one_60) 1 rfl rfl | exact LoadOK.one (by first | exact T.one_3 | exact T.one_53 | exact T.one_54 | exact T.one_60) 2 rfl rfl | exact LoadOK.one (by first | exact T.one_3 | exact T.one_53 | exact T.one_54 | exact T.one_60) 3 rfl rfl | exact LoadOK.one (by first | exact T.one_3 | exact T.one_53 | exact T.one_54 | exact T.one_60) 4 rfl rfl | exact LoadOK.one (by first | exact T.one_3 | exact T.one_53 | exact T.one_54 | exact T.one_60) 5 rfl rfl | exact LoadOK.one (by first | exact T.one_3 | exact T.one_53 | exact T.one_54 | exact T.one_60) 6 rfl rfl | exact LoadOK.one (by first | exact T.one_3 | exact T.one_53 | exact T.one_54 | exact T.one_60) 7 rfl rfl | exact LoadOK.agg (vs := [_, _]) T.agg_62 0 rfl rfl ⟨rfl, rfl, trivial⟩ | exact LoadOK.agg (vs := [_, _]) T.agg_62 1 rfl rfl ⟨rfl, rfl, trivial⟩ | exact LoadOK.agg (vs := [_, _]) T.agg_62 2 rfl rfl ⟨rfl, rfl, trivial⟩ | exact LoadOK.agg (vs := [_, _]) T.agg_62 3 rfl rfl ⟨rfl, rfl, trivial⟩ | exact LoadOK.agg (vs := [_, _]) T.agg_62 4 rfl rfl ⟨rfl, rfl, trivial⟩ | exact LoadOK.agg (vs := [_, _]) T.agg_62 5 rfl rfl ⟨rfl, rfl, trivial⟩ | exact LoadOK.agg (vs := [_, _]) T.agg_62 6 rfl rfl ⟨rfl, rfl, trivial⟩ | exact LoadOK.agg (vs := [_, _]) T.agg_62 7 rfl rfl ⟨rfl, rfl, trivial⟩)
        | (apply G.eql; exact rfl; exact rfl; exact rfl)
        | (refine Goal.quiet rfl (Run.eqlP T.ptr_24 rfl rfl rfl) ?_)
        | (apply G.notT; exact rfl; exact rfl)
        | (apply G.notF; exact rfl; exact rfl)
        | (refine G.notD rfl rfl ?_)
        | (apply G.notB; exact rfl; exact rfl)
        | (apply G.extract; exact rfl; exact rfl; exact rfl)
        | (apply G.len; exact rfl; exact rfl; exact T.slc_60)
        | (refine Goal.loud rfl ?_; refine Loud.delI0 T.map_54 rfl rfl ?_)
        | (refine Goal.loud rfl ?_; refine Loud.delI1 T.map_54 rfl rfl ?_)
        | (refine Goal.loud rfl ?_; refine Loud.delI2 T.map_54 rfl rfl ?_)
        | (refine Goal.loud rfl ?_; refine Loud.delI3 T.map_54 rfl rfl ?_)
        | (refine Goal.loud rfl ?_; refine Loud.delI4 T.map_54 rfl rfl ?_)
        | (apply G.nilCheckP; exact rfl; exact rfl)
        | (refine Goal.quiet rfl (Run.sliceH T.slc_60 T.sz_62 rfl rfl _ rfl (by omega)) ?_)
        | (refine Goal.quiet rfl (Run.sliceH T.slc_60 T.sz_62 rfl rfl _ (Int.toNat_of_nonneg (by omega)).symm (by omega)) ?_)
        | (refine Goal.quiet rfl (Run.sliceL T.slc_60 T.sz_62 rfl rfl 1 rfl (by omega)) ?_)
        | (refine Goal.quiet rfl (Run.sliceL T.slc_60 T.sz_62 rfl rfl _ (Int.toNat_of_nonneg (by omega)).symm (by omega)) ?_)
        | (refine G.indexAddr1 rfl (by first | exact T.slc_53 | exact T.slc_60) T.sz_60 rfl rfl _ rfl (by omega) ?_)
        | (refine G.indexAddr1 rfl (by first | exact T.slc_53 | exact T.slc_60) T.sz_60 rfl rfl _ (Int.toNat_of_nonneg (by omega)).symm (by omega) ?_)
        | (refine G.indexAddr rfl (by first | exact T.slc_53 | exact T.slc_60) T.sz_62 rfl rfl _ rfl (by omega) ?_)
        | (refine G.indexAddr rfl (by first | exact T.slc_53 | exact T.slc_60) T.sz_62 rfl rfl _ (Int.toNat_of_nonneg (by omega)).symm (by omega) ?_)
        | (refine Goal.loud rfl ?_; refine Loud.store0 rfl rfl (by first | exact T.sz_3 | exact T.sz_60 | exact T.sz_62) rfl rfl rfl (by first | exact Nat.le_of_ble_eq_true rfl | exact Nat.le_refl _ | decide | (simp; omega)) rfl ?_)
        | (refine Goal.loud rfl ?_; refine Loud.store1 rfl rfl (by first | exact T.sz_3 | exact T.sz_60 | exact T.sz_62) rfl rfl rfl (by first | exact Nat.le_of_ble_eq_true rfl | exact Nat.le_refl _ | decide | (simp; omega)) rfl ?_)
        | (refine Goal.loud rfl ?_; refine Loud.store2 rfl rfl (by first | exact T.sz_3 | exact T.sz_60 | exact T.sz_62) rfl rfl rfl (by first | exact Nat.le_of_ble_eq_true rfl | exact Nat.le_refl _ | decide | (simp; omega)) rfl ?_)
        | (refine Goal.loud rfl ?_; refine Loud.store3 rfl rfl (by first | exact T.sz_3 | exact T.sz_60 | exact T.sz_62) rfl rfl rfl (by first | exact Nat.le_of_ble_eq_true rfl | exact Nat.le_refl _ | decide | (simp; omega)) rfl ?_)
        | (refine Goal.loud rfl ?_; refine Loud.store4 rfl rfl (by first | exact T.sz_3 | exact T.sz_60 | exact T.sz_62) rfl rfl rfl (by first | exact Nat.le_of_ble_eq_true rfl | exact Nat.le_refl _ | decide | (simp; omega)) rfl ?_)
        | (refine Goal.loud rfl ?_; refine Loud.store5 rfl rfl (by first | exact T.sz_3 | exact T.sz_60 | exact T.sz_62) rfl rfl rfl (by first | exact Nat.le_of_ble_eq_true rfl | exact Nat.le_refl _ | decide | (simp; omega)) rfl ?_)
        | (refine Goal.loud rfl ?_; refine Loud.store6 rfl rfl (by first | exact T.sz_3 | exact T.sz_60 | exact T.sz_62) rfl rfl rfl (by first | exact Nat.le_of_ble_eq_true rfl | exact Nat.le_refl _ | decide | (simp; omega)) rfl ?_)
        | (refine Goal.loud rfl ?_; refine Loud.store7 rfl rfl (by first | exact T.sz_3 | exact T.sz_60 | exact T.sz_62) rfl rfl rfl (by first | exact Nat.le_of_ble_eq_true rfl | exact Nat.le_refl _ | decide | (simp; omega)) rfl ?_))
      refine Goal.done (vs := [_, _, _]) (by first | exact .inl rfl | exact .inr rfl) Try.results12 ⟨rfl, rfl, rfl, trivial⟩ rfl (fun w' H => ⟨⟨e.time, e.data, true, _⟩, .inr ⟨rfl, E1, e, E2, hF, rfl, rfl, .inr ⟨_, hQ1, rfl, hla1, by omega, ⟨bt, bi, _, _, bh, bk, bp, mt, mdel mi e.id, _, _, vs, AO, AU, AI, AH, rfl, hL, hU, hI, hH, hT, hD2⟩⟩⟩, rfl, St.drop1 H⟩)
end
end Go.Proofs.Ytcekjnfdgbeekaa
