/- Package pq: the tester's memory, free. -/
import Derived.Test.YtldoplehchngfaaSpG
import Derived.Test.YtldoplehchngfaaPq
import Derived.Test.YtldoplehchngfaaCore10
namespace Go.Proofs.Ytldoplehchngfaa
open Go.Wf
set_option linter.unusedVariables false
/-- A list of distances that may be there: its block and the list. -/
def slV : Option (Nat × List Int) → Value
  | none => .slice none 0 0
  | some (b, l) => .slice (some ⟨b, 0, none⟩) l.length l.length
/-- The tester's cells. -/
def zc (tp : Top) (vo vl vd : Value) (Fs Ts : List (Option (Nat × List Int))) : List Value := [.int .i64 tp.n, vo, vl, vd] ++ (Fs.map slV ++ Ts.map slV)
structure ZI (tp : Top) (Fs Ts : List (Option (Nat × List Int))) (B : List Blk) : Prop where
  lf : Fs.length = 64
  lt : Ts.length = 64
  f : ∀ (i : Nat) b l, Fs[i]? = some (some (b, l)) → DL tp.n i (GF tp [] i) l ∧ (b, Obj.cells (ints l).toArray 3) ∈ B
  t : ∀ (i : Nat) b l, Ts[i]? = some (some (b, l)) → DL tp.n i (GD tp [] i) l ∧ (b, Obj.cells (ints l).toArray 3) ∈ B
structure ZS where
  (Fs Ts : List (Option (Nat × List Int))) (B : List Blk)
section
variable {tp : Top} {vo vl vd : Value} {Fs Ts : List (Option (Nat × List Int))} {B : List Blk} {o : Option (Nat × List Int)}
theorem zc_len (hf : Fs.length = 64) (ht : Ts.length = 64) : (zc tp vo vl vd Fs Ts).length = 132 := by
  unfold zc
  simp [hf, ht]
theorem zc_from {k off : Nat} (h : Fs[k]? = some o) (ho : off = 4 + k) : (zc tp vo vl vd Fs Ts).toArray.toList[off]? = some (slV o) := by
  subst ho
  have hk := (List.getElem?_eq_some_iff.mp h).1
  unfold zc
  rw [List.getElem?_append_right (by simp), List.getElem?_append_left (by simp; omega), List.getElem?_map]
  simp [h]
theorem zc_to {k off : Nat} (hf : Fs.length = 64) (h : Ts[k]? = some o) (ho : off = 68 + k) : (zc tp vo vl vd Fs Ts).toArray.toList[off]? = some (slV o) := by
  subst ho
  unfold zc
  rw [List.getElem?_append_right (by simp; omega), List.getElem?_append_right (by simp [hf]; omega), List.getElem?_map]
  have : 68 + k - [Value.int .i64 tp.n, vo, vl, vd].length - (Fs.map slV).length = k := by simp [hf]; omega
  rw [this, h]
  rfl
theorem set_app {α : Type} {a b : List α} {n : Nat} {v : α} (h : a.length ≤ n) : (a ++ b).set n v = a ++ b.set (n - a.length) v := by
  rw [List.set_append, if_neg (by omega)]
theorem wr_from {k off : Nat} (hk : k < Fs.length) (ho : off = 4 + k) : wr (zc tp vo vl vd Fs Ts).toArray off [slV o] = (zc tp vo vl vd (Fs.set k o) Ts).toArray := by
  subst ho
  rw [wr_one (by unfold zc; simp; omega)]
  apply Array.ext'
  rw [Array.toList_setIfInBounds]
  unfold zc
  simp only []
  rw [set_app (by simp), List.set_append_left _ _ (by simp; omega), List.map_set]
  simp
theorem wr_to {k off : Nat} (hf : Fs.length = 64) (hk : k < Ts.length) (ho : off = 68 + k) : wr (zc tp vo vl vd Fs Ts).toArray off [slV o] = (zc tp vo vl vd Fs (Ts.set k o)).toArray := by
  subst ho
  rw [wr_one (by unfold zc; simp [hf]; omega)]
  apply Array.ext'
  rw [Array.toList_setIfInBounds]
  unfold zc
  simp only []
  rw [set_app (by simp; omega), set_app (by simp [hf]; omega), List.map_set]
  have e : 68 + k - 4 - 64 = k := by omega
  simp [hf, e]
theorem ZI.setF {i b : Nat} {l : List Int} (h : ZI tp Fs Ts B) (hi : i < 64) (hl : DL tp.n i (GF tp [] i) l) : ZI tp (Fs.set i (some (b, l))) Ts (B ++ [(b, .cells (ints l).toArray 3)]) := by
  refine ⟨by simp [h.lf], h.lt, fun j b' l' hj => ?_, fun j b' l' hj => ?_⟩
  · rw [List.getElem?_set] at hj
    split at hj
    · rename_i e
      rw [if_pos (by have := h.lf; omega)] at hj
      injection hj with hj
      injection hj with hj
      injection hj with h1 h2
      subst h1 h2 e
      exact ⟨hl, by simp⟩
    · obtain ⟨p, q⟩ := h.f j b' l' hj
      exact ⟨p, by simp [q]⟩
  · obtain ⟨p, q⟩ := h.t j b' l' hj
    exact ⟨p, by simp [q]⟩
theorem ZI.setT {i b : Nat} {l : List Int} (h : ZI tp Fs Ts B) (hi : i < 64) (hl : DL tp.n i (GD tp [] i) l) : ZI tp Fs (Ts.set i (some (b, l))) (B ++ [(b, .cells (ints l).toArray 3)]) := by
  refine ⟨h.lf, by simp [h.lt], fun j b' l' hj => ?_, fun j b' l' hj => ?_⟩
  · obtain ⟨p, q⟩ := h.f j b' l' hj
    exact ⟨p, by simp [q]⟩
  · rw [List.getElem?_set] at hj
    split at hj
    · rename_i e
      rw [if_pos (by have := h.lt; omega)] at hj
      injection hj with hj
      injection hj with hj
      injection hj with h1 h2
      subst h1 h2 e
      exact ⟨hl, by simp⟩
    · obtain ⟨p, q⟩ := h.t j b' l' hj
      exact ⟨p, by simp [q]⟩
end
theorem LoadOK.anyQ {P : Program} {w0 : World} {S : List Nat} {L : List Blk} {T : TypeId} {b off : Nat} {v : Value} (hT : OneB P T) (h : ∀ w', Mod S w0 w' → w'.cell? ⟨b, off, none⟩ = some v) : LoadOK P w0 S L T ⟨b, off, none⟩ v := .of fun w' H => load_one hT (h w' H.mod)
theorem rd_anyB {w0 : World} {S : List Nat} {ad : Option Addr} {c : Nat} {l : List Bool} (h : ∀ w', Mod S w0 w' → RdV w' (.slice ad l.length c) (bools l)) (hp : 0 < l.length) : ∃ b o, ad = some ⟨b, o, none⟩ ∧ ∀ w', Mod S w0 w' → ∀ i : Int, 0 ≤ i → i < l.length → w'.cell? ⟨b, o + i.toNat, none⟩ = some (.bool (ba l i)) := by
  obtain ⟨b, o, rfl, _⟩ := rd_bools (h w0 (Mod.refl _ _)) hp
  refine ⟨b, o, rfl, fun w' hm i i0 i1 => ?_⟩
  obtain ⟨b', o', e, hk⟩ := rd_bools (h w' hm) hp
  injection e with e
  injection e with e1 e2 _
  subst e1 e2
  exact hk i i0 i1
section
variable {w : World} {tp : Top} {vo vl vd : Value} {dn : List Bool} {Fs Ts : List (Option (Nat × List Int))} {B : List Blk} {bz : Nat} {S : List Nat} {x y : Int}
set_option maxHeartbeats 16000000 in
theorem free_ok (hZ : ZI tp Fs Ts B) (H0 : St w S w ((bz, .cells (zc tp vo vl vd Fs Ts).toArray 64) :: B)) (hT : ∀ w', Mod S w w' → TopR w' vo vl tp) (hd : ∀ w', Mod S w w' → RdV w' vd (bools dn)) (ht : tp.Ok) (hfit : Fit tp dn) (hx : 0 ≤ x ∧ x < tp.n) (hy : 0 ≤ y ∧ y < tp.n)
    {Ax By : Int → Int} (hA : Bell tp.n x (GF tp [] x) Ax) (hB : Bell tp.n y (GD tp [] y) By) {r : Bool} (hr : r = true ↔ FreeP tp dn Ax By x y) :
    Calls Try.prog 62 #[.pointer (some ⟨bz, 0, none⟩), .int .i64 x, .int .i64 y] w fun e w' => ∃ s : ZS, (ZI tp s.Fs s.Ts s.B ∧ ∃ b l, s.Fs[x.toNat]? = some (some (b, l))) ∧ e = .returned (.bool r) ∧ St w S w' ((bz, .cells (zc tp vo vl vd s.Fs s.Ts).toArray 64) :: s.B) := by
  have hn := ht.n
  have hln := ht.ln
  have har0 : tp.arcs = 2 * (tp.ls.length : Int) := rfl
  obtain ⟨ad, cd, rfl⟩ := shapeB (hd w (Mod.refl _ _))
  have hlf := hZ.lf
  have hlt := hZ.lt
  obtain ⟨o, ho⟩ : ∃ o, Fs[x.toNat]? = some o := ⟨_, List.getElem?_eq_getElem (by omega)⟩
  refine Goal.enter (args := [.pointer (some ⟨bz, 0, none⟩), .int .i64 x, .int .i64 y]) Try.func62 rfl Try.ntmps62 rfl (H0) ?_
  repeat' (first
    | (refine Goal.cut (x := Code.seq (Code.region 1 _ _) _) (X := ZS) (fun s => [(0, .pointer (some ⟨bz, 0, none⟩)), (1, .int .i64 x), (2, .int .i64 y)]) (fun s => (bz, .cells (zc tp vo vl (.slice ad dn.length cd) s.Fs s.Ts).toArray 64) :: s.B) (fun s => ZI tp s.Fs s.Ts s.B ∧ ∃ b l, s.Fs[x.toNat]? = some (some (b, l))) ?_ ?_)
    | (apply G.move; exact rfl; exact rfl)
    | (apply G.assign; exact rfl; exact rfl)
    | refine Goal.seq (fun _ _ => ?_)
    | refine Goal.next (by assumption) ?_
    | refine Goal.lnil ?_
    | refine Goal.region ?_
    | refine Goal.skip ?_
    | refine Goal.block ?_
    | refine Goal.exit ?_
    | refine Goal.ret ?_
    | refine Goal.then_exit ?_
    | refine Goal.then_ret ?_
    | refine Goal.inBlock_exit ?_
    | refine Goal.inBlock_normal ?_
    | refine Goal.inBlock_ret ?_
    | refine Goal.inBlock_other rfl ?_
    | (apply Goal.condT; exact rfl)
    | (apply Goal.condF; exact rfl)
    | (refine Goal.condD rfl (fun hc => ?_) (fun hc => ?_) <;> first | (exfalso; omega) | contradiction | skip)
    | refine Goal.condB rfl (fun hc => ?_) (fun hc => ?_)
    | refine Goal.guardT rfl rfl ?_
    | refine Goal.guardF rfl rfl rfl rfl ?_
    | refine Goal.guardU rfl rfl rfl ?_
    | (refine Goal.guardD rfl rfl (fun hc => ?_) (fun hc => ?_) <;> first | (exfalso; omega) | contradiction | skip)
    | refine Goal.guardB rfl rfl (fun hc => ?_) (fun hc => ?_)
    | (apply G.fieldAddr; exact rfl; exact rfl; (first | exact T.fld_64_0 | exact T.fld_64_1 | exact T.fld_64_2 | exact T.fld_64_3))
    | (apply G.load; exact rfl; exact rfl; first | exact LoadOK.one (by first | exact T.one_3 | exact T.one_4 | exact T.one_22 | exact T.one_30) 0 rfl rfl | exact LoadOK.one (by first | exact T.one_3 | exact T.one_4 | exact T.one_22 | exact T.one_30) 1 rfl rfl | exact LoadOK.one (by first | exact T.one_3 | exact T.one_4 | exact T.one_22 | exact T.one_30) 2 rfl rfl | exact LoadOK.one (by first | exact T.one_3 | exact T.one_4 | exact T.one_22 | exact T.one_30) 3 rfl rfl | exact LoadOK.one (by first | exact T.one_3 | exact T.one_4 | exact T.one_22 | exact T.one_30) 4 rfl rfl | exact ag3 T.agg_25 0 rfl rfl rfl rfl | exact ag3 T.agg_25 1 rfl rfl rfl rfl | exact ag3 T.agg_25 2 rfl rfl rfl rfl | exact ag3 T.agg_25 3 rfl rfl rfl rfl | exact ag3 T.agg_25 4 rfl rfl rfl rfl)
    | (apply G.pickT; exact rfl; exact rfl; exact rfl)
    | (apply G.pickF; exact rfl; exact rfl; exact rfl)
    | (apply G.lss; exact rfl; exact rfl; exact rfl)
    | (apply G.geq; exact rfl; exact rfl; exact rfl)
    | (apply G.eql; exact rfl; exact rfl; exact rfl)
    | (apply G.neq; exact rfl; exact rfl; exact rfl)
    | (apply G.add; exact rfl; exact rfl; exact rfl; exact IntWalk.i64_in _ (by omega))
    | (refine Goal.quiet rfl (Run.eqlSN T.slc_30 rfl rfl rfl) ?_)
    | (apply G.notT; exact rfl; exact rfl)
    | (apply G.notF; exact rfl; exact rfl)
    | (refine G.notD rfl rfl ?_)
    | (apply G.notB; exact rfl; exact rfl)
    | (apply G.extract; exact rfl; exact rfl; exact rfl)
    | (apply G.len; exact rfl; exact rfl; exact T.slc_22)
    | (apply G.nilCheckP; exact rfl; exact rfl)
    | (refine G.indexAddr1 rfl (by first | exact T.slc_22 | exact T.slc_30) (by first | exact T.sz_3 | exact T.sz_4 | exact T.sz_30) rfl rfl _ rfl (by omega) ?_)
    | (refine G.indexAddr1 rfl (by first | exact T.slc_22 | exact T.slc_30) (by first | exact T.sz_3 | exact T.sz_4 | exact T.sz_30) rfl rfl _ (Int.toNat_of_nonneg (by omega)).symm (by omega) ?_)
    | (refine G.indexAddrA rfl T.arr_62 (by first | exact T.sz_3 | exact T.sz_4 | exact T.sz_30) rfl rfl _ rfl (by omega) ?_)
    | (refine G.indexAddrA rfl T.arr_62 (by first | exact T.sz_3 | exact T.sz_4 | exact T.sz_30) rfl rfl _ (Int.toNat_of_nonneg (by omega)).symm (by omega) ?_)
    | (refine Goal.loud rfl ?_; refine Loud.store0 rfl rfl T.sz_30 rfl rfl rfl (by first | exact Nat.le_of_ble_eq_true rfl | exact Nat.le_refl _ | decide | (simp; omega)) rfl ?_)
    | (refine Goal.loud rfl ?_; refine Loud.store1 rfl rfl T.sz_30 rfl rfl rfl (by first | exact Nat.le_of_ble_eq_true rfl | exact Nat.le_refl _ | decide | (simp; omega)) rfl ?_)
    | (refine Goal.loud rfl ?_; refine Loud.store2 rfl rfl T.sz_30 rfl rfl rfl (by first | exact Nat.le_of_ble_eq_true rfl | exact Nat.le_refl _ | decide | (simp; omega)) rfl ?_)
    | (refine Goal.loud rfl ?_; refine Loud.store3 rfl rfl T.sz_30 rfl rfl rfl (by first | exact Nat.le_of_ble_eq_true rfl | exact Nat.le_refl _ | decide | (simp; omega)) rfl ?_)
    | (refine Goal.loud rfl ?_; refine Loud.store4 rfl rfl T.sz_30 rfl rfl rfl (by first | exact Nat.le_of_ble_eq_true rfl | exact Nat.le_refl _ | decide | (simp; omega)) rfl ?_))
  · intro K hk
    cases o with
    | none =>
      have hcell : ∀ off, off = 4 + x.toNat → (zc tp vo vl (.slice ad dn.length cd) Fs Ts).toArray.toList[off]? = some (.slice none 0 0) := fun off e => zc_from ho e
      have hzl : (zc tp vo vl (.slice ad dn.length cd) Fs Ts).length = 132 := zc_len hlf hlt
      repeat' (first
        | (refine Goal.drawAll (id := 2) 14 T.mixed ?_; all_goals ((refine Goal.takeP (listed' := #[Ya,No,No,No,No,No,No,No,No,No,No,No,No,No,No]) 0 ⟨rfl, by kernel_rfl, by kernel_rfl, by kernel_rfl, by kernel_rfl⟩ rfl (fun _ _ _ _ h => h) (by intro _; exact Run.move rfl) ?_)); all_goals ((refine Goal.takeP (listed' := #[Ya,Ya,No,No,No,No,No,No,No,No,No,No,No,No,No]) 1 ⟨rfl, by kernel_rfl, by kernel_rfl, by kernel_rfl, by kernel_rfl⟩ rfl (fun _ _ _ _ h => h) (by intro _; exact Run.move rfl) ?_)); all_goals ((refine Goal.takeP (listed' := #[Ya,Ya,Ya,No,No,No,No,No,No,No,No,No,No,No,No]) 2 ⟨rfl, by kernel_rfl, by kernel_rfl, by kernel_rfl, by kernel_rfl⟩ rfl (fun _ _ _ _ h => h) (by intro _; exact Run.move rfl) ?_)); all_goals ((refine Goal.takeP (listed' := #[Ya,Ya,Ya,Ya,No,No,No,No,No,No,No,No,No,No,No]) 3 ⟨rfl, by kernel_rfl, by kernel_rfl, by kernel_rfl, by kernel_rfl⟩ rfl (fun _ _ _ _ h => h) (by intro _; exact Run.nilCheckP rfl) ?_)); all_goals ((refine Goal.takeP (listed' := #[Ya,Ya,Ya,Ya,Ya,No,No,No,No,No,No,No,No,No,No]) 4 ⟨rfl, by kernel_rfl, by kernel_rfl, by kernel_rfl, by kernel_rfl⟩ rfl (fun _ _ _ _ h => h) (by intro _; exact Run.fieldAddr T.fld_64_0 rfl) ?_)); all_goals ((refine Goal.takeP (listed' := #[Ya,Ya,Ya,Ya,Ya,No,Ya,No,No,No,No,No,No,No,No]) 6 ⟨rfl, by kernel_rfl, by kernel_rfl, by kernel_rfl, by kernel_rfl⟩ rfl (fun _ _ _ _ h => h) (by intro _; exact Run.move rfl) ?_)); all_goals ((refine Goal.takeP (listed' := #[Ya,Ya,Ya,Ya,Ya,No,Ya,No,No,No,No,Ya,No,No,No]) 11 ⟨rfl, by kernel_rfl, by kernel_rfl, by kernel_rfl, by kernel_rfl⟩ rfl (fun _ _ _ _ h => h) (by intro _; exact Run.nilCheckP rfl) ?_)); all_goals ((refine Goal.takeP (listed' := #[Ya,Ya,Ya,Ya,Ya,No,Ya,No,No,No,No,Ya,Ya,No,No]) 12 ⟨rfl, by kernel_rfl, by kernel_rfl, by kernel_rfl, by kernel_rfl⟩ rfl (fun _ _ _ _ h => h) (by intro _; exact Run.fieldAddr T.fld_64_2 rfl) ?_)); all_goals ((refine Goal.take (listed' := #[Ya,Ya,Ya,Ya,Ya,Ya,Ya,No,No,No,No,Ya,Ya,No,No]) 5 ⟨rfl, by kernel_rfl, by kernel_rfl, by kernel_rfl, by kernel_rfl, by kernel_rfl⟩ rfl (by (first | exact s0 | exact s1 | exact s2 | exact s3 | exact sd | exact sa | exact sn (by simp))) (fun _ _ _ _ h => h) (by (apply Run.load; exact rfl; first | exact LoadOK.one T.one_30 0 rfl (hcell _ (by omega)) | exact ag3 T.agg_25 0 rfl rfl rfl rfl | exact ag3 T.agg_25 1 rfl rfl rfl rfl | exact ag3 T.agg_25 2 rfl rfl rfl rfl | exact ag3 T.agg_25 3 rfl rfl rfl rfl | exact ag3 T.agg_25 4 rfl rfl rfl rfl)) ?_)); all_goals (refine Goal.ready1 (i := 7) (by kernel_rfl) ?_); all_goals ((refine Goal.up (i := 7) (listed' := #[Ya,Ya,Ya,Ya,Ya,Ya,Ya,Ya,No,No,No,Ya,Ya,No,No]) rfl (by kernel_rfl) ?_; (apply Loud.callN; exact rfl; exact rfl; exact rfl; exact rfl; exact T.bod_81; exact (fun w' H => from_ok (dn := []) (hT w' H.mod) (RdV.nil w') ht (.inl rfl) hx); rintro ⟨bl, l⟩ hl; dsimp only at hl ⊢); first | refine Goal.tail rfl ?_ | refine Goal.kept (by (first | exact s0 | exact s1 | exact s2 | exact s3 | exact sd | exact sa | exact sn (by simp))) ?_)); all_goals ((refine Goal.takeP (listed' := #[Ya,Ya,Ya,Ya,Ya,Ya,Ya,Ya,Ya,No,No,Ya,Ya,No,No]) 8 ⟨rfl, by kernel_rfl, by kernel_rfl, by kernel_rfl, by kernel_rfl⟩ rfl (fun _ _ _ _ h => h) (by intro _; exact Run.move rfl) ?_)); all_goals ((refine Goal.takeP (listed' := #[Ya,Ya,Ya,Ya,Ya,Ya,Ya,Ya,Ya,Ya,No,Ya,Ya,No,No]) 9 ⟨rfl, by kernel_rfl, by kernel_rfl, by kernel_rfl, by kernel_rfl⟩ rfl (fun _ _ _ _ h => h) (by intro _; exact Run.extract rfl rfl) ?_)); all_goals ((refine Goal.takeP (listed' := #[Ya,Ya,Ya,Ya,Ya,Ya,Ya,Ya,Ya,Ya,Ya,Ya,Ya,No,No]) 10 ⟨rfl, by kernel_rfl, by kernel_rfl, by kernel_rfl, by kernel_rfl⟩ rfl (fun _ _ _ _ h => h) (by intro _; exact Run.extract rfl rfl) ?_)); all_goals ((refine Goal.takeP (listed' := #[Ya,Ya,Ya,Ya,Ya,Ya,Ya,Ya,Ya,Ya,Ya,Ya,Ya,Ya,No]) 13 ⟨rfl, by kernel_rfl, by kernel_rfl, by kernel_rfl, by kernel_rfl⟩ rfl (fun _ _ _ _ h => h) (by intro _; first | exact Run.indexAddrA T.arr_62 T.sz_30 rfl rfl rfl (by omega) | exact Run.indexAddrA T.arr_62 T.sz_30 rfl rfl (Int.toNat_of_nonneg (by omega)).symm (by omega)) ?_)); all_goals (refine Goal.ready1 (i := 14) (by kernel_rfl) ?_); all_goals ((refine Goal.up (i := 14) (listed' := #[Ya,Ya,Ya,Ya,Ya,Ya,Ya,Ya,Ya,Ya,Ya,Ya,Ya,Ya,Ya]) rfl (by kernel_rfl) ?_; (first | refine Loud.store0 rfl rfl T.sz_30 rfl rfl rfl (by first | exact Nat.le_of_ble_eq_true rfl | exact Nat.le_refl _ | decide | (simp; omega)) rfl ?_ | refine Loud.store1 rfl rfl T.sz_30 rfl rfl rfl (by first | exact Nat.le_of_ble_eq_true rfl | exact Nat.le_refl _ | decide | (simp; omega)) rfl ?_ | refine Loud.store2 rfl rfl T.sz_30 rfl rfl rfl (by first | exact Nat.le_of_ble_eq_true rfl | exact Nat.le_refl _ | decide | (simp; omega)) rfl ?_ | refine Loud.store3 rfl rfl T.sz_30 rfl rfl rfl (by first | exact Nat.le_of_ble_eq_true rfl | exact Nat.le_refl _ | decide | (simp; omega)) rfl ?_ | refine Loud.store4 rfl rfl T.sz_30 rfl rfl rfl (by first | exact Nat.le_of_ble_eq_true rfl | exact Nat.le_refl _ | decide | (simp; omega)) rfl ?_); first | refine Goal.tail rfl ?_ | refine Goal.kept (by (first | exact s0 | exact s1 | exact s2 | exact s3 | exact sd | exact sa | exact sn (by simp))) ?_)); all_goals (refine Goal.allUp (by kernel_rfl) ?_))
        | (refine Goal.loud (o := ⟨some 29, _, _, _, _, _⟩) rfl ?_; apply Loud.callN; exact rfl; exact rfl; exact rfl; exact rfl; exact T.bod_81; exact (fun w' H => from_ok (dn := []) (hT w' H.mod) (RdV.nil w') ht (.inl rfl) hx); rintro ⟨bl, l⟩ hl; dsimp only at hl ⊢)
        | (apply G.move; exact rfl; exact rfl)
        | (apply G.assign; exact rfl; exact rfl)
        | refine Goal.seq (fun _ _ => ?_)
        | refine Goal.next (by assumption) ?_
        | refine Goal.lnil ?_
        | refine Goal.region ?_
        | refine Goal.skip ?_
        | refine Goal.block ?_
        | refine Goal.exit ?_
        | refine Goal.ret ?_
        | refine Goal.then_exit ?_
        | refine Goal.then_ret ?_
        | refine Goal.inBlock_exit ?_
        | refine Goal.inBlock_normal ?_
        | refine Goal.inBlock_ret ?_
        | refine Goal.inBlock_other rfl ?_
        | (apply Goal.condT; exact rfl)
        | (apply Goal.condF; exact rfl)
        | (refine Goal.condD rfl (fun hc => ?_) (fun hc => ?_) <;> first | (exfalso; omega) | contradiction | skip)
        | refine Goal.condB rfl (fun hc => ?_) (fun hc => ?_)
        | refine Goal.guardT rfl rfl ?_
        | refine Goal.guardF rfl rfl rfl rfl ?_
        | refine Goal.guardU rfl rfl rfl ?_
        | (refine Goal.guardD rfl rfl (fun hc => ?_) (fun hc => ?_) <;> first | (exfalso; omega) | contradiction | skip)
        | refine Goal.guardB rfl rfl (fun hc => ?_) (fun hc => ?_)
        | (apply G.fieldAddr; exact rfl; exact rfl; (first | exact T.fld_64_0 | exact T.fld_64_1 | exact T.fld_64_2 | exact T.fld_64_3))
        | (apply G.load; exact rfl; exact rfl; first | exact LoadOK.one T.one_30 0 rfl (hcell _ (by omega)) | exact LoadOK.one (by first | exact T.one_3 | exact T.one_4 | exact T.one_22 | exact T.one_30) 0 rfl rfl | exact LoadOK.one (by first | exact T.one_3 | exact T.one_4 | exact T.one_22 | exact T.one_30) 1 rfl rfl | exact LoadOK.one (by first | exact T.one_3 | exact T.one_4 | exact T.one_22 | exact T.one_30) 2 rfl rfl | exact LoadOK.one (by first | exact T.one_3 | exact T.one_4 | exact T.one_22 | exact T.one_30) 3 rfl rfl | exact LoadOK.one (by first | exact T.one_3 | exact T.one_4 | exact T.one_22 | exact T.one_30) 4 rfl rfl | exact ag3 T.agg_25 0 rfl rfl rfl rfl | exact ag3 T.agg_25 1 rfl rfl rfl rfl | exact ag3 T.agg_25 2 rfl rfl rfl rfl | exact ag3 T.agg_25 3 rfl rfl rfl rfl | exact ag3 T.agg_25 4 rfl rfl rfl rfl)
        | (apply G.pickT; exact rfl; exact rfl; exact rfl)
        | (apply G.pickF; exact rfl; exact rfl; exact rfl)
        | (apply G.lss; exact rfl; exact rfl; exact rfl)
        | (apply G.geq; exact rfl; exact rfl; exact rfl)
        | (apply G.eql; exact rfl; exact rfl; exact rfl)
        | (apply G.neq; exact rfl; exact rfl; exact rfl)
        | (apply G.add; exact rfl; exact rfl; exact rfl; exact IntWalk.i64_in _ (by omega))
        | (refine Goal.quiet rfl (Run.eqlSN T.slc_30 rfl rfl rfl) ?_)
        | (apply G.notT; exact rfl; exact rfl)
        | (apply G.notF; exact rfl; exact rfl)
        | (refine G.notD rfl rfl ?_)
        | (apply G.notB; exact rfl; exact rfl)
        | (apply G.extract; exact rfl; exact rfl; exact rfl)
        | (apply G.len; exact rfl; exact rfl; exact T.slc_22)
        | (apply G.nilCheckP; exact rfl; exact rfl)
        | (refine G.indexAddr1 rfl (by first | exact T.slc_22 | exact T.slc_30) (by first | exact T.sz_3 | exact T.sz_4 | exact T.sz_30) rfl rfl _ rfl (by omega) ?_)
        | (refine G.indexAddr1 rfl (by first | exact T.slc_22 | exact T.slc_30) (by first | exact T.sz_3 | exact T.sz_4 | exact T.sz_30) rfl rfl _ (Int.toNat_of_nonneg (by omega)).symm (by omega) ?_)
        | (refine G.indexAddrA rfl T.arr_62 (by first | exact T.sz_3 | exact T.sz_4 | exact T.sz_30) rfl rfl _ rfl (by omega) ?_)
        | (refine G.indexAddrA rfl T.arr_62 (by first | exact T.sz_3 | exact T.sz_4 | exact T.sz_30) rfl rfl _ (Int.toNat_of_nonneg (by omega)).symm (by omega) ?_)
        | (refine Goal.loud rfl ?_; refine Loud.store0 rfl rfl T.sz_30 rfl rfl rfl (by first | exact Nat.le_of_ble_eq_true rfl | exact Nat.le_refl _ | decide | (simp; omega)) rfl ?_)
        | (refine Goal.loud rfl ?_; refine Loud.store1 rfl rfl T.sz_30 rfl rfl rfl (by first | exact Nat.le_of_ble_eq_true rfl | exact Nat.le_refl _ | decide | (simp; omega)) rfl ?_)
        | (refine Goal.loud rfl ?_; refine Loud.store2 rfl rfl T.sz_30 rfl rfl rfl (by first | exact Nat.le_of_ble_eq_true rfl | exact Nat.le_refl _ | decide | (simp; omega)) rfl ?_)
        | (refine Goal.loud rfl ?_; refine Loud.store3 rfl rfl T.sz_30 rfl rfl rfl (by first | exact Nat.le_of_ble_eq_true rfl | exact Nat.le_refl _ | decide | (simp; omega)) rfl ?_)
        | (refine Goal.loud rfl ?_; refine Loud.store4 rfl rfl T.sz_30 rfl rfl rfl (by first | exact Nat.le_of_ble_eq_true rfl | exact Nat.le_refl _ | decide | (simp; omega)) rfl ?_))
      exact Goal.meet hk ⟨Fs.set x.toNat (some (bl, l)), Ts, B ++ [(bl, .cells (ints l).toArray 3)]⟩ ⟨hZ.setF (by omega) (by rw [Int.toNat_of_nonneg hx.1]; exact hl), bl, l, by dsimp only; rw [List.getElem?_set_self (by omega)]⟩ ⟨rfl, rfl, rfl, trivial⟩ (fun _ h => by dsimp only; rw [← wr_from (o := some (bl, l)) (k := x.toNat) (off := 0 + 4 + x.toNat * 1) (by omega) (by omega)]; exact h)
    | some q =>
      obtain ⟨b, l⟩ := q
      have hcell : ∀ off, off = 4 + x.toNat → (zc tp vo vl (.slice ad dn.length cd) Fs Ts).toArray.toList[off]? = some (.slice (some ⟨b, 0, none⟩) l.length l.length) := fun off e => zc_from ho e
      repeat' (first
        | (apply G.move; exact rfl; exact rfl)
        | (apply G.assign; exact rfl; exact rfl)
        | refine Goal.seq (fun _ _ => ?_)
        | refine Goal.next (by assumption) ?_
        | refine Goal.lnil ?_
        | refine Goal.region ?_
        | refine Goal.skip ?_
        | refine Goal.block ?_
        | refine Goal.exit ?_
        | refine Goal.ret ?_
        | refine Goal.then_exit ?_
        | refine Goal.then_ret ?_
        | refine Goal.inBlock_exit ?_
        | refine Goal.inBlock_normal ?_
        | refine Goal.inBlock_ret ?_
        | refine Goal.inBlock_other rfl ?_
        | (apply Goal.condT; exact rfl)
        | (apply Goal.condF; exact rfl)
        | (refine Goal.condD rfl (fun hc => ?_) (fun hc => ?_) <;> first | (exfalso; omega) | contradiction | skip)
        | refine Goal.condB rfl (fun hc => ?_) (fun hc => ?_)
        | refine Goal.guardT rfl rfl ?_
        | refine Goal.guardF rfl rfl rfl rfl ?_
        | refine Goal.guardU rfl rfl rfl ?_
        | (refine Goal.guardD rfl rfl (fun hc => ?_) (fun hc => ?_) <;> first | (exfalso; omega) | contradiction | skip)
        | refine Goal.guardB rfl rfl (fun hc => ?_) (fun hc => ?_)
        | (apply G.fieldAddr; exact rfl; exact rfl; (first | exact T.fld_64_0 | exact T.fld_64_1 | exact T.fld_64_2 | exact T.fld_64_3))
        | (apply G.load; exact rfl; exact rfl; first | exact LoadOK.one T.one_30 0 rfl (hcell _ (by omega)) | exact LoadOK.one (by first | exact T.one_3 | exact T.one_4 | exact T.one_22 | exact T.one_30) 0 rfl rfl | exact LoadOK.one (by first | exact T.one_3 | exact T.one_4 | exact T.one_22 | exact T.one_30) 1 rfl rfl | exact LoadOK.one (by first | exact T.one_3 | exact T.one_4 | exact T.one_22 | exact T.one_30) 2 rfl rfl | exact LoadOK.one (by first | exact T.one_3 | exact T.one_4 | exact T.one_22 | exact T.one_30) 3 rfl rfl | exact LoadOK.one (by first | exact T.one_3 | exact T.one_4 | exact T.one_22 | exact T.one_30) 4 rfl rfl | exact ag3 T.agg_25 0 rfl rfl rfl rfl | exact ag3 T.agg_25 1 rfl rfl rfl rfl | exact ag3 T.agg_25 2 rfl rfl rfl rfl | exact ag3 T.agg_25 3 rfl rfl rfl rfl | exact ag3 T.agg_25 4 rfl rfl rfl rfl)
        | (apply G.pickT; exact rfl; exact rfl; exact rfl)
        | (apply G.pickF; exact rfl; exact rfl; exact rfl)
        | (apply G.lss; exact rfl; exact rfl; exact rfl)
        | (apply G.geq; exact rfl; exact rfl; exact rfl)
        | (apply G.eql; exact rfl; exact rfl; exact rfl)
        | (apply G.neq; exact rfl; exact rfl; exact rfl)
        | (apply G.add; exact rfl; exact rfl; exact rfl; exact IntWalk.i64_in _ (by omega))
        | (refine Goal.quiet rfl (Run.eqlSN T.slc_30 rfl rfl rfl) ?_)
        | (apply G.notT; exact rfl; exact rfl)
        | (apply G.notF; exact rfl; exact rfl)
        | (refine G.notD rfl rfl ?_)
        | (apply G.notB; exact rfl; exact rfl)
        | (apply G.extract; exact rfl; exact rfl; exact rfl)
        | (apply G.len; exact rfl; exact rfl; exact T.slc_22)
        | (apply G.nilCheckP; exact rfl; exact rfl)
        | (refine G.indexAddr1 rfl (by first | exact T.slc_22 | exact T.slc_30) (by first | exact T.sz_3 | exact T.sz_4 | exact T.sz_30) rfl rfl _ rfl (by omega) ?_)
        | (refine G.indexAddr1 rfl (by first | exact T.slc_22 | exact T.slc_30) (by first | exact T.sz_3 | exact T.sz_4 | exact T.sz_30) rfl rfl _ (Int.toNat_of_nonneg (by omega)).symm (by omega) ?_)
        | (refine G.indexAddrA rfl T.arr_62 (by first | exact T.sz_3 | exact T.sz_4 | exact T.sz_30) rfl rfl _ rfl (by omega) ?_)
        | (refine G.indexAddrA rfl T.arr_62 (by first | exact T.sz_3 | exact T.sz_4 | exact T.sz_30) rfl rfl _ (Int.toNat_of_nonneg (by omega)).symm (by omega) ?_)
        | (refine Goal.loud rfl ?_; refine Loud.store0 rfl rfl T.sz_30 rfl rfl rfl (by first | exact Nat.le_of_ble_eq_true rfl | exact Nat.le_refl _ | decide | (simp; omega)) rfl ?_)
        | (refine Goal.loud rfl ?_; refine Loud.store1 rfl rfl T.sz_30 rfl rfl rfl (by first | exact Nat.le_of_ble_eq_true rfl | exact Nat.le_refl _ | decide | (simp; omega)) rfl ?_)
        | (refine Goal.loud rfl ?_; refine Loud.store2 rfl rfl T.sz_30 rfl rfl rfl (by first | exact Nat.le_of_ble_eq_true rfl | exact Nat.le_refl _ | decide | (simp; omega)) rfl ?_)
        | (refine Goal.loud rfl ?_; refine Loud.store3 rfl rfl T.sz_30 rfl rfl rfl (by first | exact Nat.le_of_ble_eq_true rfl | exact Nat.le_refl _ | decide | (simp; omega)) rfl ?_)
        | (refine Goal.loud rfl ?_; refine Loud.store4 rfl rfl T.sz_30 rfl rfl rfl (by first | exact Nat.le_of_ble_eq_true rfl | exact Nat.le_refl _ | decide | (simp; omega)) rfl ?_))
      exact Goal.meet hk ⟨Fs, Ts, B⟩ ⟨hZ, b, l, ho⟩ ⟨rfl, rfl, rfl, trivial⟩ (fun _ h => h)
  clear hZ hlf hlt ho o H0
  rintro ⟨Fs, Ts, B⟩ ⟨hZ, bf, f, hf⟩
  dsimp only at hZ hf ⊢
  have hlf := hZ.lf
  have hlt := hZ.lt
  obtain ⟨o, ho⟩ : ∃ o, Ts[y.toNat]? = some o := ⟨_, List.getElem?_eq_getElem (by omega)⟩
  refine Goal.cut (x := Code.seq (Code.region 3 _ _) _) (X := ZS) (fun s => [(0, .pointer (some ⟨bz, 0, none⟩)), (1, .int .i64 x), (2, .int .i64 y)]) (fun s => (bz, .cells (zc tp vo vl (.slice ad dn.length cd) s.Fs s.Ts).toArray 64) :: s.B) (fun s => ZI tp s.Fs s.Ts s.B ∧ (∃ b l, s.Fs[x.toNat]? = some (some (b, l))) ∧ ∃ b l, s.Ts[y.toNat]? = some (some (b, l))) ?_ ?_
  · intro K hk
    cases o with
    | none =>
      have hcell : ∀ off, off = 68 + y.toNat → (zc tp vo vl (.slice ad dn.length cd) Fs Ts).toArray.toList[off]? = some (.slice none 0 0) := fun off e => zc_to hlf ho e
      have hzl : (zc tp vo vl (.slice ad dn.length cd) Fs Ts).length = 132 := zc_len hlf hlt
      repeat' (first
        | (refine Goal.drawAll (id := 4) 14 T.mixed ?_; all_goals ((refine Goal.takeP (listed' := #[Ya,No,No,No,No,No,No,No,No,No,No,No,No,No,No]) 0 ⟨rfl, by kernel_rfl, by kernel_rfl, by kernel_rfl, by kernel_rfl⟩ rfl (fun _ _ _ _ h => h) (by intro _; exact Run.move rfl) ?_)); all_goals ((refine Goal.takeP (listed' := #[Ya,Ya,No,No,No,No,No,No,No,No,No,No,No,No,No]) 1 ⟨rfl, by kernel_rfl, by kernel_rfl, by kernel_rfl, by kernel_rfl⟩ rfl (fun _ _ _ _ h => h) (by intro _; exact Run.move rfl) ?_)); all_goals ((refine Goal.takeP (listed' := #[Ya,Ya,Ya,No,No,No,No,No,No,No,No,No,No,No,No]) 2 ⟨rfl, by kernel_rfl, by kernel_rfl, by kernel_rfl, by kernel_rfl⟩ rfl (fun _ _ _ _ h => h) (by intro _; exact Run.move rfl) ?_)); all_goals ((refine Goal.takeP (listed' := #[Ya,Ya,Ya,Ya,No,No,No,No,No,No,No,No,No,No,No]) 3 ⟨rfl, by kernel_rfl, by kernel_rfl, by kernel_rfl, by kernel_rfl⟩ rfl (fun _ _ _ _ h => h) (by intro _; exact Run.nilCheckP rfl) ?_)); all_goals ((refine Goal.takeP (listed' := #[Ya,Ya,Ya,Ya,Ya,No,No,No,No,No,No,No,No,No,No]) 4 ⟨rfl, by kernel_rfl, by kernel_rfl, by kernel_rfl, by kernel_rfl⟩ rfl (fun _ _ _ _ h => h) (by intro _; exact Run.fieldAddr T.fld_64_0 rfl) ?_)); all_goals ((refine Goal.takeP (listed' := #[Ya,Ya,Ya,Ya,Ya,No,Ya,No,No,No,No,No,No,No,No]) 6 ⟨rfl, by kernel_rfl, by kernel_rfl, by kernel_rfl, by kernel_rfl⟩ rfl (fun _ _ _ _ h => h) (by intro _; exact Run.move rfl) ?_)); all_goals ((refine Goal.takeP (listed' := #[Ya,Ya,Ya,Ya,Ya,No,Ya,No,No,No,No,Ya,No,No,No]) 11 ⟨rfl, by kernel_rfl, by kernel_rfl, by kernel_rfl, by kernel_rfl⟩ rfl (fun _ _ _ _ h => h) (by intro _; exact Run.nilCheckP rfl) ?_)); all_goals ((refine Goal.takeP (listed' := #[Ya,Ya,Ya,Ya,Ya,No,Ya,No,No,No,No,Ya,Ya,No,No]) 12 ⟨rfl, by kernel_rfl, by kernel_rfl, by kernel_rfl, by kernel_rfl⟩ rfl (fun _ _ _ _ h => h) (by intro _; exact Run.fieldAddr T.fld_64_3 rfl) ?_)); all_goals ((refine Goal.take (listed' := #[Ya,Ya,Ya,Ya,Ya,Ya,Ya,No,No,No,No,Ya,Ya,No,No]) 5 ⟨rfl, by kernel_rfl, by kernel_rfl, by kernel_rfl, by kernel_rfl, by kernel_rfl⟩ rfl (by (first | exact s0 | exact s1 | exact s2 | exact s3 | exact sd | exact sa | exact sn (by simp))) (fun _ _ _ _ h => h) (by (apply Run.load; exact rfl; first | exact LoadOK.one T.one_30 0 rfl (hcell _ (by omega)) | exact ag3 T.agg_25 0 rfl rfl rfl rfl | exact ag3 T.agg_25 1 rfl rfl rfl rfl | exact ag3 T.agg_25 2 rfl rfl rfl rfl | exact ag3 T.agg_25 3 rfl rfl rfl rfl | exact ag3 T.agg_25 4 rfl rfl rfl rfl)) ?_)); all_goals (refine Goal.ready1 (i := 7) (by kernel_rfl) ?_); all_goals ((refine Goal.up (i := 7) (listed' := #[Ya,Ya,Ya,Ya,Ya,Ya,Ya,Ya,No,No,No,Ya,Ya,No,No]) rfl (by kernel_rfl) ?_; (apply Loud.callN; exact rfl; exact rfl; exact rfl; exact rfl; exact T.bod_49; exact (fun w' H => dist_ok (dn := []) (hT w' H.mod) (RdV.nil w') ht (.inl rfl) hy); rintro ⟨bl, l⟩ hl; dsimp only at hl ⊢); first | refine Goal.tail rfl ?_ | refine Goal.kept (by (first | exact s0 | exact s1 | exact s2 | exact s3 | exact sd | exact sa | exact sn (by simp))) ?_)); all_goals ((refine Goal.takeP (listed' := #[Ya,Ya,Ya,Ya,Ya,Ya,Ya,Ya,Ya,No,No,Ya,Ya,No,No]) 8 ⟨rfl, by kernel_rfl, by kernel_rfl, by kernel_rfl, by kernel_rfl⟩ rfl (fun _ _ _ _ h => h) (by intro _; exact Run.move rfl) ?_)); all_goals ((refine Goal.takeP (listed' := #[Ya,Ya,Ya,Ya,Ya,Ya,Ya,Ya,Ya,Ya,No,Ya,Ya,No,No]) 9 ⟨rfl, by kernel_rfl, by kernel_rfl, by kernel_rfl, by kernel_rfl⟩ rfl (fun _ _ _ _ h => h) (by intro _; exact Run.extract rfl rfl) ?_)); all_goals ((refine Goal.takeP (listed' := #[Ya,Ya,Ya,Ya,Ya,Ya,Ya,Ya,Ya,Ya,Ya,Ya,Ya,No,No]) 10 ⟨rfl, by kernel_rfl, by kernel_rfl, by kernel_rfl, by kernel_rfl⟩ rfl (fun _ _ _ _ h => h) (by intro _; exact Run.extract rfl rfl) ?_)); all_goals ((refine Goal.takeP (listed' := #[Ya,Ya,Ya,Ya,Ya,Ya,Ya,Ya,Ya,Ya,Ya,Ya,Ya,Ya,No]) 13 ⟨rfl, by kernel_rfl, by kernel_rfl, by kernel_rfl, by kernel_rfl⟩ rfl (fun _ _ _ _ h => h) (by intro _; first | exact Run.indexAddrA T.arr_62 T.sz_30 rfl rfl rfl (by omega) | exact Run.indexAddrA T.arr_62 T.sz_30 rfl rfl (Int.toNat_of_nonneg (by omega)).symm (by omega)) ?_)); all_goals (refine Goal.ready1 (i := 14) (by kernel_rfl) ?_); all_goals ((refine Goal.up (i := 14) (listed' := #[Ya,Ya,Ya,Ya,Ya,Ya,Ya,Ya,Ya,Ya,Ya,Ya,Ya,Ya,Ya]) rfl (by kernel_rfl) ?_; (first | refine Loud.store0 rfl rfl T.sz_30 rfl rfl rfl (by first | exact Nat.le_of_ble_eq_true rfl | exact Nat.le_refl _ | decide | (simp; omega)) rfl ?_ | refine Loud.store1 rfl rfl T.sz_30 rfl rfl rfl (by first | exact Nat.le_of_ble_eq_true rfl | exact Nat.le_refl _ | decide | (simp; omega)) rfl ?_ | refine Loud.store2 rfl rfl T.sz_30 rfl rfl rfl (by first | exact Nat.le_of_ble_eq_true rfl | exact Nat.le_refl _ | decide | (simp; omega)) rfl ?_ | refine Loud.store3 rfl rfl T.sz_30 rfl rfl rfl (by first | exact Nat.le_of_ble_eq_true rfl | exact Nat.le_refl _ | decide | (simp; omega)) rfl ?_ | refine Loud.store4 rfl rfl T.sz_30 rfl rfl rfl (by first | exact Nat.le_of_ble_eq_true rfl | exact Nat.le_refl _ | decide | (simp; omega)) rfl ?_); first | refine Goal.tail rfl ?_ | refine Goal.kept (by (first | exact s0 | exact s1 | exact s2 | exact s3 | exact sd | exact sa | exact sn (by simp))) ?_)); all_goals (refine Goal.allUp (by kernel_rfl) ?_))
        | (refine Goal.loud (o := ⟨some 50, _, _, _, _, _⟩) rfl ?_; apply Loud.callN; exact rfl; exact rfl; exact rfl; exact rfl; exact T.bod_49; exact (fun w' H => dist_ok (dn := []) (hT w' H.mod) (RdV.nil w') ht (.inl rfl) hy); rintro ⟨bl, l⟩ hl; dsimp only at hl ⊢)
        | (apply G.move; exact rfl; exact rfl)
        | (apply G.assign; exact rfl; exact rfl)
        | refine Goal.seq (fun _ _ => ?_)
        | refine Goal.next (by assumption) ?_
        | refine Goal.lnil ?_
        | refine Goal.region ?_
        | refine Goal.skip ?_
        | refine Goal.block ?_
        | refine Goal.exit ?_
        | refine Goal.ret ?_
        | refine Goal.then_exit ?_
        | refine Goal.then_ret ?_
        | refine Goal.inBlock_exit ?_
        | refine Goal.inBlock_normal ?_
        | refine Goal.inBlock_ret ?_
        | refine Goal.inBlock_other rfl ?_
        | (apply Goal.condT; exact rfl)
        | (apply Goal.condF; exact rfl)
        | (refine Goal.condD rfl (fun hc => ?_) (fun hc => ?_) <;> first | (exfalso; omega) | contradiction | skip)
        | refine Goal.condB rfl (fun hc => ?_) (fun hc => ?_)
        | refine Goal.guardT rfl rfl ?_
        | refine Goal.guardF rfl rfl rfl rfl ?_
        | refine Goal.guardU rfl rfl rfl ?_
        | (refine Goal.guardD rfl rfl (fun hc => ?_) (fun hc => ?_) <;> first | (exfalso; omega) | contradiction | skip)
        | refine Goal.guardB rfl rfl (fun hc => ?_) (fun hc => ?_)
        | (apply G.fieldAddr; exact rfl; exact rfl; (first | exact T.fld_64_0 | exact T.fld_64_1 | exact T.fld_64_2 | exact T.fld_64_3))
        | (apply G.load; exact rfl; exact rfl; first | exact LoadOK.one T.one_30 0 rfl (hcell _ (by omega)) | exact LoadOK.one (by first | exact T.one_3 | exact T.one_4 | exact T.one_22 | exact T.one_30) 0 rfl rfl | exact LoadOK.one (by first | exact T.one_3 | exact T.one_4 | exact T.one_22 | exact T.one_30) 1 rfl rfl | exact LoadOK.one (by first | exact T.one_3 | exact T.one_4 | exact T.one_22 | exact T.one_30) 2 rfl rfl | exact LoadOK.one (by first | exact T.one_3 | exact T.one_4 | exact T.one_22 | exact T.one_30) 3 rfl rfl | exact LoadOK.one (by first | exact T.one_3 | exact T.one_4 | exact T.one_22 | exact T.one_30) 4 rfl rfl | exact ag3 T.agg_25 0 rfl rfl rfl rfl | exact ag3 T.agg_25 1 rfl rfl rfl rfl | exact ag3 T.agg_25 2 rfl rfl rfl rfl | exact ag3 T.agg_25 3 rfl rfl rfl rfl | exact ag3 T.agg_25 4 rfl rfl rfl rfl)
        | (apply G.pickT; exact rfl; exact rfl; exact rfl)
        | (apply G.pickF; exact rfl; exact rfl; exact rfl)
        | (apply G.lss; exact rfl; exact rfl; exact rfl)
        | (apply G.geq; exact rfl; exact rfl; exact rfl)
        | (apply G.eql; exact rfl; exact rfl; exact rfl)
        | (apply G.neq; exact rfl; exact rfl; exact rfl)
        | (apply G.add; exact rfl; exact rfl; exact rfl; exact IntWalk.i64_in _ (by omega))
        | (refine Goal.quiet rfl (Run.eqlSN T.slc_30 rfl rfl rfl) ?_)
        | (apply G.notT; exact rfl; exact rfl)
        | (apply G.notF; exact rfl; exact rfl)
        | (refine G.notD rfl rfl ?_)
        | (apply G.notB; exact rfl; exact rfl)
        | (apply G.extract; exact rfl; exact rfl; exact rfl)
        | (apply G.len; exact rfl; exact rfl; exact T.slc_22)
        | (apply G.nilCheckP; exact rfl; exact rfl)
        | (refine G.indexAddr1 rfl (by first | exact T.slc_22 | exact T.slc_30) (by first | exact T.sz_3 | exact T.sz_4 | exact T.sz_30) rfl rfl _ rfl (by omega) ?_)
        | (refine G.indexAddr1 rfl (by first | exact T.slc_22 | exact T.slc_30) (by first | exact T.sz_3 | exact T.sz_4 | exact T.sz_30) rfl rfl _ (Int.toNat_of_nonneg (by omega)).symm (by omega) ?_)
        | (refine G.indexAddrA rfl T.arr_62 (by first | exact T.sz_3 | exact T.sz_4 | exact T.sz_30) rfl rfl _ rfl (by omega) ?_)
        | (refine G.indexAddrA rfl T.arr_62 (by first | exact T.sz_3 | exact T.sz_4 | exact T.sz_30) rfl rfl _ (Int.toNat_of_nonneg (by omega)).symm (by omega) ?_)
        | (refine Goal.loud rfl ?_; refine Loud.store0 rfl rfl T.sz_30 rfl rfl rfl (by first | exact Nat.le_of_ble_eq_true rfl | exact Nat.le_refl _ | decide | (simp; omega)) rfl ?_)
        | (refine Goal.loud rfl ?_; refine Loud.store1 rfl rfl T.sz_30 rfl rfl rfl (by first | exact Nat.le_of_ble_eq_true rfl | exact Nat.le_refl _ | decide | (simp; omega)) rfl ?_)
        | (refine Goal.loud rfl ?_; refine Loud.store2 rfl rfl T.sz_30 rfl rfl rfl (by first | exact Nat.le_of_ble_eq_true rfl | exact Nat.le_refl _ | decide | (simp; omega)) rfl ?_)
        | (refine Goal.loud rfl ?_; refine Loud.store3 rfl rfl T.sz_30 rfl rfl rfl (by first | exact Nat.le_of_ble_eq_true rfl | exact Nat.le_refl _ | decide | (simp; omega)) rfl ?_)
        | (refine Goal.loud rfl ?_; refine Loud.store4 rfl rfl T.sz_30 rfl rfl rfl (by first | exact Nat.le_of_ble_eq_true rfl | exact Nat.le_refl _ | decide | (simp; omega)) rfl ?_))
      exact Goal.meet hk ⟨Fs, Ts.set y.toNat (some (bl, l)), B ++ [(bl, .cells (ints l).toArray 3)]⟩ ⟨hZ.setT (by omega) (by rw [Int.toNat_of_nonneg hy.1]; exact hl), ⟨bf, f, hf⟩, bl, l, by dsimp only; rw [List.getElem?_set_self (by omega)]⟩ ⟨rfl, rfl, rfl, trivial⟩ (fun _ h => by dsimp only; rw [← wr_to (o := some (bl, l)) (k := y.toNat) (off := 0 + 68 + y.toNat * 1) hlf (by omega) (by omega)]; exact h)
    | some q =>
      obtain ⟨b, l⟩ := q
      have hcell : ∀ off, off = 68 + y.toNat → (zc tp vo vl (.slice ad dn.length cd) Fs Ts).toArray.toList[off]? = some (.slice (some ⟨b, 0, none⟩) l.length l.length) := fun off e => zc_to hlf ho e
      repeat' (first
        | (apply G.move; exact rfl; exact rfl)
        | (apply G.assign; exact rfl; exact rfl)
        | refine Goal.seq (fun _ _ => ?_)
        | refine Goal.next (by assumption) ?_
        | refine Goal.lnil ?_
        | refine Goal.region ?_
        | refine Goal.skip ?_
        | refine Goal.block ?_
        | refine Goal.exit ?_
        | refine Goal.ret ?_
        | refine Goal.then_exit ?_
        | refine Goal.then_ret ?_
        | refine Goal.inBlock_exit ?_
        | refine Goal.inBlock_normal ?_
        | refine Goal.inBlock_ret ?_
        | refine Goal.inBlock_other rfl ?_
        | (apply Goal.condT; exact rfl)
        | (apply Goal.condF; exact rfl)
        | (refine Goal.condD rfl (fun hc => ?_) (fun hc => ?_) <;> first | (exfalso; omega) | contradiction | skip)
        | refine Goal.condB rfl (fun hc => ?_) (fun hc => ?_)
        | refine Goal.guardT rfl rfl ?_
        | refine Goal.guardF rfl rfl rfl rfl ?_
        | refine Goal.guardU rfl rfl rfl ?_
        | (refine Goal.guardD rfl rfl (fun hc => ?_) (fun hc => ?_) <;> first | (exfalso; omega) | contradiction | skip)
        | refine Goal.guardB rfl rfl (fun hc => ?_) (fun hc => ?_)
        | (apply G.fieldAddr; exact rfl; exact rfl; (first | exact T.fld_64_0 | exact T.fld_64_1 | exact T.fld_64_2 | exact T.fld_64_3))
        | (apply G.load; exact rfl; exact rfl; first | exact LoadOK.one T.one_30 0 rfl (hcell _ (by omega)) | exact LoadOK.one (by first | exact T.one_3 | exact T.one_4 | exact T.one_22 | exact T.one_30) 0 rfl rfl | exact LoadOK.one (by first | exact T.one_3 | exact T.one_4 | exact T.one_22 | exact T.one_30) 1 rfl rfl | exact LoadOK.one (by first | exact T.one_3 | exact T.one_4 | exact T.one_22 | exact T.one_30) 2 rfl rfl | exact LoadOK.one (by first | exact T.one_3 | exact T.one_4 | exact T.one_22 | exact T.one_30) 3 rfl rfl | exact LoadOK.one (by first | exact T.one_3 | exact T.one_4 | exact T.one_22 | exact T.one_30) 4 rfl rfl | exact ag3 T.agg_25 0 rfl rfl rfl rfl | exact ag3 T.agg_25 1 rfl rfl rfl rfl | exact ag3 T.agg_25 2 rfl rfl rfl rfl | exact ag3 T.agg_25 3 rfl rfl rfl rfl | exact ag3 T.agg_25 4 rfl rfl rfl rfl)
        | (apply G.pickT; exact rfl; exact rfl; exact rfl)
        | (apply G.pickF; exact rfl; exact rfl; exact rfl)
        | (apply G.lss; exact rfl; exact rfl; exact rfl)
        | (apply G.geq; exact rfl; exact rfl; exact rfl)
        | (apply G.eql; exact rfl; exact rfl; exact rfl)
        | (apply G.neq; exact rfl; exact rfl; exact rfl)
        | (apply G.add; exact rfl; exact rfl; exact rfl; exact IntWalk.i64_in _ (by omega))
        | (refine Goal.quiet rfl (Run.eqlSN T.slc_30 rfl rfl rfl) ?_)
        | (apply G.notT; exact rfl; exact rfl)
        | (apply G.notF; exact rfl; exact rfl)
        | (refine G.notD rfl rfl ?_)
        | (apply G.notB; exact rfl; exact rfl)
        | (apply G.extract; exact rfl; exact rfl; exact rfl)
        | (apply G.len; exact rfl; exact rfl; exact T.slc_22)
        | (apply G.nilCheckP; exact rfl; exact rfl)
        | (refine G.indexAddr1 rfl (by first | exact T.slc_22 | exact T.slc_30) (by first | exact T.sz_3 | exact T.sz_4 | exact T.sz_30) rfl rfl _ rfl (by omega) ?_)
        | (refine G.indexAddr1 rfl (by first | exact T.slc_22 | exact T.slc_30) (by first | exact T.sz_3 | exact T.sz_4 | exact T.sz_30) rfl rfl _ (Int.toNat_of_nonneg (by omega)).symm (by omega) ?_)
        | (refine G.indexAddrA rfl T.arr_62 (by first | exact T.sz_3 | exact T.sz_4 | exact T.sz_30) rfl rfl _ rfl (by omega) ?_)
        | (refine G.indexAddrA rfl T.arr_62 (by first | exact T.sz_3 | exact T.sz_4 | exact T.sz_30) rfl rfl _ (Int.toNat_of_nonneg (by omega)).symm (by omega) ?_)
        | (refine Goal.loud rfl ?_; refine Loud.store0 rfl rfl T.sz_30 rfl rfl rfl (by first | exact Nat.le_of_ble_eq_true rfl | exact Nat.le_refl _ | decide | (simp; omega)) rfl ?_)
        | (refine Goal.loud rfl ?_; refine Loud.store1 rfl rfl T.sz_30 rfl rfl rfl (by first | exact Nat.le_of_ble_eq_true rfl | exact Nat.le_refl _ | decide | (simp; omega)) rfl ?_)
        | (refine Goal.loud rfl ?_; refine Loud.store2 rfl rfl T.sz_30 rfl rfl rfl (by first | exact Nat.le_of_ble_eq_true rfl | exact Nat.le_refl _ | decide | (simp; omega)) rfl ?_)
        | (refine Goal.loud rfl ?_; refine Loud.store3 rfl rfl T.sz_30 rfl rfl rfl (by first | exact Nat.le_of_ble_eq_true rfl | exact Nat.le_refl _ | decide | (simp; omega)) rfl ?_)
        | (refine Goal.loud rfl ?_; refine Loud.store4 rfl rfl T.sz_30 rfl rfl rfl (by first | exact Nat.le_of_ble_eq_true rfl | exact Nat.le_refl _ | decide | (simp; omega)) rfl ?_))
      exact Goal.meet hk ⟨Fs, Ts, B⟩ ⟨hZ, ⟨bf, f, hf⟩, b, l, ho⟩ ⟨rfl, rfl, rfl, trivial⟩ (fun _ h => h)
  clear hZ hlf hlt ho o hf f bf
  rintro ⟨Fs, Ts, B⟩ ⟨hZ, ⟨bf, f, hf⟩, bt, t, ht2⟩
  dsimp only at hZ hf ht2 ⊢
  have hlf := hZ.lf
  have hlt := hZ.lt
  obtain ⟨hfd, hmf⟩ := hZ.f _ _ _ hf
  obtain ⟨htd, hmt⟩ := hZ.t _ _ _ ht2
  rw [Int.toNat_of_nonneg hx.1] at hfd
  rw [Int.toNat_of_nonneg hy.1] at htd
  have hcf : ∀ off, off = 4 + x.toNat → (zc tp vo vl (.slice ad dn.length cd) Fs Ts).toArray.toList[off]? = some (.slice (some ⟨bf, 0, none⟩) f.length f.length) := fun off e => zc_from hf e
  have hct : ∀ off, off = 68 + y.toNat → (zc tp vo vl (.slice ad dn.length cd) Fs Ts).toArray.toList[off]? = some (.slice (some ⟨bt, 0, none⟩) t.length t.length) := fun off e => zc_to hlf ht2 e
  have hfl := hfd.len
  have htl := htd.len
  have hfb := Bell.bound (GF.ok ht) (GR.cap (rev := true) (dn := []) (d := x) ht) (by decide) hfd.bell
  have htb := Bell.bound (GD.ok ht) (GD.capq ht) (by decide) htd.bell
  have hAy := Bell.one (GF.ok ht) hA hfd.bell y hy.1 hy.2
  have hus : UsesP tp dn Ax By x y ↔ UsesP tp dn (ia f) (ia t) x y := UsesP.congr ht hy (fun z z0 z1 => Bell.one (GF.ok ht) hA hfd.bell z z0 z1) (fun z z0 z1 => Bell.one (GD.ok ht) hB htd.bell z z0 z1)
  unfold FreeP at hr
  rw [hus, hAy] at hr
  clear hus
  repeat' (first
    | (apply G.move; exact rfl; exact rfl)
    | (apply G.assign; exact rfl; exact rfl)
    | refine Goal.seq (fun _ _ => ?_)
    | refine Goal.next (by assumption) ?_
    | refine Goal.lnil ?_
    | refine Goal.region ?_
    | refine Goal.skip ?_
    | refine Goal.block ?_
    | refine Goal.exit ?_
    | refine Goal.ret ?_
    | refine Goal.then_exit ?_
    | refine Goal.then_ret ?_
    | refine Goal.inBlock_exit ?_
    | refine Goal.inBlock_normal ?_
    | refine Goal.inBlock_ret ?_
    | refine Goal.inBlock_other rfl ?_
    | (apply Goal.condT; exact rfl)
    | (apply Goal.condF; exact rfl)
    | (refine Goal.condD rfl (fun hc => ?_) (fun hc => ?_) <;> first | (exfalso; omega) | contradiction | skip)
    | refine Goal.condB rfl (fun hc => ?_) (fun hc => ?_)
    | refine Goal.guardT rfl rfl ?_
    | refine Goal.guardF rfl rfl rfl rfl ?_
    | refine Goal.guardU rfl rfl rfl ?_
    | (refine Goal.guardD rfl rfl (fun hc => ?_) (fun hc => ?_) <;> first | (exfalso; omega) | contradiction | skip)
    | refine Goal.guardB rfl rfl (fun hc => ?_) (fun hc => ?_)
    | (apply G.fieldAddr; exact rfl; exact rfl; (first | exact T.fld_64_0 | exact T.fld_64_1 | exact T.fld_64_2 | exact T.fld_64_3))
    | (apply G.load; exact rfl; exact rfl; first | exact LoadOK.one T.one_30 0 rfl (hcf _ (by omega)) | exact LoadOK.iaM (b := bf) (l := f) (E := 3) (i := y) (x := ia f y) T.one_3 (by simp [hmf]) (by omega) rfl | exact LoadOK.one (by first | exact T.one_3 | exact T.one_4 | exact T.one_22 | exact T.one_30) 0 rfl rfl | exact LoadOK.one (by first | exact T.one_3 | exact T.one_4 | exact T.one_22 | exact T.one_30) 1 rfl rfl | exact LoadOK.one (by first | exact T.one_3 | exact T.one_4 | exact T.one_22 | exact T.one_30) 2 rfl rfl | exact LoadOK.one (by first | exact T.one_3 | exact T.one_4 | exact T.one_22 | exact T.one_30) 3 rfl rfl | exact LoadOK.one (by first | exact T.one_3 | exact T.one_4 | exact T.one_22 | exact T.one_30) 4 rfl rfl | exact ag3 T.agg_25 0 rfl rfl rfl rfl | exact ag3 T.agg_25 1 rfl rfl rfl rfl | exact ag3 T.agg_25 2 rfl rfl rfl rfl | exact ag3 T.agg_25 3 rfl rfl rfl rfl | exact ag3 T.agg_25 4 rfl rfl rfl rfl)
    | (apply G.pickT; exact rfl; exact rfl; exact rfl)
    | (apply G.pickF; exact rfl; exact rfl; exact rfl)
    | (apply G.lss; exact rfl; exact rfl; exact rfl)
    | (apply G.geq; exact rfl; exact rfl; exact rfl)
    | (apply G.eql; exact rfl; exact rfl; exact rfl)
    | (apply G.neq; exact rfl; exact rfl; exact rfl)
    | (apply G.add; exact rfl; exact rfl; exact rfl; exact IntWalk.i64_in _ (by omega))
    | (refine Goal.quiet rfl (Run.eqlSN T.slc_30 rfl rfl rfl) ?_)
    | (apply G.notT; exact rfl; exact rfl)
    | (apply G.notF; exact rfl; exact rfl)
    | (refine G.notD rfl rfl ?_)
    | (apply G.notB; exact rfl; exact rfl)
    | (apply G.extract; exact rfl; exact rfl; exact rfl)
    | (apply G.len; exact rfl; exact rfl; exact T.slc_22)
    | (apply G.nilCheckP; exact rfl; exact rfl)
    | (refine G.indexAddr1 rfl (by first | exact T.slc_22 | exact T.slc_30) (by first | exact T.sz_3 | exact T.sz_4 | exact T.sz_30) rfl rfl _ rfl (by omega) ?_)
    | (refine G.indexAddr1 rfl (by first | exact T.slc_22 | exact T.slc_30) (by first | exact T.sz_3 | exact T.sz_4 | exact T.sz_30) rfl rfl _ (Int.toNat_of_nonneg (by omega)).symm (by omega) ?_)
    | (refine G.indexAddrA rfl T.arr_62 (by first | exact T.sz_3 | exact T.sz_4 | exact T.sz_30) rfl rfl _ rfl (by omega) ?_)
    | (refine G.indexAddrA rfl T.arr_62 (by first | exact T.sz_3 | exact T.sz_4 | exact T.sz_30) rfl rfl _ (Int.toNat_of_nonneg (by omega)).symm (by omega) ?_)
    | (refine Goal.loud rfl ?_; refine Loud.store0 rfl rfl T.sz_30 rfl rfl rfl (by first | exact Nat.le_of_ble_eq_true rfl | exact Nat.le_refl _ | decide | (simp; omega)) rfl ?_)
    | (refine Goal.loud rfl ?_; refine Loud.store1 rfl rfl T.sz_30 rfl rfl rfl (by first | exact Nat.le_of_ble_eq_true rfl | exact Nat.le_refl _ | decide | (simp; omega)) rfl ?_)
    | (refine Goal.loud rfl ?_; refine Loud.store2 rfl rfl T.sz_30 rfl rfl rfl (by first | exact Nat.le_of_ble_eq_true rfl | exact Nat.le_refl _ | decide | (simp; omega)) rfl ?_)
    | (refine Goal.loud rfl ?_; refine Loud.store3 rfl rfl T.sz_30 rfl rfl rfl (by first | exact Nat.le_of_ble_eq_true rfl | exact Nat.le_refl _ | decide | (simp; omega)) rfl ?_)
    | (refine Goal.loud rfl ?_; refine Loud.store4 rfl rfl T.sz_30 rfl rfl rfl (by first | exact Nat.le_of_ble_eq_true rfl | exact Nat.le_refl _ | decide | (simp; omega)) rfl ?_))
  · have hrf : r = false := by
      cases r with
      | false => rfl
      | true => exact absurd (hr.1 rfl).1 (by omega)
    refine Goal.done (vs := [_]) (by first | exact .inl rfl | exact .inr rfl) Try.results62 ⟨rfl, trivial⟩ rfl (fun w' H => ⟨⟨Fs, Ts, B⟩, ⟨hZ, bf, f, hf⟩, by rw [hrf], H⟩)
  refine Goal.loopP (X := Int) (fun a => [(0, .pointer (some ⟨bz, 0, none⟩)), (1, .int .i64 x), (2, .int .i64 y), (7, .int .i64 (ia f y)), (70, .slice ad dn.length cd), (71, .int .i64 dn.length), (72, .int .i64 a)])
    (fun _ => (bz, .cells (zc tp vo vl (.slice ad dn.length cd) Fs Ts).toArray 64) :: B)
    (fun a => (0 ≤ a ∧ a ≤ dn.length) ∧ ∀ b : Int, 0 ≤ b → b < a → ¬ (ba dn b = true ∧ OnSP tp (ia f) (ia t) x y b)) (fun a => (dn.length - a).toNat) 0 ⟨rfl, rfl, rfl, rfl, rfl, rfl, rfl, trivial⟩ (fun _ h => h) ⟨by omega, fun b b0 b1 => by omega⟩ ?_
  rintro a ⟨ha, hall⟩
  by_cases h : a < dn.length
  · have har : 0 ≤ a ∧ a < tp.arcs := by
      rcases hfit with e | e
      · omega
      · omega
    obtain ⟨h1, h2, h3, _⟩ := ht.arc har
    obtain ⟨b9, o9, rfl, hkB⟩ := rd_anyB hd (by omega)
    have hka := fun w' hm => hkB w' hm a ha.1 h
    have hnx : ¬ (ba dn a = true ∧ OnSP tp (ia f) (ia t) x y a) → ∀ b : Int, 0 ≤ b → b < a + 1 → ¬ (ba dn b = true ∧ OnSP tp (ia f) (ia t) x y b) := fun hh b b0 b1 => by
      by_cases e : b = a
      · rw [e]; exact hh
      · exact hall b b0 (by omega)
    cases hup : ba dn a
    · rw [hup] at hka
      repeat' (first
        | (apply G.move; exact rfl; exact rfl)
        | (apply G.assign; exact rfl; exact rfl)
        | refine Goal.seq (fun _ _ => ?_)
        | refine Goal.next (by assumption) ?_
        | refine Goal.lnil ?_
        | refine Goal.region ?_
        | refine Goal.skip ?_
        | refine Goal.block ?_
        | refine Goal.exit ?_
        | refine Goal.ret ?_
        | refine Goal.then_exit ?_
        | refine Goal.then_ret ?_
        | refine Goal.inBlock_exit ?_
        | refine Goal.inBlock_normal ?_
        | refine Goal.inBlock_ret ?_
        | refine Goal.inBlock_other rfl ?_
        | (apply Goal.condT; exact rfl)
        | (apply Goal.condF; exact rfl)
        | (refine Goal.condD rfl (fun hc => ?_) (fun hc => ?_) <;> first | (exfalso; omega) | contradiction | skip)
        | refine Goal.condB rfl (fun hc => ?_) (fun hc => ?_)
        | refine Goal.guardT rfl rfl ?_
        | refine Goal.guardF rfl rfl rfl rfl ?_
        | refine Goal.guardU rfl rfl rfl ?_
        | (refine Goal.guardD rfl rfl (fun hc => ?_) (fun hc => ?_) <;> first | (exfalso; omega) | contradiction | skip)
        | refine Goal.guardB rfl rfl (fun hc => ?_) (fun hc => ?_)
        | (apply G.fieldAddr; exact rfl; exact rfl; (first | exact T.fld_64_0 | exact T.fld_64_1 | exact T.fld_64_2 | exact T.fld_64_3))
        | (apply G.load; exact rfl; exact rfl; first | exact LoadOK.anyQ T.one_4 hka | exact LoadOK.one (by first | exact T.one_3 | exact T.one_4 | exact T.one_22 | exact T.one_30) 0 rfl rfl | exact LoadOK.one (by first | exact T.one_3 | exact T.one_4 | exact T.one_22 | exact T.one_30) 1 rfl rfl | exact LoadOK.one (by first | exact T.one_3 | exact T.one_4 | exact T.one_22 | exact T.one_30) 2 rfl rfl | exact LoadOK.one (by first | exact T.one_3 | exact T.one_4 | exact T.one_22 | exact T.one_30) 3 rfl rfl | exact LoadOK.one (by first | exact T.one_3 | exact T.one_4 | exact T.one_22 | exact T.one_30) 4 rfl rfl | exact ag3 T.agg_25 0 rfl rfl rfl rfl | exact ag3 T.agg_25 1 rfl rfl rfl rfl | exact ag3 T.agg_25 2 rfl rfl rfl rfl | exact ag3 T.agg_25 3 rfl rfl rfl rfl | exact ag3 T.agg_25 4 rfl rfl rfl rfl)
        | (apply G.pickT; exact rfl; exact rfl; exact rfl)
        | (apply G.pickF; exact rfl; exact rfl; exact rfl)
        | (apply G.lss; exact rfl; exact rfl; exact rfl)
        | (apply G.geq; exact rfl; exact rfl; exact rfl)
        | (apply G.eql; exact rfl; exact rfl; exact rfl)
        | (apply G.neq; exact rfl; exact rfl; exact rfl)
        | (apply G.add; exact rfl; exact rfl; exact rfl; exact IntWalk.i64_in _ (by omega))
        | (refine Goal.quiet rfl (Run.eqlSN T.slc_30 rfl rfl rfl) ?_)
        | (apply G.notT; exact rfl; exact rfl)
        | (apply G.notF; exact rfl; exact rfl)
        | (refine G.notD rfl rfl ?_)
        | (apply G.notB; exact rfl; exact rfl)
        | (apply G.extract; exact rfl; exact rfl; exact rfl)
        | (apply G.len; exact rfl; exact rfl; exact T.slc_22)
        | (apply G.nilCheckP; exact rfl; exact rfl)
        | (refine G.indexAddr1 rfl (by first | exact T.slc_22 | exact T.slc_30) (by first | exact T.sz_3 | exact T.sz_4 | exact T.sz_30) rfl rfl _ rfl (by omega) ?_)
        | (refine G.indexAddr1 rfl (by first | exact T.slc_22 | exact T.slc_30) (by first | exact T.sz_3 | exact T.sz_4 | exact T.sz_30) rfl rfl _ (Int.toNat_of_nonneg (by omega)).symm (by omega) ?_)
        | (refine G.indexAddrA rfl T.arr_62 (by first | exact T.sz_3 | exact T.sz_4 | exact T.sz_30) rfl rfl _ rfl (by omega) ?_)
        | (refine G.indexAddrA rfl T.arr_62 (by first | exact T.sz_3 | exact T.sz_4 | exact T.sz_30) rfl rfl _ (Int.toNat_of_nonneg (by omega)).symm (by omega) ?_)
        | (refine Goal.loud rfl ?_; refine Loud.store0 rfl rfl T.sz_30 rfl rfl rfl (by first | exact Nat.le_of_ble_eq_true rfl | exact Nat.le_refl _ | decide | (simp; omega)) rfl ?_)
        | (refine Goal.loud rfl ?_; refine Loud.store1 rfl rfl T.sz_30 rfl rfl rfl (by first | exact Nat.le_of_ble_eq_true rfl | exact Nat.le_refl _ | decide | (simp; omega)) rfl ?_)
        | (refine Goal.loud rfl ?_; refine Loud.store2 rfl rfl T.sz_30 rfl rfl rfl (by first | exact Nat.le_of_ble_eq_true rfl | exact Nat.le_refl _ | decide | (simp; omega)) rfl ?_)
        | (refine Goal.loud rfl ?_; refine Loud.store3 rfl rfl T.sz_30 rfl rfl rfl (by first | exact Nat.le_of_ble_eq_true rfl | exact Nat.le_refl _ | decide | (simp; omega)) rfl ?_)
        | (refine Goal.loud rfl ?_; refine Loud.store4 rfl rfl T.sz_30 rfl rfl rfl (by first | exact Nat.le_of_ble_eq_true rfl | exact Nat.le_refl _ | decide | (simp; omega)) rfl ?_))
      refine Goal.again (a + 1) ⟨by omega, hnx (fun hh => by rw [hup] at hh; cases hh.1)⟩ (by omega) ⟨rfl, rfl, rfl, rfl, rfl, rfl, rfl, trivial⟩ (fun _ h => h)
    · rw [hup] at hka
      have hcf' : (zc tp vo vl (.slice (some ⟨b9, o9, none⟩) dn.length cd) Fs Ts).toArray.toList[0 + 4 + x.toNat * 1]? = some (.slice (some ⟨bf, 0, none⟩) f.length f.length) := hcf _ (by omega)
      have hct' : (zc tp vo vl (.slice (some ⟨b9, o9, none⟩) dn.length cd) Fs Ts).toArray.toList[0 + 68 + y.toNat * 1]? = some (.slice (some ⟨bt, 0, none⟩) t.length t.length) := hct _ (by omega)
      have hmf' : (bf, Obj.cells (ints f).toArray 3) ∈ (bz, Obj.cells (zc tp vo vl (.slice (some ⟨b9, o9, none⟩) dn.length cd) Fs Ts).toArray 64) :: B := by simp [hmf]
      have hmt' : (bt, Obj.cells (ints t).toArray 3) ∈ (bz, Obj.cells (zc tp vo vl (.slice (some ⟨b9, o9, none⟩) dn.length cd) Fs Ts).toArray 64) :: B := by simp [hmt]
      have hbu : 0 ≤ tp.tl a ∧ tp.tl a < f.length := by omega
      have hbv : 0 ≤ tp.hd a ∧ tp.hd a < t.length := by omega
      have hfu := hfb _ h1.1 h1.2
      have htv := htb _ h2.1 h2.2
      have hfu0 := hfd.bell.neg _ h1.1 h1.2
      have htv0 := htd.bell.neg _ h2.1 h2.2
      have hroot := hfd.bell.root
      have hovl := ht.ov
      repeat' (first
        | (refine Goal.drawAll (id := 12) 13 T.mixed ?_; all_goals ((refine Goal.takeP (listed' := #[Ya,No,No,No,No,No,No,No,No,No,No,No,No,No]) 0 ⟨rfl, by kernel_rfl, by kernel_rfl, by kernel_rfl, by kernel_rfl⟩ rfl (fun _ _ _ _ h => h) (by intro _; exact Run.move rfl) ?_)); all_goals ((refine Goal.takeP (listed' := #[Ya,Ya,No,No,No,No,No,No,No,No,No,No,No,No]) 1 ⟨rfl, by kernel_rfl, by kernel_rfl, by kernel_rfl, by kernel_rfl⟩ rfl (fun _ _ _ _ h => h) (by intro _; exact Run.nilCheckP rfl) ?_)); all_goals ((refine Goal.takeP (listed' := #[Ya,Ya,Ya,No,No,No,No,No,No,No,No,No,No,No]) 2 ⟨rfl, by kernel_rfl, by kernel_rfl, by kernel_rfl, by kernel_rfl⟩ rfl (fun _ _ _ _ h => h) (by intro _; exact Run.fieldAddr T.fld_64_0 rfl) ?_)); all_goals ((refine Goal.takeP (listed' := #[Ya,Ya,Ya,No,Ya,No,No,No,No,No,No,No,No,No]) 4 ⟨rfl, by kernel_rfl, by kernel_rfl, by kernel_rfl, by kernel_rfl⟩ rfl (fun _ _ _ _ h => h) (by intro _; exact Run.move rfl) ?_)); all_goals ((refine Goal.takeP (listed' := #[Ya,Ya,Ya,No,Ya,No,Ya,No,No,No,No,No,No,No]) 6 ⟨rfl, by kernel_rfl, by kernel_rfl, by kernel_rfl, by kernel_rfl⟩ rfl (fun _ _ _ _ h => h) (by intro _; exact Run.move rfl) ?_)); all_goals ((refine Goal.takeP (listed' := #[Ya,Ya,Ya,No,Ya,No,Ya,Ya,No,No,No,No,No,No]) 7 ⟨rfl, by kernel_rfl, by kernel_rfl, by kernel_rfl, by kernel_rfl⟩ rfl (fun _ _ _ _ h => h) (by intro _; exact Run.nilCheckP rfl) ?_)); all_goals ((refine Goal.takeP (listed' := #[Ya,Ya,Ya,No,Ya,No,Ya,Ya,Ya,No,No,No,No,No]) 8 ⟨rfl, by kernel_rfl, by kernel_rfl, by kernel_rfl, by kernel_rfl⟩ rfl (fun _ _ _ _ h => h) (by intro _; exact Run.fieldAddr T.fld_64_0 rfl) ?_)); all_goals ((refine Goal.takeP (listed' := #[Ya,Ya,Ya,No,Ya,No,Ya,Ya,Ya,No,Ya,No,No,No]) 10 ⟨rfl, by kernel_rfl, by kernel_rfl, by kernel_rfl, by kernel_rfl⟩ rfl (fun _ _ _ _ h => h) (by intro _; exact Run.move rfl) ?_)); all_goals ((refine Goal.take (listed' := #[Ya,Ya,Ya,Ya,Ya,No,Ya,Ya,Ya,No,Ya,No,No,No]) 3 ⟨rfl, by kernel_rfl, by kernel_rfl, by kernel_rfl, by kernel_rfl, by kernel_rfl⟩ rfl (by (first | exact s0 | exact s1 | exact s2 | exact s3 | exact sd | exact sa | exact sn (by simp))) (fun _ _ _ _ h => h) (by (apply Run.load; exact rfl; first | exact LoadOK.anyQ T.one_4 hka | exact LoadOK.one T.one_30 0 rfl hcf' | exact LoadOK.one T.one_30 0 rfl hct' | exact LoadOK.iaM (b := bf) (l := f) (E := 3) (i := tp.tl a) (x := ia f (tp.tl a)) T.one_3 hmf' hbu rfl | exact LoadOK.iaM (b := bt) (l := t) (E := 3) (i := tp.hd a) (x := ia t (tp.hd a)) T.one_3 hmt' hbv rfl | exact ag3 T.agg_25 0 rfl rfl rfl rfl | exact ag3 T.agg_25 1 rfl rfl rfl rfl | exact ag3 T.agg_25 2 rfl rfl rfl rfl | exact ag3 T.agg_25 3 rfl rfl rfl rfl | exact ag3 T.agg_25 4 rfl rfl rfl rfl)) ?_)); all_goals ((refine Goal.take (listed' := #[Ya,Ya,Ya,Ya,Ya,No,Ya,Ya,Ya,Ya,Ya,No,No,No]) 9 ⟨rfl, by kernel_rfl, by kernel_rfl, by kernel_rfl, by kernel_rfl, by kernel_rfl⟩ rfl (by (first | exact s0 | exact s1 | exact s2 | exact s3 | exact sd | exact sa | exact sn (by simp))) (fun _ _ _ _ h => h) (by (apply Run.load; exact rfl; first | exact LoadOK.anyQ T.one_4 hka | exact LoadOK.one T.one_30 0 rfl hcf' | exact LoadOK.one T.one_30 0 rfl hct' | exact LoadOK.iaM (b := bf) (l := f) (E := 3) (i := tp.tl a) (x := ia f (tp.tl a)) T.one_3 hmf' hbu rfl | exact LoadOK.iaM (b := bt) (l := t) (E := 3) (i := tp.hd a) (x := ia t (tp.hd a)) T.one_3 hmt' hbv rfl | exact ag3 T.agg_25 0 rfl rfl rfl rfl | exact ag3 T.agg_25 1 rfl rfl rfl rfl | exact ag3 T.agg_25 2 rfl rfl rfl rfl | exact ag3 T.agg_25 3 rfl rfl rfl rfl | exact ag3 T.agg_25 4 rfl rfl rfl rfl)) ?_)); all_goals (refine Goal.ready1 (i := 5) (by kernel_rfl) ?_); all_goals ((refine Goal.up (i := 5) (listed' := #[Ya,Ya,Ya,Ya,Ya,Ya,Ya,Ya,Ya,Ya,Ya,No,No,No]) rfl (by kernel_rfl) ?_; (apply Loud.call0; exact rfl; exact rfl; exact rfl; exact rfl; exact T.bod_76; exact (fun w' H => tail_ok (hT w' H.mod) har (by omega))); first | refine Goal.tail rfl ?_ | refine Goal.kept (by (first | exact s0 | exact s1 | exact s2 | exact s3 | exact sd | exact sa | exact sn (by simp))) ?_)); all_goals (refine Goal.ready1 (i := 11) (by kernel_rfl) ?_); all_goals ((refine Goal.up (i := 11) (listed' := #[Ya,Ya,Ya,Ya,Ya,Ya,Ya,Ya,Ya,Ya,Ya,Ya,No,No]) rfl (by kernel_rfl) ?_; (apply Loud.call0; exact rfl; exact rfl; exact rfl; exact rfl; exact T.bod_69; exact (fun w' H => head_ok (hT w' H.mod) har (by omega))); first | refine Goal.tail rfl ?_ | refine Goal.kept (by (first | exact s0 | exact s1 | exact s2 | exact s3 | exact sd | exact sa | exact sn (by simp))) ?_)); all_goals ((refine Goal.takeP (listed' := #[Ya,Ya,Ya,Ya,Ya,Ya,Ya,Ya,Ya,Ya,Ya,Ya,Ya,No]) 12 ⟨rfl, by kernel_rfl, by kernel_rfl, by kernel_rfl, by kernel_rfl⟩ rfl (fun _ _ _ _ h => h) (by intro _; exact Run.assign rfl) ?_)); all_goals ((refine Goal.takeP (listed' := #[Ya,Ya,Ya,Ya,Ya,Ya,Ya,Ya,Ya,Ya,Ya,Ya,Ya,Ya]) 13 ⟨rfl, by kernel_rfl, by kernel_rfl, by kernel_rfl, by kernel_rfl⟩ rfl (fun _ _ _ _ h => h) (by intro _; exact Run.assign rfl) ?_)); all_goals (refine Goal.allUp (by kernel_rfl) ?_))
        | (refine Goal.drawAll (id := 14) 20 T.mixed ?_; all_goals ((refine Goal.takeP (listed' := #[Ya,No,No,No,No,No,No,No,No,No,No,No,No,No,No,No,No,No,No,No]) 0 ⟨rfl, by kernel_rfl, by kernel_rfl, by kernel_rfl, by kernel_rfl⟩ rfl (fun _ _ _ _ h => h) (by intro _; exact Run.move rfl) ?_)); all_goals ((refine Goal.takeP (listed' := #[Ya,Ya,No,No,No,No,No,No,No,No,No,No,No,No,No,No,No,No,No,No]) 1 ⟨rfl, by kernel_rfl, by kernel_rfl, by kernel_rfl, by kernel_rfl⟩ rfl (fun _ _ _ _ h => h) (by intro _; exact Run.move rfl) ?_)); all_goals ((refine Goal.takeP (listed' := #[Ya,Ya,Ya,No,No,No,No,No,No,No,No,No,No,No,No,No,No,No,No,No]) 2 ⟨rfl, by kernel_rfl, by kernel_rfl, by kernel_rfl, by kernel_rfl⟩ rfl (fun _ _ _ _ h => h) (by intro _; exact Run.nilCheckP rfl) ?_)); all_goals ((refine Goal.takeP (listed' := #[Ya,Ya,Ya,Ya,No,No,No,No,No,No,No,No,No,No,No,No,No,No,No,No]) 3 ⟨rfl, by kernel_rfl, by kernel_rfl, by kernel_rfl, by kernel_rfl⟩ rfl (fun _ _ _ _ h => h) (by intro _; exact Run.fieldAddr T.fld_64_2 rfl) ?_)); all_goals ((refine Goal.takeP (listed' := #[Ya,Ya,Ya,Ya,Ya,No,No,No,No,No,No,No,No,No,No,No,No,No,No,No]) 4 ⟨rfl, by kernel_rfl, by kernel_rfl, by kernel_rfl, by kernel_rfl⟩ rfl (fun _ _ _ _ h => h) (by intro _; first | exact Run.indexAddrA T.arr_62 T.sz_30 rfl rfl rfl (by omega) | exact Run.indexAddrA T.arr_62 T.sz_30 rfl rfl (Int.toNat_of_nonneg (by omega)).symm (by omega)) ?_)); all_goals ((refine Goal.takeP (listed' := #[Ya,Ya,Ya,Ya,Ya,No,Ya,No,No,No,No,No,No,No,No,No,No,No,No,No]) 6 ⟨rfl, by kernel_rfl, by kernel_rfl, by kernel_rfl, by kernel_rfl⟩ rfl (fun _ _ _ _ h => h) (by intro _; exact Run.move rfl) ?_)); all_goals ((refine Goal.takeP (listed' := #[Ya,Ya,Ya,Ya,Ya,No,Ya,No,No,Ya,No,No,No,No,No,No,No,No,No,No]) 9 ⟨rfl, by kernel_rfl, by kernel_rfl, by kernel_rfl, by kernel_rfl⟩ rfl (fun _ _ _ _ h => h) (by intro _; exact Run.move rfl) ?_)); all_goals ((refine Goal.takeP (listed' := #[Ya,Ya,Ya,Ya,Ya,No,Ya,No,No,Ya,Ya,No,No,No,No,No,No,No,No,No]) 10 ⟨rfl, by kernel_rfl, by kernel_rfl, by kernel_rfl, by kernel_rfl⟩ rfl (fun _ _ _ _ h => h) (by intro _; exact Run.move rfl) ?_)); all_goals ((refine Goal.takeP (listed' := #[Ya,Ya,Ya,Ya,Ya,No,Ya,No,No,Ya,Ya,Ya,No,No,No,No,No,No,No,No]) 11 ⟨rfl, by kernel_rfl, by kernel_rfl, by kernel_rfl, by kernel_rfl⟩ rfl (fun _ _ _ _ h => h) (by intro _; exact Run.nilCheckP rfl) ?_)); all_goals ((refine Goal.takeP (listed' := #[Ya,Ya,Ya,Ya,Ya,No,Ya,No,No,Ya,Ya,Ya,Ya,No,No,No,No,No,No,No]) 12 ⟨rfl, by kernel_rfl, by kernel_rfl, by kernel_rfl, by kernel_rfl⟩ rfl (fun _ _ _ _ h => h) (by intro _; exact Run.fieldAddr T.fld_64_3 rfl) ?_)); all_goals ((refine Goal.takeP (listed' := #[Ya,Ya,Ya,Ya,Ya,No,Ya,No,No,Ya,Ya,Ya,Ya,Ya,No,No,No,No,No,No]) 13 ⟨rfl, by kernel_rfl, by kernel_rfl, by kernel_rfl, by kernel_rfl⟩ rfl (fun _ _ _ _ h => h) (by intro _; first | exact Run.indexAddrA T.arr_62 T.sz_30 rfl rfl rfl (by omega) | exact Run.indexAddrA T.arr_62 T.sz_30 rfl rfl (Int.toNat_of_nonneg (by omega)).symm (by omega)) ?_)); all_goals ((refine Goal.takeP (listed' := #[Ya,Ya,Ya,Ya,Ya,No,Ya,No,No,Ya,Ya,Ya,Ya,Ya,No,Ya,No,No,No,No]) 15 ⟨rfl, by kernel_rfl, by kernel_rfl, by kernel_rfl, by kernel_rfl⟩ rfl (fun _ _ _ _ h => h) (by intro _; exact Run.move rfl) ?_)); all_goals ((refine Goal.take (listed' := #[Ya,Ya,Ya,Ya,Ya,Ya,Ya,No,No,Ya,Ya,Ya,Ya,Ya,No,Ya,No,No,No,No]) 5 ⟨rfl, by kernel_rfl, by kernel_rfl, by kernel_rfl, by kernel_rfl, by kernel_rfl⟩ rfl (by (first | exact s0 | exact s1 | exact s2 | exact s3 | exact sd | exact sa | exact sn (by simp))) (fun _ _ _ _ h => h) (by (apply Run.load; exact rfl; first | exact LoadOK.anyQ T.one_4 hka | exact LoadOK.one T.one_30 0 rfl hcf' | exact LoadOK.one T.one_30 0 rfl hct' | exact LoadOK.iaM (b := bf) (l := f) (E := 3) (i := tp.tl a) (x := ia f (tp.tl a)) T.one_3 hmf' hbu rfl | exact LoadOK.iaM (b := bt) (l := t) (E := 3) (i := tp.hd a) (x := ia t (tp.hd a)) T.one_3 hmt' hbv rfl | exact LoadOK.one T.one_30 0 rfl rfl | exact LoadOK.one T.one_30 1 rfl rfl | exact LoadOK.one T.one_30 2 rfl rfl | exact LoadOK.one T.one_30 3 rfl rfl | exact LoadOK.one T.one_30 4 rfl rfl)) ?_)); all_goals ((refine Goal.takeP (listed' := #[Ya,Ya,Ya,Ya,Ya,Ya,Ya,Ya,No,Ya,Ya,Ya,Ya,Ya,No,Ya,No,No,No,No]) 7 ⟨rfl, by kernel_rfl, by kernel_rfl, by kernel_rfl, by kernel_rfl⟩ rfl (fun _ _ _ _ h => h) (by intro _; first | exact Run.indexAddr1 T.slc_30 T.sz_3 rfl rfl rfl (by omega) | exact Run.indexAddr1 T.slc_30 T.sz_3 rfl rfl (Int.toNat_of_nonneg (by omega)).symm (by omega)) ?_)); all_goals ((refine Goal.take (listed' := #[Ya,Ya,Ya,Ya,Ya,Ya,Ya,Ya,Ya,Ya,Ya,Ya,Ya,Ya,No,Ya,No,No,No,No]) 8 ⟨rfl, by kernel_rfl, by kernel_rfl, by kernel_rfl, by kernel_rfl, by kernel_rfl⟩ rfl (by (first | exact s0 | exact s1 | exact s2 | exact s3 | exact sd | exact sa | exact sn (by simp))) (fun _ _ _ _ h => h) (by (apply Run.load; exact rfl; first | exact LoadOK.anyQ T.one_4 hka | exact LoadOK.one T.one_30 0 rfl hcf' | exact LoadOK.one T.one_30 0 rfl hct' | exact LoadOK.iaM (b := bf) (l := f) (E := 3) (i := tp.tl a) (x := ia f (tp.tl a)) T.one_3 hmf' hbu rfl | exact LoadOK.iaM (b := bt) (l := t) (E := 3) (i := tp.hd a) (x := ia t (tp.hd a)) T.one_3 hmt' hbv rfl | exact LoadOK.one T.one_3 0 rfl rfl | exact LoadOK.one T.one_3 1 rfl rfl | exact LoadOK.one T.one_3 2 rfl rfl | exact LoadOK.one T.one_3 3 rfl rfl | exact LoadOK.one T.one_3 4 rfl rfl)) ?_)); all_goals ((refine Goal.takeP (listed' := #[Ya,Ya,Ya,Ya,Ya,Ya,Ya,Ya,Ya,Ya,Ya,Ya,Ya,Ya,No,Ya,No,No,Ya,No]) 18 ⟨rfl, by kernel_rfl, by kernel_rfl, by kernel_rfl, by kernel_rfl⟩ rfl (fun _ _ _ _ h => h) (by intro _; exact Run.assign rfl) ?_)); all_goals ((refine Goal.take (listed' := #[Ya,Ya,Ya,Ya,Ya,Ya,Ya,Ya,Ya,Ya,Ya,Ya,Ya,Ya,Ya,Ya,No,No,Ya,No]) 14 ⟨rfl, by kernel_rfl, by kernel_rfl, by kernel_rfl, by kernel_rfl, by kernel_rfl⟩ rfl (by (first | exact s0 | exact s1 | exact s2 | exact s3 | exact sd | exact sa | exact sn (by simp))) (fun _ _ _ _ h => h) (by (apply Run.load; exact rfl; first | exact LoadOK.anyQ T.one_4 hka | exact LoadOK.one T.one_30 0 rfl hcf' | exact LoadOK.one T.one_30 0 rfl hct' | exact LoadOK.iaM (b := bf) (l := f) (E := 3) (i := tp.tl a) (x := ia f (tp.tl a)) T.one_3 hmf' hbu rfl | exact LoadOK.iaM (b := bt) (l := t) (E := 3) (i := tp.hd a) (x := ia t (tp.hd a)) T.one_3 hmt' hbv rfl | exact LoadOK.one T.one_30 0 rfl rfl | exact LoadOK.one T.one_30 1 rfl rfl | exact LoadOK.one T.one_30 2 rfl rfl | exact LoadOK.one T.one_30 3 rfl rfl | exact LoadOK.one T.one_30 4 rfl rfl)) ?_)); all_goals ((refine Goal.takeP (listed' := #[Ya,Ya,Ya,Ya,Ya,Ya,Ya,Ya,Ya,Ya,Ya,Ya,Ya,Ya,Ya,Ya,Ya,No,Ya,No]) 16 ⟨rfl, by kernel_rfl, by kernel_rfl, by kernel_rfl, by kernel_rfl⟩ rfl (fun _ _ _ _ h => h) (by intro _; first | exact Run.indexAddr1 T.slc_30 T.sz_3 rfl rfl rfl (by omega) | exact Run.indexAddr1 T.slc_30 T.sz_3 rfl rfl (Int.toNat_of_nonneg (by omega)).symm (by omega)) ?_)); all_goals ((refine Goal.take (listed' := #[Ya,Ya,Ya,Ya,Ya,Ya,Ya,Ya,Ya,Ya,Ya,Ya,Ya,Ya,Ya,Ya,Ya,Ya,Ya,No]) 17 ⟨rfl, by kernel_rfl, by kernel_rfl, by kernel_rfl, by kernel_rfl, by kernel_rfl⟩ rfl (by (first | exact s0 | exact s1 | exact s2 | exact s3 | exact sd | exact sa | exact sn (by simp))) (fun _ _ _ _ h => h) (by (apply Run.load; exact rfl; first | exact LoadOK.anyQ T.one_4 hka | exact LoadOK.one T.one_30 0 rfl hcf' | exact LoadOK.one T.one_30 0 rfl hct' | exact LoadOK.iaM (b := bf) (l := f) (E := 3) (i := tp.tl a) (x := ia f (tp.tl a)) T.one_3 hmf' hbu rfl | exact LoadOK.iaM (b := bt) (l := t) (E := 3) (i := tp.hd a) (x := ia t (tp.hd a)) T.one_3 hmt' hbv rfl | exact LoadOK.one T.one_3 0 rfl rfl | exact LoadOK.one T.one_3 1 rfl rfl | exact LoadOK.one T.one_3 2 rfl rfl | exact LoadOK.one T.one_3 3 rfl rfl | exact LoadOK.one T.one_3 4 rfl rfl)) ?_)); all_goals ((refine Goal.takeP (listed' := #[Ya,Ya,Ya,Ya,Ya,Ya,Ya,Ya,Ya,Ya,Ya,Ya,Ya,Ya,Ya,Ya,Ya,Ya,Ya,Ya]) 19 ⟨rfl, by kernel_rfl, by kernel_rfl, by kernel_rfl, by kernel_rfl⟩ rfl (fun _ _ _ _ h => h) (by intro _; exact Run.assign rfl) ?_)); all_goals (refine Goal.allUp (by kernel_rfl) ?_))
        | (refine Goal.loud (o := ⟨some 84, _, _, _, _, _⟩) rfl ?_; apply Loud.call0; exact rfl; exact rfl; exact rfl; exact rfl; exact T.bod_76; exact (fun w' H => tail_ok (hT w' H.mod) har (by omega)))
        | (refine Goal.loud (o := ⟨some 90, _, _, _, _, _⟩) rfl ?_; apply Loud.call0; exact rfl; exact rfl; exact rfl; exact rfl; exact T.bod_69; exact (fun w' H => head_ok (hT w' H.mod) har (by omega)))
        | (refine Goal.loud (o := ⟨some 100, _, _, _, _, _⟩) rfl ?_; apply Loud.call0; exact rfl; exact rfl; exact rfl; exact rfl; exact T.bod_70; exact (fun w' H => over_ok (hT w' H.mod) (by omega) (by omega)))
        | (refine Goal.loud (o := ⟨some 112, _, _, _, _, _⟩) rfl ?_; apply Loud.call0; exact rfl; exact rfl; exact rfl; exact rfl; exact T.bod_70; exact (fun w' H => over_ok (hT w' H.mod) (by omega) (by omega)))
        | (refine Goal.loud (o := ⟨some 146, _, _, _, _, _⟩) rfl ?_; apply Loud.call0; exact rfl; exact rfl; exact rfl; exact rfl; exact T.bod_48; exact (fun w' H => cost_ok (hT w' H.mod) har (by omega)))
        | (apply G.move; exact rfl; exact rfl)
        | (apply G.assign; exact rfl; exact rfl)
        | refine Goal.seq (fun _ _ => ?_)
        | refine Goal.next (by assumption) ?_
        | refine Goal.lnil ?_
        | refine Goal.region ?_
        | refine Goal.skip ?_
        | refine Goal.block ?_
        | refine Goal.exit ?_
        | refine Goal.ret ?_
        | refine Goal.then_exit ?_
        | refine Goal.then_ret ?_
        | refine Goal.inBlock_exit ?_
        | refine Goal.inBlock_normal ?_
        | refine Goal.inBlock_ret ?_
        | refine Goal.inBlock_other rfl ?_
        | (apply Goal.condT; exact rfl)
        | (apply Goal.condF; exact rfl)
        | (refine Goal.condD rfl (fun hc => ?_) (fun hc => ?_) <;> first | (exfalso; omega) | contradiction | skip)
        | refine Goal.condB rfl (fun hc => ?_) (fun hc => ?_)
        | refine Goal.guardT rfl rfl ?_
        | refine Goal.guardF rfl rfl rfl rfl ?_
        | refine Goal.guardU rfl rfl rfl ?_
        | (refine Goal.guardD rfl rfl (fun hc => ?_) (fun hc => ?_) <;> first | (exfalso; omega) | contradiction | skip)
        | refine Goal.guardB rfl rfl (fun hc => ?_) (fun hc => ?_)
        | (apply G.fieldAddr; exact rfl; exact rfl; (first | exact T.fld_64_0 | exact T.fld_64_1 | exact T.fld_64_2 | exact T.fld_64_3))
        | (apply G.load; exact rfl; exact rfl; first | exact LoadOK.anyQ T.one_4 hka | exact LoadOK.one T.one_30 0 rfl hcf' | exact LoadOK.one T.one_30 0 rfl hct' | exact LoadOK.iaM (b := bf) (l := f) (E := 3) (i := tp.tl a) (x := ia f (tp.tl a)) T.one_3 hmf' hbu rfl | exact LoadOK.iaM (b := bt) (l := t) (E := 3) (i := tp.hd a) (x := ia t (tp.hd a)) T.one_3 hmt' hbv rfl | exact LoadOK.one (by first | exact T.one_3 | exact T.one_4 | exact T.one_22 | exact T.one_30) 0 rfl rfl | exact LoadOK.one (by first | exact T.one_3 | exact T.one_4 | exact T.one_22 | exact T.one_30) 1 rfl rfl | exact LoadOK.one (by first | exact T.one_3 | exact T.one_4 | exact T.one_22 | exact T.one_30) 2 rfl rfl | exact LoadOK.one (by first | exact T.one_3 | exact T.one_4 | exact T.one_22 | exact T.one_30) 3 rfl rfl | exact LoadOK.one (by first | exact T.one_3 | exact T.one_4 | exact T.one_22 | exact T.one_30) 4 rfl rfl | exact ag3 T.agg_25 0 rfl rfl rfl rfl | exact ag3 T.agg_25 1 rfl rfl rfl rfl | exact ag3 T.agg_25 2 rfl rfl rfl rfl | exact ag3 T.agg_25 3 rfl rfl rfl rfl | exact ag3 T.agg_25 4 rfl rfl rfl rfl)
        | (apply G.pickT; exact rfl; exact rfl; exact rfl)
        | (apply G.pickF; exact rfl; exact rfl; exact rfl)
        | (apply G.lss; exact rfl; exact rfl; exact rfl)
        | (apply G.geq; exact rfl; exact rfl; exact rfl)
        | (apply G.eql; exact rfl; exact rfl; exact rfl)
        | (apply G.neq; exact rfl; exact rfl; exact rfl)
        | (apply G.add; exact rfl; exact rfl; exact rfl; exact IntWalk.i64_in _ (by omega))
        | (refine Goal.quiet rfl (Run.eqlSN T.slc_30 rfl rfl rfl) ?_)
        | (apply G.notT; exact rfl; exact rfl)
        | (apply G.notF; exact rfl; exact rfl)
        | (refine G.notD rfl rfl ?_)
        | (apply G.notB; exact rfl; exact rfl)
        | (apply G.extract; exact rfl; exact rfl; exact rfl)
        | (apply G.len; exact rfl; exact rfl; exact T.slc_22)
        | (apply G.nilCheckP; exact rfl; exact rfl)
        | (refine G.indexAddr1 rfl (by first | exact T.slc_22 | exact T.slc_30) (by first | exact T.sz_3 | exact T.sz_4 | exact T.sz_30) rfl rfl _ rfl (by omega) ?_)
        | (refine G.indexAddr1 rfl (by first | exact T.slc_22 | exact T.slc_30) (by first | exact T.sz_3 | exact T.sz_4 | exact T.sz_30) rfl rfl _ (Int.toNat_of_nonneg (by omega)).symm (by omega) ?_)
        | (refine G.indexAddrA rfl T.arr_62 (by first | exact T.sz_3 | exact T.sz_4 | exact T.sz_30) rfl rfl _ rfl (by omega) ?_)
        | (refine G.indexAddrA rfl T.arr_62 (by first | exact T.sz_3 | exact T.sz_4 | exact T.sz_30) rfl rfl _ (Int.toNat_of_nonneg (by omega)).symm (by omega) ?_)
        | (refine Goal.loud rfl ?_; refine Loud.store0 rfl rfl T.sz_30 rfl rfl rfl (by first | exact Nat.le_of_ble_eq_true rfl | exact Nat.le_refl _ | decide | (simp; omega)) rfl ?_)
        | (refine Goal.loud rfl ?_; refine Loud.store1 rfl rfl T.sz_30 rfl rfl rfl (by first | exact Nat.le_of_ble_eq_true rfl | exact Nat.le_refl _ | decide | (simp; omega)) rfl ?_)
        | (refine Goal.loud rfl ?_; refine Loud.store2 rfl rfl T.sz_30 rfl rfl rfl (by first | exact Nat.le_of_ble_eq_true rfl | exact Nat.le_refl _ | decide | (simp; omega)) rfl ?_)
        | (refine Goal.loud rfl ?_; refine Loud.store3 rfl rfl T.sz_30 rfl rfl rfl (by first | exact Nat.le_of_ble_eq_true rfl | exact Nat.le_refl _ | decide | (simp; omega)) rfl ?_)
        | (refine Goal.loud rfl ?_; refine Loud.store4 rfl rfl T.sz_30 rfl rfl rfl (by first | exact Nat.le_of_ble_eq_true rfl | exact Nat.le_refl _ | decide | (simp; omega)) rfl ?_))
      all_goals first
        | (refine Goal.again (a + 1) ⟨by omega, hnx (fun hh => by
            obtain ⟨_, q1, q2, q3, q4, q5, q6⟩ := hh
            first
              | omega
              | (rcases q3 with q3 | q3 <;> rcases q4 with q4 | q4 <;> first | omega | contradiction | (exact Bool.false_ne_true (q3.symm.trans (by assumption))) | (exact Bool.false_ne_true (q4.symm.trans (by assumption)))))⟩ (by omega) ⟨rfl, rfl, rfl, rfl, rfl, rfl, rfl, trivial⟩ (fun _ h => h); done)
        | skip
      all_goals
        have hsp : OnSP tp (ia f) (ia t) x y a := ⟨by omega, by omega, by first | exact .inl (by omega) | exact .inr (by assumption), by first | exact .inl (by omega) | exact .inr (by assumption), fun e => by
          have : ia f y = 0 := e ▸ hroot
          omega, by omega⟩
        have hrf : r = false := by
          cases r with
          | false => rfl
          | true => exact absurd ⟨a, har, hup, hsp⟩ (hr.1 rfl).2
        refine Goal.done (vs := [_]) (by first | exact .inl rfl | exact .inr rfl) Try.results62 ⟨rfl, trivial⟩ rfl (fun w' H => ⟨⟨Fs, Ts, B⟩, ⟨hZ, bf, f, hf⟩, by rw [hrf], H⟩)
  · have hnu : ¬ UsesP tp dn (ia f) (ia t) x y := fun ⟨b, hb, hb1, hb2⟩ => hall b hb.1 (by
      refine Decidable.byContradiction fun hlt => ?_
      unfold ba at hb1
      rw [List.getD_eq_getElem?_getD, List.getElem?_eq_none (by omega)] at hb1
      cases hb1) ⟨hb1, hb2⟩
    have hrt : r = true := hr.2 ⟨by omega, hnu⟩
    repeat' (first
      | (apply G.move; exact rfl; exact rfl)
      | (apply G.assign; exact rfl; exact rfl)
      | refine Goal.seq (fun _ _ => ?_)
      | refine Goal.next (by assumption) ?_
      | refine Goal.lnil ?_
      | refine Goal.region ?_
      | refine Goal.skip ?_
      | refine Goal.block ?_
      | refine Goal.exit ?_
      | refine Goal.ret ?_
      | refine Goal.then_exit ?_
      | refine Goal.then_ret ?_
      | refine Goal.inBlock_exit ?_
      | refine Goal.inBlock_normal ?_
      | refine Goal.inBlock_ret ?_
      | refine Goal.inBlock_other rfl ?_
      | (apply Goal.condT; exact rfl)
      | (apply Goal.condF; exact rfl)
      | (refine Goal.condD rfl (fun hc => ?_) (fun hc => ?_) <;> first | (exfalso; omega) | contradiction | skip)
      | refine Goal.condB rfl (fun hc => ?_) (fun hc => ?_)
      | refine Goal.guardT rfl rfl ?_
      | refine Goal.guardF rfl rfl rfl rfl ?_
      | refine Goal.guardU rfl rfl rfl ?_
      | (refine Goal.guardD rfl rfl (fun hc => ?_) (fun hc => ?_) <;> first | (exfalso; omega) | contradiction | skip)
      | refine Goal.guardB rfl rfl (fun hc => ?_) (fun hc => ?_)
      | (apply G.fieldAddr; exact rfl; exact rfl; (first | exact T.fld_64_0 | exact T.fld_64_1 | exact T.fld_64_2 | exact T.fld_64_3))
      | (apply G.load; exact rfl; exact rfl; first | exact LoadOK.one (by first | exact T.one_3 | exact T.one_4 | exact T.one_22 | exact T.one_30) 0 rfl rfl | exact LoadOK.one (by first | exact T.one_3 | exact T.one_4 | exact T.one_22 | exact T.one_30) 1 rfl rfl | exact LoadOK.one (by first | exact T.one_3 | exact T.one_4 | exact T.one_22 | exact T.one_30) 2 rfl rfl | exact LoadOK.one (by first | exact T.one_3 | exact T.one_4 | exact T.one_22 | exact T.one_30) 3 rfl rfl | exact LoadOK.one (by first | exact T.one_3 | exact T.one_4 | exact T.one_22 | exact T.one_30) 4 rfl rfl | exact ag3 T.agg_25 0 rfl rfl rfl rfl | exact ag3 T.agg_25 1 rfl rfl rfl rfl | exact ag3 T.agg_25 2 rfl rfl rfl rfl | exact ag3 T.agg_25 3 rfl rfl rfl rfl | exact ag3 T.agg_25 4 rfl rfl rfl rfl)
      | (apply G.pickT; exact rfl; exact rfl; exact rfl)
      | (apply G.pickF; exact rfl; exact rfl; exact rfl)
      | (apply G.lss; exact rfl; exact rfl; exact rfl)
      | (apply G.geq; exact rfl; exact rfl; exact rfl)
      | (apply G.eql; exact rfl; exact rfl; exact rfl)
      | (apply G.neq; exact rfl; exact rfl; exact rfl)
      | (apply G.add; exact rfl; exact rfl; exact rfl; exact IntWalk.i64_in _ (by omega))
      | (refine Goal.quiet rfl (Run.eqlSN T.slc_30 rfl rfl rfl) ?_)
      | (apply G.notT; exact rfl; exact rfl)
      | (apply G.notF; exact rfl; exact rfl)
      | (refine G.notD rfl rfl ?_)
      | (apply G.notB; exact rfl; exact rfl)
      | (apply G.extract; exact rfl; exact rfl; exact rfl)
      | (apply G.len; exact rfl; exact rfl; exact T.slc_22)
      | (apply G.nilCheckP; exact rfl; exact rfl)
      | (refine G.indexAddr1 rfl (by first | exact T.slc_22 | exact T.slc_30) (by first | exact T.sz_3 | exact T.sz_4 | exact T.sz_30) rfl rfl _ rfl (by omega) ?_)
      | (refine G.indexAddr1 rfl (by first | exact T.slc_22 | exact T.slc_30) (by first | exact T.sz_3 | exact T.sz_4 | exact T.sz_30) rfl rfl _ (Int.toNat_of_nonneg (by omega)).symm (by omega) ?_)
      | (refine G.indexAddrA rfl T.arr_62 (by first | exact T.sz_3 | exact T.sz_4 | exact T.sz_30) rfl rfl _ rfl (by omega) ?_)
      | (refine G.indexAddrA rfl T.arr_62 (by first | exact T.sz_3 | exact T.sz_4 | exact T.sz_30) rfl rfl _ (Int.toNat_of_nonneg (by omega)).symm (by omega) ?_)
      | (refine Goal.loud rfl ?_; refine Loud.store0 rfl rfl T.sz_30 rfl rfl rfl (by first | exact Nat.le_of_ble_eq_true rfl | exact Nat.le_refl _ | decide | (simp; omega)) rfl ?_)
      | (refine Goal.loud rfl ?_; refine Loud.store1 rfl rfl T.sz_30 rfl rfl rfl (by first | exact Nat.le_of_ble_eq_true rfl | exact Nat.le_refl _ | decide | (simp; omega)) rfl ?_)
      | (refine Goal.loud rfl ?_; refine Loud.store2 rfl rfl T.sz_30 rfl rfl rfl (by first | exact Nat.le_of_ble_eq_true rfl | exact Nat.le_refl _ | decide | (simp; omega)) rfl ?_)
      | (refine Goal.loud rfl ?_; refine Loud.store3 rfl rfl T.sz_30 rfl rfl rfl (by first | exact Nat.le_of_ble_eq_true rfl | exact Nat.le_refl _ | decide | (simp; omega)) rfl ?_)
      | (refine Goal.loud rfl ?_; refine Loud.store4 rfl rfl T.sz_30 rfl rfl rfl (by first | exact Nat.le_of_ble_eq_true rfl | exact Nat.le_refl _ | decide | (simp; omega)) rfl ?_))
    refine Goal.done (vs := [_]) (by first | exact .inl rfl | exact .inr rfl) Try.results62 ⟨rfl, trivial⟩ rfl (fun w' H => ⟨⟨Fs, Ts, B⟩, ⟨hZ, bf, f, hf⟩, by rw [hrt], H⟩)
end
end Go.Proofs.Ytldoplehchngfaa
