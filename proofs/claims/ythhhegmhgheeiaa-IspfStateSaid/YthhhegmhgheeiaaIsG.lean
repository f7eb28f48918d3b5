/- Package ispf: a tree in memory; SetCost, SetDown, SetOverload. -/
import Derived.Test.YthhhegmhgheeiaaIsF
namespace Go.Wf
theorem wr_boolsR {l : List Bool} {rest : List Value} {i : Int} {x : Bool} (h : 0 ≤ i ∧ i < l.length) : wr (bools l ++ rest).toArray (0 + i.toNat) [.bool x] = (bools (l.set i.toNat x) ++ rest).toArray := by
  rw [wr_list (by rw [List.length_append, bools_len]; omega), List.set_append_left _ _ (by rw [bools_len]; omega)]; simp [bools, List.map_set]
theorem LoadOK.oneM {P : Program} {w0 : World} {S : List Nat} {L : List Blk} {T : TypeId} (hT : OneB P T) {b off : Nat} {c : Array Value} {E : TypeId} {v : Value} (hL : (b, Obj.cells c E) ∈ L) (hc : c.toList[off]? = some v) : LoadOK P w0 S L T ⟨b, off, none⟩ v := by
  obtain ⟨k, hk⟩ := List.getElem?_of_mem hL
  exact LoadOK.one hT k hk hc
end Go.Wf
namespace Go.Proofs.Ythhhegmhgheeiaa
open Go.Wf
set_option linter.unusedVariables false
/-- The blocks of a tree. -/
def TrM (E : TypeId) (bx : Nat) (s : TS) (A : List Blk) : Prop := ∃ (vo vl vd : Value) (bs cs : Nat) (rest : List Value) (Ao Al Ad : List Blk),
  A = (bx, .cells (trc s.tp vo vl vd (.slice (some ⟨bs, 0, none⟩) s.l.length cs) s.d s.k).toArray E) :: (bs, .cells (ints s.l ++ rest).toArray 3) :: (Ao ++ (Al ++ Ad)) ∧
  Sl vo 4 1 s.tp.ov.length (bools s.tp.ov) Ao ∧ Sl vl 39 7 s.tp.ls.length (Els lkc s.tp.ls) Al ∧ Sl vd 4 1 s.dn.length (bools s.dn) Ad
theorem tr_rd {w : World} {vo vl vd : Value} {Ao Al Ad : List Blk} {tp : Top} {dn : List Bool} (ho : Sl vo 4 1 tp.ov.length (bools tp.ov) Ao) (hl : Sl vl 39 7 tp.ls.length (Els lkc tp.ls) Al) (hd : Sl vd 4 1 dn.length (bools dn) Ad) (h : Own w (Ao ++ (Al ++ Ad))) : TopR w vo vl tp ∧ RdV w vd (bools dn) :=
  ⟨⟨RdV.of_sl ho (Own.append.1 h).1, RdE.of_sl (fun _ => rfl) hl (Own.append.1 (Own.append.1 h).2).1⟩, RdV.of_sl hd (Own.append.1 (Own.append.1 h).2).2⟩
theorem TS.bd {s : TS} (hS : s.Ok) : ∀ y, 0 ≤ y → y < s.tp.n → -1 ≤ ia s.l y ∧ ia s.l y ≤ 65535 * s.tp.n := fun y y0 y1 => by
  have hl := dlist_ok (dn := s.dn) hS.ok hS.d
  exact ⟨hl.bell.neg y y0 y1, Bell.bound (GD.ok hS.ok) (GD.cap' hS.ok) (by decide) hl.bell y y0 y1⟩
/-- A tree that is only read. -/
structure TrR (w : World) (bx : Nat) (s : TS) (vo vl vd vs : Value) : Prop where
  c : TrC w bx s.tp s.dn s.d vo vl vd vs
  l : RdV w vs (ints s.l)
  k : w.cell? ⟨bx, 6, none⟩ = some (.int .i64 s.k)
theorem TrR.keep {w w' : World} {bx : Nat} {s : TS} {vo vl vd vs : Value} (h : TrR w bx s vo vl vd vs) (hm : Mod [] w w') : TrR w' bx s vo vl vd vs := ⟨h.c.keep hm, h.l.keep hm, hm.cell h.k (by simp)⟩
theorem TrM.rd {E bx : Nat} {s : TS} {A : List Blk} (h : TrM E bx s A) : ∃ vo vl vd vs, ∀ w, Own w A → TrR w bx s vo vl vd vs := by
  obtain ⟨vo, vl, vd, bs, cs, rest, Ao, Al, Ad, rfl, ho, hl, hd⟩ := h
  refine ⟨vo, vl, vd, .slice (some ⟨bs, 0, none⟩) s.l.length cs, fun w hw => ?_⟩
  obtain ⟨h1, h2, h3⟩ := hw
  obtain ⟨t1, t2⟩ := tr_rd ho hl hd h3
  exact ⟨TrC.own h1 t1 t2, rd_at h2, cell_of_blk h1 rfl⟩
section
variable {bx : Nat} {s : TS} {A : List Blk}
set_option maxHeartbeats 8000000 in
theorem tcost_ok (hM : TrM 77 bx s A) (hS : s.Ok) (arc cost : Int) :
    MCalls Try.prog 24 [.pointer (some ⟨bx, 0, none⟩), .int .i64 arc, .int .i64 cost] A (fun A' : List Blk => TrM 77 bx (s.step ⟨0, arc, cost⟩) A') (fun _ => .int .i64 (actE s.tp ⟨0, arc, cost⟩)) (fun A' => A') := .mk fun w hw => by
  obtain ⟨vo, vl, vd, bs, cs, rest, Ao, Al, Ad, rfl, ho, hl, hd⟩ := id hM
  have ht := hS.ok
  have hn := ht.n
  have hln := ht.ln
  have har0 : s.tp.arcs = 2 * (s.tp.ls.length : Int) := rfl
  have hrd := fun (w' : World) (h : Own w' (Ao ++ (Al ++ Ad))) => tr_rd ho hl hd h
  by_cases ha : 0 ≤ arc ∧ arc < s.tp.arcs
  · by_cases hc9 : 1 ≤ cost ∧ cost ≤ 65535
    · have he : actE s.tp ⟨0, arc, cost⟩ = 0 := by unfold actE; rw [if_pos (show (0 : Int) ≤ 2 by decide), if_pos ha, if_neg (fun h => h.2 hc9)]
      have hst : s.step ⟨0, arc, cost⟩ = s.to (s.tp.setCost arc cost) s.dn := by unfold TS.step; rw [if_pos he]; rfl
      obtain ⟨bl, restl, cl, rfl, rfl, hl1, hl2, hl3⟩ := hl.pos (by omega)
      have hS2 : TrS (s.tp.setCost arc cost) s.dn s.d := actT_ok (a := ⟨0, arc, cost⟩) hS he
      have hlen2 : (s.tp.setCost arc cost).ls.length = s.tp.ls.length := by unfold Top.setCost; simp
      have hwr : wr (Els lkc s.tp.ls ++ restl).toArray (0 + (arc / 2).toNat * 7 + 2 + (arc % 2).toNat * 1) [.int .i64 cost] = (Els lkc (s.tp.setCost arc cost).ls ++ restl).toArray := by
        rw [Nat.mul_one]
        by_cases hp : arc % 2 = 0
        · rw [hp]
          exact wr_elFR (f := lkc) (j := 2) (x := lkSet (el s.tp.ls (arc / 2)) (arc % 2) cost) lkc_len (by omega) (by decide) (by unfold lkSet; rw [if_pos hp]; rfl)
        · rw [show (arc % 2).toNat = 1 by omega]
          exact wr_elFR (f := lkc) (j := 3) (x := lkSet (el s.tp.ls (arc / 2)) (arc % 2) cost) lkc_len (by omega) (by decide) (by unfold lkSet; rw [if_neg hp]; rfl)
      have hbo : 0 + (arc / 2).toNat * 7 + 2 + (arc % 2).toNat * 1 + 1 ≤ (Els lkc s.tp.ls ++ restl).toArray.size := by rw [List.size_toArray, List.length_append, Els_len lkc_len]; omega
      obtain ⟨bo, resto, co, rfl, rfl, ho1, ho2, ho3⟩ := ho.pos (by have := hS.ov; omega)
      have ho' := ho
      have hl' : Sl (.slice (some ⟨bl, 0, none⟩) s.tp.ls.length cl) 39 7 (s.tp.setCost arc cost).ls.length (Els lkc (s.tp.setCost arc cost).ls) [(bl, Obj.cells (Els lkc (s.tp.setCost arc cost).ls ++ restl).toArray 39)] := by
        rw [← hlen2]
        refine Sl.mk (Els_len lkc_len _) ?_ (by omega)
        rw [Els_len lkc_len, hlen2, ← Els_len lkc_len]
        exact hl2
      have hch := setCost_chg (dn := s.dn) (d := s.d) (c := cost) ha
      rw [he, hst]
      refine Goal.enter (args := [.pointer (some ⟨bx, 0, none⟩), .int .i64 arc, .int .i64 cost]) Try.func24 rfl Try.ntmps24 rfl (hw) ?_
      repeat' (first | (refine Goal.loud (o := ⟨some 14, _, _, _, _, _⟩) rfl ?_; apply Loud.call0; exact rfl; exact rfl; exact rfl; exact rfl; exact T.bod_45; exact (fun w' H => arc_ok (hrd w' H.own.2.2).1 (by omega) arc); rw [decide_eq_true ha]) | (refine Goal.loud (o := ⟨some 38, _, _, _, _, _⟩) rfl ?_; refine Loud.callZ (X := Unit) (p := fun _ => True) (val := fun _ => .tuple #[]) (A := (bx, .cells (trc (s.tp.setCost arc cost) (.slice (some ⟨bo, 0, none⟩) s.tp.ov.length co) (.slice (some ⟨bl, 0, none⟩) s.tp.ls.length cl) vd (.slice (some ⟨bs, 0, none⟩) s.l.length cs) s.d s.k).toArray 77) :: (bs, .cells (ints s.l ++ rest).toArray 3) :: ([(bo, Obj.cells (bools s.tp.ov ++ resto).toArray 4)] ++ ([(bl, Obj.cells (Els lkc (s.tp.setCost arc cost).ls ++ restl).toArray 39)] ++ Ad))) (A' := fun _ => (bx, .cells (trc (s.tp.setCost arc cost) (.slice (some ⟨bo, 0, none⟩) s.tp.ov.length co) (.slice (some ⟨bl, 0, none⟩) s.tp.ls.length cl) vd (.slice (some ⟨bs, 0, none⟩) (dlist (s.tp.setCost arc cost) s.dn s.d).length cs) s.d (difN s.l (dlist (s.tp.setCost arc cost) s.dn s.d))).toArray 77) :: (bs, .cells (ints (dlist (s.tp.setCost arc cost) s.dn s.d) ++ rest).toArray 3) :: ([(bo, Obj.cells (bools s.tp.ov ++ resto).toArray 4)] ++ ([(bl, Obj.cells (Els lkc (s.tp.setCost arc cost).ls ++ restl).toArray 39)] ++ Ad))) [(b37, .cells #[.int .i64 arc] 3)] rfl rfl rfl rfl T.bod_46 (fun _ h => h) (fun w' H => (update_ok (tp := s.tp.setCost arc cost) (ch := [arc]) (G0 := GD s.tp s.dn s.d) (R := [(bo, Obj.cells (bools s.tp.ov ++ resto).toArray 4)] ++ ([(bl, Obj.cells (Els lkc (s.tp.setCost arc cost).ls ++ restl).toArray 39)] ++ Ad)) hS2 (TS.l_len hS) (TS.bd hS) (St.start H.drop.own H.drop.nd (fun _ h => h)) (fun w'' h => tr_rd ho hl' hd h) (fun w'' hm => rd_at (E := 3) (l := [arc]) (rest := []) (H.ownT hm (p := (b37, .cells #[.int .i64 arc] 3)) (by simp))) (fun a h => by rw [List.mem_singleton] at h; subst h; rw [setCost_arcs]; exact ha) (by simp) (dlist_ok ht hS.d).bell hch.to hch.of).mono fun e w'' h => ⟨(), trivial, h.1, h.2⟩) ?_; rintro ⟨⟩ -) | (refine Goal.loud (o := ⟨some 37, _, _, _, _, _⟩) rfl ?_; refine Loud.buildSlice (cs := [_]) rfl T.slc_46 T.inf_3 rfl rfl (by decide) rfl rfl rfl (fun b37 => ?_)) | (refine Goal.loud rfl ?_; refine Loud.store3 rfl rfl T.sz_3 rfl rfl rfl hbo hwr ?_) | (apply G.move; exact rfl; exact rfl) | (apply G.assign; exact rfl; exact rfl) | refine Goal.seq (fun _ _ => ?_) | refine Goal.next (by assumption) ?_ | refine Goal.lnil ?_ | refine Goal.region ?_ | refine Goal.skip ?_ | refine Goal.ret ?_ | (apply Goal.condF; exact rfl) | (refine Goal.condD rfl (fun hc => ?_) (fun hc => ?_) <;> first | (exfalso; omega) | skip) | refine Goal.guardT rfl rfl ?_ | (refine Goal.guardD rfl rfl (fun hc => ?_) (fun hc => ?_) <;> first | (exfalso; omega) | skip) | (apply G.fieldAddr; exact rfl; exact rfl; (first | exact T.fld_25_2 | exact T.fld_39_2 | exact T.fld_77_0)) | (apply G.load; exact rfl; exact rfl; first | ((refine LoadOK.one ?_ 0 rfl rfl); exact T.one_23) | exact ag3 T.agg_25 0 rfl rfl rfl rfl) | (apply G.pickF; exact rfl; exact rfl; exact rfl) | (apply G.lss; exact rfl; exact rfl; exact rfl) | (apply G.gtr; exact rfl; exact rfl; exact rfl) | (refine Goal.quiet rfl (Run.eqlP T.ptr_30 rfl rfl rfl) ?_) | (apply G.quo; exact rfl; exact rfl; exact rfl; (decide); exact IntWalk.i64_quo _ _ (by omega)) | (apply G.rem; exact rfl; exact rfl; exact rfl; (decide); exact IntWalk.rem_in _ _ (by omega)) | (apply G.notT; exact rfl; exact rfl) | (apply G.nilCheckP; exact rfl; exact rfl) | (refine G.indexAddr rfl T.slc_23 T.sz_39 rfl rfl _ (Int.toNat_of_nonneg (by omega)).symm (by omega) ?_) | (refine G.indexAddrA rfl T.arr_37 (by exact T.sz_3) rfl rfl _ (Int.toNat_of_nonneg (by omega)).symm (by omega) ?_))
      refine Goal.done (vs := [_]) (by first | exact .inl rfl | exact .inr rfl) Try.results24 ⟨rfl, trivial⟩ rfl (fun w' H => ⟨_, ⟨_, _, vd, bs, cs, rest, _, _, Ad, rfl, ho, hl', hd⟩, rfl, H.drop (L := [_])⟩)
    · have he : actE s.tp ⟨0, arc, cost⟩ = 1 := by unfold actE; rw [if_pos (show (0 : Int) ≤ 2 by decide), if_pos ha, if_pos ⟨rfl, hc9⟩]
      have hst : s.step ⟨0, arc, cost⟩ = s := by unfold TS.step; rw [if_neg (by rw [he]; decide)]
      rw [he, hst]
      refine Goal.enter (args := [.pointer (some ⟨bx, 0, none⟩), .int .i64 arc, .int .i64 cost]) Try.func24 rfl Try.ntmps24 rfl (hw) ?_
      repeat' (first | (refine Goal.loud (o := ⟨some 14, _, _, _, _, _⟩) rfl ?_; apply Loud.call0; exact rfl; exact rfl; exact rfl; exact rfl; exact T.bod_45; exact (fun w' H => arc_ok (hrd w' H.own.2.2).1 (by omega) arc); rw [decide_eq_true ha]) | (apply G.move; exact rfl; exact rfl) | (apply G.assign; exact rfl; exact rfl) | refine Goal.seq (fun _ _ => ?_) | refine Goal.next (by assumption) ?_ | refine Goal.lnil ?_ | refine Goal.region ?_ | refine Goal.skip ?_ | refine Goal.ret ?_ | refine Goal.then_ret ?_ | (apply Goal.condT; exact rfl) | (apply Goal.condF; exact rfl) | (refine Goal.condD rfl (fun hc => ?_) (fun hc => ?_) <;> first | (exfalso; omega) | skip) | refine Goal.guardT rfl rfl ?_ | refine Goal.guardF rfl rfl rfl rfl ?_ | (refine Goal.guardD rfl rfl (fun hc => ?_) (fun hc => ?_) <;> skip) | (apply G.fieldAddr; exact rfl; exact rfl; (exact T.fld_77_0)) | (apply G.load; exact rfl; exact rfl; exact ag3 T.agg_25 0 rfl rfl rfl rfl) | (apply G.pickT; exact rfl; exact rfl; exact rfl) | (apply G.pickF; exact rfl; exact rfl; exact rfl) | (apply G.lss; exact rfl; exact rfl; exact rfl) | (apply G.gtr; exact rfl; exact rfl; exact rfl) | (refine Goal.quiet rfl (Run.eqlP T.ptr_30 rfl rfl rfl) ?_) | (apply G.notT; exact rfl; exact rfl) | (apply G.nilCheckP; exact rfl; exact rfl))
      all_goals
        refine Goal.done (vs := [_]) (by first | exact .inl rfl | exact .inr rfl) Try.results24 ⟨rfl, trivial⟩ rfl (fun w' H => ⟨_, hM, rfl, H⟩)
  · have he : actE s.tp ⟨0, arc, cost⟩ = 2 := by unfold actE; rw [if_pos (show (0 : Int) ≤ 2 by decide), if_neg ha]
    have hst : s.step ⟨0, arc, cost⟩ = s := by unfold TS.step; rw [if_neg (by rw [he]; decide)]
    rw [he, hst]
    refine Goal.enter (args := [.pointer (some ⟨bx, 0, none⟩), .int .i64 arc, .int .i64 cost]) Try.func24 rfl Try.ntmps24 rfl (hw) ?_
    repeat' (first | (refine Goal.loud (o := ⟨some 14, _, _, _, _, _⟩) rfl ?_; apply Loud.call0; exact rfl; exact rfl; exact rfl; exact rfl; exact T.bod_45; exact (fun w' H => arc_ok (hrd w' H.own.2.2).1 (by omega) arc); rw [decide_eq_false ha]) | (apply G.move; exact rfl; exact rfl) | (apply G.assign; exact rfl; exact rfl) | refine Goal.seq (fun _ _ => ?_) | refine Goal.next (by assumption) ?_ | refine Goal.lnil ?_ | refine Goal.region ?_ | refine Goal.skip ?_ | refine Goal.ret ?_ | refine Goal.then_ret ?_ | (apply Goal.condT; exact rfl) | (apply Goal.condF; exact rfl) | (apply G.fieldAddr; exact rfl; exact rfl; (exact T.fld_77_0)) | (apply G.load; exact rfl; exact rfl; exact ag3 T.agg_25 0 rfl rfl rfl rfl) | (refine Goal.quiet rfl (Run.eqlP T.ptr_30 rfl rfl rfl) ?_) | (apply G.notF; exact rfl; exact rfl) | (apply G.nilCheckP; exact rfl; exact rfl))
    refine Goal.done (vs := [_]) (by first | exact .inl rfl | exact .inr rfl) Try.results24 ⟨rfl, trivial⟩ rfl (fun w' H => ⟨_, hM, rfl, H⟩)
set_option maxHeartbeats 8000000 in
theorem tdown_ok (hM : TrM 77 bx s A) (hS : s.Ok) (arc : Int) (b : Bool) (nn : Int) :
    MCalls Try.prog 25 [.pointer (some ⟨bx, 0, none⟩), .int .i64 arc, .bool b] A (fun A' : List Blk => TrM 77 bx (s.step ⟨if b = true then 1 else 2, arc, nn⟩) A') (fun _ => .int .i64 (actE s.tp ⟨if b = true then 1 else 2, arc, nn⟩)) (fun A' => A') := .mk fun w hw => by
  obtain ⟨vo, vl, vd, bs, cs, rest, Ao, Al, Ad, rfl, ho, hl, hd⟩ := id hM
  have ht := hS.ok
  have hn := ht.n
  have hln := ht.ln
  have har0 : s.tp.arcs = 2 * (s.tp.ls.length : Int) := rfl
  have hdl := hS.dn
  have hrd := fun (w' : World) (h : Own w' (Ao ++ (Al ++ Ad))) => tr_rd ho hl hd h
  have hk2 : (if b = true then (1 : Int) else 2) ≤ 2 := by split <;> decide
  have hk0 : ¬ (if b = true then (1 : Int) else 2) = 0 := by split <;> decide
  have hk1 : decide ((if b = true then (1 : Int) else 2) = 1) = b := by cases b <;> rfl
  by_cases ha : 0 ≤ arc ∧ arc < s.tp.arcs
  · have he : actE s.tp ⟨if b = true then 1 else 2, arc, nn⟩ = 0 := by unfold actE; rw [if_pos hk2, if_pos ha, if_neg (fun h => hk0 h.1)]
    have hst : s.step ⟨if b = true then 1 else 2, arc, nn⟩ = s.to s.tp (s.dn.set arc.toNat b) := by
      unfold TS.step
      rw [if_pos he, actT_down s.tp hk0 hk2, actD_down s.dn (by cases b <;> simp)]
      show s.to s.tp (s.dn.set arc.toNat (decide ((if b = true then (1 : Int) else 2) = 1))) = _
      rw [hk1]
    obtain ⟨bo, resto, co, rfl, rfl, ho1, ho2, ho3⟩ := ho.pos (by have := hS.ov; omega)
    obtain ⟨bl, restl, cl, rfl, rfl, hl1, hl2, hl3⟩ := hl.pos (by omega)
    obtain ⟨bd, restd, cd, rfl, rfl, hd1, hd2, hd3⟩ := hd.pos (by omega)
    have hlen2 : (s.dn.set arc.toNat b).length = s.dn.length := by simp
    have hS2 : TrS s.tp (s.dn.set arc.toNat b) s.d := ⟨hS.ok, by rw [hlen2]; exact hS.dn, hS.ov, hS.d⟩
    have hd' : Sl (.slice (some ⟨bd, 0, none⟩) s.dn.length cd) 4 1 (s.dn.set arc.toNat b).length (bools (s.dn.set arc.toNat b)) [(bd, Obj.cells (bools (s.dn.set arc.toNat b) ++ restd).toArray 4)] := by
      rw [← hlen2]
      refine Sl.mk (by rw [bools_len]; omega) ?_ (by omega)
      rw [bools_len] at hd2 ⊢
      omega
    have hch := setDown_chg (tp := s.tp) (d := s.d) (b := b) (show 0 ≤ arc ∧ arc < s.dn.length by omega)
    rw [he, hst]
    refine Goal.enter (args := [.pointer (some ⟨bx, 0, none⟩), .int .i64 arc, .bool b]) Try.func25 rfl Try.ntmps25 rfl (hw) ?_
    repeat' (first | (refine Goal.loud (o := ⟨some 14, _, _, _, _, _⟩) rfl ?_; apply Loud.call0; exact rfl; exact rfl; exact rfl; exact rfl; exact T.bod_45; exact (fun w' H => arc_ok (hrd w' H.own.2.2).1 (by omega) arc); rw [decide_eq_true ha]) | (refine Goal.loud (o := ⟨some 26, _, _, _, _, _⟩) rfl ?_; refine Loud.callZ (X := Unit) (p := fun _ => True) (val := fun _ => .tuple #[]) (A := (bx, .cells (trc s.tp (.slice (some ⟨bo, 0, none⟩) s.tp.ov.length co) (.slice (some ⟨bl, 0, none⟩) s.tp.ls.length cl) (.slice (some ⟨bd, 0, none⟩) s.dn.length cd) (.slice (some ⟨bs, 0, none⟩) s.l.length cs) s.d s.k).toArray 77) :: (bs, .cells (ints s.l ++ rest).toArray 3) :: ([(bo, Obj.cells (bools s.tp.ov ++ resto).toArray 4)] ++ ([(bl, Obj.cells (Els lkc s.tp.ls ++ restl).toArray 39)] ++ [(bd, Obj.cells (bools (s.dn.set arc.toNat b) ++ restd).toArray 4)]))) (A' := fun _ => (bx, .cells (trc s.tp (.slice (some ⟨bo, 0, none⟩) s.tp.ov.length co) (.slice (some ⟨bl, 0, none⟩) s.tp.ls.length cl) (.slice (some ⟨bd, 0, none⟩) s.dn.length cd) (.slice (some ⟨bs, 0, none⟩) (dlist s.tp (s.dn.set arc.toNat b) s.d).length cs) s.d (difN s.l (dlist s.tp (s.dn.set arc.toNat b) s.d))).toArray 77) :: (bs, .cells (ints (dlist s.tp (s.dn.set arc.toNat b) s.d) ++ rest).toArray 3) :: ([(bo, Obj.cells (bools s.tp.ov ++ resto).toArray 4)] ++ ([(bl, Obj.cells (Els lkc s.tp.ls ++ restl).toArray 39)] ++ [(bd, Obj.cells (bools (s.dn.set arc.toNat b) ++ restd).toArray 4)]))) [(b25, .cells #[.int .i64 arc] 3)] rfl rfl rfl rfl T.bod_46 (fun _ h => h) (fun w' H => (update_ok (tp := s.tp) (dn := (s.dn.set arc.toNat b)) (ch := [arc]) (G0 := GD s.tp s.dn s.d) (R := [(bo, Obj.cells (bools s.tp.ov ++ resto).toArray 4)] ++ ([(bl, Obj.cells (Els lkc s.tp.ls ++ restl).toArray 39)] ++ [(bd, Obj.cells (bools (s.dn.set arc.toNat b) ++ restd).toArray 4)])) hS2 (TS.l_len hS) (TS.bd hS) (St.start H.drop.own H.drop.nd (fun _ h => h)) (fun w'' h => tr_rd ho hl hd' h) (fun w'' hm => rd_at (E := 3) (l := [arc]) (rest := []) (H.ownT hm (p := (b25, .cells #[.int .i64 arc] 3)) (by simp))) (fun a h => by rw [List.mem_singleton] at h; subst h; exact ha) (by simp) (dlist_ok ht hS.d).bell hch.to hch.of).mono fun e w'' h => ⟨(), trivial, h.1, h.2⟩) ?_; rintro ⟨⟩ -) | (refine Goal.loud (o := ⟨some 25, _, _, _, _, _⟩) rfl ?_; refine Loud.buildSlice (cs := [_]) rfl T.slc_46 T.inf_3 rfl rfl (by decide) rfl rfl rfl (fun b25 => ?_)) | (apply G.move; exact rfl; exact rfl) | (apply G.assign; exact rfl; exact rfl) | refine Goal.seq (fun _ _ => ?_) | refine Goal.next (by assumption) ?_ | refine Goal.lnil ?_ | refine Goal.region ?_ | refine Goal.skip ?_ | refine Goal.ret ?_ | (apply Goal.condF; exact rfl) | (apply G.fieldAddr; exact rfl; exact rfl; (first | exact T.fld_77_0 | exact T.fld_77_1)) | (apply G.load; exact rfl; exact rfl; first | ((refine LoadOK.one ?_ 0 rfl rfl); exact T.one_22) | exact ag3 T.agg_25 0 rfl rfl rfl rfl) | (refine Goal.quiet rfl (Run.eqlP T.ptr_30 rfl rfl rfl) ?_) | (apply G.notT; exact rfl; exact rfl) | (apply G.nilCheckP; exact rfl; exact rfl) | (refine G.indexAddr1 rfl T.slc_22 T.sz_4 rfl rfl _ (Int.toNat_of_nonneg (by omega)).symm (by omega) ?_) | (refine Goal.loud rfl ?_; refine Loud.store4 rfl rfl T.sz_4 rfl rfl rfl (by rw [List.size_toArray, List.length_append, bools_len]; omega) (wr_boolsR (by omega)) ?_))
    refine Goal.done (vs := [_]) (by first | exact .inl rfl | exact .inr rfl) Try.results25 ⟨rfl, trivial⟩ rfl (fun w' H => ⟨_, ⟨_, _, _, bs, cs, rest, _, _, _, rfl, ho, hl, hd'⟩, rfl, H.drop (L := [_])⟩)
  · have he : actE s.tp ⟨if b = true then 1 else 2, arc, nn⟩ = 2 := by unfold actE; rw [if_pos hk2, if_neg ha]
    have hst : s.step ⟨if b = true then 1 else 2, arc, nn⟩ = s := by unfold TS.step; rw [if_neg (by rw [he]; decide)]
    rw [he, hst]
    refine Goal.enter (args := [.pointer (some ⟨bx, 0, none⟩), .int .i64 arc, .bool b]) Try.func25 rfl Try.ntmps25 rfl (hw) ?_
    repeat' (first | (refine Goal.loud (o := ⟨some 14, _, _, _, _, _⟩) rfl ?_; apply Loud.call0; exact rfl; exact rfl; exact rfl; exact rfl; exact T.bod_45; exact (fun w' H => arc_ok (hrd w' H.own.2.2).1 (by omega) arc); rw [decide_eq_false ha]) | (apply G.move; exact rfl; exact rfl) | (apply G.assign; exact rfl; exact rfl) | refine Goal.seq (fun _ _ => ?_) | refine Goal.next (by assumption) ?_ | refine Goal.lnil ?_ | refine Goal.region ?_ | refine Goal.skip ?_ | refine Goal.ret ?_ | refine Goal.then_ret ?_ | (apply Goal.condT; exact rfl) | (apply Goal.condF; exact rfl) | (apply G.fieldAddr; exact rfl; exact rfl; (exact T.fld_77_0)) | (apply G.load; exact rfl; exact rfl; exact ag3 T.agg_25 0 rfl rfl rfl rfl) | (refine Goal.quiet rfl (Run.eqlP T.ptr_30 rfl rfl rfl) ?_) | (apply G.notF; exact rfl; exact rfl) | (apply G.nilCheckP; exact rfl; exact rfl))
    refine Goal.done (vs := [_]) (by first | exact .inl rfl | exact .inr rfl) Try.results25 ⟨rfl, trivial⟩ rfl (fun w' H => ⟨_, hM, rfl, H⟩)
set_option maxHeartbeats 8000000 in
theorem tover_ok (hM : TrM 77 bx s A) (hS : s.Ok) (x : Int) (b : Bool) (nn : Int) :
    MCalls Try.prog 26 [.pointer (some ⟨bx, 0, none⟩), .int .i64 x, .bool b] A (fun A' : List Blk => TrM 77 bx (s.step ⟨if b = true then 3 else 4, x, nn⟩) A') (fun _ => .int .i64 (actE s.tp ⟨if b = true then 3 else 4, x, nn⟩)) (fun A' => A') := .mk fun w hw => by
  obtain ⟨vo, vl, vd, bs, cs, rest, Ao, Al, Ad, rfl, ho, hl, hd⟩ := id hM
  have ht := hS.ok
  have hn := ht.n
  have hln := ht.ln
  have har0 : s.tp.arcs = 2 * (s.tp.ls.length : Int) := rfl
  have hol := hS.ov
  have hrd := fun (w' : World) (h : Own w' (Ao ++ (Al ++ Ad))) => tr_rd ho hl hd h
  have hk2 : ¬ (if b = true then (3 : Int) else 4) ≤ 2 := by split <;> decide
  have hk1 : decide ((if b = true then (3 : Int) else 4) = 3) = b := by cases b <;> rfl
  by_cases hx : 0 ≤ x ∧ x < s.tp.n
  · have he : actE s.tp ⟨if b = true then 3 else 4, x, nn⟩ = 0 := by unfold actE; rw [if_neg hk2, if_pos hx]
    have hst : s.step ⟨if b = true then 3 else 4, x, nn⟩ = s.to (s.tp.setOver x b) s.dn := by
      unfold TS.step
      rw [if_pos he, actT_over s.tp hk2, actD_no s.dn (by cases b <;> simp)]
      show s.to (s.tp.setOver x (decide ((if b = true then (3 : Int) else 4) = 3))) s.dn = _
      rw [hk1]
    obtain ⟨bo, resto, co, rfl, rfl, ho1, ho2, ho3⟩ := ho.pos (by omega)
    have hlen2 : (s.tp.setOver x b).ov.length = s.tp.ov.length := by unfold Top.setOver; simp
    have hS2 : TrS (s.tp.setOver x b) s.dn s.d := ⟨setOver_ok hS.ok, hS.dn, by rw [hlen2]; exact hS.ov, hS.d⟩
    have ho' : Sl (.slice (some ⟨bo, 0, none⟩) s.tp.ov.length co) 4 1 (s.tp.setOver x b).ov.length (bools (s.tp.setOver x b).ov) [(bo, Obj.cells (bools (s.tp.setOver x b).ov ++ resto).toArray 4)] := by
      rw [← hlen2]
      refine Sl.mk (by rw [bools_len]; omega) ?_ (by omega)
      rw [bools_len] at ho2 ⊢
      omega
    have hch := setOver_chg (dn := s.dn) (d := s.d) (b := b) ht (x := x) (by omega) (ch := arcsAt s.tp.hd s.tp.arcs.toNat x) (fun a a0 a1 e => mem_arcsAt.2 ⟨by omega, e⟩)
    have hal := arcsAt_len s.tp.hd s.tp.arcs.toNat x
    have hlk := adjL_len s.tp.hd s.tp.n.toNat s.tp.arcs.toNat
    rw [he, hst]
    refine Goal.enter (args := [.pointer (some ⟨bx, 0, none⟩), .int .i64 x, .bool b]) Try.func26 rfl Try.ntmps26 rfl (hw) ?_
    repeat' (first | (refine Goal.loud (o := ⟨some 14, _, _, _, _, _⟩) rfl ?_; apply Loud.call0; exact rfl; exact rfl; exact rfl; exact rfl; exact T.bod_47; exact (fun w' H => node_ok x); rw [decide_eq_true hx]) | (refine Goal.loud (o := ⟨some 29, _, _, _, _, _⟩) rfl ?_; apply Loud.callN; exact rfl; exact rfl; exact rfl; exact rfl; exact T.bod_48; exact (fun w' H => entering_ok (tp := (s.tp.setOver x b)) (tr_rd ho' hl hd H.own.2.2).1 hS2.ok); rintro ⟨be, ve, Be⟩ hI; dsimp only at hI ⊢) | (apply G.move; exact rfl; exact rfl) | (apply G.assign; exact rfl; exact rfl) | refine Goal.seq (fun _ _ => ?_) | refine Goal.next (by assumption) ?_ | refine Goal.lnil ?_ | refine Goal.region ?_ | refine Goal.skip ?_ | (apply Goal.condF; exact rfl) | (apply G.fieldAddr; exact rfl; exact rfl; (first | exact T.fld_25_1 | exact T.fld_77_0)) | (apply G.load; exact rfl; exact rfl; first | ((refine LoadOK.one ?_ 0 rfl rfl); exact T.one_22) | exact ag3 T.agg_25 0 rfl rfl rfl rfl) | (refine Goal.quiet rfl (Run.eqlP T.ptr_30 rfl rfl rfl) ?_) | (apply G.notT; exact rfl; exact rfl) | (apply G.nilCheckP; exact rfl; exact rfl) | (refine G.indexAddr1 rfl (by first | exact T.slc_22 | exact T.slc_83) (by first | exact T.sz_4 | exact T.sz_46) rfl rfl _ (Int.toNat_of_nonneg (by omega)).symm (by omega) ?_) | (refine Goal.loud rfl ?_; refine Loud.store2 rfl rfl T.sz_4 rfl rfl rfl (by rw [List.size_toArray, List.length_append, bools_len]; omega) (wr_boolsR (by omega)) ?_))
    obtain ⟨v, B1, Ai, B2, hve, rfl, hSi, _⟩ := hI.split (i := x.toNat) (by rw [adjL_len]; show x.toNat < s.tp.n.toNat; omega)
    rw [adjL_at, Int.toNat_of_nonneg hx.1] at hSi
    have hSi' : Sl v 3 1 (arcsAt s.tp.hd s.tp.arcs.toNat x).length (ints (arcsAt s.tp.hd s.tp.arcs.toNat x)) Ai := hSi
    clear hSi
    obtain ⟨au, cu, rfl⟩ := hSi'.shape
    have hve2 : ve.toArray.toList[0 + x.toNat]? = some (.slice au (arcsAt s.tp.hd s.tp.arcs.toNat x).length cu) := by rw [Nat.zero_add]; exact hve
    have hlk2 : (adjL (s.tp.setOver x b).hd (s.tp.setOver x b).n.toNat (s.tp.setOver x b).arcs.toNat).length = s.tp.n.toNat := adjL_len _ _ _
    repeat' (first | (refine Goal.loud (o := ⟨some 33, _, _, _, _, _⟩) rfl ?_; refine Loud.callZ (X := Unit) (p := fun _ => True) (val := fun _ => .tuple #[]) (A := (bx, .cells (trc (s.tp.setOver x b) (.slice (some ⟨bo, 0, none⟩) s.tp.ov.length co) vl vd (.slice (some ⟨bs, 0, none⟩) s.l.length cs) s.d s.k).toArray 77) :: (bs, .cells (ints s.l ++ rest).toArray 3) :: ([(bo, Obj.cells (bools (s.tp.setOver x b).ov ++ resto).toArray 4)] ++ (Al ++ Ad))) (A' := fun _ => (bx, .cells (trc (s.tp.setOver x b) (.slice (some ⟨bo, 0, none⟩) s.tp.ov.length co) vl vd (.slice (some ⟨bs, 0, none⟩) (dlist (s.tp.setOver x b) s.dn s.d).length cs) s.d (difN s.l (dlist (s.tp.setOver x b) s.dn s.d))).toArray 77) :: (bs, .cells (ints (dlist (s.tp.setOver x b) s.dn s.d) ++ rest).toArray 3) :: ([(bo, Obj.cells (bools (s.tp.setOver x b).ov ++ resto).toArray 4)] ++ (Al ++ Ad))) ((be, Obj.cells ve.toArray 46) :: (B1 ++ (Ai ++ B2))) rfl rfl rfl rfl T.bod_46 (fun _ h => h.perm (List.perm_append_comm (l₁ := (bx, .cells (trc (s.tp.setOver x b) (.slice (some ⟨bo, 0, none⟩) s.tp.ov.length co) vl vd (.slice (some ⟨bs, 0, none⟩) s.l.length cs) s.d s.k).toArray 77) :: (bs, .cells (ints s.l ++ rest).toArray 3) :: ([(bo, Obj.cells (bools (s.tp.setOver x b).ov ++ resto).toArray 4)] ++ (Al ++ Ad))) (l₂ := ((be, Obj.cells ve.toArray 46) :: (B1 ++ (Ai ++ B2)))))) (fun w' H => (update_ok (tp := (s.tp.setOver x b)) (dn := s.dn) (ch := arcsAt s.tp.hd s.tp.arcs.toNat x) (G0 := GD s.tp s.dn s.d) (R := [(bo, Obj.cells (bools (s.tp.setOver x b).ov ++ resto).toArray 4)] ++ (Al ++ Ad)) hS2 (TS.l_len hS) (TS.bd hS) (St.start H.drop.own H.drop.nd (fun _ h => h)) (fun w'' h => tr_rd ho' hl hd h) (fun w'' hm => RdV.of_sl hSi' (Own.mk fun p hp => H.ownT hm (by simp [hp]))) (fun a h => by have h2 := (mem_arcsAt.1 h).1; refine ⟨h2.1, ?_⟩; show a < s.tp.arcs; omega) (by omega) (dlist_ok ht hS.d).bell hch.to hch.of).mono fun e w'' h => ⟨(), trivial, h.1, h.2⟩) ?_; rintro ⟨⟩ -) | (apply G.assign; exact rfl; exact rfl) | refine Goal.seq (fun _ _ => ?_) | refine Goal.next (by assumption) ?_ | refine Goal.lnil ?_ | refine Goal.region ?_ | refine Goal.ret ?_ | (apply G.load; exact rfl; exact rfl; exact LoadOK.oneM (b := be) (c := ve.toArray) (E := 46) T.one_46 (by simp) hve2) | (refine G.indexAddr1 rfl (by first | exact T.slc_22 | exact T.slc_83) (by first | exact T.sz_4 | exact T.sz_46) rfl rfl _ (Int.toNat_of_nonneg (by omega)).symm (by omega) ?_))
    refine Goal.done (vs := [_]) (by first | exact .inl rfl | exact .inr rfl) Try.results26 ⟨rfl, trivial⟩ rfl (fun w' H => ⟨_, ⟨_, _, _, bs, cs, rest, _, _, _, rfl, ho', hl, hd⟩, rfl, H.drop (L := ((be, Obj.cells ve.toArray 46) :: (B1 ++ (Ai ++ B2))))⟩)
  · have he : actE s.tp ⟨if b = true then 3 else 4, x, nn⟩ = 2 := by unfold actE; rw [if_neg hk2, if_neg hx]
    have hst : s.step ⟨if b = true then 3 else 4, x, nn⟩ = s := by unfold TS.step; rw [if_neg (by rw [he]; decide)]
    rw [he, hst]
    refine Goal.enter (args := [.pointer (some ⟨bx, 0, none⟩), .int .i64 x, .bool b]) Try.func26 rfl Try.ntmps26 rfl (hw) ?_
    repeat' (first | (refine Goal.loud (o := ⟨some 14, _, _, _, _, _⟩) rfl ?_; apply Loud.call0; exact rfl; exact rfl; exact rfl; exact rfl; exact T.bod_47; exact (fun w' H => node_ok x); rw [decide_eq_false hx]) | (apply G.move; exact rfl; exact rfl) | (apply G.assign; exact rfl; exact rfl) | refine Goal.seq (fun _ _ => ?_) | refine Goal.next (by assumption) ?_ | refine Goal.lnil ?_ | refine Goal.region ?_ | refine Goal.skip ?_ | refine Goal.ret ?_ | refine Goal.then_ret ?_ | (apply Goal.condT; exact rfl) | (apply Goal.condF; exact rfl) | (apply G.fieldAddr; exact rfl; exact rfl; (exact T.fld_77_0)) | (apply G.load; exact rfl; exact rfl; exact ag3 T.agg_25 0 rfl rfl rfl rfl) | (refine Goal.quiet rfl (Run.eqlP T.ptr_30 rfl rfl rfl) ?_) | (apply G.notF; exact rfl; exact rfl) | (apply G.nilCheckP; exact rfl; exact rfl))
    refine Goal.done (vs := [_]) (by first | exact .inl rfl | exact .inr rfl) Try.results26 ⟨rfl, trivial⟩ rfl (fun w' H => ⟨_, hM, rfl, H⟩)
end
end Go.Proofs.Ythhhegmhgheeiaa
