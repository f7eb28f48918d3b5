/- Package spf: Dist and From. -/
import Derived.Test.YthhhegmhgheeiaaSpW
namespace Go.Proofs.Ythhhegmhgheeiaa
open Go.Wf
set_option linter.unusedVariables false
theorem St.cell {w0 w : World} {S : List Nat} {L : List Blk} (h : St w0 S w L) {b off E : Nat} {c : Array Value} {v : Value} (hm : (b, Obj.cells c E) ∈ L) (hc : c[off]? = some v) : w.cell? ⟨b, off, none⟩ = some v := cell_of_blk (h.get hm) hc
section
variable {w : World} {tp : Top} {vo vl vd : Value} {dn : List Bool} {d : Int} {h : Int → Int} {k : Nat}
theorem fol_d {b : Nat} {N : Int} {v : Value} (hc : w.cell? ⟨b, 0, none⟩ = some v) (hl : RdLL w v (adjL h N.toNat k)) : FolOk 66 [.pointer (some ⟨b, 0, none⟩)] w N (arcsAt h k) := by
  refine ⟨T.bod_66, fun x x0 x1 => ?_⟩
  obtain ⟨bo, cap, vs, rfl, hvl, hl⟩ := hl
  rw [adjL_len] at hvl
  obtain ⟨u, h1, h2, h3⟩ := hl x.toNat (by rw [adjL_len]; omega)
  rw [adjL_at, Int.toNat_of_nonneg x0] at h3
  have hal := adjL_len h N.toNat k
  refine ⟨u, h3, fun w' hm => ?_⟩
  have hc' := hm.cell hc (by simp)
  have h2' := hm.cell h2 (by simp)
  refine Goal.enter (args := [.int .i64 x, .pointer (some ⟨b, 0, none⟩)]) Try.func66 rfl Try.ntmps66 rfl (St.nil w') ?_
  repeat' (first | (apply G.move; exact rfl; exact rfl) | (apply G.assign; exact rfl; exact rfl) | refine Goal.seq (fun _ _ => ?_) | refine Goal.next (by assumption) ?_ | refine Goal.lnil ?_ | refine Goal.region ?_ | refine Goal.ret ?_ | (apply G.load; exact rfl; exact rfl; first | exact LoadOK.old T.one_83 hc' (by simp) | exact LoadOK.old T.one_46 (by rw [Nat.zero_add]; exact h2') (by simp)) | (refine G.indexAddr1 rfl T.slc_83 T.sz_46 rfl rfl _ (Int.toNat_of_nonneg (by omega)).symm (by omega) ?_))
  refine Goal.done (vs := [_]) (by first | exact .inl rfl | exact .inr rfl) Try.results66 ⟨rfl, trivial⟩ rfl (fun w'' H => ⟨rfl, H.mod⟩)
theorem end_d {b : Nat} (hT : TopR w vo vl tp) (ht : tp.Ok) (hc : ∀ j v, [Value.int .i64 tp.n, vo, vl][j]? = some v → w.cell? ⟨b, 0 + j, none⟩ = some v) : EndOk 67 [.pointer (some ⟨b, 0, none⟩)] w tp.arcs tp.tl := by
  refine ⟨T.bod_67, fun a a0 a1 w' hm => ?_⟩
  have hln := ht.ln
  refine Goal.enter (args := [.int .i64 a, .pointer (some ⟨b, 0, none⟩)]) Try.func67 rfl Try.ntmps67 rfl (St.nil w') ?_
  repeat' (first | (refine Goal.loud (o := ⟨some 6, _, _, _, _, _⟩) rfl ?_; apply Loud.call0; exact rfl; exact rfl; exact rfl; exact rfl; exact T.bod_68; exact (fun w'' H => tail_ok ((hT.keep hm).keep H.mod) ⟨a0, a1⟩ (by omega))) | (apply G.move; exact rfl; exact rfl) | (apply G.assign; exact rfl; exact rfl) | refine Goal.seq (fun _ _ => ?_) | refine Goal.next (by assumption) ?_ | refine Goal.lnil ?_ | refine Goal.region ?_ | refine Goal.ret ?_ | (apply G.load; exact rfl; exact rfl; exact LoadOK.oldAgg (vs := [.int .i64 tp.n, vo, vl]) T.agg_25 rfl (fun j v hj => hm.cell (hc j v hj) (by simp)) (by simp)))
  refine Goal.done (vs := [_]) (by first | exact .inl rfl | exact .inr rfl) Try.results67 ⟨rfl, trivial⟩ rfl (fun w'' H => ⟨rfl, H.mod⟩)
theorem gs_gd (ht : tp.Ok) : GS tp dn d (arcsAt tp.hd tp.arcs.toNat) tp.tl = GD tp dn d := by
  funext x y c
  refine propext ⟨fun ⟨a, ha, h1, h2, h3, h4, h5⟩ => ?_, fun ⟨a, ha, h1, h2, h3, h4, h5⟩ => ?_⟩
  · obtain ⟨q1, q2⟩ := mem_arcsAt.1 ha
    exact ⟨a, by omega, h1, h2, h4, q2.symm, h5⟩
  · subst h4
    exact ⟨a, mem_arcsAt.2 ⟨by omega, rfl⟩, h1, h2, (ht.arc ha).2.1, h3, h5⟩
theorem gs_gf (ht : tp.Ok) : GS tp dn d (arcsAt tp.tl tp.arcs.toNat) tp.hd = GF tp dn d := by
  funext x y c
  refine propext ⟨fun ⟨a, ha, h1, h2, h3, h4, h5⟩ => ?_, fun ⟨a, ha, h1, h2, h3, h4, h5⟩ => ?_⟩
  · obtain ⟨q1, q2⟩ := mem_arcsAt.1 ha
    exact ⟨a, by omega, h1, h2, h4, q2.symm, h5⟩
  · subst h4
    exact ⟨a, mem_arcsAt.2 ⟨by omega, rfl⟩, h1, h2, (ht.arc ha).1, h3, h5⟩
theorem fol_g (ht : tp.Ok) {en : Int → Int} (he : ∀ a, 0 ≤ a → a < tp.arcs → 0 ≤ en a ∧ en a < tp.n) : FolG tp (arcsAt h tp.arcs.toNat) en := by
  have hl := ht.ln
  refine ⟨fun y _ _ a ha => ?_, fun y _ _ => ?_, he⟩
  · have := (mem_arcsAt.1 ha).1
    omega
  · have := arcsAt_len h tp.arcs.toNat y
    unfold Top.arcs at this ⊢
    omega
set_option maxHeartbeats 4000000 in
theorem dist_ok (hT : TopR w vo vl tp) (hd : RdV w vd (bools dn)) (ht : tp.Ok) (hf : Fit tp dn) (hr : 0 ≤ d ∧ d < tp.n) :
    Calls Try.prog 38 #[.agg #[.int .i64 tp.n, vo, vl], vd, .int .i64 d] w fun e w' => ∃ x : WR, DL tp.n d (GD tp dn d) x.l ∧ e = .returned (.tuple #[.slice (some ⟨x.b, 0, none⟩) x.l.length x.l.length, .int .i64 0]) ∧ St w [] w' [(x.b, .cells (ints x.l).toArray 3)] := by
  have hn := ht.n
  have hln := ht.ln
  have hchk : chk tp dn [d] = 0 := by unfold chk; rw [if_pos ⟨ht, hf⟩, if_pos (by simpa using hr)]
  have hovl := ht.ov
  obtain ⟨adn, cdn, rfl⟩ := shapeB hd
  obtain ⟨ao, co, rfl⟩ := shapeB hT.ov
  obtain ⟨al, cl, rfl⟩ := shapeL hT.ls
  refine Goal.enter (args := [.agg #[.int .i64 tp.n, .slice ao tp.ov.length co, .slice al tp.ls.length cl], .slice adn dn.length cdn, .int .i64 d]) Try.func38 rfl Try.ntmps38 rfl (St.nil w) ?_
  repeat' (first | (refine Goal.loud (o := ⟨some 15, _, _, _, _, _⟩) rfl ?_; apply Loud.call0; exact rfl; exact rfl; exact rfl; exact rfl; exact T.bod_65; exact (fun w' H => check_ok (ns := [d]) (hT.keep H.mod) (hd.keep H.mod) (by omega) (by omega) (RdV.of_lit (vs := ints [d]) (H.at (i := 0) rfl)) (by simp)); rw [hchk]) | (refine Goal.loud (o := ⟨some 20, _, _, _, _, _⟩) rfl ?_; apply Loud.callN; exact rfl; exact rfl; exact rfl; exact rfl; exact T.bod_48; exact (fun w' H => entering_ok (hT.keep H.mod) ht); rintro ⟨be, ve, Be⟩ hI; dsimp only at hI ⊢) | (refine Goal.loud (o := ⟨some 28, _, _, _, _, _⟩) rfl ?_; apply Loud.callN; exact rfl; exact rfl; exact rfl; exact rfl; exact T.bod_69; exact (fun w' H => run_ok (hT.keep H.mod) (hd.keep H.mod) ht hf hr (fol_d (cell_of_blk (H.at (i := 1) rfl) rfl) (RdLL.of_own hI H.own.2.2.2.2)) (end_d (b := b3) (hT.keep H.mod) ht (fun j v hj => by rw [Nat.zero_add]; exact cell_of_blk (H.at (i := 3) rfl) (by simpa using hj))) (fol_g ht (fun a a0 a1 => (ht.arc ⟨a0, a1⟩).1))); rintro ⟨bl, l⟩ hl; dsimp only at hl ⊢) | (refine Goal.loud (o := ⟨some 3, _, _, _, _, _⟩) rfl ?_; refine Loud.boxA rfl rfl (fun b3 => ?_)) | (refine Goal.loud (o := ⟨some 14, _, _, _, _, _⟩) rfl ?_; refine Loud.buildSlice (cs := [_]) rfl T.slc_46 T.inf_3 rfl rfl (by decide) rfl rfl rfl (fun b14 => ?_)) | (refine Goal.loud (o := ⟨some 9, _, _, _, _, _⟩) rfl ?_; refine Loud.alloc rfl T.inf_83 rfl (fun b9 => ?_)) | (refine Goal.loud (o := ⟨some 10, _, _, _, _, _⟩) rfl ?_; refine Loud.allocA rfl T.inf_95 (fun b10 => ?_)) | (apply G.move; exact rfl; exact rfl) | (apply G.assign; exact rfl; exact rfl) | refine Goal.seq (fun _ _ => ?_) | refine Goal.next (by assumption) ?_ | refine Goal.lnil ?_ | refine Goal.region ?_ | refine Goal.skip ?_ | refine Goal.ret ?_ | (apply Goal.condF; exact rfl) | (apply G.load; exact rfl; exact rfl; first | exact ag3 T.agg_25 0 rfl rfl rfl rfl | exact ag3 T.agg_25 1 rfl rfl rfl rfl | exact ag3 T.agg_25 2 rfl rfl rfl rfl | exact LoadOK.agg (vs := [_, _, _, _, _, _, _]) T.agg_95 0 rfl rfl ⟨rfl, rfl, rfl, rfl, rfl, rfl, rfl, trivial⟩) | (apply G.neq; exact rfl; exact rfl; exact rfl) | (apply G.build (cs := [_, _, _, _, _, _, _]); exact rfl; exact T.lay_95; exact rfl; exact rfl) | (apply G.makeFunc; exact rfl; exact rfl; exact rfl) | (refine Goal.loud rfl ?_; (refine Loud.store0 rfl rfl (by first | exact T.sz_83 | exact T.sz_95) rfl rfl rfl ?_ rfl ?_); exact Nat.le_of_ble_eq_true rfl))
  rw [gs_gd ht] at hl
  refine Goal.done (vs := [_, _]) (by first | exact .inl rfl | exact .inr rfl) Try.results38 ⟨rfl, rfl, trivial⟩ rfl (fun w' H => ⟨⟨bl, l⟩, hl, rfl, H.drop⟩)
end
end Go.Proofs.Ythhhegmhgheeiaa
