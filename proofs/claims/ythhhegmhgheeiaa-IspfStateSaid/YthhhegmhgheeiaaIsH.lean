/- Package ispf: New, Dist, Next, Touched, Topology, Down. -/
import Derived.Test.YthhhegmhgheeiaaIsG
namespace Go.Wf
section
variable {w0 w : World} {S : List Nat} {o m t b l : Blk} {Ao Al : List Blk}
theorem newPermA (h : St w0 S w (o :: m :: t :: b :: l :: (Ao ++ Al))) : St w0 S w (t :: l :: ([o] ++ (Al ++ [m]))) :=
  (h.perm (L' := (t :: l :: ([o] ++ (Al ++ [m]))) ++ (b :: Ao)) (perm_of_cnt fun p => by simp only [List.countP_cons, List.countP_append, List.countP_nil]; ac_rfl)).left
theorem newPermB (h : St w0 S w (m :: t :: b :: l :: (Ao ++ Al))) : St w0 S w (t :: l :: (Ao ++ (Al ++ [m]))) :=
  (h.perm (L' := (t :: l :: (Ao ++ (Al ++ [m]))) ++ [b]) (perm_of_cnt fun p => by simp only [List.countP_cons, List.countP_append, List.countP_nil]; ac_rfl)).left
end
end Go.Wf
namespace Go.Proofs.Ythhhegmhgheeiaa
open Go.Wf
set_option linter.unusedVariables false
theorem tdist_bad {w : World} {tp : Top} {vo vl vd : Value} {dn : List Bool} {d : Int} (hT : TopR w vo vl tp) (hd : RdV w vd (bools dn)) (hl : tp.ls.length ≤ 1048576) (hov : tp.ov.length ≤ 140737488355328) (hc9 : chk tp dn [d] ≠ 0) : Calls Try.prog 38 #[.agg #[.int .i64 tp.n, vo, vl], vd, .int .i64 d] w fun e w' => e = .returned (.tuple #[.slice none 0 0, .int .i64 (chk tp dn [d])]) ∧ Mod [] w w' := by
  refine Goal.enter (args := [.agg #[.int .i64 tp.n, vo, vl], vd, .int .i64 d]) Try.func38 rfl Try.ntmps38 rfl (St.nil w) ?_
  repeat' (first | (refine Goal.loud (o := ⟨some 15, _, _, _, _, _⟩) rfl ?_; apply Loud.call0; exact rfl; exact rfl; exact rfl; exact rfl; exact T.bod_65; exact (fun w' H => check_ok (ns := [d]) (hT.keep H.mod) (hd.keep H.mod) hl hov (RdV.of_lit (vs := ints [d]) (H.at (i := 0) rfl)) (by simp))) | (refine Goal.loud (o := ⟨some 3, _, _, _, _, _⟩) rfl ?_; refine Loud.boxA rfl rfl (fun b3 => ?_)) | (refine Goal.loud (o := ⟨some 14, _, _, _, _, _⟩) rfl ?_; refine Loud.buildSlice (cs := [_]) rfl T.slc_46 T.inf_3 rfl rfl (by decide) rfl rfl rfl (fun b14 => ?_)) | (apply G.move; exact rfl; exact rfl) | (apply G.assign; exact rfl; exact rfl) | refine Goal.seq (fun _ _ => ?_) | refine Goal.next (by assumption) ?_ | refine Goal.lnil ?_ | refine Goal.region ?_ | refine Goal.ret ?_ | refine Goal.then_ret ?_ | (refine Goal.condD rfl (fun hc => ?_) (fun hc => ?_) <;> first | (exfalso; omega) | skip) | (apply G.load; exact rfl; exact rfl; exact ag3 T.agg_25 0 rfl rfl rfl rfl) | (apply G.neq; exact rfl; exact rfl; exact rfl))
  refine Goal.done (vs := [_, _]) (by first | exact .inl rfl | exact .inr rfl) Try.results38 ⟨rfl, rfl, trivial⟩ rfl (fun w' H => ⟨rfl, H.mod⟩)
/-- How a tree begins. -/
def TS.new (tp : Top) (dn : List Bool) (d : Int) : TS := ⟨tp.fill, fillD tp dn, d, 0⟩
structure NT where
  (b : Nat) (A : List Blk)
section
variable {w : World} {tp : Top} {vo vl vd : Value} {dn : List Bool} {d : Int}
theorem TS.new_ok (ht : tp.Ok) (hf : Fit tp dn) (hr : 0 ≤ d ∧ d < tp.n) : (TS.new tp dn d).Ok := fill_ok ht hf hr
theorem TS.new_l (ht : tp.Ok) (hr : 0 ≤ d ∧ d < tp.n) {l : List Int} (hl : DL tp.n d (GD tp dn d) l) : l = (TS.new tp dn d).l := by
  rw [dlist_eq ht hr hl]
  exact fill_dlist.symm
set_option maxHeartbeats 8000000 in
theorem tnew_ok (hT : TopR w vo vl tp) (hd : RdV w vd (bools dn)) (ht : tp.Ok) (hf : Fit tp dn) (hr : 0 ≤ d ∧ d < tp.n) :
    Calls Try.prog 14 #[.agg #[.int .i64 tp.n, vo, vl], vd, .int .i64 d] w fun e w' => ∃ x : NT, TrM 77 x.b (TS.new tp dn d) x.A ∧ e = .returned (.tuple #[.pointer (some ⟨x.b, 0, none⟩), .int .i64 0]) ∧ St w [] w' x.A := by
  have hn := ht.n
  have hln := ht.ln
  have hovl := ht.ov
  have har0 : tp.arcs = 2 * (tp.ls.length : Int) := rfl
  have hdk : dn.length = 0 ∨ dn.length = tp.arcs.toNat := by
    rcases hf with e | e
    · exact .inl e
    · exact .inr (by omega)
  have hcl : (cpB (List.replicate tp.arcs.toNat false) dn).length = tp.arcs.toNat := by
    unfold cpB
    split
    · simp
    · omega
  refine Goal.enter (args := [.agg #[.int .i64 tp.n, vo, vl], vd, .int .i64 d]) Try.func14 rfl Try.ntmps14 rfl (St.nil w) ?_
  repeat' (first | (refine Goal.drawHd (id := 4) 10 T.mixed ?_; all_goals ((refine Goal.takeP (listed' := #[No,No,No,No,No,Ya,No,No,No,No]) 5 ⟨rfl, by kernel_rfl, by kernel_rfl, by kernel_rfl, by kernel_rfl⟩ rfl (fun _ _ _ _ h => h) (by intro _; exact Run.move rfl) ?_)); all_goals ((refine Goal.takeP (listed' := #[No,No,No,No,No,Ya,Ya,No,No,No]) 6 ⟨rfl, by kernel_rfl, by kernel_rfl, by kernel_rfl, by kernel_rfl⟩ rfl (fun _ _ _ _ h => h) (by intro _; exact Run.move rfl) ?_)); all_goals ((refine Goal.take (listed' := #[Ya,No,No,No,No,Ya,Ya,No,No,No]) 0 ⟨rfl, by kernel_rfl, by kernel_rfl, by kernel_rfl, by kernel_rfl, by kernel_rfl⟩ rfl (by (exact sh1)) (fun _ _ _ _ h => h) (by (apply Run.load; exact rfl; exact ag3 T.agg_25 0 rfl rfl rfl rfl)) ?_)); all_goals ((refine Goal.take (listed' := #[Ya,No,Ya,No,No,Ya,Ya,No,No,No]) 2 ⟨rfl, by kernel_rfl, by kernel_rfl, by kernel_rfl, by kernel_rfl, by kernel_rfl⟩ rfl (by (exact sh1)) (fun _ _ _ _ h => h) (by (apply Run.load; exact rfl; exact ag3 T.agg_25 0 rfl rfl rfl rfl)) ?_)); all_goals (refine Goal.ready1 (i := 1) (by kernel_rfl) ?_); all_goals ((refine Goal.up (i := 1) (listed' := #[Ya,Ya,Ya,No,No,Ya,Ya,No,No,No]) rfl (by kernel_rfl) ?_; (apply Loud.callN; exact rfl; exact rfl; exact rfl; exact rfl; exact T.bod_39; exact (fun w' H => clone_ok (hT.keep H.mod) (by omega) (by omega)); rintro ⟨vo2, vl2, Ao, Al⟩ ⟨hSo, hSl⟩; dsimp only at hSo hSl ⊢; obtain ⟨ao2, co2, rfl⟩ := hSo.shape; obtain ⟨al2, cl2, rfl⟩ := hSl.shape); refine Goal.kept (by (exact sh1)) ?_)); all_goals (refine Goal.ready1 (i := 3) (by kernel_rfl) ?_); all_goals ((refine Goal.up (i := 3) (listed' := #[Ya,Ya,Ya,Ya,No,Ya,Ya,No,No,No]) rfl (by kernel_rfl) ?_; (apply Loud.call0; exact rfl; exact rfl; exact rfl; exact rfl; exact T.bod_40; exact (fun w' H => arcs_ok (hT.keep H.mod) (by omega))); refine Goal.kept (by (exact sh1)) ?_)); all_goals (refine Goal.ready1 (i := 4) (by kernel_rfl) ?_); all_goals ((refine Goal.up (i := 4) (listed' := #[Ya,Ya,Ya,Ya,Ya,Ya,Ya,No,No,No]) rfl (by kernel_rfl) ?_; (refine Loud.makeSlice rfl T.slc_22 T.inf_4 rfl rfl (by decide) rfl rfl (Int.toNat_of_nonneg (by omega)).symm (Int.toNat_of_nonneg (by omega)).symm (by omega) (by omega) (by omega) (fun b25 => ?_)); refine Goal.kept (by (exact sh2)) ?_)); all_goals ((refine Goal.takeP (listed' := #[Ya,Ya,Ya,Ya,Ya,Ya,Ya,Ya,No,No]) 7 ⟨rfl, by kernel_rfl, by kernel_rfl, by kernel_rfl, by kernel_rfl⟩ rfl (fun _ _ _ _ h => h) (by intro _; exact Run.build (cs := [_, _, _, _, _, _, _]) T.lay_77 rfl rfl) ?_)); all_goals (refine Goal.ready1 (i := 8) (by kernel_rfl) ?_); all_goals ((refine Goal.up (i := 8) (listed' := #[Ya,Ya,Ya,Ya,Ya,Ya,Ya,Ya,Ya,No]) rfl (by kernel_rfl) ?_; (refine Loud.boxA rfl rfl (fun b29 => ?_)); refine Goal.kept (by (exact fun _ h => h.sub (List.singleton_sublist.2 (by simp)))) ?_)); all_goals ((refine Goal.takeP (listed' := #[Ya,Ya,Ya,Ya,Ya,Ya,Ya,Ya,Ya,Ya]) 9 ⟨rfl, by kernel_rfl, by kernel_rfl, by kernel_rfl, by kernel_rfl⟩ rfl (fun _ _ _ _ h => h) (by intro _; exact Run.assign rfl) ?_)); all_goals (refine Goal.allUp (by kernel_rfl) ?_)) | (refine Goal.loud (o := ⟨some 15, _, _, _, _, _⟩) rfl ?_; apply Loud.callN; exact rfl; exact rfl; exact rfl; exact rfl; exact T.bod_38; exact (fun w' H => dist_ok (hT.keep H.mod) (hd.keep H.mod) ht hf hr); rintro ⟨bl, l⟩ hl; dsimp only at hl ⊢; have hl2 := TS.new_l ht hr hl; subst hl2) | (refine Goal.loud (o := ⟨some 35, _, _, _, _, _⟩) rfl ?_; refine Goal.reL (L' := (b25, .cells (bools (List.replicate tp.arcs.toNat false)).toArray 4) :: (b29, .cells #[.int .i64 tp.n, .slice ao2 tp.ov.length co2, .slice al2 tp.ls.length cl2, .slice (some ⟨b25, 0, none⟩) tp.arcs.toNat tp.arcs.toNat, .int .i64 d, .slice (some ⟨bl, 0, none⟩) (TS.new tp dn d).l.length (TS.new tp dn d).l.length, .int .i64 0] 77) :: ((b3, .cells #[.int .i64 tp.n, vo, vl] 25) :: (bl, .cells (ints (TS.new tp dn d).l).toArray 3) :: (Ao ++ Al))) (fun _ h => by rw [← rep_bools]; exact h.perm (.swap _ _ _)) ?_; refine Loud.copyB rfl T.slc_22 T.sz_4 rfl (by simp) rfl (fun w' H => hd.keep H.mod) hdk ?_; intro mk hmk) | (refine Goal.loud (o := ⟨some 3, _, _, _, _, _⟩) rfl ?_; refine Loud.boxA rfl rfl (fun b3 => ?_)) | (refine Goal.loud (o := ⟨some 46, _, _, _, _, _⟩) rfl ?_; refine Loud.makeSlice rfl T.slc_22 T.inf_4 rfl rfl (by decide) rfl rfl (Int.toNat_of_nonneg (by omega)).symm (Int.toNat_of_nonneg (by omega)).symm (by omega) (by omega) (by omega) (fun b46 => ?_)) | (apply G.move; exact rfl; exact rfl) | (apply G.assign; exact rfl; exact rfl) | refine Goal.seq (fun _ _ => ?_) | refine Goal.next (by assumption) ?_ | refine Goal.lnil ?_ | refine Goal.region ?_ | refine Goal.skip ?_ | refine Goal.ret ?_ | (apply Goal.condF; exact rfl) | (refine Goal.condD rfl (fun hc => ?_) (fun hc => ?_) <;> skip) | (apply G.fieldAddr; exact rfl; exact rfl; (first | exact T.fld_25_0 | exact T.fld_25_1 | exact T.fld_77_0 | exact T.fld_77_1)) | (apply G.load; exact rfl; exact rfl; first | ((first | refine LoadOK.one ?_ 0 rfl rfl | refine LoadOK.one ?_ 1 rfl rfl | refine LoadOK.one ?_ 2 rfl rfl); first | exact T.one_3 | exact T.one_22) | exact ag3 T.agg_25 0 rfl rfl rfl rfl) | (apply G.eql; exact rfl; exact rfl; exact rfl) | (apply G.neq; exact rfl; exact rfl; exact rfl) | (apply G.extract; exact rfl; exact rfl; exact rfl) | (apply G.len; exact rfl; exact rfl; exact T.slc_22) | (apply G.nilCheckP; exact rfl; exact rfl) | (refine Goal.loud rfl ?_; (refine Loud.store2 rfl rfl T.sz_22 rfl rfl rfl ?_ rfl ?_); exact Nat.le_of_ble_eq_true rfl))
  · have hfo : tp.fill.ov = List.replicate tp.n.toNat false := by unfold Top.fill; simp only []; rw [if_pos (by omega)]
    subst hmk
    refine Goal.done (vs := [_, _]) (by first | exact .inl rfl | exact .inr rfl) Try.results14 ⟨rfl, rfl, trivial⟩ rfl (fun w' H => ⟨⟨b29, (b29, .cells (trc tp.fill (.slice (some ⟨b46, 0, none⟩) tp.n.toNat tp.n.toNat) (.slice al2 tp.ls.length cl2) (.slice (some ⟨b25, 0, none⟩) tp.arcs.toNat tp.arcs.toNat) (.slice (some ⟨bl, 0, none⟩) (TS.new tp dn d).l.length (TS.new tp dn d).l.length) d 0).toArray 77) :: (bl, .cells (ints (TS.new tp dn d).l ++ []).toArray 3) :: ([(b46, Obj.cells (bools (List.replicate tp.n.toNat false)).toArray 4)] ++ (Al ++ [(b25, Obj.cells (bools (fillD tp dn)).toArray 4)]))⟩, ⟨_, _, _, bl, _, [], _, Al, _, rfl, ?_, hSl, ?_⟩, rfl, ?_⟩)
    · show Sl _ 4 1 tp.fill.ov.length (bools tp.fill.ov) _
      rw [hfo, List.length_replicate]
      exact Sl.full (by rw [bools_len, List.length_replicate, Nat.mul_one])
    · show Sl _ 4 1 (fillD tp dn).length (bools (fillD tp dn)) _
      have : (fillD tp dn).length = tp.arcs.toNat := hcl
      rw [this]
      exact Sl.full (by rw [bools_len, this, Nat.mul_one])
    · have H2 := newPermA H
      rw [List.append_nil, ← rep_bools]
      exact H2
  · have hfo : tp.fill.ov = tp.ov := by unfold Top.fill; simp only []; rw [if_neg (by omega)]
    subst hmk
    refine Goal.done (vs := [_, _]) (by first | exact .inl rfl | exact .inr rfl) Try.results14 ⟨rfl, rfl, trivial⟩ rfl (fun w' H => ⟨⟨b29, (b29, .cells (trc tp.fill (.slice ao2 tp.ov.length co2) (.slice al2 tp.ls.length cl2) (.slice (some ⟨b25, 0, none⟩) tp.arcs.toNat tp.arcs.toNat) (.slice (some ⟨bl, 0, none⟩) (TS.new tp dn d).l.length (TS.new tp dn d).l.length) d 0).toArray 77) :: (bl, .cells (ints (TS.new tp dn d).l ++ []).toArray 3) :: (Ao ++ (Al ++ [(b25, Obj.cells (bools (fillD tp dn)).toArray 4)]))⟩, ⟨_, _, _, bl, _, [], Ao, Al, _, rfl, ?_, hSl, ?_⟩, rfl, ?_⟩)
    · show Sl _ 4 1 tp.fill.ov.length (bools tp.fill.ov) _
      rw [hfo]
      exact hSo
    · show Sl _ 4 1 (fillD tp dn).length (bools (fillD tp dn)) _
      have : (fillD tp dn).length = tp.arcs.toNat := hcl
      rw [this]
      exact Sl.full (by rw [bools_len, this, Nat.mul_one])
    · have H2 := newPermB H
      rw [List.append_nil]
      exact H2
theorem tnew_bad (hT : TopR w vo vl tp) (hd : RdV w vd (bools dn)) (hl : tp.ls.length ≤ 1048576) (hov : tp.ov.length ≤ 140737488355328) (hc9 : chk tp dn [d] ≠ 0) :
    Calls Try.prog 14 #[.agg #[.int .i64 tp.n, vo, vl], vd, .int .i64 d] w fun e w' => e = .returned (.tuple #[.pointer none, .int .i64 (chk tp dn [d])]) ∧ Mod [] w w' := by
  refine Goal.enter (args := [.agg #[.int .i64 tp.n, vo, vl], vd, .int .i64 d]) Try.func14 rfl Try.ntmps14 rfl (St.nil w) ?_
  repeat' (first | (refine Goal.loud (o := ⟨some 15, _, _, _, _, _⟩) rfl ?_; apply Loud.call0; exact rfl; exact rfl; exact rfl; exact rfl; exact T.bod_38; exact (fun w' H => tdist_bad (hT.keep H.mod) (hd.keep H.mod) hl hov hc9)) | (refine Goal.loud (o := ⟨some 3, _, _, _, _, _⟩) rfl ?_; refine Loud.boxA rfl rfl (fun b3 => ?_)) | (apply G.move; exact rfl; exact rfl) | (apply G.assign; exact rfl; exact rfl) | refine Goal.seq (fun _ _ => ?_) | refine Goal.next (by assumption) ?_ | refine Goal.lnil ?_ | refine Goal.region ?_ | refine Goal.ret ?_ | refine Goal.then_ret ?_ | (refine Goal.condD rfl (fun hc => ?_) (fun hc => ?_) <;> first | (exfalso; omega) | skip) | (apply G.load; exact rfl; exact rfl; exact ag3 T.agg_25 0 rfl rfl rfl rfl) | (apply G.neq; exact rfl; exact rfl; exact rfl) | (apply G.extract; exact rfl; exact rfl; exact rfl))
  refine Goal.done (vs := [_, _]) (by first | exact .inl rfl | exact .inr rfl) Try.results14 ⟨rfl, rfl, trivial⟩ rfl (fun w' H => ⟨rfl, H.mod⟩)
end
end Go.Proofs.Ythhhegmhgheeiaa
