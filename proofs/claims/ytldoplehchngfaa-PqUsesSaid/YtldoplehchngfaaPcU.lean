/- Package waypointref26: through, on, Uses. -/
import Derived.Test.YtldoplehchngfaaSpG
import Derived.Test.YtldoplehchngfaaPq
import Derived.Test.YtldoplehchngfaaCore9
namespace Go.Proofs.Ytldoplehchngfaa
open Go.Wf
set_option linter.unusedVariables false
/-- An arc lies on a shortest path from x to y, by the distance to y. -/
def OnR (T : Top) (A B : Int → Int) (x y a : Int) : Prop := 0 ≤ A (T.tl a) ∧ 0 ≤ B (T.hd a) ∧ (T.tl a = x ∨ T.over (T.tl a) = false) ∧ (T.hd a = y ∨ T.over (T.hd a) = false) ∧ x ≠ y ∧ A (T.tl a) + T.co a + B (T.hd a) = B x
instance (T : Top) (A B : Int → Int) (x y a : Int) : Decidable (OnR T A B x y a) := by unfold OnR; infer_instance
theorem OnR.iff {T : Top} {A B : Int → Int} {x y a : Int} (h : A y = B x) : OnR T A B x y a ↔ OnSP T A B x y a := by
  unfold OnR OnSP
  rw [h]
section
variable {w : World} {tp : Top} {vo vl vd vf vt : Value} {dn : List Bool} {f t : List Int}
theorem rupq_ok (hd : RdV w vd (bools dn)) {a : Int} (ha : dn.length = 0 ∨ (0 ≤ a ∧ a < dn.length)) (hl : dn.length ≤ 1048576) : Calls Try.prog 26 #[vd, .int .i64 a] w fun e w' => e = .returned (.bool (decide (ba dn a = false))) ∧ Mod [] w w' := by
  have := rup_ok hd ha hl
  rwa [show (!ba dn a) = decide (ba dn a = false) by cases ba dn a <;> rfl] at this
theorem through_ok (hT : TopR w vo vl tp) (ht : tp.Ok) {x y : Int} (hx : 0 ≤ x ∧ x < 1048576) : Calls Try.prog 78 #[.agg #[.int .i64 tp.n, vo, vl], .int .i64 x, .int .i64 y] w fun e w' => e = .returned (.bool (decide (x = y ∨ tp.over x = false))) ∧ Mod [] w w' := by
  refine Goal.enter (args := [.agg #[.int .i64 tp.n, vo, vl], .int .i64 x, .int .i64 y]) Try.func78 rfl Try.ntmps78 rfl (St.nil w) ?_
  repeat' (first
    | (refine Goal.loud (o := ⟨some 13, _, _, _, _, _⟩) rfl ?_; apply Loud.call0; exact rfl; exact rfl; exact rfl; exact rfl; exact T.bod_38; exact (fun w' H => rover_ok (hT.keep H.mod) ht hx))
    | (refine Goal.loud (o := ⟨some 3, _, _, _, _, _⟩) rfl ?_; first | refine Loud.boxA rfl rfl (fun b3 => ?_) | refine Loud.box1 rfl rfl rfl (fun b3 => ?_))
    | (apply G.move; exact rfl; exact rfl)
    | (apply G.assign; exact rfl; exact rfl)
    | refine Goal.seq (fun _ _ => ?_)
    | refine Goal.next (by assumption) ?_
    | refine Goal.lnil ?_
    | refine Goal.region ?_
    | refine Goal.skip ?_
    | refine Goal.block ?_
    | refine Goal.exit ?_
    | refine Goal.ret ?_
    | refine Goal.then_exit ?_
    | refine Goal.then_ret ?_
    | refine Goal.inBlock_exit ?_
    | refine Goal.inBlock_normal ?_
    | refine Goal.inBlock_ret ?_
    | refine Goal.inBlock_other rfl ?_
    | (apply Goal.condT; exact rfl)
    | (apply Goal.condF; exact rfl)
    | (refine Goal.condD rfl (fun hc => ?_) (fun hc => ?_) <;> first | (exfalso; omega) | contradiction | skip)
    | refine Goal.condB rfl (fun hc => ?_) (fun hc => ?_)
    | refine Goal.guardT rfl rfl ?_
    | refine Goal.guardF rfl rfl rfl rfl ?_
    | refine Goal.guardU rfl rfl rfl ?_
    | (refine Goal.guardD rfl rfl (fun hc => ?_) (fun hc => ?_) <;> first | (exfalso; omega) | contradiction | skip)
    | refine Goal.guardB rfl rfl (fun hc => ?_) (fun hc => ?_)
    | (apply G.load; exact rfl; exact rfl; first | exact ag3 T.agg_25 0 rfl rfl rfl rfl | exact ag3 T.agg_25 1 rfl rfl rfl rfl | exact ag3 T.agg_25 2 rfl rfl rfl rfl | exact ag3 T.agg_25 3 rfl rfl rfl rfl | exact ag3 T.agg_25 4 rfl rfl rfl rfl | exact ag3 T.agg_25 5 rfl rfl rfl rfl | exact ag3 T.agg_25 6 rfl rfl rfl rfl | exact ag3 T.agg_25 7 rfl rfl rfl rfl)
    | (apply G.pickT; exact rfl; exact rfl; exact rfl)
    | (apply G.pickF; exact rfl; exact rfl; exact rfl)
    | (apply G.eql; exact rfl; exact rfl; exact rfl)
    | (apply G.notT; exact rfl; exact rfl)
    | (apply G.notF; exact rfl; exact rfl)
    | (refine G.notD rfl rfl ?_)
    | (apply G.notB; exact rfl; exact rfl))
  all_goals
    refine Goal.done (vs := [_]) (by first | exact .inl rfl | exact .inr rfl) Try.results78 ⟨rfl, trivial⟩ rfl (fun w' H => ⟨ret_bool (by simp [hc]), H.mod⟩)
set_option maxHeartbeats 4000000 in
theorem on26_ok (hT : TopR w vo vl tp) (ht : tp.Ok) (hf : RdV w vf (ints f)) (hd : RdV w vt (ints t)) (hfl : (f.length : Int) = tp.n) (htl : (t.length : Int) = tp.n) (hfb : ∀ x, 0 ≤ x → x < tp.n → -1 ≤ ia f x ∧ ia f x ≤ 4194240) (htb : ∀ x, 0 ≤ x → x < tp.n → -1 ≤ ia t x ∧ ia t x ≤ 4194240) {a x y : Int} (ha : 0 ≤ a ∧ a < tp.arcs) (hx : 0 ≤ x ∧ x < tp.n) :
    Calls Try.prog 51 #[.agg #[.int .i64 tp.n, vo, vl], vf, vt, .int .i64 a, .int .i64 x, .int .i64 y] w fun e w' => e = .returned (.bool (decide (OnR tp (ia f) (ia t) x y a))) ∧ Mod [] w w' := by
  have hn := ht.n
  have hln := ht.ln
  obtain ⟨h1, h2, h3, _⟩ := ht.arc ha
  have hb1 := hfb _ h1.1 h1.2
  have hb2 := htb _ h2.1 h2.2
  have hb3 := htb _ hx.1 hx.2
  obtain ⟨av, cv, rfl, _⟩ := id hf
  obtain ⟨av', cv', rfl, _⟩ := id hd
  rw [ints_len] at hf hd ⊢
  rw [ints_len]
  obtain ⟨b, o, rfl, hk⟩ := rd_nums hf (by omega)
  obtain ⟨b', o', rfl, hk'⟩ := rd_nums hd (by omega)
  refine Goal.enter (args := [.agg #[.int .i64 tp.n, vo, vl], .slice (some ⟨b, o, none⟩) f.length cv, .slice (some ⟨b', o', none⟩) t.length cv', .int .i64 a, .int .i64 x, .int .i64 y]) Try.func51 rfl Try.ntmps51 rfl (St.nil w) ?_
  repeat' (first
    | (refine Goal.drawAll (id := 1) 7 T.mixed ?_; all_goals ((refine Goal.takeP (listed' := #[No,Ya,No,No,No,No,No,No]) 1 ⟨rfl, by kernel_rfl, by kernel_rfl, by kernel_rfl, by kernel_rfl⟩ rfl (fun _ _ _ _ h => h) (by intro _; exact Run.move rfl) ?_)); all_goals ((refine Goal.takeP (listed' := #[No,Ya,No,No,Ya,No,No,No]) 4 ⟨rfl, by kernel_rfl, by kernel_rfl, by kernel_rfl, by kernel_rfl⟩ rfl (fun _ _ _ _ h => h) (by intro _; exact Run.move rfl) ?_)); all_goals ((refine Goal.take (listed' := #[Ya,Ya,No,No,Ya,No,No,No]) 0 ⟨rfl, by kernel_rfl, by kernel_rfl, by kernel_rfl, by kernel_rfl, by kernel_rfl⟩ rfl (by (first | exact s0 | exact s1 | exact s2 | exact s3 | exact sd | exact sa | exact sn (by simp))) (fun _ _ _ _ h => h) (by (apply Run.load; exact rfl; first | exact LoadOK.old T.one_3 (hk (tp.tl a) (by omega) (by omega)) (by simp) | exact LoadOK.old T.one_3 (hk' (tp.hd a) (by omega) (by omega)) (by simp) | exact LoadOK.old T.one_3 (hk' x (by omega) (by omega)) (by simp) | exact ag3 T.agg_25 0 rfl rfl rfl rfl | exact ag3 T.agg_25 1 rfl rfl rfl rfl | exact ag3 T.agg_25 2 rfl rfl rfl rfl | exact ag3 T.agg_25 3 rfl rfl rfl rfl | exact ag3 T.agg_25 4 rfl rfl rfl rfl | exact ag3 T.agg_25 5 rfl rfl rfl rfl | exact ag3 T.agg_25 6 rfl rfl rfl rfl | exact ag3 T.agg_25 7 rfl rfl rfl rfl)) ?_)); all_goals ((refine Goal.take (listed' := #[Ya,Ya,No,Ya,Ya,No,No,No]) 3 ⟨rfl, by kernel_rfl, by kernel_rfl, by kernel_rfl, by kernel_rfl, by kernel_rfl⟩ rfl (by (first | exact s0 | exact s1 | exact s2 | exact s3 | exact sd | exact sa | exact sn (by simp))) (fun _ _ _ _ h => h) (by (apply Run.load; exact rfl; first | exact LoadOK.old T.one_3 (hk (tp.tl a) (by omega) (by omega)) (by simp) | exact LoadOK.old T.one_3 (hk' (tp.hd a) (by omega) (by omega)) (by simp) | exact LoadOK.old T.one_3 (hk' x (by omega) (by omega)) (by simp) | exact ag3 T.agg_25 0 rfl rfl rfl rfl | exact ag3 T.agg_25 1 rfl rfl rfl rfl | exact ag3 T.agg_25 2 rfl rfl rfl rfl | exact ag3 T.agg_25 3 rfl rfl rfl rfl | exact ag3 T.agg_25 4 rfl rfl rfl rfl | exact ag3 T.agg_25 5 rfl rfl rfl rfl | exact ag3 T.agg_25 6 rfl rfl rfl rfl | exact ag3 T.agg_25 7 rfl rfl rfl rfl)) ?_)); all_goals (refine Goal.ready1 (i := 2) (by kernel_rfl) ?_); all_goals ((refine Goal.up (i := 2) (listed' := #[Ya,Ya,Ya,Ya,Ya,No,No,No]) rfl (by kernel_rfl) ?_; (apply Loud.call0; exact rfl; exact rfl; exact rfl; exact rfl; exact T.bod_25; exact (fun w' H => rtail_ok (hT.keep H.mod) ht ha)); first | refine Goal.tail rfl ?_ | refine Goal.kept (by (first | exact s0 | exact s1 | exact s2 | exact s3 | exact sd | exact sa | exact sn (by simp))) ?_)); all_goals (refine Goal.ready1 (i := 5) (by kernel_rfl) ?_); all_goals ((refine Goal.up (i := 5) (listed' := #[Ya,Ya,Ya,Ya,Ya,Ya,No,No]) rfl (by kernel_rfl) ?_; (apply Loud.call0; exact rfl; exact rfl; exact rfl; exact rfl; exact T.bod_36; exact (fun w' H => rhead_ok (hT.keep H.mod) ht ha)); first | refine Goal.tail rfl ?_ | refine Goal.kept (by (first | exact s0 | exact s1 | exact s2 | exact s3 | exact sd | exact sa | exact sn (by simp))) ?_)); all_goals ((refine Goal.takeP (listed' := #[Ya,Ya,Ya,Ya,Ya,Ya,Ya,No]) 6 ⟨rfl, by kernel_rfl, by kernel_rfl, by kernel_rfl, by kernel_rfl⟩ rfl (fun _ _ _ _ h => h) (by intro _; exact Run.assign rfl) ?_)); all_goals ((refine Goal.takeP (listed' := #[Ya,Ya,Ya,Ya,Ya,Ya,Ya,Ya]) 7 ⟨rfl, by kernel_rfl, by kernel_rfl, by kernel_rfl, by kernel_rfl⟩ rfl (fun _ _ _ _ h => h) (by intro _; exact Run.assign rfl) ?_)); all_goals (refine Goal.allUp (by kernel_rfl) ?_))
    | (refine Goal.drawAll (id := 4) 18 T.mixed ?_; all_goals ((refine Goal.takeP (listed' := #[Ya,No,No,No,No,No,No,No,No,No,No,No,No,No,No,No,No,No,No]) 0 ⟨rfl, by kernel_rfl, by kernel_rfl, by kernel_rfl, by kernel_rfl⟩ rfl (fun _ _ _ _ h => h) (by intro _; exact Run.move rfl) ?_)); all_goals ((refine Goal.takeP (listed' := #[Ya,Ya,No,No,No,No,No,No,No,No,No,No,No,No,No,No,No,No,No]) 1 ⟨rfl, by kernel_rfl, by kernel_rfl, by kernel_rfl, by kernel_rfl⟩ rfl (fun _ _ _ _ h => h) (by intro _; exact Run.move rfl) ?_)); all_goals ((refine Goal.takeP (listed' := #[Ya,Ya,Ya,No,No,No,No,No,No,No,No,No,No,No,No,No,No,No,No]) 2 ⟨rfl, by kernel_rfl, by kernel_rfl, by kernel_rfl, by kernel_rfl⟩ rfl (fun _ _ _ _ h => h) (by intro _; first | exact Run.indexAddr1 T.slc_30 T.sz_3 rfl rfl rfl (by omega) | exact Run.indexAddr1 T.slc_30 T.sz_3 rfl rfl (Int.toNat_of_nonneg (by omega)).symm (by omega)) ?_)); all_goals ((refine Goal.takeP (listed' := #[Ya,Ya,Ya,No,No,Ya,No,No,No,No,No,No,No,No,No,No,No,No,No]) 5 ⟨rfl, by kernel_rfl, by kernel_rfl, by kernel_rfl, by kernel_rfl⟩ rfl (fun _ _ _ _ h => h) (by intro _; exact Run.move rfl) ?_)); all_goals ((refine Goal.takeP (listed' := #[Ya,Ya,Ya,No,No,Ya,No,No,Ya,No,No,No,No,No,No,No,No,No,No]) 8 ⟨rfl, by kernel_rfl, by kernel_rfl, by kernel_rfl, by kernel_rfl⟩ rfl (fun _ _ _ _ h => h) (by intro _; exact Run.move rfl) ?_)); all_goals ((refine Goal.takeP (listed' := #[Ya,Ya,Ya,No,No,Ya,No,No,Ya,Ya,No,No,No,No,No,No,No,No,No]) 9 ⟨rfl, by kernel_rfl, by kernel_rfl, by kernel_rfl, by kernel_rfl⟩ rfl (fun _ _ _ _ h => h) (by intro _; exact Run.move rfl) ?_)); all_goals ((refine Goal.takeP (listed' := #[Ya,Ya,Ya,No,No,Ya,No,No,Ya,Ya,Ya,No,No,No,No,No,No,No,No]) 10 ⟨rfl, by kernel_rfl, by kernel_rfl, by kernel_rfl, by kernel_rfl⟩ rfl (fun _ _ _ _ h => h) (by intro _; first | exact Run.indexAddr1 T.slc_30 T.sz_3 rfl rfl rfl (by omega) | exact Run.indexAddr1 T.slc_30 T.sz_3 rfl rfl (Int.toNat_of_nonneg (by omega)).symm (by omega)) ?_)); all_goals ((refine Goal.takeP (listed' := #[Ya,Ya,Ya,No,No,Ya,No,No,Ya,Ya,Ya,No,No,Ya,No,No,No,No,No]) 13 ⟨rfl, by kernel_rfl, by kernel_rfl, by kernel_rfl, by kernel_rfl⟩ rfl (fun _ _ _ _ h => h) (by intro _; exact Run.move rfl) ?_)); all_goals ((refine Goal.takeP (listed' := #[Ya,Ya,Ya,No,No,Ya,No,No,Ya,Ya,Ya,No,No,Ya,Ya,No,No,No,No]) 14 ⟨rfl, by kernel_rfl, by kernel_rfl, by kernel_rfl, by kernel_rfl⟩ rfl (fun _ _ _ _ h => h) (by intro _; exact Run.move rfl) ?_)); all_goals ((refine Goal.takeP (listed' := #[Ya,Ya,Ya,No,No,Ya,No,No,Ya,Ya,Ya,No,No,Ya,Ya,Ya,No,No,No]) 15 ⟨rfl, by kernel_rfl, by kernel_rfl, by kernel_rfl, by kernel_rfl⟩ rfl (fun _ _ _ _ h => h) (by intro _; first | exact Run.indexAddr1 T.slc_30 T.sz_3 rfl rfl rfl (by omega) | exact Run.indexAddr1 T.slc_30 T.sz_3 rfl rfl (Int.toNat_of_nonneg (by omega)).symm (by omega)) ?_)); all_goals ((refine Goal.take (listed' := #[Ya,Ya,Ya,Ya,No,Ya,No,No,Ya,Ya,Ya,No,No,Ya,Ya,Ya,No,No,No]) 3 ⟨rfl, by kernel_rfl, by kernel_rfl, by kernel_rfl, by kernel_rfl, by kernel_rfl⟩ rfl (by (first | exact s0 | exact s1 | exact s2 | exact s3 | exact sd | exact sa | exact sn (by simp))) (fun _ _ _ _ h => h) (by (apply Run.load; exact rfl; first | exact LoadOK.old T.one_3 (hk (tp.tl a) (by omega) (by omega)) (by simp) | exact LoadOK.old T.one_3 (hk' (tp.hd a) (by omega) (by omega)) (by simp) | exact LoadOK.old T.one_3 (hk' x (by omega) (by omega)) (by simp) | exact LoadOK.one T.one_3 0 rfl rfl | exact LoadOK.one T.one_3 1 rfl rfl | exact LoadOK.one T.one_3 2 rfl rfl | exact LoadOK.one T.one_3 3 rfl rfl | exact LoadOK.one T.one_3 4 rfl rfl | exact LoadOK.one T.one_3 5 rfl rfl | exact LoadOK.one T.one_3 6 rfl rfl | exact LoadOK.one T.one_3 7 rfl rfl)) ?_)); all_goals ((refine Goal.take (listed' := #[Ya,Ya,Ya,Ya,Ya,Ya,No,No,Ya,Ya,Ya,No,No,Ya,Ya,Ya,No,No,No]) 4 ⟨rfl, by kernel_rfl, by kernel_rfl, by kernel_rfl, by kernel_rfl, by kernel_rfl⟩ rfl (by (first | exact s0 | exact s1 | exact s2 | exact s3 | exact sd | exact sa | exact sn (by simp))) (fun _ _ _ _ h => h) (by (apply Run.load; exact rfl; first | exact LoadOK.old T.one_3 (hk (tp.tl a) (by omega) (by omega)) (by simp) | exact LoadOK.old T.one_3 (hk' (tp.hd a) (by omega) (by omega)) (by simp) | exact LoadOK.old T.one_3 (hk' x (by omega) (by omega)) (by simp) | exact ag3 T.agg_25 0 rfl rfl rfl rfl | exact ag3 T.agg_25 1 rfl rfl rfl rfl | exact ag3 T.agg_25 2 rfl rfl rfl rfl | exact ag3 T.agg_25 3 rfl rfl rfl rfl | exact ag3 T.agg_25 4 rfl rfl rfl rfl | exact ag3 T.agg_25 5 rfl rfl rfl rfl | exact ag3 T.agg_25 6 rfl rfl rfl rfl | exact ag3 T.agg_25 7 rfl rfl rfl rfl)) ?_)); all_goals ((refine Goal.take (listed' := #[Ya,Ya,Ya,Ya,Ya,Ya,No,No,Ya,Ya,Ya,Ya,No,Ya,Ya,Ya,No,No,No]) 11 ⟨rfl, by kernel_rfl, by kernel_rfl, by kernel_rfl, by kernel_rfl, by kernel_rfl⟩ rfl (by (first | exact s0 | exact s1 | exact s2 | exact s3 | exact sd | exact sa | exact sn (by simp))) (fun _ _ _ _ h => h) (by (apply Run.load; exact rfl; first | exact LoadOK.old T.one_3 (hk (tp.tl a) (by omega) (by omega)) (by simp) | exact LoadOK.old T.one_3 (hk' (tp.hd a) (by omega) (by omega)) (by simp) | exact LoadOK.old T.one_3 (hk' x (by omega) (by omega)) (by simp) | exact LoadOK.one T.one_3 0 rfl rfl | exact LoadOK.one T.one_3 1 rfl rfl | exact LoadOK.one T.one_3 2 rfl rfl | exact LoadOK.one T.one_3 3 rfl rfl | exact LoadOK.one T.one_3 4 rfl rfl | exact LoadOK.one T.one_3 5 rfl rfl | exact LoadOK.one T.one_3 6 rfl rfl | exact LoadOK.one T.one_3 7 rfl rfl)) ?_)); all_goals ((refine Goal.take (listed' := #[Ya,Ya,Ya,Ya,Ya,Ya,No,No,Ya,Ya,Ya,Ya,No,Ya,Ya,Ya,Ya,No,No]) 16 ⟨rfl, by kernel_rfl, by kernel_rfl, by kernel_rfl, by kernel_rfl, by kernel_rfl⟩ rfl (by (first | exact s0 | exact s1 | exact s2 | exact s3 | exact sd | exact sa | exact sn (by simp))) (fun _ _ _ _ h => h) (by (apply Run.load; exact rfl; first | exact LoadOK.old T.one_3 (hk (tp.tl a) (by omega) (by omega)) (by simp) | exact LoadOK.old T.one_3 (hk' (tp.hd a) (by omega) (by omega)) (by simp) | exact LoadOK.old T.one_3 (hk' x (by omega) (by omega)) (by simp) | exact LoadOK.one T.one_3 0 rfl rfl | exact LoadOK.one T.one_3 1 rfl rfl | exact LoadOK.one T.one_3 2 rfl rfl | exact LoadOK.one T.one_3 3 rfl rfl | exact LoadOK.one T.one_3 4 rfl rfl | exact LoadOK.one T.one_3 5 rfl rfl | exact LoadOK.one T.one_3 6 rfl rfl | exact LoadOK.one T.one_3 7 rfl rfl)) ?_)); all_goals (refine Goal.ready1 (i := 6) (by kernel_rfl) ?_); all_goals ((refine Goal.up (i := 6) (listed' := #[Ya,Ya,Ya,Ya,Ya,Ya,Ya,No,Ya,Ya,Ya,Ya,No,Ya,Ya,Ya,Ya,No,No]) rfl (by kernel_rfl) ?_; (apply Loud.call0; exact rfl; exact rfl; exact rfl; exact rfl; exact T.bod_37; exact (fun w' H => rcost_ok (hT.keep H.mod) ht ha)); first | refine Goal.tail rfl ?_ | refine Goal.kept (by (first | exact s0 | exact s1 | exact s2 | exact s3 | exact sd | exact sa | exact sn (by simp))) ?_)); all_goals ((refine Goal.takeP (listed' := #[Ya,Ya,Ya,Ya,Ya,Ya,Ya,Ya,Ya,Ya,Ya,Ya,No,Ya,Ya,Ya,Ya,No,No]) 7 ⟨rfl, by kernel_rfl, by kernel_rfl, by kernel_rfl, by kernel_rfl⟩ rfl (fun _ _ _ _ h => h) (by intro _; (apply Run.add; exact rfl; exact rfl; exact IntWalk.i64_in _ (by omega))) ?_)); all_goals ((refine Goal.takeP (listed' := #[Ya,Ya,Ya,Ya,Ya,Ya,Ya,Ya,Ya,Ya,Ya,Ya,Ya,Ya,Ya,Ya,Ya,No,No]) 12 ⟨rfl, by kernel_rfl, by kernel_rfl, by kernel_rfl, by kernel_rfl⟩ rfl (fun _ _ _ _ h => h) (by intro _; (apply Run.add; exact rfl; exact rfl; exact IntWalk.i64_in _ (by omega))) ?_)); all_goals ((refine Goal.takeP (listed' := #[Ya,Ya,Ya,Ya,Ya,Ya,Ya,Ya,Ya,Ya,Ya,Ya,Ya,Ya,Ya,Ya,Ya,Ya,No]) 17 ⟨rfl, by kernel_rfl, by kernel_rfl, by kernel_rfl, by kernel_rfl⟩ rfl (fun _ _ _ _ h => h) (by intro _; first | exact Run.eql rfl rfl) ?_)); all_goals ((refine Goal.takeP (listed' := #[Ya,Ya,Ya,Ya,Ya,Ya,Ya,Ya,Ya,Ya,Ya,Ya,Ya,Ya,Ya,Ya,Ya,Ya,Ya]) 18 ⟨rfl, by kernel_rfl, by kernel_rfl, by kernel_rfl, by kernel_rfl⟩ rfl (fun _ _ _ _ h => h) (by intro _; exact Run.assign rfl) ?_)); all_goals (refine Goal.allUp (by kernel_rfl) ?_))
    | (refine Goal.loud (o := ⟨some 17, _, _, _, _, _⟩) rfl ?_; apply Loud.call0; exact rfl; exact rfl; exact rfl; exact rfl; exact T.bod_25; exact (fun w' H => rtail_ok (hT.keep H.mod) ht ha))
    | (refine Goal.loud (o := ⟨some 20, _, _, _, _, _⟩) rfl ?_; apply Loud.call0; exact rfl; exact rfl; exact rfl; exact rfl; exact T.bod_36; exact (fun w' H => rhead_ok (hT.keep H.mod) ht ha))
    | (refine Goal.loud (o := ⟨some 37, _, _, _, _, _⟩) rfl ?_; apply Loud.call0; exact rfl; exact rfl; exact rfl; exact rfl; exact T.bod_78; exact (fun w' H => through_ok (hT.keep H.mod) ht (by omega)))
    | (refine Goal.loud (o := ⟨some 44, _, _, _, _, _⟩) rfl ?_; apply Loud.call0; exact rfl; exact rfl; exact rfl; exact rfl; exact T.bod_78; exact (fun w' H => through_ok (hT.keep H.mod) ht (by omega)))
    | (refine Goal.loud (o := ⟨some 58, _, _, _, _, _⟩) rfl ?_; apply Loud.call0; exact rfl; exact rfl; exact rfl; exact rfl; exact T.bod_37; exact (fun w' H => rcost_ok (hT.keep H.mod) ht ha))
    | (refine Goal.loud (o := ⟨some 6, _, _, _, _, _⟩) rfl ?_; first | refine Loud.boxA rfl rfl (fun b6 => ?_) | refine Loud.box1 rfl rfl rfl (fun b6 => ?_))
    | (apply G.move; exact rfl; exact rfl)
    | (apply G.assign; exact rfl; exact rfl)
    | refine Goal.seq (fun _ _ => ?_)
    | refine Goal.next (by assumption) ?_
    | refine Goal.lnil ?_
    | refine Goal.region ?_
    | refine Goal.skip ?_
    | refine Goal.block ?_
    | refine Goal.exit ?_
    | refine Goal.ret ?_
    | refine Goal.then_exit ?_
    | refine Goal.then_ret ?_
    | refine Goal.inBlock_exit ?_
    | refine Goal.inBlock_normal ?_
    | refine Goal.inBlock_ret ?_
    | refine Goal.inBlock_other rfl ?_
    | (apply Goal.condT; exact rfl)
    | (apply Goal.condF; exact rfl)
    | (refine Goal.condD rfl (fun hc => ?_) (fun hc => ?_) <;> first | (exfalso; omega) | contradiction | skip)
    | refine Goal.condB rfl (fun hc => ?_) (fun hc => ?_)
    | refine Goal.guardT rfl rfl ?_
    | refine Goal.guardF rfl rfl rfl rfl ?_
    | refine Goal.guardU rfl rfl rfl ?_
    | (refine Goal.guardD rfl rfl (fun hc => ?_) (fun hc => ?_) <;> first | (exfalso; omega) | contradiction | skip)
    | refine Goal.guardB rfl rfl (fun hc => ?_) (fun hc => ?_)
    | (apply G.load; exact rfl; exact rfl; first | exact LoadOK.old T.one_3 (hk (tp.tl a) (by omega) (by omega)) (by simp) | exact LoadOK.old T.one_3 (hk' (tp.hd a) (by omega) (by omega)) (by simp) | exact LoadOK.old T.one_3 (hk' x (by omega) (by omega)) (by simp) | exact LoadOK.one T.one_3 0 rfl rfl | exact LoadOK.one T.one_3 1 rfl rfl | exact LoadOK.one T.one_3 2 rfl rfl | exact LoadOK.one T.one_3 3 rfl rfl | exact LoadOK.one T.one_3 4 rfl rfl | exact LoadOK.one T.one_3 5 rfl rfl | exact LoadOK.one T.one_3 6 rfl rfl | exact LoadOK.one T.one_3 7 rfl rfl | exact ag3 T.agg_25 0 rfl rfl rfl rfl | exact ag3 T.agg_25 1 rfl rfl rfl rfl | exact ag3 T.agg_25 2 rfl rfl rfl rfl | exact ag3 T.agg_25 3 rfl rfl rfl rfl | exact ag3 T.agg_25 4 rfl rfl rfl rfl | exact ag3 T.agg_25 5 rfl rfl rfl rfl | exact ag3 T.agg_25 6 rfl rfl rfl rfl | exact ag3 T.agg_25 7 rfl rfl rfl rfl)
    | (apply G.pickT; exact rfl; exact rfl; exact rfl)
    | (apply G.pickF; exact rfl; exact rfl; exact rfl)
    | (apply G.lss; exact rfl; exact rfl; exact rfl)
    | (apply G.eql; exact rfl; exact rfl; exact rfl)
    | (apply G.add; exact rfl; exact rfl; exact rfl; exact IntWalk.i64_in _ (by omega))
    | (apply G.notT; exact rfl; exact rfl)
    | (apply G.notF; exact rfl; exact rfl)
    | (refine G.notD rfl rfl ?_)
    | (apply G.notB; exact rfl; exact rfl)
    | (refine G.indexAddr1 rfl T.slc_30 T.sz_3 rfl rfl _ rfl (by omega) ?_)
    | (refine G.indexAddr1 rfl T.slc_30 T.sz_3 rfl rfl _ (Int.toNat_of_nonneg (by omega)).symm (by omega) ?_))
  all_goals
    refine Goal.done (vs := [_]) (by first | exact .inl rfl | exact .inr rfl) Try.results51 ⟨rfl, trivial⟩ rfl (fun w' H => ⟨ret_bool (by first | exact (decide_eq_false (fun h => by obtain ⟨q1, q2, q3, q4, q5, q6⟩ := h; first | omega | contradiction)).symm | exact decide_eq_decide.2 ⟨fun h => ⟨by omega, by omega, Decidable.not_not.1 (by assumption), Decidable.not_not.1 (by assumption), by assumption, h⟩, fun h => h.2.2.2.2.2⟩), H.mod⟩)
theorem uses_iff (ht : tp.Ok) {x y : Int} (hx : 0 ≤ x ∧ x < tp.n) (hy : 0 ≤ y ∧ y < tp.n) {A B : Int → Int} (hA : Bell tp.n x (GF tp [] x) A) (hB : Bell tp.n y (GD tp [] y) B) (hf : DL tp.n x (GF tp [] x) f) (hd : DL tp.n y (GD tp [] y) t) : UsesP tp dn A B x y ↔ ∃ a, (0 ≤ a ∧ a < tp.arcs) ∧ ba dn a = true ∧ OnR tp (ia f) (ia t) x y a := by
  rw [UsesP.congr ht hy (fun z z0 z1 => Bell.one (GF.ok ht) hA hf.bell z z0 z1) (fun z z0 z1 => Bell.one (GD.ok ht) hB hd.bell z z0 z1)]
  have hAB := both ht hx hy hf.bell hd.bell
  exact ⟨fun ⟨a, ha, h1, h2⟩ => ⟨a, ha, h1, (OnR.iff hAB).2 h2⟩, fun ⟨a, ha, h1, h2⟩ => ⟨a, ha, h1, (OnR.iff hAB).1 h2⟩⟩
set_option maxHeartbeats 8000000 in
theorem ruses_ok (hT : TopR w vo vl tp) (hd : RdV w vd (bools dn)) (ht : tp.Ok) (hf : Fit tp dn) {x y : Int} (hx : 0 ≤ x ∧ x < tp.n) (hy : 0 ≤ y ∧ y < tp.n) {A B : Int → Int} (hA : Bell tp.n x (GF tp [] x) A) (hB : Bell tp.n y (GD tp [] y) B) {r : Bool} (hr : r = true ↔ UsesP tp dn A B x y) :
    Calls Try.prog 23 #[.agg #[.int .i64 tp.n, vo, vl], vd, .int .i64 x, .int .i64 y] w fun e w' => e = .returned (.bool r) ∧ Mod [] w w' := by
  have hn := ht.n
  have hln := ht.ln
  have hovl := ht.ov
  have har0 : tp.arcs = 2 * (tp.ls.length : Int) := rfl
  have hdl : dn.length ≤ 1048576 := by
    rcases hf with e | e <;> omega
  obtain ⟨al, cl, rfl⟩ := shapeL hT.ls
  obtain ⟨ad, cd, rfl⟩ := shapeB hd
  refine Goal.enter (args := [.agg #[.int .i64 tp.n, vo, .slice al tp.ls.length cl], .slice ad dn.length cd, .int .i64 x, .int .i64 y]) Try.func23 rfl Try.ntmps23 rfl (St.nil w) ?_
  repeat' (first
    | (refine Goal.loud (o := ⟨some 16, _, _, _, _, _⟩) rfl ?_; apply Loud.call0; exact rfl; exact rfl; exact rfl; exact rfl; exact T.bod_22; exact (fun w' H => rfits_ok (hT.keep H.mod) (hd.keep H.mod) (by omega) (by omega) hdl); rw [decide_eq_true (show tp.Ok ∧ Fit tp dn from ⟨ht, hf⟩)])
    | (refine Goal.loud (o := ⟨some 41, _, _, _, _, _⟩) rfl ?_; apply Loud.callN; exact rfl; exact rfl; exact rfl; exact rfl; exact T.bod_35; exact (fun w' H => rfrom_ok (dn := []) (hT.keep H.mod) (RdV.nil w') ht (.inl rfl) hx); rintro ⟨bf, f⟩ hff; dsimp only at hff ⊢; have hfl := hff.len; have hfd := Bell.bound (GF.ok ht) (GR.cap (rev := true) (dn := []) (d := x) ht) (by decide) hff.bell)
    | (refine Goal.loud (o := ⟨some 47, _, _, _, _, _⟩) rfl ?_; apply Loud.callN; exact rfl; exact rfl; exact rfl; exact rfl; exact T.bod_24; exact (fun w' H => rdist_ok (dn := []) (hT.keep H.mod) (RdV.nil w') ht (.inl rfl) hy); rintro ⟨bt, t⟩ htt; dsimp only at htt ⊢; have htl := htt.len; have htd := Bell.bound (GD.ok ht) (GD.capq ht) (by decide) htt.bell)
    | (refine Goal.loud (o := ⟨some 4, _, _, _, _, _⟩) rfl ?_; first | refine Loud.boxA rfl rfl (fun b4 => ?_) | refine Loud.box1 rfl rfl rfl (fun b4 => ?_))
    | (apply G.move; exact rfl; exact rfl)
    | (apply G.assign; exact rfl; exact rfl)
    | refine Goal.seq (fun _ _ => ?_)
    | refine Goal.next (by assumption) ?_
    | refine Goal.lnil ?_
    | refine Goal.region ?_
    | refine Goal.skip ?_
    | refine Goal.block ?_
    | refine Goal.exit ?_
    | refine Goal.ret ?_
    | refine Goal.then_exit ?_
    | refine Goal.then_ret ?_
    | refine Goal.inBlock_exit ?_
    | refine Goal.inBlock_normal ?_
    | refine Goal.inBlock_ret ?_
    | refine Goal.inBlock_other rfl ?_
    | (apply Goal.condT; exact rfl)
    | (apply Goal.condF; exact rfl)
    | (refine Goal.condD rfl (fun hc => ?_) (fun hc => ?_) <;> first | (exfalso; omega) | contradiction | skip)
    | refine Goal.condB rfl (fun hc => ?_) (fun hc => ?_)
    | refine Goal.guardT rfl rfl ?_
    | refine Goal.guardF rfl rfl rfl rfl ?_
    | refine Goal.guardU rfl rfl rfl ?_
    | (refine Goal.guardD rfl rfl (fun hc => ?_) (fun hc => ?_) <;> first | (exfalso; omega) | contradiction | skip)
    | refine Goal.guardB rfl rfl (fun hc => ?_) (fun hc => ?_)
    | (apply G.fieldAddr; exact rfl; exact rfl; (first | exact T.fld_25_0 | exact T.fld_25_2))
    | (apply G.load; exact rfl; exact rfl; first | exact LoadOK.one (by first | exact T.one_3 | exact T.one_23) 0 rfl rfl | exact LoadOK.one (by first | exact T.one_3 | exact T.one_23) 1 rfl rfl | exact LoadOK.one (by first | exact T.one_3 | exact T.one_23) 2 rfl rfl | exact LoadOK.one (by first | exact T.one_3 | exact T.one_23) 3 rfl rfl | exact LoadOK.one (by first | exact T.one_3 | exact T.one_23) 4 rfl rfl | exact LoadOK.one (by first | exact T.one_3 | exact T.one_23) 5 rfl rfl | exact LoadOK.one (by first | exact T.one_3 | exact T.one_23) 6 rfl rfl | exact LoadOK.one (by first | exact T.one_3 | exact T.one_23) 7 rfl rfl | exact ag3 T.agg_25 0 rfl rfl rfl rfl | exact ag3 T.agg_25 1 rfl rfl rfl rfl | exact ag3 T.agg_25 2 rfl rfl rfl rfl | exact ag3 T.agg_25 3 rfl rfl rfl rfl | exact ag3 T.agg_25 4 rfl rfl rfl rfl | exact ag3 T.agg_25 5 rfl rfl rfl rfl | exact ag3 T.agg_25 6 rfl rfl rfl rfl | exact ag3 T.agg_25 7 rfl rfl rfl rfl)
    | (apply G.pickT; exact rfl; exact rfl; exact rfl)
    | (apply G.pickF; exact rfl; exact rfl; exact rfl)
    | (apply G.lss; exact rfl; exact rfl; exact rfl)
    | (apply G.geq; exact rfl; exact rfl; exact rfl)
    | (apply G.add; exact rfl; exact rfl; exact rfl; exact IntWalk.i64_in _ (by omega))
    | (apply G.mul; exact rfl; exact rfl; exact rfl; exact IntWalk.i64_in _ (by omega))
    | (apply G.notT; exact rfl; exact rfl)
    | (apply G.notF; exact rfl; exact rfl)
    | (refine G.notD rfl rfl ?_)
    | (apply G.notB; exact rfl; exact rfl)
    | (apply G.extract; exact rfl; exact rfl; exact rfl)
    | (apply G.len; exact rfl; exact rfl; exact T.slc_23))
  have hus := uses_iff (dn := dn) ht hx hy hA hB hff htt
  refine Goal.loopP (X := Int) (fun a => [(1, .slice ad dn.length cd), (2, .int .i64 x), (3, .int .i64 y), (4, .pointer (some ⟨b4, 0, none⟩)), (9, .slice (some ⟨bf, 0, none⟩) f.length f.length), (11, .slice (some ⟨bt, 0, none⟩) t.length t.length), (13, .int .i64 a)])
    (fun _ => [(b4, .cells #[.int .i64 tp.n, vo, .slice al tp.ls.length cl] 25), (bf, .cells (ints f).toArray 3), (bt, .cells (ints t).toArray 3)])
    (fun a => (0 ≤ a ∧ a ≤ tp.arcs) ∧ ∀ b : Int, 0 ≤ b → b < a → ¬ (ba dn b = true ∧ OnR tp (ia f) (ia t) x y b)) (fun a => (tp.arcs - a).toNat) 0 ⟨rfl, rfl, rfl, rfl, rfl, rfl, rfl, trivial⟩ (fun _ h => h) ⟨by omega, fun b b0 b1 => by omega⟩ ?_
  rintro a ⟨ha, hall⟩
  by_cases h : a < tp.arcs
  · have har : 0 ≤ a ∧ a < tp.arcs := ⟨ha.1, h⟩
    have hdm : dn.length = 0 ∨ (0 ≤ a ∧ a < dn.length) := by
      rcases hf with e | e
      · exact .inl e
      · exact .inr (by omega)
    have hnx : ¬ (ba dn a = true ∧ OnR tp (ia f) (ia t) x y a) → ∀ b : Int, 0 ≤ b → b < a + 1 → ¬ (ba dn b = true ∧ OnR tp (ia f) (ia t) x y b) := fun hh b b0 b1 => by
      by_cases e : b = a
      · rw [e]; exact hh
      · exact hall b b0 (by omega)
    repeat' (first
      | (refine Goal.loud (o := ⟨some 60, _, _, _, _, _⟩) rfl ?_; apply Loud.call0; exact rfl; exact rfl; exact rfl; exact rfl; exact T.bod_26; exact (fun w' H => rupq_ok (hd.keep H.mod) hdm hdl))
      | (refine Goal.loud (o := ⟨some 69, _, _, _, _, _⟩) rfl ?_; apply Loud.call0; exact rfl; exact rfl; exact rfl; exact rfl; exact T.bod_51; exact (fun w' H => on26_ok (hT.keep H.mod) ht (rdm H (l := f) (b := bf) (E := 3) (by simp)) (rdm H (l := t) (b := bt) (E := 3) (by simp)) hfl htl (fun z z0 z1 => ⟨hff.bell.neg z z0 z1, by have := hfd z z0 z1; omega⟩) (fun z z0 z1 => ⟨htt.bell.neg z z0 z1, by have := htd z z0 z1; omega⟩) har hx))
      | (refine Goal.loud (o := ⟨some 4, _, _, _, _, _⟩) rfl ?_; first | refine Loud.boxA rfl rfl (fun b4 => ?_) | refine Loud.box1 rfl rfl rfl (fun b4 => ?_))
      | (apply G.move; exact rfl; exact rfl)
      | (apply G.assign; exact rfl; exact rfl)
      | refine Goal.seq (fun _ _ => ?_)
      | refine Goal.next (by assumption) ?_
      | refine Goal.lnil ?_
      | refine Goal.region ?_
      | refine Goal.skip ?_
      | refine Goal.block ?_
      | refine Goal.exit ?_
      | refine Goal.ret ?_
      | refine Goal.then_exit ?_
      | refine Goal.then_ret ?_
      | refine Goal.inBlock_exit ?_
      | refine Goal.inBlock_normal ?_
      | refine Goal.inBlock_ret ?_
      | refine Goal.inBlock_other rfl ?_
      | (apply Goal.condT; exact rfl)
      | (apply Goal.condF; exact rfl)
      | (refine Goal.condD rfl (fun hc => ?_) (fun hc => ?_) <;> first | (exfalso; omega) | contradiction | skip)
      | refine Goal.condB rfl (fun hc => ?_) (fun hc => ?_)
      | refine Goal.guardT rfl rfl ?_
      | refine Goal.guardF rfl rfl rfl rfl ?_
      | refine Goal.guardU rfl rfl rfl ?_
      | (refine Goal.guardD rfl rfl (fun hc => ?_) (fun hc => ?_) <;> first | (exfalso; omega) | contradiction | skip)
      | refine Goal.guardB rfl rfl (fun hc => ?_) (fun hc => ?_)
      | (apply G.fieldAddr; exact rfl; exact rfl; (first | exact T.fld_25_0 | exact T.fld_25_2))
      | (apply G.load; exact rfl; exact rfl; first | exact LoadOK.one (by first | exact T.one_3 | exact T.one_23) 0 rfl rfl | exact LoadOK.one (by first | exact T.one_3 | exact T.one_23) 1 rfl rfl | exact LoadOK.one (by first | exact T.one_3 | exact T.one_23) 2 rfl rfl | exact LoadOK.one (by first | exact T.one_3 | exact T.one_23) 3 rfl rfl | exact LoadOK.one (by first | exact T.one_3 | exact T.one_23) 4 rfl rfl | exact LoadOK.one (by first | exact T.one_3 | exact T.one_23) 5 rfl rfl | exact LoadOK.one (by first | exact T.one_3 | exact T.one_23) 6 rfl rfl | exact LoadOK.one (by first | exact T.one_3 | exact T.one_23) 7 rfl rfl | exact ag3 T.agg_25 0 rfl rfl rfl rfl | exact ag3 T.agg_25 1 rfl rfl rfl rfl | exact ag3 T.agg_25 2 rfl rfl rfl rfl | exact ag3 T.agg_25 3 rfl rfl rfl rfl | exact ag3 T.agg_25 4 rfl rfl rfl rfl | exact ag3 T.agg_25 5 rfl rfl rfl rfl | exact ag3 T.agg_25 6 rfl rfl rfl rfl | exact ag3 T.agg_25 7 rfl rfl rfl rfl)
      | (apply G.pickT; exact rfl; exact rfl; exact rfl)
      | (apply G.pickF; exact rfl; exact rfl; exact rfl)
      | (apply G.lss; exact rfl; exact rfl; exact rfl)
      | (apply G.geq; exact rfl; exact rfl; exact rfl)
      | (apply G.add; exact rfl; exact rfl; exact rfl; exact IntWalk.i64_in _ (by omega))
      | (apply G.mul; exact rfl; exact rfl; exact rfl; exact IntWalk.i64_in _ (by omega))
      | (apply G.notT; exact rfl; exact rfl)
      | (apply G.notF; exact rfl; exact rfl)
      | (refine G.notD rfl rfl ?_)
      | (apply G.notB; exact rfl; exact rfl)
      | (apply G.extract; exact rfl; exact rfl; exact rfl)
      | (apply G.len; exact rfl; exact rfl; exact T.slc_23))
    all_goals first
      | (refine Goal.again (a + 1) ⟨by omega, hnx (fun hh => by first | exact absurd hh.2 (by assumption) | exact Bool.false_ne_true ((Decidable.not_not.1 (by assumption) : ba dn a = false).symm.trans hh.1) | (have h1 := hh.1; simp_all; done))⟩ (by omega) ⟨rfl, rfl, rfl, rfl, rfl, rfl, rfl, trivial⟩ (fun _ h => h); done)
      | skip
    have hbt : ba dn a = true := by first | exact Bool.eq_true_of_not_eq_false (by assumption) | (simp_all; done)
    have hrt : r = true := hr.2 (hus.2 ⟨a, har, hbt, by assumption⟩)
    refine Goal.done (vs := [_]) (by first | exact .inl rfl | exact .inr rfl) Try.results23 ⟨rfl, trivial⟩ rfl (fun w' H => ⟨by rw [hrt], H.mod⟩)
  · have hrf : r = false := by
      cases hrr : r with
      | false => rfl
      | true =>
        obtain ⟨b, hb, h1, h2⟩ := hus.1 (hr.1 hrr)
        exact absurd ⟨h1, h2⟩ (hall b hb.1 (by omega))
    repeat' (first
      | (refine Goal.loud (o := ⟨some 4, _, _, _, _, _⟩) rfl ?_; first | refine Loud.boxA rfl rfl (fun b4 => ?_) | refine Loud.box1 rfl rfl rfl (fun b4 => ?_))
      | (apply G.move; exact rfl; exact rfl)
      | (apply G.assign; exact rfl; exact rfl)
      | refine Goal.seq (fun _ _ => ?_)
      | refine Goal.next (by assumption) ?_
      | refine Goal.lnil ?_
      | refine Goal.region ?_
      | refine Goal.skip ?_
      | refine Goal.block ?_
      | refine Goal.exit ?_
      | refine Goal.ret ?_
      | refine Goal.then_exit ?_
      | refine Goal.then_ret ?_
      | refine Goal.inBlock_exit ?_
      | refine Goal.inBlock_normal ?_
      | refine Goal.inBlock_ret ?_
      | refine Goal.inBlock_other rfl ?_
      | (apply Goal.condT; exact rfl)
      | (apply Goal.condF; exact rfl)
      | (refine Goal.condD rfl (fun hc => ?_) (fun hc => ?_) <;> first | (exfalso; omega) | contradiction | skip)
      | refine Goal.condB rfl (fun hc => ?_) (fun hc => ?_)
      | refine Goal.guardT rfl rfl ?_
      | refine Goal.guardF rfl rfl rfl rfl ?_
      | refine Goal.guardU rfl rfl rfl ?_
      | (refine Goal.guardD rfl rfl (fun hc => ?_) (fun hc => ?_) <;> first | (exfalso; omega) | contradiction | skip)
      | refine Goal.guardB rfl rfl (fun hc => ?_) (fun hc => ?_)
      | (apply G.fieldAddr; exact rfl; exact rfl; (first | exact T.fld_25_0 | exact T.fld_25_2))
      | (apply G.load; exact rfl; exact rfl; first | exact LoadOK.one (by first | exact T.one_3 | exact T.one_23) 0 rfl rfl | exact LoadOK.one (by first | exact T.one_3 | exact T.one_23) 1 rfl rfl | exact LoadOK.one (by first | exact T.one_3 | exact T.one_23) 2 rfl rfl | exact LoadOK.one (by first | exact T.one_3 | exact T.one_23) 3 rfl rfl | exact LoadOK.one (by first | exact T.one_3 | exact T.one_23) 4 rfl rfl | exact LoadOK.one (by first | exact T.one_3 | exact T.one_23) 5 rfl rfl | exact LoadOK.one (by first | exact T.one_3 | exact T.one_23) 6 rfl rfl | exact LoadOK.one (by first | exact T.one_3 | exact T.one_23) 7 rfl rfl | exact ag3 T.agg_25 0 rfl rfl rfl rfl | exact ag3 T.agg_25 1 rfl rfl rfl rfl | exact ag3 T.agg_25 2 rfl rfl rfl rfl | exact ag3 T.agg_25 3 rfl rfl rfl rfl | exact ag3 T.agg_25 4 rfl rfl rfl rfl | exact ag3 T.agg_25 5 rfl rfl rfl rfl | exact ag3 T.agg_25 6 rfl rfl rfl rfl | exact ag3 T.agg_25 7 rfl rfl rfl rfl)
      | (apply G.pickT; exact rfl; exact rfl; exact rfl)
      | (apply G.pickF; exact rfl; exact rfl; exact rfl)
      | (apply G.lss; exact rfl; exact rfl; exact rfl)
      | (apply G.geq; exact rfl; exact rfl; exact rfl)
      | (apply G.add; exact rfl; exact rfl; exact rfl; exact IntWalk.i64_in _ (by omega))
      | (apply G.mul; exact rfl; exact rfl; exact rfl; exact IntWalk.i64_in _ (by omega))
      | (apply G.notT; exact rfl; exact rfl)
      | (apply G.notF; exact rfl; exact rfl)
      | (refine G.notD rfl rfl ?_)
      | (apply G.notB; exact rfl; exact rfl)
      | (apply G.extract; exact rfl; exact rfl; exact rfl)
      | (apply G.len; exact rfl; exact rfl; exact T.slc_23))
    refine Goal.done (vs := [_]) (by first | exact .inl rfl | exact .inr rfl) Try.results23 ⟨rfl, trivial⟩ rfl (fun w' H => ⟨by rw [hrf], H.mod⟩)
end
end Go.Proofs.Ytldoplehchngfaa
