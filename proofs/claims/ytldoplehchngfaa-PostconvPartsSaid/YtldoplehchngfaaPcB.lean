/- Package postconv: Extra. -/
import Derived.Test.YtldoplehchngfaaPcA
import Derived.Test.YtldoplehchngfaaWalks
namespace Go.Proofs.Ytldoplehchngfaa
open Go.Wf
set_option linter.unusedVariables false
/-- What the arcs of a path cost. -/
def sumC (tp : Top) : List Int → Int
  | [] => 0
  | a :: r => tp.co a + sumC tp r
theorem sumC_app {tp : Top} {a : Int} : ∀ {p : List Int}, sumC tp (p ++ [a]) = sumC tp p + tp.co a
  | [] => by simp [sumC]
  | b :: r => by simp only [List.cons_append, sumC, sumC_app]; omega
theorem FP.sum {tp : Top} {dn : List Bool} {d : Int} {D : Int → Int} (h0 : D d = 0) : ∀ {p : List Int} {x : Int}, FP tp dn d D x p → sumC tp p = D x
  | [], x, h => by
    have : x = d := h
    rw [this, h0]; rfl
  | a :: r, x, ⟨_, _, ⟨h3, h4⟩, _, h6⟩ => by
    have := FP.sum h0 h6
    have := h4.2.2.2.2
    rw [h3] at this
    simp only [sumC]
    omega
theorem FP.arc {tp : Top} {dn : List Bool} {d : Int} {D : Int → Int} {p : List Int} {x i : Int} (h : FP tp dn d D x p) (h0 : 0 ≤ i) (h1 : i < p.length) : 0 ≤ ia p i ∧ ia p i < tp.arcs := (FP.drop h (ia_some h0 h1)).2.1
/-- By how much the distance is greater. -/
def ExS (tp : Top) (dn : List Bool) (s d ex er : Int) : Prop := ∃ l, DL tp.n d (GD tp dn d) l ∧ ((ia l s < 0 ∧ er = 11 ∧ ex = 0) ∨ (0 ≤ ia l s ∧ er = 0 ∧ ∃ m, DL tp.n d (GD tp [] d) m ∧ ex = ia l s - ia m s))
theorem ExS.one {tp : Top} {dn : List Bool} {s d ex er ex' er' : Int} (ht : tp.Ok) (h : ExS tp dn s d ex er) (h' : ExS tp dn s d ex' er') : ex = ex' ∧ er = er' := by
  obtain ⟨l, hl, h⟩ := h
  obtain ⟨l', hl', h'⟩ := h'
  obtain rfl := DL.one (GD.ok ht) hl hl'
  rcases h with ⟨h1, rfl, rfl⟩ | ⟨h1, rfl, m, hm, rfl⟩
  · rcases h' with ⟨_, rfl, rfl⟩ | ⟨h2, _⟩
    · exact ⟨rfl, rfl⟩
    · omega
  · rcases h' with ⟨h2, _⟩ | ⟨_, rfl, m', hm', rfl⟩
    · omega
    · obtain rfl := DL.one (GD.ok ht) hm hm'
      exact ⟨rfl, rfl⟩
theorem rd_any {w0 : World} {S : List Nat} {ad : Option Addr} {c : Nat} {l : List Int} (h : ∀ w', Mod S w0 w' → RdV w' (.slice ad l.length c) (ints l)) (hp : 0 < l.length) : ∃ b o, ad = some ⟨b, o, none⟩ ∧ ∀ w', Mod S w0 w' → ∀ i : Int, 0 ≤ i → i < l.length → w'.cell? ⟨b, o + i.toNat, none⟩ = some (.int .i64 (ia l i)) := by
  obtain ⟨b, o, rfl, _⟩ := rd_nums (h w0 (Mod.refl _ _)) hp
  refine ⟨b, o, rfl, fun w' hm i i0 i1 => ?_⟩
  obtain ⟨b', o', e, hk⟩ := rd_nums (h w' hm) hp
  injection e with e
  injection e with e1 e2 _
  subst e1 e2
  exact hk i i0 i1
theorem LoadOK.any {P : Program} {w0 : World} {S : List Nat} {L : List Blk} {T : TypeId} {b off : Nat} {v : Value} (hT : OneB P T) (h : ∀ w', Mod S w0 w' → w'.cell? ⟨b, off, none⟩ = some v) : LoadOK P w0 S L T ⟨b, off, none⟩ v := .of fun w' H => load_one hT (h w' H.mod)
/-- What a call is not handed stays as it is. -/
theorem St.ownR {w0 w w'' : World} {S : List Nat} {A R : List Blk} (h : St w0 S w (A ++ R)) (hm : Mod (keys A) w w'') : Own w'' R := Own.mk fun p hp => hm.blk (h.own.get (List.mem_append_right _ hp)) fun hk => by
  have := h.nd
  simp only [keys, List.map_append] at this
  exact (List.nodup_append.1 this).2.2 p.1 hk p.1 (List.mem_map_of_mem hp) rfl
structure EX where
  (ex er : Int)
structure EI where
  (i c : Int)
section
variable {w : World} {tp : Top} {vo vl vd u vp : Value} {dn : List Bool} {s d : Int} {b b4 b6 b7 : Nat} {p l : List Int}
set_option maxHeartbeats 8000000 in
theorem use_extra (H0 : St w [b, b4, b6, b7] w [(b, .cells #[.int .i64 0] 3), (b4, .cells #[.int .i64 tp.n, vo, vl] 25), (b6, .cells #[.int .i64 s] 3), (b7, .cells #[.int .i64 d] 3)]) (hT : ∀ w', Mod [b, b4, b6, b7] w w' → TopR w' vo vl tp) (hp : ∀ w', Mod [b, b4, b6, b7] w w' → RdV w' vp (ints p)) (ht : tp.Ok) (hs : 0 ≤ s ∧ s < tp.n) (hr : 0 ≤ d ∧ d < tp.n)
    (hl : DL tp.n d (GD tp dn d) l) (hfp : FP tp dn d (ia l) s p) (h0 : 0 ≤ ia l s) :
    Calls Try.prog 47 #[vp, .pointer (some ⟨b, 0, none⟩), .pointer (some ⟨b4, 0, none⟩), .pointer (some ⟨b7, 0, none⟩), .pointer (some ⟨b6, 0, none⟩)] w fun e w' => ∃ x : EX, (ExS tp dn s d x.ex 0) ∧ e = .returned (.tuple #[]) ∧ St w [b, b4, b6, b7] w' [(b, .cells #[.int .i64 x.ex] 3), (b4, .cells #[.int .i64 tp.n, vo, vl] 25), (b6, .cells #[.int .i64 s] 3), (b7, .cells #[.int .i64 d] 3)] := by
  have hn := ht.n
  have hln := ht.ln
  have hpl := FP.len ht hfp h0
  have hbl := Bell.bound (GD.ok ht) (GD.cap ht) (by decide) hl.bell s hs.1 hs.2
  have hsum := FP.sum hl.bell.root hfp
  obtain ⟨ad, cp, rfl, _⟩ := hp w (Mod.refl _ _)
  rw [ints_len] at hp ⊢
  refine Goal.enter (args := [.slice ad p.length cp, .pointer (some ⟨b, 0, none⟩), .pointer (some ⟨b4, 0, none⟩), .pointer (some ⟨b7, 0, none⟩), .pointer (some ⟨b6, 0, none⟩)]) Try.func47 rfl Try.ntmps47 rfl (H0) ?_
  repeat' (first
    | (apply G.move; exact rfl; exact rfl)
    | (apply G.assign; exact rfl; exact rfl)
    | refine Goal.seq (fun _ _ => ?_)
    | refine Goal.next (by assumption) ?_
    | refine Goal.lnil ?_
    | refine Goal.region ?_
    | refine Goal.skip ?_
    | refine Goal.block ?_
    | refine Goal.exit ?_
    | refine Goal.ret ?_
    | refine Goal.then_exit ?_
    | refine Goal.then_ret ?_
    | refine Goal.inBlock_exit ?_
    | refine Goal.inBlock_normal ?_
    | refine Goal.inBlock_ret ?_
    | refine Goal.inBlock_other rfl ?_
    | (apply Goal.condT; exact rfl)
    | (apply Goal.condF; exact rfl)
    | (refine Goal.condD rfl (fun hc => ?_) (fun hc => ?_) <;> first | (exfalso; omega) | contradiction | skip)
    | refine Goal.condB rfl (fun hc => ?_) (fun hc => ?_)
    | (apply G.load; exact rfl; exact rfl; first | exact LoadOK.one T.one_3 0 rfl rfl | exact LoadOK.one T.one_3 1 rfl rfl | exact LoadOK.one T.one_3 2 rfl rfl | exact LoadOK.one T.one_3 3 rfl rfl | exact LoadOK.one T.one_3 4 rfl rfl | exact LoadOK.one T.one_3 5 rfl rfl | exact LoadOK.one T.one_3 6 rfl rfl | exact LoadOK.one T.one_3 7 rfl rfl | exact ag3 T.agg_25 0 rfl rfl rfl rfl | exact ag3 T.agg_25 1 rfl rfl rfl rfl | exact ag3 T.agg_25 2 rfl rfl rfl rfl | exact ag3 T.agg_25 3 rfl rfl rfl rfl | exact ag3 T.agg_25 4 rfl rfl rfl rfl | exact ag3 T.agg_25 5 rfl rfl rfl rfl | exact ag3 T.agg_25 6 rfl rfl rfl rfl | exact ag3 T.agg_25 7 rfl rfl rfl rfl)
    | (apply G.lss; exact rfl; exact rfl; exact rfl)
    | (apply G.add; exact rfl; exact rfl; exact rfl; exact IntWalk.i64_in _ (by omega))
    | (apply G.sub; exact rfl; exact rfl; exact rfl; exact IntWalk.i64_in _ (by omega))
    | (apply G.extract; exact rfl; exact rfl; exact rfl)
    | (apply G.len; exact rfl; exact rfl; exact T.slc_30)
    | (refine G.indexAddr1 rfl T.slc_30 T.sz_3 rfl rfl _ rfl (by omega) ?_)
    | (refine G.indexAddr1 rfl T.slc_30 T.sz_3 rfl rfl _ (Int.toNat_of_nonneg (by omega)).symm (by omega) ?_)
    | (refine Goal.loud rfl ?_; refine Loud.store0 rfl rfl T.sz_3 rfl rfl rfl (by first | exact Nat.le_of_ble_eq_true rfl | exact Nat.le_refl _ | decide | (simp; omega)) rfl ?_)
    | (refine Goal.loud rfl ?_; refine Loud.store1 rfl rfl T.sz_3 rfl rfl rfl (by first | exact Nat.le_of_ble_eq_true rfl | exact Nat.le_refl _ | decide | (simp; omega)) rfl ?_)
    | (refine Goal.loud rfl ?_; refine Loud.store2 rfl rfl T.sz_3 rfl rfl rfl (by first | exact Nat.le_of_ble_eq_true rfl | exact Nat.le_refl _ | decide | (simp; omega)) rfl ?_)
    | (refine Goal.loud rfl ?_; refine Loud.store3 rfl rfl T.sz_3 rfl rfl rfl (by first | exact Nat.le_of_ble_eq_true rfl | exact Nat.le_refl _ | decide | (simp; omega)) rfl ?_)
    | (refine Goal.loud rfl ?_; refine Loud.store4 rfl rfl T.sz_3 rfl rfl rfl (by first | exact Nat.le_of_ble_eq_true rfl | exact Nat.le_refl _ | decide | (simp; omega)) rfl ?_)
    | (refine Goal.loud rfl ?_; refine Loud.store5 rfl rfl T.sz_3 rfl rfl rfl (by first | exact Nat.le_of_ble_eq_true rfl | exact Nat.le_refl _ | decide | (simp; omega)) rfl ?_)
    | (refine Goal.loud rfl ?_; refine Loud.store6 rfl rfl T.sz_3 rfl rfl rfl (by first | exact Nat.le_of_ble_eq_true rfl | exact Nat.le_refl _ | decide | (simp; omega)) rfl ?_)
    | (refine Goal.loud rfl ?_; refine Loud.store7 rfl rfl T.sz_3 rfl rfl rfl (by first | exact Nat.le_of_ble_eq_true rfl | exact Nat.le_refl _ | decide | (simp; omega)) rfl ?_))
  refine Goal.loopP (X := EI) (fun x => [(1, .pointer (some ⟨b, 0, none⟩)), (2, .pointer (some ⟨b4, 0, none⟩)), (3, .pointer (some ⟨b7, 0, none⟩)), (4, .pointer (some ⟨b6, 0, none⟩)), (10, .slice ad p.length cp), (11, .int .i64 p.length), (12, .int .i64 x.i)])
    (fun x => [(b, .cells #[.int .i64 x.c] 3), (b4, .cells #[.int .i64 tp.n, vo, vl] 25), (b6, .cells #[.int .i64 s] 3), (b7, .cells #[.int .i64 d] 3)])
    (fun x => (0 ≤ x.i ∧ x.i ≤ p.length) ∧ (0 ≤ x.c ∧ x.c ≤ 65535 * x.i) ∧ x.c = sumC tp (p.take x.i.toNat)) (fun x => (p.length - x.i).toNat) ⟨0, 0⟩ ⟨rfl, rfl, rfl, rfl, rfl, rfl, rfl, trivial⟩ (fun _ h => h) ⟨by dsimp only; omega, by dsimp only; omega, rfl⟩ ?_
  rintro ⟨i, c⟩ ⟨hi, hc1, hcs⟩
  dsimp only at hi hc1 hcs ⊢
  by_cases h : i < p.length
  · have har := FP.arc hfp hi.1 h
    obtain ⟨_, _, hco, _⟩ := ht.arc har
    have hnx : c + tp.co (ia p i) = sumC tp (p.take (i + 1).toNat) := by rw [take_next hi.1 h, sumC_app, hcs]
    obtain ⟨b9, o9, rfl, hk⟩ := rd_any hp (by omega)
    have hki := fun w' hm => hk w' hm i hi.1 h
    generalize ia p i = a at har hco hnx hki
    repeat' (first
      | (refine Goal.drawAll (id := 3) 5 T.mixed ?_; all_goals ((refine Goal.takeP (listed' := #[No,No,Ya,No,No,No]) 2 ⟨rfl, by kernel_rfl, by kernel_rfl, by kernel_rfl, by kernel_rfl⟩ rfl (fun _ _ _ _ h => h) (by intro _; exact Run.move rfl) ?_)); all_goals ((refine Goal.take (listed' := #[Ya,No,Ya,No,No,No]) 0 ⟨rfl, by kernel_rfl, by kernel_rfl, by kernel_rfl, by kernel_rfl, by kernel_rfl⟩ rfl (by (first | exact s0 | exact s1 | exact s2 | exact s3 | exact sd | exact sa | exact sn (by simp))) (fun _ _ _ _ h => h) (by (apply Run.load; exact rfl; first | exact LoadOK.any T.one_3 hki | exact LoadOK.one T.one_3 0 rfl rfl | exact LoadOK.one T.one_3 1 rfl rfl | exact LoadOK.one T.one_3 2 rfl rfl | exact LoadOK.one T.one_3 3 rfl rfl | exact LoadOK.one T.one_3 4 rfl rfl | exact LoadOK.one T.one_3 5 rfl rfl | exact LoadOK.one T.one_3 6 rfl rfl | exact LoadOK.one T.one_3 7 rfl rfl)) ?_)); all_goals ((refine Goal.take (listed' := #[Ya,Ya,Ya,No,No,No]) 1 ⟨rfl, by kernel_rfl, by kernel_rfl, by kernel_rfl, by kernel_rfl, by kernel_rfl⟩ rfl (by (first | exact s0 | exact s1 | exact s2 | exact s3 | exact sd | exact sa | exact sn (by simp))) (fun _ _ _ _ h => h) (by (apply Run.load; exact rfl; first | exact LoadOK.any T.one_3 hki | exact ag3 T.agg_25 0 rfl rfl rfl rfl | exact ag3 T.agg_25 1 rfl rfl rfl rfl | exact ag3 T.agg_25 2 rfl rfl rfl rfl | exact ag3 T.agg_25 3 rfl rfl rfl rfl | exact ag3 T.agg_25 4 rfl rfl rfl rfl | exact ag3 T.agg_25 5 rfl rfl rfl rfl | exact ag3 T.agg_25 6 rfl rfl rfl rfl | exact ag3 T.agg_25 7 rfl rfl rfl rfl)) ?_)); all_goals (refine Goal.ready1 (i := 3) (by kernel_rfl) ?_); all_goals ((refine Goal.up (i := 3) (listed' := #[Ya,Ya,Ya,Ya,No,No]) rfl (by kernel_rfl) ?_; (apply Loud.call0; exact rfl; exact rfl; exact rfl; exact rfl; exact T.bod_48; exact (fun w' H => cost_ok (hT w' H.mod) har (by omega))); first | refine Goal.tail rfl ?_ | refine Goal.kept (by (first | exact s0 | exact s1 | exact s2 | exact s3 | exact sd | exact sa | exact sn (by simp))) ?_)); all_goals ((refine Goal.takeP (listed' := #[Ya,Ya,Ya,Ya,Ya,No]) 4 ⟨rfl, by kernel_rfl, by kernel_rfl, by kernel_rfl, by kernel_rfl⟩ rfl (fun _ _ _ _ h => h) (by intro _; (apply Run.add; exact rfl; exact rfl; exact IntWalk.i64_in _ (by omega))) ?_)); all_goals (refine Goal.ready1 (i := 5) (by kernel_rfl) ?_); all_goals ((refine Goal.up (i := 5) (listed' := #[Ya,Ya,Ya,Ya,Ya,Ya]) rfl (by kernel_rfl) ?_; (first | refine Loud.store0 rfl rfl T.sz_3 rfl rfl rfl (by first | exact Nat.le_of_ble_eq_true rfl | exact Nat.le_refl _ | decide | (simp; omega)) rfl ?_ | refine Loud.store1 rfl rfl T.sz_3 rfl rfl rfl (by first | exact Nat.le_of_ble_eq_true rfl | exact Nat.le_refl _ | decide | (simp; omega)) rfl ?_ | refine Loud.store2 rfl rfl T.sz_3 rfl rfl rfl (by first | exact Nat.le_of_ble_eq_true rfl | exact Nat.le_refl _ | decide | (simp; omega)) rfl ?_ | refine Loud.store3 rfl rfl T.sz_3 rfl rfl rfl (by first | exact Nat.le_of_ble_eq_true rfl | exact Nat.le_refl _ | decide | (simp; omega)) rfl ?_ | refine Loud.store4 rfl rfl T.sz_3 rfl rfl rfl (by first | exact Nat.le_of_ble_eq_true rfl | exact Nat.le_refl _ | decide | (simp; omega)) rfl ?_ | refine Loud.store5 rfl rfl T.sz_3 rfl rfl rfl (by first | exact Nat.le_of_ble_eq_true rfl | exact Nat.le_refl _ | decide | (simp; omega)) rfl ?_ | refine Loud.store6 rfl rfl T.sz_3 rfl rfl rfl (by first | exact Nat.le_of_ble_eq_true rfl | exact Nat.le_refl _ | decide | (simp; omega)) rfl ?_ | refine Loud.store7 rfl rfl T.sz_3 rfl rfl rfl (by first | exact Nat.le_of_ble_eq_true rfl | exact Nat.le_refl _ | decide | (simp; omega)) rfl ?_); first | refine Goal.tail rfl ?_ | refine Goal.kept (by (first | exact s0 | exact s1 | exact s2 | exact s3 | exact sd | exact sa | exact sn (by simp))) ?_)); all_goals (refine Goal.allUp (by kernel_rfl) ?_))
      | (refine Goal.loud (o := ⟨some 19, _, _, _, _, _⟩) rfl ?_; apply Loud.call0; exact rfl; exact rfl; exact rfl; exact rfl; exact T.bod_48; exact (fun w' H => cost_ok (hT w' H.mod) har (by omega)))
      | (apply G.move; exact rfl; exact rfl)
      | (apply G.assign; exact rfl; exact rfl)
      | refine Goal.seq (fun _ _ => ?_)
      | refine Goal.next (by assumption) ?_
      | refine Goal.lnil ?_
      | refine Goal.region ?_
      | refine Goal.skip ?_
      | refine Goal.block ?_
      | refine Goal.exit ?_
      | refine Goal.ret ?_
      | refine Goal.then_exit ?_
      | refine Goal.then_ret ?_
      | refine Goal.inBlock_exit ?_
      | refine Goal.inBlock_normal ?_
      | refine Goal.inBlock_ret ?_
      | refine Goal.inBlock_other rfl ?_
      | (apply Goal.condT; exact rfl)
      | (apply Goal.condF; exact rfl)
      | (refine Goal.condD rfl (fun hc => ?_) (fun hc => ?_) <;> first | (exfalso; omega) | contradiction | skip)
      | refine Goal.condB rfl (fun hc => ?_) (fun hc => ?_)
      | (apply G.load; exact rfl; exact rfl; first | exact LoadOK.any T.one_3 hki | exact LoadOK.one T.one_3 0 rfl rfl | exact LoadOK.one T.one_3 1 rfl rfl | exact LoadOK.one T.one_3 2 rfl rfl | exact LoadOK.one T.one_3 3 rfl rfl | exact LoadOK.one T.one_3 4 rfl rfl | exact LoadOK.one T.one_3 5 rfl rfl | exact LoadOK.one T.one_3 6 rfl rfl | exact LoadOK.one T.one_3 7 rfl rfl | exact ag3 T.agg_25 0 rfl rfl rfl rfl | exact ag3 T.agg_25 1 rfl rfl rfl rfl | exact ag3 T.agg_25 2 rfl rfl rfl rfl | exact ag3 T.agg_25 3 rfl rfl rfl rfl | exact ag3 T.agg_25 4 rfl rfl rfl rfl | exact ag3 T.agg_25 5 rfl rfl rfl rfl | exact ag3 T.agg_25 6 rfl rfl rfl rfl | exact ag3 T.agg_25 7 rfl rfl rfl rfl)
      | (apply G.lss; exact rfl; exact rfl; exact rfl)
      | (apply G.add; exact rfl; exact rfl; exact rfl; exact IntWalk.i64_in _ (by omega))
      | (apply G.sub; exact rfl; exact rfl; exact rfl; exact IntWalk.i64_in _ (by omega))
      | (apply G.extract; exact rfl; exact rfl; exact rfl)
      | (apply G.len; exact rfl; exact rfl; exact T.slc_30)
      | (refine G.indexAddr1 rfl T.slc_30 T.sz_3 rfl rfl _ rfl (by omega) ?_)
      | (refine G.indexAddr1 rfl T.slc_30 T.sz_3 rfl rfl _ (Int.toNat_of_nonneg (by omega)).symm (by omega) ?_)
      | (refine Goal.loud rfl ?_; refine Loud.store0 rfl rfl T.sz_3 rfl rfl rfl (by first | exact Nat.le_of_ble_eq_true rfl | exact Nat.le_refl _ | decide | (simp; omega)) rfl ?_)
      | (refine Goal.loud rfl ?_; refine Loud.store1 rfl rfl T.sz_3 rfl rfl rfl (by first | exact Nat.le_of_ble_eq_true rfl | exact Nat.le_refl _ | decide | (simp; omega)) rfl ?_)
      | (refine Goal.loud rfl ?_; refine Loud.store2 rfl rfl T.sz_3 rfl rfl rfl (by first | exact Nat.le_of_ble_eq_true rfl | exact Nat.le_refl _ | decide | (simp; omega)) rfl ?_)
      | (refine Goal.loud rfl ?_; refine Loud.store3 rfl rfl T.sz_3 rfl rfl rfl (by first | exact Nat.le_of_ble_eq_true rfl | exact Nat.le_refl _ | decide | (simp; omega)) rfl ?_)
      | (refine Goal.loud rfl ?_; refine Loud.store4 rfl rfl T.sz_3 rfl rfl rfl (by first | exact Nat.le_of_ble_eq_true rfl | exact Nat.le_refl _ | decide | (simp; omega)) rfl ?_)
      | (refine Goal.loud rfl ?_; refine Loud.store5 rfl rfl T.sz_3 rfl rfl rfl (by first | exact Nat.le_of_ble_eq_true rfl | exact Nat.le_refl _ | decide | (simp; omega)) rfl ?_)
      | (refine Goal.loud rfl ?_; refine Loud.store6 rfl rfl T.sz_3 rfl rfl rfl (by first | exact Nat.le_of_ble_eq_true rfl | exact Nat.le_refl _ | decide | (simp; omega)) rfl ?_)
      | (refine Goal.loud rfl ?_; refine Loud.store7 rfl rfl T.sz_3 rfl rfl rfl (by first | exact Nat.le_of_ble_eq_true rfl | exact Nat.le_refl _ | decide | (simp; omega)) rfl ?_))
    refine Goal.again ⟨i + 1, c + tp.co a⟩ ⟨by dsimp only; omega, by dsimp only; omega, hnx⟩ (by dsimp only; omega) ⟨rfl, rfl, rfl, rfl, rfl, rfl, rfl, trivial⟩ (fun _ h => h)
  · obtain rfl : i = p.length := by omega
    rw [Int.toNat_natCast, List.take_length, hsum] at hcs
    subst hcs
    repeat' (first
      | (refine Goal.drawAll (id := 6) 6 T.mixed ?_; all_goals ((refine Goal.takeP (listed' := #[No,Ya,No,No,No,No,No]) 1 ⟨rfl, by kernel_rfl, by kernel_rfl, by kernel_rfl, by kernel_rfl⟩ rfl (fun _ _ _ _ h => h) (by intro _; exact Run.move rfl) ?_)); all_goals ((refine Goal.take (listed' := #[Ya,Ya,No,No,No,No,No]) 0 ⟨rfl, by kernel_rfl, by kernel_rfl, by kernel_rfl, by kernel_rfl, by kernel_rfl⟩ rfl (by (first | exact s0 | exact s1 | exact s2 | exact s3 | exact sd | exact sa | exact sn (by simp))) (fun _ _ _ _ h => h) (by (apply Run.load; exact rfl; first | exact LoadOK.iaM (b := bm) (l := m) (E := 3) (i := s) (x := ia m s) T.one_3 (by simp) (by omega) rfl | exact LoadOK.one T.one_3 0 rfl rfl | exact LoadOK.one T.one_3 1 rfl rfl | exact LoadOK.one T.one_3 2 rfl rfl | exact LoadOK.one T.one_3 3 rfl rfl | exact LoadOK.one T.one_3 4 rfl rfl | exact LoadOK.one T.one_3 5 rfl rfl | exact LoadOK.one T.one_3 6 rfl rfl | exact LoadOK.one T.one_3 7 rfl rfl)) ?_)); all_goals ((refine Goal.take (listed' := #[Ya,Ya,Ya,No,No,No,No]) 2 ⟨rfl, by kernel_rfl, by kernel_rfl, by kernel_rfl, by kernel_rfl, by kernel_rfl⟩ rfl (by (first | exact s0 | exact s1 | exact s2 | exact s3 | exact sd | exact sa | exact sn (by simp))) (fun _ _ _ _ h => h) (by (apply Run.load; exact rfl; first | exact LoadOK.iaM (b := bm) (l := m) (E := 3) (i := s) (x := ia m s) T.one_3 (by simp) (by omega) rfl | exact LoadOK.one T.one_3 0 rfl rfl | exact LoadOK.one T.one_3 1 rfl rfl | exact LoadOK.one T.one_3 2 rfl rfl | exact LoadOK.one T.one_3 3 rfl rfl | exact LoadOK.one T.one_3 4 rfl rfl | exact LoadOK.one T.one_3 5 rfl rfl | exact LoadOK.one T.one_3 6 rfl rfl | exact LoadOK.one T.one_3 7 rfl rfl)) ?_)); all_goals ((refine Goal.takeP (listed' := #[Ya,Ya,Ya,Ya,No,No,No]) 3 ⟨rfl, by kernel_rfl, by kernel_rfl, by kernel_rfl, by kernel_rfl⟩ rfl (fun _ _ _ _ h => h) (by intro _; first | exact Run.indexAddr1 T.slc_30 T.sz_3 rfl rfl rfl (by omega) | exact Run.indexAddr1 T.slc_30 T.sz_3 rfl rfl (Int.toNat_of_nonneg (by omega)).symm (by omega)) ?_)); all_goals ((refine Goal.take (listed' := #[Ya,Ya,Ya,Ya,Ya,No,No]) 4 ⟨rfl, by kernel_rfl, by kernel_rfl, by kernel_rfl, by kernel_rfl, by kernel_rfl⟩ rfl (by (first | exact s0 | exact s1 | exact s2 | exact s3 | exact sd | exact sa | exact sn (by simp))) (fun _ _ _ _ h => h) (by (apply Run.load; exact rfl; first | exact LoadOK.iaM (b := bm) (l := m) (E := 3) (i := s) (x := ia m s) T.one_3 (by simp) (by omega) rfl | exact LoadOK.one T.one_3 0 rfl rfl | exact LoadOK.one T.one_3 1 rfl rfl | exact LoadOK.one T.one_3 2 rfl rfl | exact LoadOK.one T.one_3 3 rfl rfl | exact LoadOK.one T.one_3 4 rfl rfl | exact LoadOK.one T.one_3 5 rfl rfl | exact LoadOK.one T.one_3 6 rfl rfl | exact LoadOK.one T.one_3 7 rfl rfl)) ?_)); all_goals ((refine Goal.takeP (listed' := #[Ya,Ya,Ya,Ya,Ya,Ya,No]) 5 ⟨rfl, by kernel_rfl, by kernel_rfl, by kernel_rfl, by kernel_rfl⟩ rfl (fun _ _ _ _ h => h) (by intro _; (apply Run.sub; exact rfl; exact rfl; exact IntWalk.i64_in _ (by omega))) ?_)); all_goals (refine Goal.ready1 (i := 6) (by kernel_rfl) ?_); all_goals ((refine Goal.up (i := 6) (listed' := #[Ya,Ya,Ya,Ya,Ya,Ya,Ya]) rfl (by kernel_rfl) ?_; (first | refine Loud.store0 rfl rfl T.sz_3 rfl rfl rfl (by first | exact Nat.le_of_ble_eq_true rfl | exact Nat.le_refl _ | decide | (simp; omega)) rfl ?_ | refine Loud.store1 rfl rfl T.sz_3 rfl rfl rfl (by first | exact Nat.le_of_ble_eq_true rfl | exact Nat.le_refl _ | decide | (simp; omega)) rfl ?_ | refine Loud.store2 rfl rfl T.sz_3 rfl rfl rfl (by first | exact Nat.le_of_ble_eq_true rfl | exact Nat.le_refl _ | decide | (simp; omega)) rfl ?_ | refine Loud.store3 rfl rfl T.sz_3 rfl rfl rfl (by first | exact Nat.le_of_ble_eq_true rfl | exact Nat.le_refl _ | decide | (simp; omega)) rfl ?_ | refine Loud.store4 rfl rfl T.sz_3 rfl rfl rfl (by first | exact Nat.le_of_ble_eq_true rfl | exact Nat.le_refl _ | decide | (simp; omega)) rfl ?_ | refine Loud.store5 rfl rfl T.sz_3 rfl rfl rfl (by first | exact Nat.le_of_ble_eq_true rfl | exact Nat.le_refl _ | decide | (simp; omega)) rfl ?_ | refine Loud.store6 rfl rfl T.sz_3 rfl rfl rfl (by first | exact Nat.le_of_ble_eq_true rfl | exact Nat.le_refl _ | decide | (simp; omega)) rfl ?_ | refine Loud.store7 rfl rfl T.sz_3 rfl rfl rfl (by first | exact Nat.le_of_ble_eq_true rfl | exact Nat.le_refl _ | decide | (simp; omega)) rfl ?_); first | refine Goal.tail rfl ?_ | refine Goal.kept (by (first | exact s0 | exact s1 | exact s2 | exact s3 | exact sd | exact sa | exact sn (by simp))) ?_)); all_goals (refine Goal.allUp (by kernel_rfl) ?_))
      | (refine Goal.loud (o := ⟨some 25, _, _, _, _, _⟩) rfl ?_; apply Loud.callN; exact rfl; exact rfl; exact rfl; exact rfl; exact T.bod_49; exact (fun w' H => dist_ok (dn := []) (hT w' H.mod) (RdV.nil w') ht (.inl rfl) hr); rintro ⟨bm, m⟩ hm; dsimp only at hm ⊢; have hml := hm.len; have hmn := hm.bell.neg s hs.1 hs.2; have hmb := Bell.bound (GD.ok ht) (GD.cap ht) (by decide) hm.bell s hs.1 hs.2)
      | (apply G.move; exact rfl; exact rfl)
      | (apply G.assign; exact rfl; exact rfl)
      | refine Goal.seq (fun _ _ => ?_)
      | refine Goal.next (by assumption) ?_
      | refine Goal.lnil ?_
      | refine Goal.region ?_
      | refine Goal.skip ?_
      | refine Goal.block ?_
      | refine Goal.exit ?_
      | refine Goal.ret ?_
      | refine Goal.then_exit ?_
      | refine Goal.then_ret ?_
      | refine Goal.inBlock_exit ?_
      | refine Goal.inBlock_normal ?_
      | refine Goal.inBlock_ret ?_
      | refine Goal.inBlock_other rfl ?_
      | (apply Goal.condT; exact rfl)
      | (apply Goal.condF; exact rfl)
      | (refine Goal.condD rfl (fun hc => ?_) (fun hc => ?_) <;> first | (exfalso; omega) | contradiction | skip)
      | refine Goal.condB rfl (fun hc => ?_) (fun hc => ?_)
      | (apply G.load; exact rfl; exact rfl; first | exact LoadOK.iaM (b := bm) (l := m) (E := 3) (i := s) (x := ia m s) T.one_3 (by simp) (by omega) rfl | exact LoadOK.one T.one_3 0 rfl rfl | exact LoadOK.one T.one_3 1 rfl rfl | exact LoadOK.one T.one_3 2 rfl rfl | exact LoadOK.one T.one_3 3 rfl rfl | exact LoadOK.one T.one_3 4 rfl rfl | exact LoadOK.one T.one_3 5 rfl rfl | exact LoadOK.one T.one_3 6 rfl rfl | exact LoadOK.one T.one_3 7 rfl rfl | exact ag3 T.agg_25 0 rfl rfl rfl rfl | exact ag3 T.agg_25 1 rfl rfl rfl rfl | exact ag3 T.agg_25 2 rfl rfl rfl rfl | exact ag3 T.agg_25 3 rfl rfl rfl rfl | exact ag3 T.agg_25 4 rfl rfl rfl rfl | exact ag3 T.agg_25 5 rfl rfl rfl rfl | exact ag3 T.agg_25 6 rfl rfl rfl rfl | exact ag3 T.agg_25 7 rfl rfl rfl rfl)
      | (apply G.lss; exact rfl; exact rfl; exact rfl)
      | (apply G.add; exact rfl; exact rfl; exact rfl; exact IntWalk.i64_in _ (by omega))
      | (apply G.sub; exact rfl; exact rfl; exact rfl; exact IntWalk.i64_in _ (by omega))
      | (apply G.extract; exact rfl; exact rfl; exact rfl)
      | (apply G.len; exact rfl; exact rfl; exact T.slc_30)
      | (refine G.indexAddr1 rfl T.slc_30 T.sz_3 rfl rfl _ rfl (by omega) ?_)
      | (refine G.indexAddr1 rfl T.slc_30 T.sz_3 rfl rfl _ (Int.toNat_of_nonneg (by omega)).symm (by omega) ?_)
      | (refine Goal.loud rfl ?_; refine Loud.store0 rfl rfl T.sz_3 rfl rfl rfl (by first | exact Nat.le_of_ble_eq_true rfl | exact Nat.le_refl _ | decide | (simp; omega)) rfl ?_)
      | (refine Goal.loud rfl ?_; refine Loud.store1 rfl rfl T.sz_3 rfl rfl rfl (by first | exact Nat.le_of_ble_eq_true rfl | exact Nat.le_refl _ | decide | (simp; omega)) rfl ?_)
      | (refine Goal.loud rfl ?_; refine Loud.store2 rfl rfl T.sz_3 rfl rfl rfl (by first | exact Nat.le_of_ble_eq_true rfl | exact Nat.le_refl _ | decide | (simp; omega)) rfl ?_)
      | (refine Goal.loud rfl ?_; refine Loud.store3 rfl rfl T.sz_3 rfl rfl rfl (by first | exact Nat.le_of_ble_eq_true rfl | exact Nat.le_refl _ | decide | (simp; omega)) rfl ?_)
      | (refine Goal.loud rfl ?_; refine Loud.store4 rfl rfl T.sz_3 rfl rfl rfl (by first | exact Nat.le_of_ble_eq_true rfl | exact Nat.le_refl _ | decide | (simp; omega)) rfl ?_)
      | (refine Goal.loud rfl ?_; refine Loud.store5 rfl rfl T.sz_3 rfl rfl rfl (by first | exact Nat.le_of_ble_eq_true rfl | exact Nat.le_refl _ | decide | (simp; omega)) rfl ?_)
      | (refine Goal.loud rfl ?_; refine Loud.store6 rfl rfl T.sz_3 rfl rfl rfl (by first | exact Nat.le_of_ble_eq_true rfl | exact Nat.le_refl _ | decide | (simp; omega)) rfl ?_)
      | (refine Goal.loud rfl ?_; refine Loud.store7 rfl rfl T.sz_3 rfl rfl rfl (by first | exact Nat.le_of_ble_eq_true rfl | exact Nat.le_refl _ | decide | (simp; omega)) rfl ?_))
    refine Goal.done (vs := []) (by first | exact .inl rfl | exact .inr rfl) Try.results47 trivial rfl (fun w' H => ⟨⟨ia l s - ia m s, 0⟩, ⟨l, hl, .inr ⟨h0, rfl, m, hm, rfl⟩⟩, rfl, H.sub (.cons_cons _ (.cons_cons _ (.cons_cons _ (.cons_cons _ (List.nil_sublist _)))))⟩)
theorem find_extra (H0 : St w [b, b4, b6, b7] w [(b, .cells #[.int .i64 0] 3), (b4, .cells #[.int .i64 tp.n, vo, vl] 25), (b6, .cells #[.int .i64 s] 3), (b7, .cells #[.int .i64 d] 3)]) (hT : ∀ w', Mod [b, b4, b6, b7] w w' → TopR w' vo vl tp) (hd : ∀ w', Mod [b, b4, b6, b7] w w' → RdV w' vd (bools dn)) (ht : tp.Ok) (hf : Fit tp dn) (hs : 0 ≤ s ∧ s < tp.n) (hr : 0 ≤ d ∧ d < tp.n) :
    Calls Try.prog 44 #[.agg #[.int .i64 tp.n, vo, vl], vd, .int .i64 s, .int .i64 d, .func (.func 47) #[] #[.pointer (some ⟨b, 0, none⟩), .pointer (some ⟨b4, 0, none⟩), .pointer (some ⟨b7, 0, none⟩), .pointer (some ⟨b6, 0, none⟩)]] w fun e w' => ∃ x : EX, ExS tp dn s d x.ex x.er ∧ e = .returned (.int .i64 x.er) ∧ St w [b, b4, b6, b7] w' [(b, .cells #[.int .i64 x.ex] 3), (b4, .cells #[.int .i64 tp.n, vo, vl] 25), (b6, .cells #[.int .i64 s] 3), (b7, .cells #[.int .i64 d] 3)] := by
  refine Goal.enter (args := [.agg #[.int .i64 tp.n, vo, vl], vd, .int .i64 s, .int .i64 d, .func (.func 47) #[] #[.pointer (some ⟨b, 0, none⟩), .pointer (some ⟨b4, 0, none⟩), .pointer (some ⟨b7, 0, none⟩), .pointer (some ⟨b6, 0, none⟩)]]) Try.func44 rfl Try.ntmps44 rfl (H0) ?_
  repeat' (first
    | (refine Goal.loud (o := ⟨some 18, _, _, _, _, _⟩) rfl ?_; apply Loud.callN; exact rfl; exact rfl; exact rfl; exact rfl; exact T.bod_71; exact (fun w' H => path_ok (hT w' H.mod) (hd w' H.mod) ht hf hs hr); rintro ⟨l, p, v, er, A⟩ ⟨hl, hP⟩; dsimp only at hl hP ⊢)
    | (refine Goal.loud (o := ⟨some 5, _, _, _, _, _⟩) rfl ?_; first | refine Loud.boxA rfl rfl (fun b5 => ?_) | refine Loud.box1 rfl rfl rfl (fun b5 => ?_))
    | (apply G.move; exact rfl; exact rfl)
    | (apply G.assign; exact rfl; exact rfl)
    | refine Goal.seq (fun _ _ => ?_)
    | refine Goal.next (by assumption) ?_
    | refine Goal.lnil ?_
    | refine Goal.region ?_
    | refine Goal.skip ?_
    | refine Goal.block ?_
    | refine Goal.exit ?_
    | refine Goal.ret ?_
    | refine Goal.then_exit ?_
    | refine Goal.then_ret ?_
    | refine Goal.inBlock_exit ?_
    | refine Goal.inBlock_normal ?_
    | refine Goal.inBlock_ret ?_
    | refine Goal.inBlock_other rfl ?_
    | (apply Goal.condT; exact rfl)
    | (apply Goal.condF; exact rfl)
    | (refine Goal.condD rfl (fun hc => ?_) (fun hc => ?_) <;> first | (exfalso; omega) | contradiction | skip)
    | refine Goal.condB rfl (fun hc => ?_) (fun hc => ?_)
    | (apply G.load; exact rfl; exact rfl; first | exact ag3 T.agg_25 0 rfl rfl rfl rfl | exact ag3 T.agg_25 1 rfl rfl rfl rfl | exact ag3 T.agg_25 2 rfl rfl rfl rfl | exact ag3 T.agg_25 3 rfl rfl rfl rfl | exact ag3 T.agg_25 4 rfl rfl rfl rfl | exact ag3 T.agg_25 5 rfl rfl rfl rfl | exact ag3 T.agg_25 6 rfl rfl rfl rfl | exact ag3 T.agg_25 7 rfl rfl rfl rfl)
    | (apply G.eql; exact rfl; exact rfl; exact rfl)
    | (apply G.extract; exact rfl; exact rfl; exact rfl))
  · obtain ⟨h0, hfp, hS⟩ : 0 ≤ ia l s ∧ FP tp dn d (ia l) s p ∧ Sl v 3 1 p.length (ints p) A := by
      rcases hP with ⟨_, _, _, he, _⟩ | ⟨h0, _, hfp, hS⟩
      · omega
      · exact ⟨h0, hfp, hS⟩
    subst hc
    repeat' (first
      | (refine Goal.loud (o := ⟨some 25, _, _, _, _, _⟩) rfl ?_; refine Loud.call (SS := [b, b4, b6, b7]) (A := [(b, .cells #[.int .i64 0] 3), (b4, .cells #[.int .i64 tp.n, vo, vl] 25), (b6, .cells #[.int .i64 s] 3), (b7, .cells #[.int .i64 d] 3)]) (R := (b5, .cells #[.int .i64 tp.n, vo, vl] 25) :: A) (fst := []) (cap := #[_, _, _, _]) (vs := [_]) rfl rfl rfl rfl T.bod_47 (fun _ h => h.perm (List.perm_middle (l₁ := [_, _, _, _])).symm) (by simp [keys]) (fun w' H => use_extra (p := p) (l := l) (dn := dn) (St.start H.left.own H.left.nd (fun _ h => h)) (fun w'' hm => hT w'' (H.modOf2 hm (fun _ h => h))) (fun w'' hm => RdV.of_sl hS (St.ownR H hm).2) ht hs hr hl hfp h0) ?_; rintro ⟨ex, er⟩ hE; dsimp only at hE ⊢)
      | (refine Goal.loud (o := ⟨some 5, _, _, _, _, _⟩) rfl ?_; first | refine Loud.boxA rfl rfl (fun b5 => ?_) | refine Loud.box1 rfl rfl rfl (fun b5 => ?_))
      | (apply G.move; exact rfl; exact rfl)
      | (apply G.assign; exact rfl; exact rfl)
      | refine Goal.seq (fun _ _ => ?_)
      | refine Goal.next (by assumption) ?_
      | refine Goal.lnil ?_
      | refine Goal.region ?_
      | refine Goal.skip ?_
      | refine Goal.block ?_
      | refine Goal.exit ?_
      | refine Goal.ret ?_
      | refine Goal.then_exit ?_
      | refine Goal.then_ret ?_
      | refine Goal.inBlock_exit ?_
      | refine Goal.inBlock_normal ?_
      | refine Goal.inBlock_ret ?_
      | refine Goal.inBlock_other rfl ?_
      | (apply Goal.condT; exact rfl)
      | (apply Goal.condF; exact rfl)
      | (refine Goal.condD rfl (fun hc => ?_) (fun hc => ?_) <;> first | (exfalso; omega) | contradiction | skip)
      | refine Goal.condB rfl (fun hc => ?_) (fun hc => ?_)
      | (apply G.load; exact rfl; exact rfl; first | exact ag3 T.agg_25 0 rfl rfl rfl rfl | exact ag3 T.agg_25 1 rfl rfl rfl rfl | exact ag3 T.agg_25 2 rfl rfl rfl rfl | exact ag3 T.agg_25 3 rfl rfl rfl rfl | exact ag3 T.agg_25 4 rfl rfl rfl rfl | exact ag3 T.agg_25 5 rfl rfl rfl rfl | exact ag3 T.agg_25 6 rfl rfl rfl rfl | exact ag3 T.agg_25 7 rfl rfl rfl rfl)
      | (apply G.eql; exact rfl; exact rfl; exact rfl)
      | (apply G.extract; exact rfl; exact rfl; exact rfl))
    refine Goal.done (vs := [_]) (by first | exact .inl rfl | exact .inr rfl) Try.results44 ⟨rfl, trivial⟩ rfl (fun w' H => ⟨⟨ex, 0⟩, hE, rfl, H.sub (.cons_cons _ (.cons_cons _ (.cons_cons _ (.cons_cons _ (List.nil_sublist _)))))⟩)
  · refine Goal.done (vs := [_]) (by first | exact .inl rfl | exact .inr rfl) Try.results44 ⟨rfl, trivial⟩ rfl (fun w' H => ⟨⟨0, er⟩, ⟨l, hl, .inl (by rcases hP with ⟨h1, _, _, h2, _⟩ | ⟨_, h2, _⟩; exact ⟨h1, h2, rfl⟩; exact absurd h2 hc)⟩, rfl, H.sub (.cons _ (.cons_cons _ (.cons_cons _ (.cons_cons _ (.cons_cons _ (List.nil_sublist _))))))⟩)
theorem pextra_bad (hT : TopR w vo vl tp) (hd : RdV w vd (bools dn)) (hl : tp.ls.length ≤ 1048576) (hov : tp.ov.length ≤ 140737488355328) (hc : chk tp dn [s, d] ≠ 0) : Calls Try.prog 18 #[.agg #[.int .i64 tp.n, vo, vl], vd, .int .i64 s, .int .i64 d] w fun e w' => e = .returned (.tuple #[.int .i64 0, .int .i64 (chk tp dn [s, d])]) ∧ Mod [] w w' := by
  have hbad := fun w' (hT : TopR w' vo vl tp) (hd : RdV w' vd (bools dn)) u => find_bad (s := s) (d := d) (u := u) hT hd hl hov hc
  generalize chk tp dn [s, d] = k at hbad hc
  refine Goal.enter (args := [.agg #[.int .i64 tp.n, vo, vl], vd, .int .i64 s, .int .i64 d]) Try.func18 rfl Try.ntmps18 rfl (St.nil w) ?_
  repeat' (first
    | (refine Goal.loud (o := ⟨some 17, _, _, _, _, _⟩) rfl ?_; apply Loud.call0; exact rfl; exact rfl; exact rfl; exact rfl; exact T.bod_44; exact (fun w' H => hbad w' (hT.keep H.mod) (hd.keep H.mod) _))
    | (refine Goal.loud (o := ⟨some 4, _, _, _, _, _⟩) rfl ?_; first | refine Loud.boxA rfl rfl (fun b4 => ?_) | refine Loud.box1 rfl rfl rfl (fun b4 => ?_))
    | (refine Goal.loud (o := ⟨some 6, _, _, _, _, _⟩) rfl ?_; first | refine Loud.boxA rfl rfl (fun b6 => ?_) | refine Loud.box1 rfl rfl rfl (fun b6 => ?_))
    | (refine Goal.loud (o := ⟨some 7, _, _, _, _, _⟩) rfl ?_; first | refine Loud.boxA rfl rfl (fun b7 => ?_) | refine Loud.box1 rfl rfl rfl (fun b7 => ?_))
    | (refine Goal.loud (o := ⟨some 10, _, _, _, _, _⟩) rfl ?_; refine Loud.alloc rfl T.inf_3 rfl (fun b10 => ?_))
    | (apply G.move; exact rfl; exact rfl)
    | (apply G.assign; exact rfl; exact rfl)
    | refine Goal.seq (fun _ _ => ?_)
    | refine Goal.next (by assumption) ?_
    | refine Goal.lnil ?_
    | refine Goal.region ?_
    | refine Goal.skip ?_
    | refine Goal.block ?_
    | refine Goal.exit ?_
    | refine Goal.ret ?_
    | refine Goal.then_exit ?_
    | refine Goal.then_ret ?_
    | refine Goal.inBlock_exit ?_
    | refine Goal.inBlock_normal ?_
    | refine Goal.inBlock_ret ?_
    | refine Goal.inBlock_other rfl ?_
    | (apply Goal.condT; exact rfl)
    | (apply Goal.condF; exact rfl)
    | (refine Goal.condD rfl (fun hc => ?_) (fun hc => ?_) <;> first | (exfalso; omega) | contradiction | skip)
    | refine Goal.condB rfl (fun hc => ?_) (fun hc => ?_)
    | (apply G.load; exact rfl; exact rfl; first | exact LoadOK.one T.one_3 0 rfl rfl | exact LoadOK.one T.one_3 1 rfl rfl | exact LoadOK.one T.one_3 2 rfl rfl | exact LoadOK.one T.one_3 3 rfl rfl | exact LoadOK.one T.one_3 4 rfl rfl | exact LoadOK.one T.one_3 5 rfl rfl | exact LoadOK.one T.one_3 6 rfl rfl | exact LoadOK.one T.one_3 7 rfl rfl | exact ag3 T.agg_25 0 rfl rfl rfl rfl | exact ag3 T.agg_25 1 rfl rfl rfl rfl | exact ag3 T.agg_25 2 rfl rfl rfl rfl | exact ag3 T.agg_25 3 rfl rfl rfl rfl | exact ag3 T.agg_25 4 rfl rfl rfl rfl | exact ag3 T.agg_25 5 rfl rfl rfl rfl | exact ag3 T.agg_25 6 rfl rfl rfl rfl | exact ag3 T.agg_25 7 rfl rfl rfl rfl)
    | (apply G.makeFunc; exact rfl; exact rfl; exact rfl)
    | (refine Goal.loud rfl ?_; refine Loud.store0 rfl rfl T.sz_3 rfl rfl rfl (by first | exact Nat.le_of_ble_eq_true rfl | exact Nat.le_refl _ | decide | (simp; omega)) rfl ?_)
    | (refine Goal.loud rfl ?_; refine Loud.store1 rfl rfl T.sz_3 rfl rfl rfl (by first | exact Nat.le_of_ble_eq_true rfl | exact Nat.le_refl _ | decide | (simp; omega)) rfl ?_)
    | (refine Goal.loud rfl ?_; refine Loud.store2 rfl rfl T.sz_3 rfl rfl rfl (by first | exact Nat.le_of_ble_eq_true rfl | exact Nat.le_refl _ | decide | (simp; omega)) rfl ?_)
    | (refine Goal.loud rfl ?_; refine Loud.store3 rfl rfl T.sz_3 rfl rfl rfl (by first | exact Nat.le_of_ble_eq_true rfl | exact Nat.le_refl _ | decide | (simp; omega)) rfl ?_)
    | (refine Goal.loud rfl ?_; refine Loud.store4 rfl rfl T.sz_3 rfl rfl rfl (by first | exact Nat.le_of_ble_eq_true rfl | exact Nat.le_refl _ | decide | (simp; omega)) rfl ?_)
    | (refine Goal.loud rfl ?_; refine Loud.store5 rfl rfl T.sz_3 rfl rfl rfl (by first | exact Nat.le_of_ble_eq_true rfl | exact Nat.le_refl _ | decide | (simp; omega)) rfl ?_)
    | (refine Goal.loud rfl ?_; refine Loud.store6 rfl rfl T.sz_3 rfl rfl rfl (by first | exact Nat.le_of_ble_eq_true rfl | exact Nat.le_refl _ | decide | (simp; omega)) rfl ?_)
    | (refine Goal.loud rfl ?_; refine Loud.store7 rfl rfl T.sz_3 rfl rfl rfl (by first | exact Nat.le_of_ble_eq_true rfl | exact Nat.le_refl _ | decide | (simp; omega)) rfl ?_))
  refine Goal.done (vs := [_, _]) (by first | exact .inl rfl | exact .inr rfl) Try.results18 ⟨rfl, rfl, trivial⟩ rfl (fun w' H => ⟨rfl, H.mod⟩)
theorem pextra_ok (hT : TopR w vo vl tp) (hd : RdV w vd (bools dn)) (ht : tp.Ok) (hf : Fit tp dn) (hs : 0 ≤ s ∧ s < tp.n) (hr : 0 ≤ d ∧ d < tp.n) :
    Calls Try.prog 18 #[.agg #[.int .i64 tp.n, vo, vl], vd, .int .i64 s, .int .i64 d] w fun e w' => ∃ x : EX, ExS tp dn s d x.ex x.er ∧ e = .returned (.tuple #[.int .i64 x.ex, .int .i64 x.er]) ∧ St w [] w' [] := by
  refine Goal.enter (args := [.agg #[.int .i64 tp.n, vo, vl], vd, .int .i64 s, .int .i64 d]) Try.func18 rfl Try.ntmps18 rfl (St.nil w) ?_
  repeat' (first
    | (refine Goal.loud (o := ⟨some 17, _, _, _, _, _⟩) rfl ?_; refine Loud.call (SS := [b10, b4, b6, b7]) (A := [(b10, .cells #[.int .i64 0] 3), (b4, .cells #[.int .i64 tp.n, vo, vl] 25), (b6, .cells #[.int .i64 s] 3), (b7, .cells #[.int .i64 d] 3)]) (R := []) (fst := []) (cap := #[]) (vs := [_, _, _, _, _]) rfl rfl rfl rfl T.bod_44 (fun _ h => h.perm (.cons _ ((List.Perm.swap _ _ _).trans ((List.Perm.cons _ (List.Perm.swap _ _ _)).trans ((List.Perm.swap _ _ _).trans (.refl _)))))) (by simp [keys]) (fun w' H => find_extra (St.start H.left.own H.left.nd (fun _ h => h)) (fun w'' hm => hT.keep (H.modOf hm (by simp [keys]))) (fun w'' hm => hd.keep (H.modOf hm (by simp [keys]))) ht hf hs hr) ?_; rintro ⟨ex, er⟩ hE; dsimp only at hE ⊢)
    | (refine Goal.loud (o := ⟨some 4, _, _, _, _, _⟩) rfl ?_; first | refine Loud.boxA rfl rfl (fun b4 => ?_) | refine Loud.box1 rfl rfl rfl (fun b4 => ?_))
    | (refine Goal.loud (o := ⟨some 6, _, _, _, _, _⟩) rfl ?_; first | refine Loud.boxA rfl rfl (fun b6 => ?_) | refine Loud.box1 rfl rfl rfl (fun b6 => ?_))
    | (refine Goal.loud (o := ⟨some 7, _, _, _, _, _⟩) rfl ?_; first | refine Loud.boxA rfl rfl (fun b7 => ?_) | refine Loud.box1 rfl rfl rfl (fun b7 => ?_))
    | (refine Goal.loud (o := ⟨some 10, _, _, _, _, _⟩) rfl ?_; refine Loud.alloc rfl T.inf_3 rfl (fun b10 => ?_))
    | (apply G.move; exact rfl; exact rfl)
    | (apply G.assign; exact rfl; exact rfl)
    | refine Goal.seq (fun _ _ => ?_)
    | refine Goal.next (by assumption) ?_
    | refine Goal.lnil ?_
    | refine Goal.region ?_
    | refine Goal.skip ?_
    | refine Goal.block ?_
    | refine Goal.exit ?_
    | refine Goal.ret ?_
    | refine Goal.then_exit ?_
    | refine Goal.then_ret ?_
    | refine Goal.inBlock_exit ?_
    | refine Goal.inBlock_normal ?_
    | refine Goal.inBlock_ret ?_
    | refine Goal.inBlock_other rfl ?_
    | (apply Goal.condT; exact rfl)
    | (apply Goal.condF; exact rfl)
    | (refine Goal.condD rfl (fun hc => ?_) (fun hc => ?_) <;> first | (exfalso; omega) | contradiction | skip)
    | refine Goal.condB rfl (fun hc => ?_) (fun hc => ?_)
    | (apply G.load; exact rfl; exact rfl; first | exact LoadOK.one T.one_3 0 rfl rfl | exact LoadOK.one T.one_3 1 rfl rfl | exact LoadOK.one T.one_3 2 rfl rfl | exact LoadOK.one T.one_3 3 rfl rfl | exact LoadOK.one T.one_3 4 rfl rfl | exact LoadOK.one T.one_3 5 rfl rfl | exact LoadOK.one T.one_3 6 rfl rfl | exact LoadOK.one T.one_3 7 rfl rfl | exact ag3 T.agg_25 0 rfl rfl rfl rfl | exact ag3 T.agg_25 1 rfl rfl rfl rfl | exact ag3 T.agg_25 2 rfl rfl rfl rfl | exact ag3 T.agg_25 3 rfl rfl rfl rfl | exact ag3 T.agg_25 4 rfl rfl rfl rfl | exact ag3 T.agg_25 5 rfl rfl rfl rfl | exact ag3 T.agg_25 6 rfl rfl rfl rfl | exact ag3 T.agg_25 7 rfl rfl rfl rfl)
    | (apply G.makeFunc; exact rfl; exact rfl; exact rfl)
    | (refine Goal.loud rfl ?_; refine Loud.store0 rfl rfl T.sz_3 rfl rfl rfl (by first | exact Nat.le_of_ble_eq_true rfl | exact Nat.le_refl _ | decide | (simp; omega)) rfl ?_)
    | (refine Goal.loud rfl ?_; refine Loud.store1 rfl rfl T.sz_3 rfl rfl rfl (by first | exact Nat.le_of_ble_eq_true rfl | exact Nat.le_refl _ | decide | (simp; omega)) rfl ?_)
    | (refine Goal.loud rfl ?_; refine Loud.store2 rfl rfl T.sz_3 rfl rfl rfl (by first | exact Nat.le_of_ble_eq_true rfl | exact Nat.le_refl _ | decide | (simp; omega)) rfl ?_)
    | (refine Goal.loud rfl ?_; refine Loud.store3 rfl rfl T.sz_3 rfl rfl rfl (by first | exact Nat.le_of_ble_eq_true rfl | exact Nat.le_refl _ | decide | (simp; omega)) rfl ?_)
    | (refine Goal.loud rfl ?_; refine Loud.store4 rfl rfl T.sz_3 rfl rfl rfl (by first | exact Nat.le_of_ble_eq_true rfl | exact Nat.le_refl _ | decide | (simp; omega)) rfl ?_)
    | (refine Goal.loud rfl ?_; refine Loud.store5 rfl rfl T.sz_3 rfl rfl rfl (by first | exact Nat.le_of_ble_eq_true rfl | exact Nat.le_refl _ | decide | (simp; omega)) rfl ?_)
    | (refine Goal.loud rfl ?_; refine Loud.store6 rfl rfl T.sz_3 rfl rfl rfl (by first | exact Nat.le_of_ble_eq_true rfl | exact Nat.le_refl _ | decide | (simp; omega)) rfl ?_)
    | (refine Goal.loud rfl ?_; refine Loud.store7 rfl rfl T.sz_3 rfl rfl rfl (by first | exact Nat.le_of_ble_eq_true rfl | exact Nat.le_refl _ | decide | (simp; omega)) rfl ?_))
  refine Goal.done (vs := [_, _]) (by first | exact .inl rfl | exact .inr rfl) Try.results18 ⟨rfl, rfl, trivial⟩ rfl (fun w' H => ⟨⟨ex, er⟩, hE, rfl, ⟨H.mod, trivial, List.nodup_nil, fun _ h => by cases h⟩⟩)
end
end Go.Proofs.Ytldoplehchngfaa
