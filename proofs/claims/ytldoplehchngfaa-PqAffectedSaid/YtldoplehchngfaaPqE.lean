/- Package pq: Affected. -/
import Derived.Test.YtldoplehchngfaaPqD
import Derived.Test.YtldoplehchngfaaMask
import Derived.Test.YtldoplehchngfaaWalks
namespace Go.Proofs.Ytldoplehchngfaa
open Go.Wf
set_option linter.unusedVariables false
theorem ownR26 {w0 w w'' : World} {S : List Nat} {A R : List Blk} (h : St w0 S w (A ++ R)) (hm : Mod (keys A) w w'') : Own w'' R := Own.mk fun p hp => hm.blk (h.own.get (List.mem_append_right _ hp)) fun hk => by
  have := h.nd
  simp only [keys, List.map_append] at this
  exact (List.nodup_append.1 this).2.2 p.1 hk p.1 (List.mem_map_of_mem hp) rfl
/-- A destination towards which a node uses an outgoing arc that is down. -/
def AffP (tp : Top) (dn : List Bool) (B : Int → Int) (n d : Int) : Prop := ∃ a, (0 ≤ a ∧ a < tp.arcs) ∧ tp.tl a = n ∧ ba dn a = true ∧ OnA tp [] d B a
theorem aff_iff {tp : Top} {dn ks : List Bool} {n d : Int} {A B : Int → Int} (ht : tp.Ok) (hn : 0 ≤ n ∧ n < tp.n) (hd : 0 ≤ d ∧ d < tp.n) (hA : Bell tp.n n (GF tp [] n) A) (hB : Bell tp.n d (GD tp [] d) B) (hks : ∀ a, 0 ≤ a → a < tp.arcs → (ba ks a = true ↔ tp.tl a = n ∧ ba dn a = true)) : UsesP tp ks A B n d ↔ AffP tp dn B n d := by
  have hAB := both ht hn hd hA hB
  have hr := hA.root
  constructor
  · rintro ⟨a, ha, h1, h2, h3, h4, h5, h6, h7⟩
    obtain ⟨q1, q2⟩ := (hks a ha.1 ha.2).1 h1
    rw [q1] at h7
    exact ⟨a, ha, q1, q2, ba_nil a, by rw [q1]; exact h6, h3, h5, by rw [q1]; omega⟩
  · rintro ⟨a, ha, q1, q2, h1, h2, h3, h4, h5⟩
    rw [q1] at h2 h5
    exact ⟨a, ha, (hks a ha.1 ha.2).2 ⟨q1, q2⟩, by rw [q1]; omega, h3, .inl q1, h4, h2, by rw [q1]; omega⟩
structure OI where
  (i : Int) (ks : List Bool)
section
variable {w : World} {tp : Top} {vo vl vd : Value} {dn : List Bool} {n x y : Int} {A Bq : Int → Int → Int} {p : Int → Bool}
theorem affected_bad (hT : TopR w vo vl tp) (hd : RdV w vd (bools dn)) (hl : tp.ls.length ≤ 1048576) (hov : tp.ov.length ≤ 140737488355328) (hc : chk tp dn [n] ≠ 0) : Calls Try.prog 31 #[.agg #[.int .i64 tp.n, vo, vl], vd, .int .i64 n] w fun e w' => e = .returned (.tuple #[.slice none 0 0, .int .i64 (chk tp dn [n])]) ∧ Mod [] w w' := by
  have hbad := fun w' (hT : TopR w' vo vl tp) (hd : RdV w' vd (bools dn)) => check26_ok (n := n) hT hd hl hov
  generalize chk tp dn [n] = k at hbad hc
  refine Goal.enter (args := [.agg #[.int .i64 tp.n, vo, vl], vd, .int .i64 n]) Try.func31 rfl Try.ntmps31 rfl (St.nil w) ?_
  repeat' (first
    | (refine Goal.loud (o := ⟨some 18, _, _, _, _, _⟩) rfl ?_; apply Loud.call0; exact rfl; exact rfl; exact rfl; exact rfl; exact T.bod_58; exact (fun w' H => hbad w' (hT.keep H.mod) (hd.keep H.mod)))
    | (refine Goal.loud (o := ⟨some 3, _, _, _, _, _⟩) rfl ?_; first | refine Loud.boxA rfl rfl (fun b3 => ?_) | refine Loud.box1 rfl rfl rfl (fun b3 => ?_))
    | (refine Goal.loud (o := ⟨some 24, _, _, _, _, _⟩) rfl ?_; first | refine Loud.makeSlice rfl T.slc_22 T.inf_4 rfl rfl (by decide) rfl rfl rfl rfl (by omega) (by omega) (by omega) (fun b24 => ?_) | refine Loud.makeSlice rfl T.slc_22 T.inf_4 rfl rfl (by decide) rfl rfl (Int.toNat_of_nonneg (by omega)).symm (Int.toNat_of_nonneg (by omega)).symm (by omega) (by omega) (by omega) (fun b24 => ?_))
    | (refine Goal.loud (o := ⟨some 43, _, _, _, _, _⟩) rfl ?_; first | refine Loud.boxA rfl rfl (fun b43 => ?_) | refine Loud.box1 rfl rfl rfl (fun b43 => ?_))
    | (apply G.move; exact rfl; exact rfl)
    | (apply G.assign; exact rfl; exact rfl)
    | refine Goal.seq (fun _ _ => ?_)
    | refine Goal.next (by assumption) ?_
    | refine Goal.lnil ?_
    | refine Goal.region ?_
    | refine Goal.skip ?_
    | refine Goal.block ?_
    | refine Goal.exit ?_
    | refine Goal.ret ?_
    | refine Goal.then_exit ?_
    | refine Goal.then_ret ?_
    | refine Goal.inBlock_exit ?_
    | refine Goal.inBlock_normal ?_
    | refine Goal.inBlock_ret ?_
    | refine Goal.inBlock_other rfl ?_
    | (apply Goal.condT; exact rfl)
    | (apply Goal.condF; exact rfl)
    | (refine Goal.condD rfl (fun hc => ?_) (fun hc => ?_) <;> first | (exfalso; omega) | contradiction | skip)
    | refine Goal.condB rfl (fun hc => ?_) (fun hc => ?_)
    | refine Goal.guardT rfl rfl ?_
    | refine Goal.guardF rfl rfl rfl rfl ?_
    | refine Goal.guardU rfl rfl rfl ?_
    | (refine Goal.guardD rfl rfl (fun hc => ?_) (fun hc => ?_) <;> first | (exfalso; omega) | contradiction | skip)
    | refine Goal.guardB rfl rfl (fun hc => ?_) (fun hc => ?_)
    | (apply G.fieldAddr; exact rfl; exact rfl; (first | exact T.fld_25_0 | exact T.fld_64_2))
    | (apply G.load; exact rfl; exact rfl; first | exact LoadOK.one (by first | exact T.one_3 | exact T.one_30) 0 rfl rfl | exact LoadOK.one (by first | exact T.one_3 | exact T.one_30) 1 rfl rfl | exact LoadOK.one (by first | exact T.one_3 | exact T.one_30) 2 rfl rfl | exact LoadOK.one (by first | exact T.one_3 | exact T.one_30) 3 rfl rfl | exact LoadOK.one (by first | exact T.one_3 | exact T.one_30) 4 rfl rfl | exact ag3 T.agg_25 0 rfl rfl rfl rfl | exact ag3 T.agg_25 1 rfl rfl rfl rfl | exact ag3 T.agg_25 2 rfl rfl rfl rfl | exact ag3 T.agg_25 3 rfl rfl rfl rfl | exact ag3 T.agg_25 4 rfl rfl rfl rfl)
    | (apply G.pickT; exact rfl; exact rfl; exact rfl)
    | (apply G.pickF; exact rfl; exact rfl; exact rfl)
    | (apply G.lss; exact rfl; exact rfl; exact rfl)
    | (apply G.geq; exact rfl; exact rfl; exact rfl)
    | (apply G.neq; exact rfl; exact rfl; exact rfl)
    | (apply G.add; exact rfl; exact rfl; exact rfl; exact IntWalk.i64_in _ (by omega))
    | (refine Goal.quiet rfl (Run.shl1B rfl rfl (by omega)) ?_)
    | (refine Goal.quiet rfl (Run.orB rfl rfl (by first | assumption | exact two_lt (by omega) | exact shr_lt (by assumption)) (by first | assumption | exact two_lt (by omega) | exact shr_lt (by assumption))) ?_)
    | (apply G.notT; exact rfl; exact rfl)
    | (apply G.notF; exact rfl; exact rfl)
    | (refine G.notD rfl rfl ?_)
    | (apply G.notB; exact rfl; exact rfl)
    | (apply G.len; exact rfl; exact rfl; exact T.slc_30)
    | (apply G.nilCheckP; exact rfl; exact rfl)
    | (refine G.indexAddr1 rfl (by first | exact T.slc_22 | exact T.slc_30) (by first | exact T.sz_3 | exact T.sz_4 | exact T.sz_30) rfl rfl _ rfl (by omega) ?_)
    | (refine G.indexAddr1 rfl (by first | exact T.slc_22 | exact T.slc_30) (by first | exact T.sz_3 | exact T.sz_4 | exact T.sz_30) rfl rfl _ (Int.toNat_of_nonneg (by omega)).symm (by omega) ?_)
    | (refine G.indexAddrA rfl T.arr_62 (by first | exact T.sz_3 | exact T.sz_4 | exact T.sz_30) rfl rfl _ rfl (by omega) ?_)
    | (refine G.indexAddrA rfl T.arr_62 (by first | exact T.sz_3 | exact T.sz_4 | exact T.sz_30) rfl rfl _ (Int.toNat_of_nonneg (by omega)).symm (by omega) ?_)
    | (refine Goal.loud rfl ?_; refine Loud.store0 rfl rfl T.sz_4 rfl rfl rfl (by first | exact Nat.le_of_ble_eq_true rfl | exact Nat.le_refl _ | decide | (simp; omega)) rfl ?_)
    | (refine Goal.loud rfl ?_; refine Loud.store1 rfl rfl T.sz_4 rfl rfl rfl (by first | exact Nat.le_of_ble_eq_true rfl | exact Nat.le_refl _ | decide | (simp; omega)) rfl ?_)
    | (refine Goal.loud rfl ?_; refine Loud.store2 rfl rfl T.sz_4 rfl rfl rfl (by first | exact Nat.le_of_ble_eq_true rfl | exact Nat.le_refl _ | decide | (simp; omega)) rfl ?_)
    | (refine Goal.loud rfl ?_; refine Loud.store3 rfl rfl T.sz_4 rfl rfl rfl (by first | exact Nat.le_of_ble_eq_true rfl | exact Nat.le_refl _ | decide | (simp; omega)) rfl ?_)
    | (refine Goal.loud rfl ?_; refine Loud.store4 rfl rfl T.sz_4 rfl rfl rfl (by first | exact Nat.le_of_ble_eq_true rfl | exact Nat.le_refl _ | decide | (simp; omega)) rfl ?_))
  refine Goal.done (vs := [_, _]) (by first | exact .inl rfl | exact .inr rfl) Try.results31 ⟨rfl, rfl, trivial⟩ rfl (fun w' H => ⟨rfl, H.mod⟩)
set_option maxHeartbeats 8000000 in
theorem affected_ok (hT : TopR w vo vl tp) (hd : RdV w vd (bools dn)) (ht : tp.Ok) (hf : Fit tp dn) (hx : 0 ≤ n ∧ n < tp.n) (hA : ∀ x, Bell tp.n x (GF tp [] x) (A x)) (hB : ∀ y, Bell tp.n y (GD tp [] y) (Bq y)) (hp : ∀ k, p k = true ↔ AffP tp dn (Bq k) n k) :
    Calls Try.prog 31 #[.agg #[.int .i64 tp.n, vo, vl], vd, .int .i64 n] w fun e w' => ∃ x : PV, Sl x.v 3 1 (selL tp.n.toNat p).length (ints (selL tp.n.toNat p)) x.A ∧ e = .returned (.tuple #[x.v, .int .i64 0]) ∧ St w [] w' x.A := by
  have hn := ht.n
  have hln := ht.ln
  have hovl := ht.ov
  have har0 : tp.arcs = 2 * (tp.ls.length : Int) := rfl
  obtain ⟨ad, cd, rfl⟩ := shapeB hd
  refine Goal.enter (args := [.agg #[.int .i64 tp.n, vo, vl], .slice ad dn.length cd, .int .i64 n]) Try.func31 rfl Try.ntmps31 rfl (St.nil w) ?_
  repeat' (first
    | (refine Goal.loud (o := ⟨some 18, _, _, _, _, _⟩) rfl ?_; apply Loud.call0; exact rfl; exact rfl; exact rfl; exact rfl; exact T.bod_58; exact (fun w' H => check26_ok (n := n) (hT.keep H.mod) (hd.keep H.mod) (by omega) (by omega)); rw [chk_ok ht hf hx])
    | (refine Goal.loud (o := ⟨some 23, _, _, _, _, _⟩) rfl ?_; apply Loud.call0; exact rfl; exact rfl; exact rfl; exact rfl; exact T.bod_59; exact (fun w' H => arcs_ok (hT.keep H.mod) (by omega)))
    | (refine Goal.loud (o := ⟨some 27, _, _, _, _, _⟩) rfl ?_; apply Loud.callN; exact rfl; exact rfl; exact rfl; exact rfl; exact T.bod_60; exact (fun w' H => out_ok (n := n) (hT.keep H.mod) ht); rintro ⟨v, Ao⟩ hSo; dsimp only at hSo ⊢; obtain ⟨av, cv, rfl⟩ := hSo.shape)
    | (refine Goal.loud (o := ⟨some 3, _, _, _, _, _⟩) rfl ?_; first | refine Loud.boxA rfl rfl (fun b3 => ?_) | refine Loud.box1 rfl rfl rfl (fun b3 => ?_))
    | (refine Goal.loud (o := ⟨some 24, _, _, _, _, _⟩) rfl ?_; first | refine Loud.makeSlice rfl T.slc_22 T.inf_4 rfl rfl (by decide) rfl rfl rfl rfl (by omega) (by omega) (by omega) (fun b24 => ?_) | refine Loud.makeSlice rfl T.slc_22 T.inf_4 rfl rfl (by decide) rfl rfl (Int.toNat_of_nonneg (by omega)).symm (Int.toNat_of_nonneg (by omega)).symm (by omega) (by omega) (by omega) (fun b24 => ?_))
    | (refine Goal.loud (o := ⟨some 43, _, _, _, _, _⟩) rfl ?_; first | refine Loud.boxA rfl rfl (fun b43 => ?_) | refine Loud.box1 rfl rfl rfl (fun b43 => ?_))
    | (apply G.move; exact rfl; exact rfl)
    | (apply G.assign; exact rfl; exact rfl)
    | refine Goal.seq (fun _ _ => ?_)
    | refine Goal.next (by assumption) ?_
    | refine Goal.lnil ?_
    | refine Goal.region ?_
    | refine Goal.skip ?_
    | refine Goal.block ?_
    | refine Goal.exit ?_
    | refine Goal.ret ?_
    | refine Goal.then_exit ?_
    | refine Goal.then_ret ?_
    | refine Goal.inBlock_exit ?_
    | refine Goal.inBlock_normal ?_
    | refine Goal.inBlock_ret ?_
    | refine Goal.inBlock_other rfl ?_
    | (apply Goal.condT; exact rfl)
    | (apply Goal.condF; exact rfl)
    | (refine Goal.condD rfl (fun hc => ?_) (fun hc => ?_) <;> first | (exfalso; omega) | contradiction | skip)
    | refine Goal.condB rfl (fun hc => ?_) (fun hc => ?_)
    | refine Goal.guardT rfl rfl ?_
    | refine Goal.guardF rfl rfl rfl rfl ?_
    | refine Goal.guardU rfl rfl rfl ?_
    | (refine Goal.guardD rfl rfl (fun hc => ?_) (fun hc => ?_) <;> first | (exfalso; omega) | contradiction | skip)
    | refine Goal.guardB rfl rfl (fun hc => ?_) (fun hc => ?_)
    | (apply G.fieldAddr; exact rfl; exact rfl; (first | exact T.fld_25_0 | exact T.fld_64_2))
    | (apply G.load; exact rfl; exact rfl; first | exact LoadOK.one (by first | exact T.one_3 | exact T.one_30) 0 rfl rfl | exact LoadOK.one (by first | exact T.one_3 | exact T.one_30) 1 rfl rfl | exact LoadOK.one (by first | exact T.one_3 | exact T.one_30) 2 rfl rfl | exact LoadOK.one (by first | exact T.one_3 | exact T.one_30) 3 rfl rfl | exact LoadOK.one (by first | exact T.one_3 | exact T.one_30) 4 rfl rfl | exact ag3 T.agg_25 0 rfl rfl rfl rfl | exact ag3 T.agg_25 1 rfl rfl rfl rfl | exact ag3 T.agg_25 2 rfl rfl rfl rfl | exact ag3 T.agg_25 3 rfl rfl rfl rfl | exact ag3 T.agg_25 4 rfl rfl rfl rfl)
    | (apply G.pickT; exact rfl; exact rfl; exact rfl)
    | (apply G.pickF; exact rfl; exact rfl; exact rfl)
    | (apply G.lss; exact rfl; exact rfl; exact rfl)
    | (apply G.geq; exact rfl; exact rfl; exact rfl)
    | (apply G.neq; exact rfl; exact rfl; exact rfl)
    | (apply G.add; exact rfl; exact rfl; exact rfl; exact IntWalk.i64_in _ (by omega))
    | (refine Goal.quiet rfl (Run.shl1B rfl rfl (by omega)) ?_)
    | (refine Goal.quiet rfl (Run.orB rfl rfl (by first | assumption | exact two_lt (by omega) | exact shr_lt (by assumption)) (by first | assumption | exact two_lt (by omega) | exact shr_lt (by assumption))) ?_)
    | (apply G.notT; exact rfl; exact rfl)
    | (apply G.notF; exact rfl; exact rfl)
    | (refine G.notD rfl rfl ?_)
    | (apply G.notB; exact rfl; exact rfl)
    | (apply G.len; exact rfl; exact rfl; exact T.slc_30)
    | (apply G.nilCheckP; exact rfl; exact rfl)
    | (refine G.indexAddr1 rfl (by first | exact T.slc_22 | exact T.slc_30) (by first | exact T.sz_3 | exact T.sz_4 | exact T.sz_30) rfl rfl _ rfl (by omega) ?_)
    | (refine G.indexAddr1 rfl (by first | exact T.slc_22 | exact T.slc_30) (by first | exact T.sz_3 | exact T.sz_4 | exact T.sz_30) rfl rfl _ (Int.toNat_of_nonneg (by omega)).symm (by omega) ?_)
    | (refine G.indexAddrA rfl T.arr_62 (by first | exact T.sz_3 | exact T.sz_4 | exact T.sz_30) rfl rfl _ rfl (by omega) ?_)
    | (refine G.indexAddrA rfl T.arr_62 (by first | exact T.sz_3 | exact T.sz_4 | exact T.sz_30) rfl rfl _ (Int.toNat_of_nonneg (by omega)).symm (by omega) ?_)
    | (refine Goal.loud rfl ?_; refine Loud.store0 rfl rfl T.sz_4 rfl rfl rfl (by first | exact Nat.le_of_ble_eq_true rfl | exact Nat.le_refl _ | decide | (simp; omega)) rfl ?_)
    | (refine Goal.loud rfl ?_; refine Loud.store1 rfl rfl T.sz_4 rfl rfl rfl (by first | exact Nat.le_of_ble_eq_true rfl | exact Nat.le_refl _ | decide | (simp; omega)) rfl ?_)
    | (refine Goal.loud rfl ?_; refine Loud.store2 rfl rfl T.sz_4 rfl rfl rfl (by first | exact Nat.le_of_ble_eq_true rfl | exact Nat.le_refl _ | decide | (simp; omega)) rfl ?_)
    | (refine Goal.loud rfl ?_; refine Loud.store3 rfl rfl T.sz_4 rfl rfl rfl (by first | exact Nat.le_of_ble_eq_true rfl | exact Nat.le_refl _ | decide | (simp; omega)) rfl ?_)
    | (refine Goal.loud rfl ?_; refine Loud.store4 rfl rfl T.sz_4 rfl rfl rfl (by first | exact Nat.le_of_ble_eq_true rfl | exact Nat.le_refl _ | decide | (simp; omega)) rfl ?_))
  have hol := arcsAt_len tp.tl tp.arcs.toNat n
  refine Goal.loopP (X := OI) (fun s => [(1, .slice ad dn.length cd), (2, .int .i64 n), (3, .pointer (some ⟨b3, 0, none⟩)), (9, .slice (some ⟨b24, 0, none⟩) tp.arcs.toNat tp.arcs.toNat), (27, .slice av (arcsAt tp.tl tp.arcs.toNat n).length cv), (28, .int .i64 (arcsAt tp.tl tp.arcs.toNat n).length), (29, .int .i64 s.i)]) (fun s => (b24, .cells (bools s.ks).toArray 4) :: (b3, .cells #[.int .i64 tp.n, vo, vl] 25) :: Ao)
    (fun s => (0 ≤ s.i ∧ s.i ≤ (arcsAt tp.tl tp.arcs.toNat n).length) ∧ s.ks.length = tp.arcs.toNat ∧ ∀ a : Int, 0 ≤ a → a < tp.arcs → (ba s.ks a = true ↔ a ∈ (arcsAt tp.tl tp.arcs.toNat n).take s.i.toNat ∧ ba dn a = true)) (fun s => ((arcsAt tp.tl tp.arcs.toNat n).length - s.i).toNat) ⟨0, List.replicate tp.arcs.toNat false⟩ ⟨rfl, rfl, rfl, rfl, rfl, rfl, rfl, trivial⟩ (fun _ h => by rw [← rep_bools]; exact h)
    ⟨by dsimp only; omega, by simp, fun a a0 a1 => by dsimp only; rw [ba_rep]; simp⟩ ?_
  rintro ⟨i, ks⟩ ⟨hi, hkl, hks⟩
  dsimp only at hi hkl hks ⊢
  by_cases h : i < (arcsAt tp.tl tp.arcs.toNat n).length
  · have hmem := mem_ia (l := arcsAt tp.tl tp.arcs.toNat n) (i := i) ⟨hi.1, h⟩
    have htk := take_next hi.1 h
    obtain ⟨bo, resto, capo, e, rfl, _, _, _⟩ := hSo.pos (by omega)
    injection e with e1 e2 e3
    subst e1 e3
    generalize haa : ia (arcsAt tp.tl tp.arcs.toNat n) i = a at hmem htk
    obtain ⟨har, hta⟩ := mem_arcsAt.1 hmem
    have hdm : dn.length = 0 ∨ (0 ≤ a ∧ a < dn.length) := by
      rcases hf with e | e
      · exact .inl e
      · exact .inr (by omega)
    have hdl : dn.length ≤ 1048576 := by
      rcases hf with e | e <;> omega
    repeat' (first
      | (refine Goal.loud (o := ⟨some 37, _, _, _, _, _⟩) rfl ?_; apply Loud.call0; exact rfl; exact rfl; exact rfl; exact rfl; exact T.bod_61; exact (fun w' H => down_ok (hd.keep H.mod) hdm hdl))
      | (refine Goal.loud (o := ⟨some 3, _, _, _, _, _⟩) rfl ?_; first | refine Loud.boxA rfl rfl (fun b3 => ?_) | refine Loud.box1 rfl rfl rfl (fun b3 => ?_))
      | (refine Goal.loud (o := ⟨some 24, _, _, _, _, _⟩) rfl ?_; first | refine Loud.makeSlice rfl T.slc_22 T.inf_4 rfl rfl (by decide) rfl rfl rfl rfl (by omega) (by omega) (by omega) (fun b24 => ?_) | refine Loud.makeSlice rfl T.slc_22 T.inf_4 rfl rfl (by decide) rfl rfl (Int.toNat_of_nonneg (by omega)).symm (Int.toNat_of_nonneg (by omega)).symm (by omega) (by omega) (by omega) (fun b24 => ?_))
      | (refine Goal.loud (o := ⟨some 43, _, _, _, _, _⟩) rfl ?_; first | refine Loud.boxA rfl rfl (fun b43 => ?_) | refine Loud.box1 rfl rfl rfl (fun b43 => ?_))
      | (apply G.move; exact rfl; exact rfl)
      | (apply G.assign; exact rfl; exact rfl)
      | refine Goal.seq (fun _ _ => ?_)
      | refine Goal.next (by assumption) ?_
      | refine Goal.lnil ?_
      | refine Goal.region ?_
      | refine Goal.skip ?_
      | refine Goal.block ?_
      | refine Goal.exit ?_
      | refine Goal.ret ?_
      | refine Goal.then_exit ?_
      | refine Goal.then_ret ?_
      | refine Goal.inBlock_exit ?_
      | refine Goal.inBlock_normal ?_
      | refine Goal.inBlock_ret ?_
      | refine Goal.inBlock_other rfl ?_
      | (apply Goal.condT; exact rfl)
      | (apply Goal.condF; exact rfl)
      | (refine Goal.condD rfl (fun hc => ?_) (fun hc => ?_) <;> first | (exfalso; omega) | contradiction | skip)
      | refine Goal.condB rfl (fun hc => ?_) (fun hc => ?_)
      | refine Goal.guardT rfl rfl ?_
      | refine Goal.guardF rfl rfl rfl rfl ?_
      | refine Goal.guardU rfl rfl rfl ?_
      | (refine Goal.guardD rfl rfl (fun hc => ?_) (fun hc => ?_) <;> first | (exfalso; omega) | contradiction | skip)
      | refine Goal.guardB rfl rfl (fun hc => ?_) (fun hc => ?_)
      | (apply G.fieldAddr; exact rfl; exact rfl; (first | exact T.fld_25_0 | exact T.fld_64_2))
      | (apply G.load; exact rfl; exact rfl; first | exact LoadOK.iaMe (b := bo) (l := arcsAt tp.tl tp.arcs.toNat n) (rest := resto) (E := 3) (i := i) (x := a) T.one_3 (by simp) (by omega) haa | exact LoadOK.one (by first | exact T.one_3 | exact T.one_30) 0 rfl rfl | exact LoadOK.one (by first | exact T.one_3 | exact T.one_30) 1 rfl rfl | exact LoadOK.one (by first | exact T.one_3 | exact T.one_30) 2 rfl rfl | exact LoadOK.one (by first | exact T.one_3 | exact T.one_30) 3 rfl rfl | exact LoadOK.one (by first | exact T.one_3 | exact T.one_30) 4 rfl rfl | exact ag3 T.agg_25 0 rfl rfl rfl rfl | exact ag3 T.agg_25 1 rfl rfl rfl rfl | exact ag3 T.agg_25 2 rfl rfl rfl rfl | exact ag3 T.agg_25 3 rfl rfl rfl rfl | exact ag3 T.agg_25 4 rfl rfl rfl rfl)
      | (apply G.pickT; exact rfl; exact rfl; exact rfl)
      | (apply G.pickF; exact rfl; exact rfl; exact rfl)
      | (apply G.lss; exact rfl; exact rfl; exact rfl)
      | (apply G.geq; exact rfl; exact rfl; exact rfl)
      | (apply G.neq; exact rfl; exact rfl; exact rfl)
      | (apply G.add; exact rfl; exact rfl; exact rfl; exact IntWalk.i64_in _ (by omega))
      | (refine Goal.quiet rfl (Run.shl1B rfl rfl (by omega)) ?_)
      | (refine Goal.quiet rfl (Run.orB rfl rfl (by first | assumption | exact two_lt (by omega) | exact shr_lt (by assumption)) (by first | assumption | exact two_lt (by omega) | exact shr_lt (by assumption))) ?_)
      | (apply G.notT; exact rfl; exact rfl)
      | (apply G.notF; exact rfl; exact rfl)
      | (refine G.notD rfl rfl ?_)
      | (apply G.notB; exact rfl; exact rfl)
      | (apply G.len; exact rfl; exact rfl; exact T.slc_30)
      | (apply G.nilCheckP; exact rfl; exact rfl)
      | (refine G.indexAddr1 rfl (by first | exact T.slc_22 | exact T.slc_30) (by first | exact T.sz_3 | exact T.sz_4 | exact T.sz_30) rfl rfl _ rfl (by omega) ?_)
      | (refine G.indexAddr1 rfl (by first | exact T.slc_22 | exact T.slc_30) (by first | exact T.sz_3 | exact T.sz_4 | exact T.sz_30) rfl rfl _ (Int.toNat_of_nonneg (by omega)).symm (by omega) ?_)
      | (refine G.indexAddrA rfl T.arr_62 (by first | exact T.sz_3 | exact T.sz_4 | exact T.sz_30) rfl rfl _ rfl (by omega) ?_)
      | (refine G.indexAddrA rfl T.arr_62 (by first | exact T.sz_3 | exact T.sz_4 | exact T.sz_30) rfl rfl _ (Int.toNat_of_nonneg (by omega)).symm (by omega) ?_)
      | (refine Goal.loud rfl ?_; refine Loud.store0 rfl rfl T.sz_4 rfl rfl rfl (by rw [List.size_toArray, bools_len]; omega) (wr_bools (by omega)) ?_)
      | (refine Goal.loud rfl ?_; refine Loud.store0 rfl rfl T.sz_4 rfl rfl rfl (by first | exact Nat.le_of_ble_eq_true rfl | exact Nat.le_refl _ | decide | (simp; omega)) rfl ?_)
      | (refine Goal.loud rfl ?_; refine Loud.store1 rfl rfl T.sz_4 rfl rfl rfl (by first | exact Nat.le_of_ble_eq_true rfl | exact Nat.le_refl _ | decide | (simp; omega)) rfl ?_)
      | (refine Goal.loud rfl ?_; refine Loud.store2 rfl rfl T.sz_4 rfl rfl rfl (by first | exact Nat.le_of_ble_eq_true rfl | exact Nat.le_refl _ | decide | (simp; omega)) rfl ?_)
      | (refine Goal.loud rfl ?_; refine Loud.store3 rfl rfl T.sz_4 rfl rfl rfl (by first | exact Nat.le_of_ble_eq_true rfl | exact Nat.le_refl _ | decide | (simp; omega)) rfl ?_)
      | (refine Goal.loud rfl ?_; refine Loud.store4 rfl rfl T.sz_4 rfl rfl rfl (by first | exact Nat.le_of_ble_eq_true rfl | exact Nat.le_refl _ | decide | (simp; omega)) rfl ?_))
    refine Goal.again ⟨i + 1, ks.set a.toNat (ba dn a)⟩ ⟨by dsimp only; omega, by rw [List.length_set]; exact hkl, fun c c0 c1 => ?_⟩ (by dsimp only; omega) ⟨rfl, rfl, rfl, rfl, rfl, rfl, rfl, trivial⟩ (fun _ h => h)
    dsimp only
    rw [ba_set (by omega) c0, htk, List.mem_append, List.mem_singleton]
    by_cases e : c = a
    · rw [if_pos e, e]
      exact ⟨fun h => ⟨.inr rfl, h⟩, fun h => h.2⟩
    · rw [if_neg e, hks c c0 c1]
      exact ⟨fun h => ⟨.inl h.1, h.2⟩, fun h => ⟨h.1.resolve_right e, h.2⟩⟩
  · obtain rfl : i = (arcsAt tp.tl tp.arcs.toNat n).length := by omega
    rw [Int.toNat_natCast, List.take_length] at hks
    have hks2 : ∀ a, 0 ≤ a → a < tp.arcs → (ba ks a = true ↔ tp.tl a = n ∧ ba dn a = true) := fun a a0 a1 => by
      rw [hks a a0 a1, mem_arcsAt]
      exact ⟨fun h => ⟨h.1.2, h.2⟩, fun h => ⟨⟨by omega, h.1⟩, h.2⟩⟩
    clear hks
    obtain ⟨q, hq⟩ := pred_of (fun k => FreeP tp ks (A n) (Bq k) n k)
    have hfk : Fit tp ks := .inr (by omega)
    repeat' (first
      | (refine Goal.loud (o := ⟨some 3, _, _, _, _, _⟩) rfl ?_; first | refine Loud.boxA rfl rfl (fun b3 => ?_) | refine Loud.box1 rfl rfl rfl (fun b3 => ?_))
      | (refine Goal.loud (o := ⟨some 24, _, _, _, _, _⟩) rfl ?_; first | refine Loud.makeSlice rfl T.slc_22 T.inf_4 rfl rfl (by decide) rfl rfl rfl rfl (by omega) (by omega) (by omega) (fun b24 => ?_) | refine Loud.makeSlice rfl T.slc_22 T.inf_4 rfl rfl (by decide) rfl rfl (Int.toNat_of_nonneg (by omega)).symm (Int.toNat_of_nonneg (by omega)).symm (by omega) (by omega) (by omega) (fun b24 => ?_))
      | (refine Goal.loud (o := ⟨some 43, _, _, _, _, _⟩) rfl ?_; first | refine Loud.boxA rfl rfl (fun b43 => ?_) | refine Loud.box1 rfl rfl rfl (fun b43 => ?_))
      | (refine Goal.quiet rfl (Run.build (cs := zc tp vo vl (.slice (some ⟨b24, 0, none⟩) tp.arcs.toNat tp.arcs.toNat) noneL noneL) lay_tester rfl (by kernel_rfl)) ?_)
      | (apply G.move; exact rfl; exact rfl)
      | (apply G.assign; exact rfl; exact rfl)
      | refine Goal.seq (fun _ _ => ?_)
      | refine Goal.next (by assumption) ?_
      | refine Goal.lnil ?_
      | refine Goal.region ?_
      | refine Goal.skip ?_
      | refine Goal.block ?_
      | refine Goal.exit ?_
      | refine Goal.ret ?_
      | refine Goal.then_exit ?_
      | refine Goal.then_ret ?_
      | refine Goal.inBlock_exit ?_
      | refine Goal.inBlock_normal ?_
      | refine Goal.inBlock_ret ?_
      | refine Goal.inBlock_other rfl ?_
      | (apply Goal.condT; exact rfl)
      | (apply Goal.condF; exact rfl)
      | (refine Goal.condD rfl (fun hc => ?_) (fun hc => ?_) <;> first | (exfalso; omega) | contradiction | skip)
      | refine Goal.condB rfl (fun hc => ?_) (fun hc => ?_)
      | refine Goal.guardT rfl rfl ?_
      | refine Goal.guardF rfl rfl rfl rfl ?_
      | refine Goal.guardU rfl rfl rfl ?_
      | (refine Goal.guardD rfl rfl (fun hc => ?_) (fun hc => ?_) <;> first | (exfalso; omega) | contradiction | skip)
      | refine Goal.guardB rfl rfl (fun hc => ?_) (fun hc => ?_)
      | (apply G.fieldAddr; exact rfl; exact rfl; (first | exact T.fld_25_0 | exact T.fld_64_2))
      | (apply G.load; exact rfl; exact rfl; first | exact LoadOK.one (by first | exact T.one_3 | exact T.one_30) 0 rfl rfl | exact LoadOK.one (by first | exact T.one_3 | exact T.one_30) 1 rfl rfl | exact LoadOK.one (by first | exact T.one_3 | exact T.one_30) 2 rfl rfl | exact LoadOK.one (by first | exact T.one_3 | exact T.one_30) 3 rfl rfl | exact LoadOK.one (by first | exact T.one_3 | exact T.one_30) 4 rfl rfl | exact ag3 T.agg_25 0 rfl rfl rfl rfl | exact ag3 T.agg_25 1 rfl rfl rfl rfl | exact ag3 T.agg_25 2 rfl rfl rfl rfl | exact ag3 T.agg_25 3 rfl rfl rfl rfl | exact ag3 T.agg_25 4 rfl rfl rfl rfl)
      | (apply G.pickT; exact rfl; exact rfl; exact rfl)
      | (apply G.pickF; exact rfl; exact rfl; exact rfl)
      | (apply G.lss; exact rfl; exact rfl; exact rfl)
      | (apply G.geq; exact rfl; exact rfl; exact rfl)
      | (apply G.neq; exact rfl; exact rfl; exact rfl)
      | (apply G.add; exact rfl; exact rfl; exact rfl; exact IntWalk.i64_in _ (by omega))
      | (refine Goal.quiet rfl (Run.shl1B rfl rfl (by omega)) ?_)
      | (refine Goal.quiet rfl (Run.orB rfl rfl (by first | assumption | exact two_lt (by omega) | exact shr_lt (by assumption)) (by first | assumption | exact two_lt (by omega) | exact shr_lt (by assumption))) ?_)
      | (apply G.notT; exact rfl; exact rfl)
      | (apply G.notF; exact rfl; exact rfl)
      | (refine G.notD rfl rfl ?_)
      | (apply G.notB; exact rfl; exact rfl)
      | (apply G.len; exact rfl; exact rfl; exact T.slc_30)
      | (apply G.nilCheckP; exact rfl; exact rfl)
      | (refine G.indexAddr1 rfl (by first | exact T.slc_22 | exact T.slc_30) (by first | exact T.sz_3 | exact T.sz_4 | exact T.sz_30) rfl rfl _ rfl (by omega) ?_)
      | (refine G.indexAddr1 rfl (by first | exact T.slc_22 | exact T.slc_30) (by first | exact T.sz_3 | exact T.sz_4 | exact T.sz_30) rfl rfl _ (Int.toNat_of_nonneg (by omega)).symm (by omega) ?_)
      | (refine G.indexAddrA rfl T.arr_62 (by first | exact T.sz_3 | exact T.sz_4 | exact T.sz_30) rfl rfl _ rfl (by omega) ?_)
      | (refine G.indexAddrA rfl T.arr_62 (by first | exact T.sz_3 | exact T.sz_4 | exact T.sz_30) rfl rfl _ (Int.toNat_of_nonneg (by omega)).symm (by omega) ?_)
      | (refine Goal.loud rfl ?_; refine Loud.store0 rfl rfl T.sz_4 rfl rfl rfl (by first | exact Nat.le_of_ble_eq_true rfl | exact Nat.le_refl _ | decide | (simp; omega)) rfl ?_)
      | (refine Goal.loud rfl ?_; refine Loud.store1 rfl rfl T.sz_4 rfl rfl rfl (by first | exact Nat.le_of_ble_eq_true rfl | exact Nat.le_refl _ | decide | (simp; omega)) rfl ?_)
      | (refine Goal.loud rfl ?_; refine Loud.store2 rfl rfl T.sz_4 rfl rfl rfl (by first | exact Nat.le_of_ble_eq_true rfl | exact Nat.le_refl _ | decide | (simp; omega)) rfl ?_)
      | (refine Goal.loud rfl ?_; refine Loud.store3 rfl rfl T.sz_4 rfl rfl rfl (by first | exact Nat.le_of_ble_eq_true rfl | exact Nat.le_refl _ | decide | (simp; omega)) rfl ?_)
      | (refine Goal.loud rfl ?_; refine Loud.store4 rfl rfl T.sz_4 rfl rfl rfl (by first | exact Nat.le_of_ble_eq_true rfl | exact Nat.le_refl _ | decide | (simp; omega)) rfl ?_))
    refine Goal.loopP (X := ZL) (fun s => [(2, .int .i64 n), (12, .pointer (some ⟨b43, 0, none⟩)), (13, .int .u64 (s.m : Int)), (45, .int .i64 tp.n), (46, .int .i64 s.i)]) (fun s => ((b43, .cells (zc tp vo vl (.slice (some ⟨b24, 0, none⟩) tp.arcs.toNat tp.arcs.toNat) s.Fs s.Ts).toArray 64) :: s.B) ++ [(b24, .cells (bools ks).toArray 4)])
      (fun s => (0 ≤ s.i ∧ s.i ≤ tp.n) ∧ ZI tp s.Fs s.Ts s.B ∧ s.m < 18446744073709551616 ∧ ∀ k : Nat, s.m.testBit k = (decide ((k : Int) < s.i) && p k)) (fun s => (tp.n - s.i).toNat) ⟨0, noneL, noneL, [], 0⟩ ⟨rfl, rfl, rfl, rfl, rfl, trivial⟩ (fun _ h => h.sub (.cons_cons _ (.cons_cons _ (List.nil_sublist _)))) ⟨by dsimp only; omega, zi_none tp, by dsimp only; decide, fun k => by dsimp only; rw [Nat.zero_testBit, decide_eq_false (by omega), Bool.false_and]⟩ ?_
    rintro ⟨i, Fs, Ts, B, m⟩ ⟨hi, hZ, hm, hb⟩
    dsimp only at hi hZ hm hb ⊢
    by_cases h : i < tp.n
    · have hm2 := or_lt hm (two_lt (i := i.toNat) (by omega))
      have haff := aff_iff ht hx ⟨hi.1, h⟩ (hA n) (hB i) hks2
      cases hqi : q i
      · skip
        repeat' (first
          | (refine Goal.loud (o := ⟨some 52, _, _, _, _, _⟩) rfl ?_; refine Loud.call (SS := keys ((b43, Obj.cells (zc tp vo vl (.slice (some ⟨b24, 0, none⟩) tp.arcs.toNat tp.arcs.toNat) Fs Ts).toArray 64) :: B)) (A := (b43, .cells (zc tp vo vl (.slice (some ⟨b24, 0, none⟩) tp.arcs.toNat tp.arcs.toNat) Fs Ts).toArray 64) :: B) (R := [(b24, .cells (bools ks).toArray 4)]) (fst := []) (cap := #[]) (vs := [_, _, _]) rfl rfl rfl rfl T.bod_62 (fun _ h => h) (fun _ h => h) (fun w' H => free_ok (r := false) (dn := ks) hZ (St.start H.left.own H.left.nd (fun _ h => h)) (fun w'' hm => hT.keep (modOf3 H hm (fun b hb => by simp only [keys, List.map_append, List.mem_append] at hb ⊢; exact .inl hb))) (fun w'' hm => by have := RdV.of_lit (vs := bools ks) ((ownR26 H hm).get (List.mem_singleton.2 rfl)); rwa [bools_len, hkl] at this) ht hfk hx ⟨hi.1, h⟩ (hA n) (hB i) ⟨fun h => (by cases h), fun h => by rw [(hq i).2 h] at hqi; cases hqi⟩) ?_; rintro ⟨Fs2, Ts2, B2⟩ ⟨hZ2, bf, f, hf2⟩; dsimp only at hZ2 hf2 ⊢; obtain ⟨hfd, hmf⟩ := hZ2.f _ _ _ hf2; rw [Int.toNat_of_nonneg hx.1] at hfd; have hfl := hfd.len; have hAy := Bell.one (GF.ok ht) (hA n) hfd.bell i hi.1 h; have hcf : (zc tp vo vl (.slice (some ⟨b24, 0, none⟩) tp.arcs.toNat tp.arcs.toNat) Fs2 Ts2).toArray.toList[0 + 4 + n.toNat * 1]? = some (.slice (some ⟨bf, 0, none⟩) f.length f.length) := zc_from hf2 (by omega))
          | (refine Goal.loud (o := ⟨some 3, _, _, _, _, _⟩) rfl ?_; first | refine Loud.boxA rfl rfl (fun b3 => ?_) | refine Loud.box1 rfl rfl rfl (fun b3 => ?_))
          | (refine Goal.loud (o := ⟨some 24, _, _, _, _, _⟩) rfl ?_; first | refine Loud.makeSlice rfl T.slc_22 T.inf_4 rfl rfl (by decide) rfl rfl rfl rfl (by omega) (by omega) (by omega) (fun b24 => ?_) | refine Loud.makeSlice rfl T.slc_22 T.inf_4 rfl rfl (by decide) rfl rfl (Int.toNat_of_nonneg (by omega)).symm (Int.toNat_of_nonneg (by omega)).symm (by omega) (by omega) (by omega) (fun b24 => ?_))
          | (refine Goal.loud (o := ⟨some 43, _, _, _, _, _⟩) rfl ?_; first | refine Loud.boxA rfl rfl (fun b43 => ?_) | refine Loud.box1 rfl rfl rfl (fun b43 => ?_))
          | (apply G.move; exact rfl; exact rfl)
          | (apply G.assign; exact rfl; exact rfl)
          | refine Goal.seq (fun _ _ => ?_)
          | refine Goal.next (by assumption) ?_
          | refine Goal.lnil ?_
          | refine Goal.region ?_
          | refine Goal.skip ?_
          | refine Goal.block ?_
          | refine Goal.exit ?_
          | refine Goal.ret ?_
          | refine Goal.then_exit ?_
          | refine Goal.then_ret ?_
          | refine Goal.inBlock_exit ?_
          | refine Goal.inBlock_normal ?_
          | refine Goal.inBlock_ret ?_
          | refine Goal.inBlock_other rfl ?_
          | (apply Goal.condT; exact rfl)
          | (apply Goal.condF; exact rfl)
          | (refine Goal.condD rfl (fun hc => ?_) (fun hc => ?_) <;> first | (exfalso; omega) | contradiction | skip)
          | refine Goal.condB rfl (fun hc => ?_) (fun hc => ?_)
          | refine Goal.guardT rfl rfl ?_
          | refine Goal.guardF rfl rfl rfl rfl ?_
          | refine Goal.guardU rfl rfl rfl ?_
          | (refine Goal.guardD rfl rfl (fun hc => ?_) (fun hc => ?_) <;> first | (exfalso; omega) | contradiction | skip)
          | refine Goal.guardB rfl rfl (fun hc => ?_) (fun hc => ?_)
          | (apply G.fieldAddr; exact rfl; exact rfl; (first | exact T.fld_25_0 | exact T.fld_64_2))
          | (apply G.load; exact rfl; exact rfl; first | exact LoadOK.one T.one_30 0 rfl hcf | exact LoadOK.iaM (b := bf) (l := f) (E := 3) (i := i) (x := ia f i) T.one_3 (by simp [hmf]) (by omega) rfl | exact LoadOK.one (by first | exact T.one_3 | exact T.one_30) 0 rfl rfl | exact LoadOK.one (by first | exact T.one_3 | exact T.one_30) 1 rfl rfl | exact LoadOK.one (by first | exact T.one_3 | exact T.one_30) 2 rfl rfl | exact LoadOK.one (by first | exact T.one_3 | exact T.one_30) 3 rfl rfl | exact LoadOK.one (by first | exact T.one_3 | exact T.one_30) 4 rfl rfl | exact ag3 T.agg_25 0 rfl rfl rfl rfl | exact ag3 T.agg_25 1 rfl rfl rfl rfl | exact ag3 T.agg_25 2 rfl rfl rfl rfl | exact ag3 T.agg_25 3 rfl rfl rfl rfl | exact ag3 T.agg_25 4 rfl rfl rfl rfl)
          | (apply G.pickT; exact rfl; exact rfl; exact rfl)
          | (apply G.pickF; exact rfl; exact rfl; exact rfl)
          | (apply G.lss; exact rfl; exact rfl; exact rfl)
          | (apply G.geq; exact rfl; exact rfl; exact rfl)
          | (apply G.neq; exact rfl; exact rfl; exact rfl)
          | (apply G.add; exact rfl; exact rfl; exact rfl; exact IntWalk.i64_in _ (by omega))
          | (refine Goal.quiet rfl (Run.shl1B rfl rfl (by omega)) ?_)
          | (refine Goal.quiet rfl (Run.orB rfl rfl (by first | assumption | exact two_lt (by omega) | exact shr_lt (by assumption)) (by first | assumption | exact two_lt (by omega) | exact shr_lt (by assumption))) ?_)
          | (apply G.notT; exact rfl; exact rfl)
          | (apply G.notF; exact rfl; exact rfl)
          | (refine G.notD rfl rfl ?_)
          | (apply G.notB; exact rfl; exact rfl)
          | (apply G.len; exact rfl; exact rfl; exact T.slc_30)
          | (apply G.nilCheckP; exact rfl; exact rfl)
          | (refine G.indexAddr1 rfl (by first | exact T.slc_22 | exact T.slc_30) (by first | exact T.sz_3 | exact T.sz_4 | exact T.sz_30) rfl rfl _ rfl (by omega) ?_)
          | (refine G.indexAddr1 rfl (by first | exact T.slc_22 | exact T.slc_30) (by first | exact T.sz_3 | exact T.sz_4 | exact T.sz_30) rfl rfl _ (Int.toNat_of_nonneg (by omega)).symm (by omega) ?_)
          | (refine G.indexAddrA rfl T.arr_62 (by first | exact T.sz_3 | exact T.sz_4 | exact T.sz_30) rfl rfl _ rfl (by omega) ?_)
          | (refine G.indexAddrA rfl T.arr_62 (by first | exact T.sz_3 | exact T.sz_4 | exact T.sz_30) rfl rfl _ (Int.toNat_of_nonneg (by omega)).symm (by omega) ?_)
          | (refine Goal.loud rfl ?_; refine Loud.store0 rfl rfl T.sz_4 rfl rfl rfl (by first | exact Nat.le_of_ble_eq_true rfl | exact Nat.le_refl _ | decide | (simp; omega)) rfl ?_)
          | (refine Goal.loud rfl ?_; refine Loud.store1 rfl rfl T.sz_4 rfl rfl rfl (by first | exact Nat.le_of_ble_eq_true rfl | exact Nat.le_refl _ | decide | (simp; omega)) rfl ?_)
          | (refine Goal.loud rfl ?_; refine Loud.store2 rfl rfl T.sz_4 rfl rfl rfl (by first | exact Nat.le_of_ble_eq_true rfl | exact Nat.le_refl _ | decide | (simp; omega)) rfl ?_)
          | (refine Goal.loud rfl ?_; refine Loud.store3 rfl rfl T.sz_4 rfl rfl rfl (by first | exact Nat.le_of_ble_eq_true rfl | exact Nat.le_refl _ | decide | (simp; omega)) rfl ?_)
          | (refine Goal.loud rfl ?_; refine Loud.store4 rfl rfl T.sz_4 rfl rfl rfl (by first | exact Nat.le_of_ble_eq_true rfl | exact Nat.le_refl _ | decide | (simp; omega)) rfl ?_))
        · have hpi : p i = true := (hp i).2 (haff.1 (Classical.byContradiction fun hu => by
            rw [(hq i).2 ⟨by omega, hu⟩] at hqi
            cases hqi))
          refine Goal.again ⟨i + 1, Fs2, Ts2, B2, m ||| 2 ^ i.toNat⟩ ⟨by dsimp only; omega, hZ2, hm2, bits_yes hi.1 hb hpi⟩ (by dsimp only; omega) ⟨rfl, rfl, rfl, rfl, rfl, trivial⟩ (fun _ h => h)
        · have hpi : p i = false := by
            cases hpp : p i with
            | false => rfl
            | true =>
              have := UsesP.pos ht (haff.2 ((hp i).1 hpp))
              omega
          refine Goal.again ⟨i + 1, Fs2, Ts2, B2, m⟩ ⟨by dsimp only; omega, hZ2, hm, bits_no hi.1 hb hpi⟩ (by dsimp only; omega) ⟨rfl, rfl, rfl, rfl, rfl, trivial⟩ (fun _ h => h)
      · have hpi : p i = false := by
          cases hpp : p i with
          | false => rfl
          | true => exact absurd (haff.2 ((hp i).1 hpp)) ((hq i).1 hqi).2
        repeat' (first
          | (refine Goal.loud (o := ⟨some 52, _, _, _, _, _⟩) rfl ?_; refine Loud.call (SS := keys ((b43, Obj.cells (zc tp vo vl (.slice (some ⟨b24, 0, none⟩) tp.arcs.toNat tp.arcs.toNat) Fs Ts).toArray 64) :: B)) (A := (b43, .cells (zc tp vo vl (.slice (some ⟨b24, 0, none⟩) tp.arcs.toNat tp.arcs.toNat) Fs Ts).toArray 64) :: B) (R := [(b24, .cells (bools ks).toArray 4)]) (fst := []) (cap := #[]) (vs := [_, _, _]) rfl rfl rfl rfl T.bod_62 (fun _ h => h) (fun _ h => h) (fun w' H => free_ok (r := true) (dn := ks) hZ (St.start H.left.own H.left.nd (fun _ h => h)) (fun w'' hm => hT.keep (modOf3 H hm (fun b hb => by simp only [keys, List.map_append, List.mem_append] at hb ⊢; exact .inl hb))) (fun w'' hm => by have := RdV.of_lit (vs := bools ks) ((ownR26 H hm).get (List.mem_singleton.2 rfl)); rwa [bools_len, hkl] at this) ht hfk hx ⟨hi.1, h⟩ (hA n) (hB i) ⟨fun _ => (hq i).1 hqi, fun _ => rfl⟩) ?_; rintro ⟨Fs2, Ts2, B2⟩ ⟨hZ2, _⟩; dsimp only at hZ2 ⊢)
          | (refine Goal.loud (o := ⟨some 3, _, _, _, _, _⟩) rfl ?_; first | refine Loud.boxA rfl rfl (fun b3 => ?_) | refine Loud.box1 rfl rfl rfl (fun b3 => ?_))
          | (refine Goal.loud (o := ⟨some 24, _, _, _, _, _⟩) rfl ?_; first | refine Loud.makeSlice rfl T.slc_22 T.inf_4 rfl rfl (by decide) rfl rfl rfl rfl (by omega) (by omega) (by omega) (fun b24 => ?_) | refine Loud.makeSlice rfl T.slc_22 T.inf_4 rfl rfl (by decide) rfl rfl (Int.toNat_of_nonneg (by omega)).symm (Int.toNat_of_nonneg (by omega)).symm (by omega) (by omega) (by omega) (fun b24 => ?_))
          | (refine Goal.loud (o := ⟨some 43, _, _, _, _, _⟩) rfl ?_; first | refine Loud.boxA rfl rfl (fun b43 => ?_) | refine Loud.box1 rfl rfl rfl (fun b43 => ?_))
          | (apply G.move; exact rfl; exact rfl)
          | (apply G.assign; exact rfl; exact rfl)
          | refine Goal.seq (fun _ _ => ?_)
          | refine Goal.next (by assumption) ?_
          | refine Goal.lnil ?_
          | refine Goal.region ?_
          | refine Goal.skip ?_
          | refine Goal.block ?_
          | refine Goal.exit ?_
          | refine Goal.ret ?_
          | refine Goal.then_exit ?_
          | refine Goal.then_ret ?_
          | refine Goal.inBlock_exit ?_
          | refine Goal.inBlock_normal ?_
          | refine Goal.inBlock_ret ?_
          | refine Goal.inBlock_other rfl ?_
          | (apply Goal.condT; exact rfl)
          | (apply Goal.condF; exact rfl)
          | (refine Goal.condD rfl (fun hc => ?_) (fun hc => ?_) <;> first | (exfalso; omega) | contradiction | skip)
          | refine Goal.condB rfl (fun hc => ?_) (fun hc => ?_)
          | refine Goal.guardT rfl rfl ?_
          | refine Goal.guardF rfl rfl rfl rfl ?_
          | refine Goal.guardU rfl rfl rfl ?_
          | (refine Goal.guardD rfl rfl (fun hc => ?_) (fun hc => ?_) <;> first | (exfalso; omega) | contradiction | skip)
          | refine Goal.guardB rfl rfl (fun hc => ?_) (fun hc => ?_)
          | (apply G.fieldAddr; exact rfl; exact rfl; (first | exact T.fld_25_0 | exact T.fld_64_2))
          | (apply G.load; exact rfl; exact rfl; first | exact LoadOK.one (by first | exact T.one_3 | exact T.one_30) 0 rfl rfl | exact LoadOK.one (by first | exact T.one_3 | exact T.one_30) 1 rfl rfl | exact LoadOK.one (by first | exact T.one_3 | exact T.one_30) 2 rfl rfl | exact LoadOK.one (by first | exact T.one_3 | exact T.one_30) 3 rfl rfl | exact LoadOK.one (by first | exact T.one_3 | exact T.one_30) 4 rfl rfl | exact ag3 T.agg_25 0 rfl rfl rfl rfl | exact ag3 T.agg_25 1 rfl rfl rfl rfl | exact ag3 T.agg_25 2 rfl rfl rfl rfl | exact ag3 T.agg_25 3 rfl rfl rfl rfl | exact ag3 T.agg_25 4 rfl rfl rfl rfl)
          | (apply G.pickT; exact rfl; exact rfl; exact rfl)
          | (apply G.pickF; exact rfl; exact rfl; exact rfl)
          | (apply G.lss; exact rfl; exact rfl; exact rfl)
          | (apply G.geq; exact rfl; exact rfl; exact rfl)
          | (apply G.neq; exact rfl; exact rfl; exact rfl)
          | (apply G.add; exact rfl; exact rfl; exact rfl; exact IntWalk.i64_in _ (by omega))
          | (refine Goal.quiet rfl (Run.shl1B rfl rfl (by omega)) ?_)
          | (refine Goal.quiet rfl (Run.orB rfl rfl (by first | assumption | exact two_lt (by omega) | exact shr_lt (by assumption)) (by first | assumption | exact two_lt (by omega) | exact shr_lt (by assumption))) ?_)
          | (apply G.notT; exact rfl; exact rfl)
          | (apply G.notF; exact rfl; exact rfl)
          | (refine G.notD rfl rfl ?_)
          | (apply G.notB; exact rfl; exact rfl)
          | (apply G.len; exact rfl; exact rfl; exact T.slc_30)
          | (apply G.nilCheckP; exact rfl; exact rfl)
          | (refine G.indexAddr1 rfl (by first | exact T.slc_22 | exact T.slc_30) (by first | exact T.sz_3 | exact T.sz_4 | exact T.sz_30) rfl rfl _ rfl (by omega) ?_)
          | (refine G.indexAddr1 rfl (by first | exact T.slc_22 | exact T.slc_30) (by first | exact T.sz_3 | exact T.sz_4 | exact T.sz_30) rfl rfl _ (Int.toNat_of_nonneg (by omega)).symm (by omega) ?_)
          | (refine G.indexAddrA rfl T.arr_62 (by first | exact T.sz_3 | exact T.sz_4 | exact T.sz_30) rfl rfl _ rfl (by omega) ?_)
          | (refine G.indexAddrA rfl T.arr_62 (by first | exact T.sz_3 | exact T.sz_4 | exact T.sz_30) rfl rfl _ (Int.toNat_of_nonneg (by omega)).symm (by omega) ?_)
          | (refine Goal.loud rfl ?_; refine Loud.store0 rfl rfl T.sz_4 rfl rfl rfl (by first | exact Nat.le_of_ble_eq_true rfl | exact Nat.le_refl _ | decide | (simp; omega)) rfl ?_)
          | (refine Goal.loud rfl ?_; refine Loud.store1 rfl rfl T.sz_4 rfl rfl rfl (by first | exact Nat.le_of_ble_eq_true rfl | exact Nat.le_refl _ | decide | (simp; omega)) rfl ?_)
          | (refine Goal.loud rfl ?_; refine Loud.store2 rfl rfl T.sz_4 rfl rfl rfl (by first | exact Nat.le_of_ble_eq_true rfl | exact Nat.le_refl _ | decide | (simp; omega)) rfl ?_)
          | (refine Goal.loud rfl ?_; refine Loud.store3 rfl rfl T.sz_4 rfl rfl rfl (by first | exact Nat.le_of_ble_eq_true rfl | exact Nat.le_refl _ | decide | (simp; omega)) rfl ?_)
          | (refine Goal.loud rfl ?_; refine Loud.store4 rfl rfl T.sz_4 rfl rfl rfl (by first | exact Nat.le_of_ble_eq_true rfl | exact Nat.le_refl _ | decide | (simp; omega)) rfl ?_))
        refine Goal.again ⟨i + 1, Fs2, Ts2, B2, m⟩ ⟨by dsimp only; omega, hZ2, hm, bits_no hi.1 hb hpi⟩ (by dsimp only; omega) ⟨rfl, rfl, rfl, rfl, rfl, trivial⟩ (fun _ h => h)
    · obtain rfl : i = tp.n := by omega
      repeat' (first
        | (refine Goal.loud (o := ⟨some 72, _, _, _, _, _⟩) rfl ?_; apply Loud.callN; exact rfl; exact rfl; exact rfl; exact rfl; exact T.bod_63; exact (fun w' H => nodes_ok hm w'); rintro ⟨v, A1⟩ hS; dsimp only at hS ⊢; rw [bits_sel (by omega) hb] at hS)
        | (refine Goal.loud (o := ⟨some 3, _, _, _, _, _⟩) rfl ?_; first | refine Loud.boxA rfl rfl (fun b3 => ?_) | refine Loud.box1 rfl rfl rfl (fun b3 => ?_))
        | (refine Goal.loud (o := ⟨some 24, _, _, _, _, _⟩) rfl ?_; first | refine Loud.makeSlice rfl T.slc_22 T.inf_4 rfl rfl (by decide) rfl rfl rfl rfl (by omega) (by omega) (by omega) (fun b24 => ?_) | refine Loud.makeSlice rfl T.slc_22 T.inf_4 rfl rfl (by decide) rfl rfl (Int.toNat_of_nonneg (by omega)).symm (Int.toNat_of_nonneg (by omega)).symm (by omega) (by omega) (by omega) (fun b24 => ?_))
        | (refine Goal.loud (o := ⟨some 43, _, _, _, _, _⟩) rfl ?_; first | refine Loud.boxA rfl rfl (fun b43 => ?_) | refine Loud.box1 rfl rfl rfl (fun b43 => ?_))
        | (apply G.move; exact rfl; exact rfl)
        | (apply G.assign; exact rfl; exact rfl)
        | refine Goal.seq (fun _ _ => ?_)
        | refine Goal.next (by assumption) ?_
        | refine Goal.lnil ?_
        | refine Goal.region ?_
        | refine Goal.skip ?_
        | refine Goal.block ?_
        | refine Goal.exit ?_
        | refine Goal.ret ?_
        | refine Goal.then_exit ?_
        | refine Goal.then_ret ?_
        | refine Goal.inBlock_exit ?_
        | refine Goal.inBlock_normal ?_
        | refine Goal.inBlock_ret ?_
        | refine Goal.inBlock_other rfl ?_
        | (apply Goal.condT; exact rfl)
        | (apply Goal.condF; exact rfl)
        | (refine Goal.condD rfl (fun hc => ?_) (fun hc => ?_) <;> first | (exfalso; omega) | contradiction | skip)
        | refine Goal.condB rfl (fun hc => ?_) (fun hc => ?_)
        | refine Goal.guardT rfl rfl ?_
        | refine Goal.guardF rfl rfl rfl rfl ?_
        | refine Goal.guardU rfl rfl rfl ?_
        | (refine Goal.guardD rfl rfl (fun hc => ?_) (fun hc => ?_) <;> first | (exfalso; omega) | contradiction | skip)
        | refine Goal.guardB rfl rfl (fun hc => ?_) (fun hc => ?_)
        | (apply G.fieldAddr; exact rfl; exact rfl; (first | exact T.fld_25_0 | exact T.fld_64_2))
        | (apply G.load; exact rfl; exact rfl; first | exact LoadOK.one (by first | exact T.one_3 | exact T.one_30) 0 rfl rfl | exact LoadOK.one (by first | exact T.one_3 | exact T.one_30) 1 rfl rfl | exact LoadOK.one (by first | exact T.one_3 | exact T.one_30) 2 rfl rfl | exact LoadOK.one (by first | exact T.one_3 | exact T.one_30) 3 rfl rfl | exact LoadOK.one (by first | exact T.one_3 | exact T.one_30) 4 rfl rfl | exact ag3 T.agg_25 0 rfl rfl rfl rfl | exact ag3 T.agg_25 1 rfl rfl rfl rfl | exact ag3 T.agg_25 2 rfl rfl rfl rfl | exact ag3 T.agg_25 3 rfl rfl rfl rfl | exact ag3 T.agg_25 4 rfl rfl rfl rfl)
        | (apply G.pickT; exact rfl; exact rfl; exact rfl)
        | (apply G.pickF; exact rfl; exact rfl; exact rfl)
        | (apply G.lss; exact rfl; exact rfl; exact rfl)
        | (apply G.geq; exact rfl; exact rfl; exact rfl)
        | (apply G.neq; exact rfl; exact rfl; exact rfl)
        | (apply G.add; exact rfl; exact rfl; exact rfl; exact IntWalk.i64_in _ (by omega))
        | (refine Goal.quiet rfl (Run.shl1B rfl rfl (by omega)) ?_)
        | (refine Goal.quiet rfl (Run.orB rfl rfl (by first | assumption | exact two_lt (by omega) | exact shr_lt (by assumption)) (by first | assumption | exact two_lt (by omega) | exact shr_lt (by assumption))) ?_)
        | (apply G.notT; exact rfl; exact rfl)
        | (apply G.notF; exact rfl; exact rfl)
        | (refine G.notD rfl rfl ?_)
        | (apply G.notB; exact rfl; exact rfl)
        | (apply G.len; exact rfl; exact rfl; exact T.slc_30)
        | (apply G.nilCheckP; exact rfl; exact rfl)
        | (refine G.indexAddr1 rfl (by first | exact T.slc_22 | exact T.slc_30) (by first | exact T.sz_3 | exact T.sz_4 | exact T.sz_30) rfl rfl _ rfl (by omega) ?_)
        | (refine G.indexAddr1 rfl (by first | exact T.slc_22 | exact T.slc_30) (by first | exact T.sz_3 | exact T.sz_4 | exact T.sz_30) rfl rfl _ (Int.toNat_of_nonneg (by omega)).symm (by omega) ?_)
        | (refine G.indexAddrA rfl T.arr_62 (by first | exact T.sz_3 | exact T.sz_4 | exact T.sz_30) rfl rfl _ rfl (by omega) ?_)
        | (refine G.indexAddrA rfl T.arr_62 (by first | exact T.sz_3 | exact T.sz_4 | exact T.sz_30) rfl rfl _ (Int.toNat_of_nonneg (by omega)).symm (by omega) ?_)
        | (refine Goal.loud rfl ?_; refine Loud.store0 rfl rfl T.sz_4 rfl rfl rfl (by first | exact Nat.le_of_ble_eq_true rfl | exact Nat.le_refl _ | decide | (simp; omega)) rfl ?_)
        | (refine Goal.loud rfl ?_; refine Loud.store1 rfl rfl T.sz_4 rfl rfl rfl (by first | exact Nat.le_of_ble_eq_true rfl | exact Nat.le_refl _ | decide | (simp; omega)) rfl ?_)
        | (refine Goal.loud rfl ?_; refine Loud.store2 rfl rfl T.sz_4 rfl rfl rfl (by first | exact Nat.le_of_ble_eq_true rfl | exact Nat.le_refl _ | decide | (simp; omega)) rfl ?_)
        | (refine Goal.loud rfl ?_; refine Loud.store3 rfl rfl T.sz_4 rfl rfl rfl (by first | exact Nat.le_of_ble_eq_true rfl | exact Nat.le_refl _ | decide | (simp; omega)) rfl ?_)
        | (refine Goal.loud rfl ?_; refine Loud.store4 rfl rfl T.sz_4 rfl rfl rfl (by first | exact Nat.le_of_ble_eq_true rfl | exact Nat.le_refl _ | decide | (simp; omega)) rfl ?_))
      refine Goal.done (vs := [_, _]) (by first | exact .inl rfl | exact .inr rfl) Try.results31 ⟨rfl, rfl, trivial⟩ rfl (fun w' H => ⟨⟨v, A1⟩, hS, rfl, H.sub (List.sublist_append_right _ _)⟩)
end
end Go.Proofs.Ytldoplehchngfaa
