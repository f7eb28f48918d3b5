/- Package waypointlaw26: square, large, awake; package waypointref09: Has. -/
import Derived.Test.YtldoplehchngfaaPqF
namespace Go.Proofs.Ytldoplehchngfaa
open Go.Wf
set_option linter.unusedVariables false
def sqn : List Bool := [true, true, false, false, false, false, false, false]
structure QS6 where
  (v : Value) (A : List Blk) (b : Nat)
structure QI6 where
  (i : Int) (v : Value) (A : List Blk)
theorem square26_ok (w : World) : Calls Try.prog 57 #[] w fun e w' => ∃ x : QS6, Sl x.v 50 7 sqL.length (Els lkc sqL) x.A ∧ e = .returned (.tuple #[.agg #[.int .i64 4, .slice none 0 0, x.v], .slice (some ⟨x.b, 0, none⟩) 8 8]) ∧ St w [] w' ((x.b, .cells (bools sqn).toArray 4) :: x.A) := by
  refine Goal.enter (args := []) Try.func57 rfl Try.ntmps57 rfl (St.nil w) ?_
  repeat' (first
    | (refine Goal.loud (o := ⟨some 0, _, _, _, _, _⟩) rfl ?_; refine Loud.allocA rfl T.inf_25 (fun b0 => ?_))
    | (refine Goal.loud (o := ⟨some 2, _, _, _, _, _⟩) rfl ?_; refine Loud.allocA rfl T.inf_25 (fun b2 => ?_))
    | (refine Goal.loud (o := ⟨some 16, _, _, _, _, _⟩) rfl ?_; refine Loud.buildSlice (cs := [_, _, _, _, _, _, _]) rfl T.slc_23 T.inf_50 rfl rfl (by decide) rfl rfl rfl (fun b16 => ?_))
    | (refine Goal.loud (o := ⟨some 21, _, _, _, _, _⟩) rfl ?_; refine Loud.buildSlice (cs := [_, _, _, _, _, _, _, _]) rfl T.slc_22 T.inf_4 rfl rfl (by decide) rfl rfl rfl (fun b21 => ?_))
    | (apply G.move; exact rfl; exact rfl)
    | (apply G.assign; exact rfl; exact rfl)
    | refine Goal.seq (fun _ _ => ?_)
    | refine Goal.next (by assumption) ?_
    | refine Goal.lnil ?_
    | refine Goal.region ?_
    | refine Goal.skip ?_
    | refine Goal.block ?_
    | refine Goal.exit ?_
    | refine Goal.ret ?_
    | refine Goal.then_exit ?_
    | refine Goal.then_ret ?_
    | refine Goal.inBlock_exit ?_
    | refine Goal.inBlock_normal ?_
    | refine Goal.inBlock_ret ?_
    | refine Goal.inBlock_other rfl ?_
    | (apply Goal.condT; exact rfl)
    | (apply Goal.condF; exact rfl)
    | (refine Goal.condD rfl (fun hc => ?_) (fun hc => ?_) <;> first | (exfalso; omega) | contradiction | skip)
    | refine Goal.condB rfl (fun hc => ?_) (fun hc => ?_)
    | (apply G.fieldAddr; exact rfl; exact rfl; exact T.fld_25_2)
    | (apply G.load; exact rfl; exact rfl; first | exact LoadOK.one T.one_23 0 rfl rfl | exact LoadOK.one T.one_23 1 rfl rfl | exact LoadOK.one T.one_23 2 rfl rfl | exact LoadOK.one T.one_23 3 rfl rfl | exact LoadOK.one T.one_23 4 rfl rfl | exact ag3 T.agg_25 0 rfl rfl rfl rfl | exact ag3 T.agg_25 1 rfl rfl rfl rfl | exact ag3 T.agg_25 2 rfl rfl rfl rfl | exact ag3 T.agg_25 3 rfl rfl rfl rfl | exact ag3 T.agg_25 4 rfl rfl rfl rfl)
    | (apply G.lss; exact rfl; exact rfl; exact rfl)
    | (apply G.add; exact rfl; exact rfl; exact rfl; exact IntWalk.i64_in _ (by omega))
    | (apply G.rem; exact rfl; exact rfl; exact rfl; (first | decide | omega); exact IntWalk.rem_in _ _ (by omega))
    | (apply G.build (cs := [_, _, _]); exact rfl; exact T.lay_25; exact rfl; exact rfl)
    | (apply G.build (cs := [_, _]); exact rfl; exact T.lay_48; exact rfl; exact rfl)
    | (apply G.build (cs := [_, _, _, _, _, _, _]); exact rfl; exact T.lay_50; exact rfl; exact rfl)
    | (refine Goal.loud rfl ?_; refine Loud.store0 rfl rfl (by first | exact T.sz_23 | exact T.sz_25) rfl rfl rfl (by first | exact Nat.le_of_ble_eq_true rfl | exact Nat.le_refl _ | decide | (simp; omega)) rfl ?_)
    | (refine Goal.loud rfl ?_; refine Loud.store1 rfl rfl (by first | exact T.sz_23 | exact T.sz_25) rfl rfl rfl (by first | exact Nat.le_of_ble_eq_true rfl | exact Nat.le_refl _ | decide | (simp; omega)) rfl ?_)
    | (refine Goal.loud rfl ?_; refine Loud.store2 rfl rfl (by first | exact T.sz_23 | exact T.sz_25) rfl rfl rfl (by first | exact Nat.le_of_ble_eq_true rfl | exact Nat.le_refl _ | decide | (simp; omega)) rfl ?_)
    | (refine Goal.loud rfl ?_; refine Loud.store3 rfl rfl (by first | exact T.sz_23 | exact T.sz_25) rfl rfl rfl (by first | exact Nat.le_of_ble_eq_true rfl | exact Nat.le_refl _ | decide | (simp; omega)) rfl ?_)
    | (refine Goal.loud rfl ?_; refine Loud.store4 rfl rfl (by first | exact T.sz_23 | exact T.sz_25) rfl rfl rfl (by first | exact Nat.le_of_ble_eq_true rfl | exact Nat.le_refl _ | decide | (simp; omega)) rfl ?_))
  refine Goal.loopP (X := QI6) (fun x => [(0, .pointer (some ⟨b0, 0, none⟩)), (2, .pointer (some ⟨b2, 0, none⟩)), (5, .int .i64 x.i)]) (fun x => (b2, .cells #[.int .i64 4, .slice none 0 0, x.v] 25) :: (b0, .cells #[.int .i64 0, .slice none 0 0, .slice none 0 0] 25) :: x.A)
    (fun x => (0 ≤ x.i ∧ x.i ≤ 4) ∧ Sl x.v 50 7 x.i.toNat (Els lkc (sqL.take x.i.toNat)) x.A) (fun x => (4 - x.i).toNat) ⟨0, .slice none 0 0, []⟩ ⟨rfl, rfl, rfl, trivial⟩ (fun _ h => h) ⟨by dsimp only; omega, Sl.nil _ _⟩ ?_
  rintro ⟨i, v, A⟩ ⟨hi, hS⟩
  dsimp only at hi hS ⊢
  obtain ⟨av, cv, rfl⟩ := hS.shape
  by_cases h : i < 4
  · skip
    repeat' (first
      | (refine Goal.loud (o := ⟨some 17, _, _, _, _, _⟩) rfl ?_; refine Loud.appendT rfl T.slc_23 T.inf_50 rfl [_, _] rfl hS rfl rfl rfl rfl (by omega) (by omega) ?_; intro v2 A2 hA2; obtain ⟨ad2, cap2, rfl⟩ := hA2.shape)
      | (refine Goal.loud (o := ⟨some 0, _, _, _, _, _⟩) rfl ?_; refine Loud.allocA rfl T.inf_25 (fun b0 => ?_))
      | (refine Goal.loud (o := ⟨some 2, _, _, _, _, _⟩) rfl ?_; refine Loud.allocA rfl T.inf_25 (fun b2 => ?_))
      | (refine Goal.loud (o := ⟨some 16, _, _, _, _, _⟩) rfl ?_; refine Loud.buildSlice (cs := [_, _, _, _, _, _, _]) rfl T.slc_23 T.inf_50 rfl rfl (by decide) rfl rfl rfl (fun b16 => ?_))
      | (refine Goal.loud (o := ⟨some 21, _, _, _, _, _⟩) rfl ?_; refine Loud.buildSlice (cs := [_, _, _, _, _, _, _, _]) rfl T.slc_22 T.inf_4 rfl rfl (by decide) rfl rfl rfl (fun b21 => ?_))
      | (apply G.move; exact rfl; exact rfl)
      | (apply G.assign; exact rfl; exact rfl)
      | refine Goal.seq (fun _ _ => ?_)
      | refine Goal.next (by assumption) ?_
      | refine Goal.lnil ?_
      | refine Goal.region ?_
      | refine Goal.skip ?_
      | refine Goal.block ?_
      | refine Goal.exit ?_
      | refine Goal.ret ?_
      | refine Goal.then_exit ?_
      | refine Goal.then_ret ?_
      | refine Goal.inBlock_exit ?_
      | refine Goal.inBlock_normal ?_
      | refine Goal.inBlock_ret ?_
      | refine Goal.inBlock_other rfl ?_
      | (apply Goal.condT; exact rfl)
      | (apply Goal.condF; exact rfl)
      | (refine Goal.condD rfl (fun hc => ?_) (fun hc => ?_) <;> first | (exfalso; omega) | contradiction | skip)
      | refine Goal.condB rfl (fun hc => ?_) (fun hc => ?_)
      | (apply G.fieldAddr; exact rfl; exact rfl; exact T.fld_25_2)
      | (apply G.load; exact rfl; exact rfl; first | exact LoadOK.one T.one_23 0 rfl rfl | exact LoadOK.one T.one_23 1 rfl rfl | exact LoadOK.one T.one_23 2 rfl rfl | exact LoadOK.one T.one_23 3 rfl rfl | exact LoadOK.one T.one_23 4 rfl rfl | exact ag3 T.agg_25 0 rfl rfl rfl rfl | exact ag3 T.agg_25 1 rfl rfl rfl rfl | exact ag3 T.agg_25 2 rfl rfl rfl rfl | exact ag3 T.agg_25 3 rfl rfl rfl rfl | exact ag3 T.agg_25 4 rfl rfl rfl rfl)
      | (apply G.lss; exact rfl; exact rfl; exact rfl)
      | (apply G.add; exact rfl; exact rfl; exact rfl; exact IntWalk.i64_in _ (by omega))
      | (apply G.rem; exact rfl; exact rfl; exact rfl; (first | decide | omega); exact IntWalk.rem_in _ _ (by omega))
      | (apply G.build (cs := [_, _, _]); exact rfl; exact T.lay_25; exact rfl; exact rfl)
      | (apply G.build (cs := [_, _]); exact rfl; exact T.lay_48; exact rfl; exact rfl)
      | (apply G.build (cs := [_, _, _, _, _, _, _]); exact rfl; exact T.lay_50; exact rfl; exact rfl)
      | (refine Goal.loud rfl ?_; refine Loud.store0 rfl rfl (by first | exact T.sz_23 | exact T.sz_25) rfl rfl rfl (by first | exact Nat.le_of_ble_eq_true rfl | exact Nat.le_refl _ | decide | (simp; omega)) rfl ?_)
      | (refine Goal.loud rfl ?_; refine Loud.store1 rfl rfl (by first | exact T.sz_23 | exact T.sz_25) rfl rfl rfl (by first | exact Nat.le_of_ble_eq_true rfl | exact Nat.le_refl _ | decide | (simp; omega)) rfl ?_)
      | (refine Goal.loud rfl ?_; refine Loud.store2 rfl rfl (by first | exact T.sz_23 | exact T.sz_25) rfl rfl rfl (by first | exact Nat.le_of_ble_eq_true rfl | exact Nat.le_refl _ | decide | (simp; omega)) rfl ?_)
      | (refine Goal.loud rfl ?_; refine Loud.store3 rfl rfl (by first | exact T.sz_23 | exact T.sz_25) rfl rfl rfl (by first | exact Nat.le_of_ble_eq_true rfl | exact Nat.le_refl _ | decide | (simp; omega)) rfl ?_)
      | (refine Goal.loud rfl ?_; refine Loud.store4 rfl rfl (by first | exact T.sz_23 | exact T.sz_25) rfl rfl rfl (by first | exact Nat.le_of_ble_eq_true rfl | exact Nat.le_refl _ | decide | (simp; omega)) rfl ?_))
    refine Goal.again ⟨i + 1, .slice ad2 (i.toNat + 1) cap2, A2⟩ ⟨by dsimp only; omega, ?_⟩ (by dsimp only; omega) ⟨rfl, rfl, rfl, trivial⟩ (fun _ h => h)
    dsimp only
    rw [sq_at i hi.1 h, Els_one, show (i + 1).toNat = i.toNat + 1 by omega]
    exact hA2
  · obtain rfl : i = 4 := by omega
    repeat' (first
      | (refine Goal.loud (o := ⟨some 0, _, _, _, _, _⟩) rfl ?_; refine Loud.allocA rfl T.inf_25 (fun b0 => ?_))
      | (refine Goal.loud (o := ⟨some 2, _, _, _, _, _⟩) rfl ?_; refine Loud.allocA rfl T.inf_25 (fun b2 => ?_))
      | (refine Goal.loud (o := ⟨some 16, _, _, _, _, _⟩) rfl ?_; refine Loud.buildSlice (cs := [_, _, _, _, _, _, _]) rfl T.slc_23 T.inf_50 rfl rfl (by decide) rfl rfl rfl (fun b16 => ?_))
      | (refine Goal.loud (o := ⟨some 21, _, _, _, _, _⟩) rfl ?_; refine Loud.buildSlice (cs := [_, _, _, _, _, _, _, _]) rfl T.slc_22 T.inf_4 rfl rfl (by decide) rfl rfl rfl (fun b21 => ?_))
      | (apply G.move; exact rfl; exact rfl)
      | (apply G.assign; exact rfl; exact rfl)
      | refine Goal.seq (fun _ _ => ?_)
      | refine Goal.next (by assumption) ?_
      | refine Goal.lnil ?_
      | refine Goal.region ?_
      | refine Goal.skip ?_
      | refine Goal.block ?_
      | refine Goal.exit ?_
      | refine Goal.ret ?_
      | refine Goal.then_exit ?_
      | refine Goal.then_ret ?_
      | refine Goal.inBlock_exit ?_
      | refine Goal.inBlock_normal ?_
      | refine Goal.inBlock_ret ?_
      | refine Goal.inBlock_other rfl ?_
      | (apply Goal.condT; exact rfl)
      | (apply Goal.condF; exact rfl)
      | (refine Goal.condD rfl (fun hc => ?_) (fun hc => ?_) <;> first | (exfalso; omega) | contradiction | skip)
      | refine Goal.condB rfl (fun hc => ?_) (fun hc => ?_)
      | (apply G.fieldAddr; exact rfl; exact rfl; exact T.fld_25_2)
      | (apply G.load; exact rfl; exact rfl; first | exact LoadOK.one T.one_23 0 rfl rfl | exact LoadOK.one T.one_23 1 rfl rfl | exact LoadOK.one T.one_23 2 rfl rfl | exact LoadOK.one T.one_23 3 rfl rfl | exact LoadOK.one T.one_23 4 rfl rfl | exact ag3 T.agg_25 0 rfl rfl rfl rfl | exact ag3 T.agg_25 1 rfl rfl rfl rfl | exact ag3 T.agg_25 2 rfl rfl rfl rfl | exact ag3 T.agg_25 3 rfl rfl rfl rfl | exact ag3 T.agg_25 4 rfl rfl rfl rfl)
      | (apply G.lss; exact rfl; exact rfl; exact rfl)
      | (apply G.add; exact rfl; exact rfl; exact rfl; exact IntWalk.i64_in _ (by omega))
      | (apply G.rem; exact rfl; exact rfl; exact rfl; (first | decide | omega); exact IntWalk.rem_in _ _ (by omega))
      | (apply G.build (cs := [_, _, _]); exact rfl; exact T.lay_25; exact rfl; exact rfl)
      | (apply G.build (cs := [_, _]); exact rfl; exact T.lay_48; exact rfl; exact rfl)
      | (apply G.build (cs := [_, _, _, _, _, _, _]); exact rfl; exact T.lay_50; exact rfl; exact rfl)
      | (refine Goal.loud rfl ?_; refine Loud.store0 rfl rfl (by first | exact T.sz_23 | exact T.sz_25) rfl rfl rfl (by first | exact Nat.le_of_ble_eq_true rfl | exact Nat.le_refl _ | decide | (simp; omega)) rfl ?_)
      | (refine Goal.loud rfl ?_; refine Loud.store1 rfl rfl (by first | exact T.sz_23 | exact T.sz_25) rfl rfl rfl (by first | exact Nat.le_of_ble_eq_true rfl | exact Nat.le_refl _ | decide | (simp; omega)) rfl ?_)
      | (refine Goal.loud rfl ?_; refine Loud.store2 rfl rfl (by first | exact T.sz_23 | exact T.sz_25) rfl rfl rfl (by first | exact Nat.le_of_ble_eq_true rfl | exact Nat.le_refl _ | decide | (simp; omega)) rfl ?_)
      | (refine Goal.loud rfl ?_; refine Loud.store3 rfl rfl (by first | exact T.sz_23 | exact T.sz_25) rfl rfl rfl (by first | exact Nat.le_of_ble_eq_true rfl | exact Nat.le_refl _ | decide | (simp; omega)) rfl ?_)
      | (refine Goal.loud rfl ?_; refine Loud.store4 rfl rfl (by first | exact T.sz_23 | exact T.sz_25) rfl rfl rfl (by first | exact Nat.le_of_ble_eq_true rfl | exact Nat.le_refl _ | decide | (simp; omega)) rfl ?_))
    refine Goal.done (vs := [_, _]) (by first | exact .inl rfl | exact .inr rfl) Try.results57 ⟨⟨_, rfl, LoadOK.agg (vs := [.int .i64 4, .slice none 0 0, .slice av 4 cv]) T.agg_25 2 rfl rfl ⟨rfl, rfl, rfl, trivial⟩⟩, rfl, trivial⟩ rfl (fun w' H => ⟨⟨_, A, b21⟩, hS, rfl, H.sub (.cons_cons _ (.cons _ (.cons _ (.refl _))))⟩)
theorem large26_ok {tp : Top} {dn : List Bool} (ao al ad : Option Addr) (co cl cd : Nat) (x y : Int) (w : World) : Calls Try.prog 30 #[.agg #[.int .i64 tp.n, .slice ao tp.ov.length co, .slice al tp.ls.length cl, .slice ad dn.length cd, .int .i64 x, .int .i64 y]] w
    fun e w' => e = .returned (.bool (decide (12 < tp.n ∨ 20 < tp.ls.length ∨ 60 < dn.length))) ∧ Mod [] w w' := by
  refine Goal.enter (args := [.agg #[.int .i64 tp.n, .slice ao tp.ov.length co, .slice al tp.ls.length cl, .slice ad dn.length cd, .int .i64 x, .int .i64 y]]) Try.func30 rfl Try.ntmps30 rfl (St.nil w) ?_
  repeat' (first
    | (refine Goal.loud (o := ⟨some 1, _, _, _, _, _⟩) rfl ?_; first | refine Loud.boxA rfl rfl (fun b1 => ?_) | refine Loud.box1 rfl rfl rfl (fun b1 => ?_))
    | (apply G.move; exact rfl; exact rfl)
    | (apply G.assign; exact rfl; exact rfl)
    | refine Goal.seq (fun _ _ => ?_)
    | refine Goal.next (by assumption) ?_
    | refine Goal.lnil ?_
    | refine Goal.region ?_
    | refine Goal.skip ?_
    | refine Goal.block ?_
    | refine Goal.exit ?_
    | refine Goal.ret ?_
    | refine Goal.then_exit ?_
    | refine Goal.then_ret ?_
    | refine Goal.inBlock_exit ?_
    | refine Goal.inBlock_normal ?_
    | refine Goal.inBlock_ret ?_
    | refine Goal.inBlock_other rfl ?_
    | (apply Goal.condT; exact rfl)
    | (apply Goal.condF; exact rfl)
    | (refine Goal.condD rfl (fun hc => ?_) (fun hc => ?_) <;> first | (exfalso; omega) | contradiction | skip)
    | refine Goal.condB rfl (fun hc => ?_) (fun hc => ?_)
    | refine Goal.guardT rfl rfl ?_
    | refine Goal.guardF rfl rfl rfl rfl ?_
    | refine Goal.guardU rfl rfl rfl ?_
    | (refine Goal.guardD rfl rfl (fun hc => ?_) (fun hc => ?_) <;> first | (exfalso; omega) | contradiction | skip)
    | refine Goal.guardB rfl rfl (fun hc => ?_) (fun hc => ?_)
    | (apply G.fieldAddr; exact rfl; exact rfl; (first | exact T.fld_25_0 | exact T.fld_25_2 | exact T.fld_43_0 | exact T.fld_43_1))
    | (apply G.load; exact rfl; exact rfl; first | exact LoadOK.one (by first | exact T.one_3 | exact T.one_22 | exact T.one_23) 0 rfl rfl | exact LoadOK.one (by first | exact T.one_3 | exact T.one_22 | exact T.one_23) 1 rfl rfl | exact LoadOK.one (by first | exact T.one_3 | exact T.one_22 | exact T.one_23) 2 rfl rfl | exact LoadOK.one (by first | exact T.one_3 | exact T.one_22 | exact T.one_23) 3 rfl rfl | exact LoadOK.one (by first | exact T.one_3 | exact T.one_22 | exact T.one_23) 4 rfl rfl)
    | (apply G.pickT; exact rfl; exact rfl; exact rfl)
    | (apply G.pickF; exact rfl; exact rfl; exact rfl)
    | (apply G.gtr; exact rfl; exact rfl; exact rfl)
    | (apply G.len; exact rfl; exact rfl; (first | exact T.slc_22 | exact T.slc_23)))
  all_goals
    refine Goal.done (vs := [_]) (by first | exact .inl rfl | exact .inr rfl) Try.results30 ⟨rfl, trivial⟩ rfl (fun w' H => ⟨ret_bool (by first | exact decide_eq_decide.2 (by omega) | exact (decide_eq_true (by omega)).symm | exact (decide_eq_false (by omega)).symm), H.mod⟩)
/-! ### The example, by computing -/
def sqd (x : Int) : List Int := if x = 0 then [0, 1, 2, 1] else if x = 1 then [1, 0, 1, 2] else if x = 2 then [2, 1, 0, 1] else [1, 2, 1, 0]
theorem sqd_dl {x : Int} (h : 0 ≤ x ∧ x < 4) : DL 4 x (GD sq [] x) (sqd x) := by
  have : x = 0 ∨ x = 1 ∨ x = 2 ∨ x = 3 := by omega
  rcases this with rfl | rfl | rfl | rfl <;> exact dlB_spec (T := sq) (dn := []) (by decide)
theorem sq_even : Even sq := by
  refine ⟨fun x => ba_nil x, fun i => ?_⟩
  show (el sqL i).c0 = (el sqL i).c1
  unfold el
  rw [List.getD_eq_getElem?_getD]
  cases h : sqL[i.toNat]? with
  | none => rfl
  | some l =>
    have hm := List.mem_of_getElem? h
    have : ∀ l ∈ sqL, l.c0 = l.c1 := by simp [sqL]
    exact this l hm
def freeB (dn : List Bool) (x y : Int) : Bool := decide (0 ≤ ia (sqd x) y) && !(anyI 8 fun a => ba dn a && decide (OnSP sq (ia (sqd x)) (ia (sqd y)) x y a))
theorem anyI_of {k : Nat} {p : Int → Bool} {i : Int} (h0 : 0 ≤ i) (h1 : i < k) (h : p i = true) : anyI k p = true := by
  unfold anyI
  rw [List.any_eq_true]
  exact ⟨i.toNat, by rw [List.mem_range]; omega, by rw [Int.toNat_of_nonneg h0]; exact h⟩
section
variable {A B : Int → Int → Int} {dn : List Bool} {x y : Int}
theorem sqA (hA : ∀ x, Bell sq.n x (GF sq [] x) (A x)) (hx : 0 ≤ x ∧ x < 4) : ∀ z, 0 ≤ z → z < sq.n → A x z = ia (sqd x) z := fun z z0 z1 => by
  have h := hA x
  rw [even_gr sq_even] at h
  exact Bell.one (GD.ok sq_ok) h (sqd_dl hx).bell z z0 z1
theorem sqB (hB : ∀ x, Bell sq.n x (GD sq [] x) (B x)) (hx : 0 ≤ x ∧ x < 4) : ∀ z, 0 ≤ z → z < sq.n → B x z = ia (sqd x) z := fun z z0 z1 => Bell.one (GD.ok sq_ok) (hB x) (sqd_dl hx).bell z z0 z1
theorem free_sq (hA : ∀ x, Bell sq.n x (GF sq [] x) (A x)) (hB : ∀ x, Bell sq.n x (GD sq [] x) (B x)) (hx : 0 ≤ x ∧ x < 4) (hy : 0 ≤ y ∧ y < 4) : FreeP sq dn (A x) (B y) x y ↔ freeB dn x y = true := by
  unfold FreeP freeB
  rw [UsesP.congr sq_ok hy (sqA hA hx) (sqB hB hy), sqA hA hx y hy.1 hy.2, Bool.and_eq_true, decide_eq_true_eq, Bool.not_eq_true']
  refine and_congr_right fun _ => ⟨fun h => ?_, fun h hu => ?_⟩
  · refine Bool.eq_false_iff.2 fun h1 => ?_
    obtain ⟨a, ha, h2⟩ := anyI_spec h1
    rw [Bool.and_eq_true, decide_eq_true_eq] at h2
    exact h ⟨a, ha, h2.1, h2.2⟩
  · obtain ⟨a, ha, h1, h2⟩ := hu
    have := anyI_of (k := 8) (p := fun a => ba dn a && decide (OnSP sq (ia (sqd x)) (ia (sqd y)) x y a)) ha.1 ha.2 (by rw [Bool.and_eq_true, decide_eq_true_eq]; exact ⟨h1, h2⟩)
    rw [h] at this
    cases this
def affB (dn : List Bool) (k : Int) : Bool := anyI 8 fun a => (decide (sq.tl a = 0) && ba dn a) && decide (OnA sq [] k (ia (sqd k)) a)
theorem aff_sq (hB : ∀ x, Bell sq.n x (GD sq [] x) (B x)) (hy : 0 ≤ y ∧ y < 4) : AffP sq dn (B y) 0 y ↔ affB dn y = true := by
  have hc : ∀ a, 0 ≤ a → a < sq.arcs → (OnA sq [] y (B y) a ↔ OnA sq [] y (ia (sqd y)) a) := fun a a0 a1 => by
    obtain ⟨h1, h2, _⟩ := sq_ok.arc ⟨a0, a1⟩
    unfold OnA
    rw [sqB hB hy _ h1.1 h1.2, sqB hB hy _ h2.1 h2.2]
  unfold affB
  constructor
  · rintro ⟨a, ha, h1, h2, h3⟩
    exact anyI_of (k := 8) ha.1 ha.2 (by rw [Bool.and_eq_true, Bool.and_eq_true, decide_eq_true_eq, decide_eq_true_eq]; exact ⟨⟨h1, h2⟩, (hc a ha.1 ha.2).1 h3⟩)
  · intro h
    obtain ⟨a, ha, h2⟩ := anyI_spec h
    rw [Bool.and_eq_true, Bool.and_eq_true, decide_eq_true_eq, decide_eq_true_eq] at h2
    exact ⟨a, ha, h2.1.1, h2.1.2, (hc a ha.1 ha.2).2 h2.2⟩
def extB (dn : List Bool) (k : Int) : Bool := freeB dn 0 k || (arcsAt sq.tl 8 0).any fun a => !ba dn a && (decide (k = sq.hd a) || (!sq.over (sq.hd a) && freeB dn (sq.hd a) k))
theorem ext_sq (hA : ∀ x, Bell sq.n x (GF sq [] x) (A x)) (hB : ∀ x, Bell sq.n x (GD sq [] x) (B x)) (hy : 0 ≤ y ∧ y < 4) : ExtP sq dn A B 0 (arcsAt sq.tl 8 0) y ↔ extB dn y = true := by
  have hh : ∀ a ∈ arcsAt sq.tl 8 0, 0 ≤ sq.hd a ∧ sq.hd a < 4 := fun a ha => (sq_ok.arc (mem_arcsAt.1 ha).1).2.1
  unfold ExtP extB
  rw [Bool.or_eq_true, ← free_sq hA hB ⟨by decide, by decide⟩ hy, List.any_eq_true]
  constructor
  · rintro ⟨_, h | ⟨a, ha, h1, h2⟩⟩
    · exact .inl h
    · refine .inr ⟨a, ha, ?_⟩
      rw [Bool.and_eq_true, Bool.or_eq_true, Bool.and_eq_true, decide_eq_true_eq, ← free_sq hA hB (hh a ha) hy, h1]
      exact ⟨rfl, h2.imp id fun h => ⟨by rw [h.1]; rfl, h.2⟩⟩
  · rintro (h | ⟨a, ha, h⟩)
    · exact ⟨hy, .inl h⟩
    · rw [Bool.and_eq_true, Bool.or_eq_true, Bool.and_eq_true, decide_eq_true_eq, ← free_sq hA hB (hh a ha) hy] at h
      exact ⟨hy, .inr ⟨a, ha, by simpa using h.1, h.2.imp id fun h => ⟨by simpa using h.1, h.2⟩⟩⟩
end
theorem sqn_fit : Fit sq sqn := .inr rfl
section
variable {w : World} {vo vl vd : Value}
theorem sq26_p (hT : TopR w vo vl sq) (hd : RdV w vd (bools sqn)) : Calls Try.prog 33 #[.agg #[.int .i64 4, vo, vl], vd, .int .i64 0] w fun e w' => ∃ x : PV, Sl x.v 3 1 2 (ints [0, 3]) x.A ∧ e = .returned (.tuple #[x.v, .int .i64 0]) ∧ St w [] w' x.A := by
  obtain ⟨A, B, hA, hB⟩ := dists sq_ok
  obtain ⟨p, hp⟩ := pred_of (fun k => FreeP sq sqn (A 0) (B k) 0 k)
  have e : selL sq.n.toNat p = [0, 3] := (selL_ext (n := 4) (m := 4) (q := freeB sqn 0) (Nat.le_refl _) (fun k k0 k1 => Bool.eq_iff_iff.2 ((hp k).trans (free_sq hA hB ⟨by decide, by decide⟩ ⟨k0, k1⟩))) (fun k k0 k1 => by omega)).trans (by decide)
  have := pspace_ok (tp := sq) (dn := sqn) (n := 0) hT hd sq_ok sqn_fit (by decide) hA hB hp
  rw [e] at this
  exact this
theorem sq26_q (hT : TopR w vo vl sq) (hd : RdV w vd (bools sqn)) : Calls Try.prog 39 #[.agg #[.int .i64 4, vo, vl], vd, .int .i64 1] w fun e w' => ∃ x : PV, Sl x.v 3 1 2 (ints [1, 2]) x.A ∧ e = .returned (.tuple #[x.v, .int .i64 0]) ∧ St w [] w' x.A := by
  obtain ⟨A, B, hA, hB⟩ := dists sq_ok
  obtain ⟨p, hp⟩ := pred_of (fun k => FreeP sq sqn (A k) (B 1) k 1)
  have e : selL sq.n.toNat p = [1, 2] := (selL_ext (n := 4) (m := 4) (q := fun k => freeB sqn k 1) (Nat.le_refl _) (fun k k0 k1 => Bool.eq_iff_iff.2 ((hp k).trans (free_sq hA hB ⟨k0, k1⟩ ⟨by decide, by decide⟩))) (fun k k0 k1 => by omega)).trans (by decide)
  have := qspace_ok (tp := sq) (dn := sqn) (n := 1) hT hd sq_ok sqn_fit (by decide) hA hB hp
  rw [e] at this
  exact this
theorem sq26_a (hT : TopR w vo vl sq) (hd : RdV w vd (bools sqn)) : Calls Try.prog 31 #[.agg #[.int .i64 4, vo, vl], vd, .int .i64 0] w fun e w' => ∃ x : PV, Sl x.v 3 1 2 (ints [1, 2]) x.A ∧ e = .returned (.tuple #[x.v, .int .i64 0]) ∧ St w [] w' x.A := by
  obtain ⟨A, B, hA, hB⟩ := dists sq_ok
  obtain ⟨p, hp⟩ := pred_of (fun k => AffP sq sqn (B k) 0 k)
  have e : selL sq.n.toNat p = [1, 2] := (selL_ext (n := 4) (m := 4) (q := affB sqn) (Nat.le_refl _) (fun k k0 k1 => Bool.eq_iff_iff.2 ((hp k).trans (aff_sq hB ⟨k0, k1⟩))) (fun k k0 k1 => by omega)).trans (by decide)
  have := affected_ok (tp := sq) (dn := sqn) (n := 0) hT hd sq_ok sqn_fit (by decide) hA hB hp
  rw [e] at this
  exact this
theorem sq26_x (hT : TopR w vo vl sq) (hd : RdV w vd (bools sqn)) : Calls Try.prog 41 #[.agg #[.int .i64 4, vo, vl], vd, .int .i64 0] w fun e w' => ∃ x : PV, Sl x.v 3 1 3 (ints [0, 2, 3]) x.A ∧ e = .returned (.tuple #[x.v, .int .i64 0]) ∧ St w [] w' x.A := by
  obtain ⟨A, B, hA, hB⟩ := dists sq_ok
  obtain ⟨p, hp⟩ := pred_of (fun k => ExtP sq sqn A B 0 (arcsAt sq.tl sq.arcs.toNat 0) k)
  have e : selL sq.n.toNat p = [0, 2, 3] := (selL_ext (n := 4) (m := 4) (q := extB sqn) (Nat.le_refl _) (fun k k0 k1 => Bool.eq_iff_iff.2 ((hp k).trans (ext_sq hA hB ⟨k0, k1⟩))) (fun k k0 k1 => by omega)).trans (by decide)
  have := extended_ok (tp := sq) (dn := sqn) (n := 0) hT hd sq_ok sqn_fit (by decide) hA hB hp
  rw [e] at this
  exact this
end
set_option maxHeartbeats 4000000 in
theorem awake26_ok (w : World) : Calls Try.prog 29 #[] w fun e w' => e = .returned (.bool true) ∧ Mod [] w w' := by
  refine Goal.enter (args := []) Try.func29 rfl Try.ntmps29 rfl (St.nil w) ?_
  repeat' (first
    | (refine Goal.loud (o := ⟨some 12, _, _, _, _, _⟩) rfl ?_; apply Loud.callN; exact rfl; exact rfl; exact rfl; exact rfl; exact T.bod_57; exact (fun w' H => square26_ok w'); rintro ⟨v, A, bq⟩ hS; dsimp only at hS ⊢; obtain ⟨av, cv, rfl⟩ := hS.shape)
    | (refine Goal.loud (o := ⟨some 18, _, _, _, _, _⟩) rfl ?_; apply Loud.callN; exact rfl; exact rfl; exact rfl; exact rfl; exact T.bod_33; exact (fun w' H => sq26_p (sqT H hS (fun p hp => by simp [hp])) (rdb H (l := sqn) (b := bq) (E := 4) (by simp) rfl)); rintro ⟨vp, Ap⟩ hSp; dsimp only at hSp ⊢; obtain ⟨ap, cp, rfl⟩ := hSp.shape)
    | (refine Goal.loud (o := ⟨some 24, _, _, _, _, _⟩) rfl ?_; apply Loud.callN; exact rfl; exact rfl; exact rfl; exact rfl; exact T.bod_41; exact (fun w' H => sq26_x (sqT H hS (fun p hp => by simp [hp])) (rdb H (l := sqn) (b := bq) (E := 4) (by simp) rfl)); rintro ⟨vx, Ax⟩ hSx; dsimp only at hSx ⊢; obtain ⟨ax, cx, rfl⟩ := hSx.shape)
    | (refine Goal.loud (o := ⟨some 30, _, _, _, _, _⟩) rfl ?_; apply Loud.callN; exact rfl; exact rfl; exact rfl; exact rfl; exact T.bod_39; exact (fun w' H => sq26_q (sqT H hS (fun p hp => by simp [hp])) (rdb H (l := sqn) (b := bq) (E := 4) (by simp) rfl)); rintro ⟨vq, Aq⟩ hSq; dsimp only at hSq ⊢; obtain ⟨aq, cq, rfl⟩ := hSq.shape)
    | (refine Goal.loud (o := ⟨some 36, _, _, _, _, _⟩) rfl ?_; apply Loud.callN; exact rfl; exact rfl; exact rfl; exact rfl; exact T.bod_31; exact (fun w' H => sq26_a (sqT H hS (fun p hp => by simp [hp])) (rdb H (l := sqn) (b := bq) (E := 4) (by simp) rfl)); rintro ⟨va, Aa⟩ hSa; dsimp only at hSa ⊢; obtain ⟨aa, ca, rfl⟩ := hSa.shape)
    | (refine Goal.loud (o := ⟨some 56, _, _, _, _, _⟩) rfl ?_; refine Loud.call0 (fst := []) (cap := #[]) (vs := [_, _]) (args := [_, _]) (v := .bool true) rfl rfl rfl rfl T.bod_20 (fun w' H => same_yes (l := [0, 3]) (rds H hSp (fun p hp => by simp [hp])) (rdm H (l := [0, 3]) (b := b55) (E := 3) (by simp [ints])) (by decide)) ?_)
    | (refine Goal.loud (o := ⟨some 61, _, _, _, _, _⟩) rfl ?_; refine Loud.call0 (fst := []) (cap := #[]) (vs := [_, _]) (args := [_, _]) (v := .bool true) rfl rfl rfl rfl T.bod_20 (fun w' H => same_yes (l := [0, 2, 3]) (rds H hSx (fun p hp => by simp [hp])) (rdm H (l := [0, 2, 3]) (b := b60) (E := 3) (by simp [ints])) (by decide)) ?_)
    | (refine Goal.loud (o := ⟨some 66, _, _, _, _, _⟩) rfl ?_; refine Loud.call0 (fst := []) (cap := #[]) (vs := [_, _]) (args := [_, _]) (v := .bool true) rfl rfl rfl rfl T.bod_20 (fun w' H => same_yes (l := [1, 2]) (rds H hSq (fun p hp => by simp [hp])) (rdm H (l := [1, 2]) (b := b65) (E := 3) (by simp [ints])) (by decide)) ?_)
    | (refine Goal.loud (o := ⟨some 71, _, _, _, _, _⟩) rfl ?_; refine Loud.call0 (fst := []) (cap := #[]) (vs := [_, _]) (args := [_, _]) (v := .bool true) rfl rfl rfl rfl T.bod_20 (fun w' H => same_yes (l := [1, 2]) (rds H hSa (fun p hp => by simp [hp])) (rdm H (l := [1, 2]) (b := b70) (E := 3) (by simp [ints])) (by decide)) ?_)
    | (refine Goal.loud (o := ⟨some 1, _, _, _, _, _⟩) rfl ?_; refine Loud.allocA rfl T.inf_25 (fun b1 => ?_))
    | (refine Goal.loud (o := ⟨some 55, _, _, _, _, _⟩) rfl ?_; refine Loud.buildSlice (cs := [_, _]) rfl T.slc_30 T.inf_3 rfl rfl (by decide) rfl rfl rfl (fun b55 => ?_))
    | (refine Goal.loud (o := ⟨some 60, _, _, _, _, _⟩) rfl ?_; refine Loud.buildSlice (cs := [_, _, _]) rfl T.slc_30 T.inf_3 rfl rfl (by decide) rfl rfl rfl (fun b60 => ?_))
    | (refine Goal.loud (o := ⟨some 65, _, _, _, _, _⟩) rfl ?_; refine Loud.buildSlice (cs := [_, _]) rfl T.slc_30 T.inf_3 rfl rfl (by decide) rfl rfl rfl (fun b65 => ?_))
    | (refine Goal.loud (o := ⟨some 70, _, _, _, _, _⟩) rfl ?_; refine Loud.buildSlice (cs := [_, _]) rfl T.slc_30 T.inf_3 rfl rfl (by decide) rfl rfl rfl (fun b70 => ?_))
    | (apply G.move; exact rfl; exact rfl)
    | (apply G.assign; exact rfl; exact rfl)
    | refine Goal.seq (fun _ _ => ?_)
    | refine Goal.next (by assumption) ?_
    | refine Goal.lnil ?_
    | refine Goal.region ?_
    | refine Goal.skip ?_
    | refine Goal.block ?_
    | refine Goal.exit ?_
    | refine Goal.ret ?_
    | refine Goal.then_exit ?_
    | refine Goal.then_ret ?_
    | refine Goal.inBlock_exit ?_
    | refine Goal.inBlock_normal ?_
    | refine Goal.inBlock_ret ?_
    | refine Goal.inBlock_other rfl ?_
    | (apply Goal.condT; exact rfl)
    | (apply Goal.condF; exact rfl)
    | (refine Goal.condD rfl (fun hc => ?_) (fun hc => ?_) <;> first | (exfalso; omega) | contradiction | skip)
    | refine Goal.condB rfl (fun hc => ?_) (fun hc => ?_)
    | refine Goal.guardT rfl rfl ?_
    | refine Goal.guardF rfl rfl rfl rfl ?_
    | refine Goal.guardU rfl rfl rfl ?_
    | (refine Goal.guardD rfl rfl (fun hc => ?_) (fun hc => ?_) <;> first | (exfalso; omega) | contradiction | skip)
    | refine Goal.guardB rfl rfl (fun hc => ?_) (fun hc => ?_)
    | (apply G.load; exact rfl; exact rfl; first | exact ag3 T.agg_25 0 rfl rfl rfl rfl | exact ag3 T.agg_25 1 rfl rfl rfl rfl | exact ag3 T.agg_25 2 rfl rfl rfl rfl | exact ag3 T.agg_25 3 rfl rfl rfl rfl | exact ag3 T.agg_25 4 rfl rfl rfl rfl)
    | (apply G.pickT; exact rfl; exact rfl; exact rfl)
    | (apply G.pickF; exact rfl; exact rfl; exact rfl)
    | (apply G.eql; exact rfl; exact rfl; exact rfl)
    | (apply G.extract; exact rfl; exact rfl; exact rfl)
    | (refine Goal.loud rfl ?_; refine Loud.store0 rfl rfl T.sz_25 rfl rfl rfl (by first | exact Nat.le_of_ble_eq_true rfl | exact Nat.le_refl _ | decide | (simp; omega)) rfl ?_)
    | (refine Goal.loud rfl ?_; refine Loud.store1 rfl rfl T.sz_25 rfl rfl rfl (by first | exact Nat.le_of_ble_eq_true rfl | exact Nat.le_refl _ | decide | (simp; omega)) rfl ?_)
    | (refine Goal.loud rfl ?_; refine Loud.store2 rfl rfl T.sz_25 rfl rfl rfl (by first | exact Nat.le_of_ble_eq_true rfl | exact Nat.le_refl _ | decide | (simp; omega)) rfl ?_)
    | (refine Goal.loud rfl ?_; refine Loud.store3 rfl rfl T.sz_25 rfl rfl rfl (by first | exact Nat.le_of_ble_eq_true rfl | exact Nat.le_refl _ | decide | (simp; omega)) rfl ?_)
    | (refine Goal.loud rfl ?_; refine Loud.store4 rfl rfl T.sz_25 rfl rfl rfl (by first | exact Nat.le_of_ble_eq_true rfl | exact Nat.le_refl _ | decide | (simp; omega)) rfl ?_))
  refine Goal.done (vs := [_]) (by first | exact .inl rfl | exact .inr rfl) Try.results29 ⟨rfl, trivial⟩ rfl (fun w' H => ⟨rfl, H.mod⟩)
end Go.Proofs.Ytldoplehchngfaa
