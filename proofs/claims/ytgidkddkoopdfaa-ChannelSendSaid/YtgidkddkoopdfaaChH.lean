/- A channel: New; the example of the document; nil. -/
import Derived.Test.YtgidkddkoopdfaaChG
namespace Go.Proofs.Ytgidkddkoopdfaa
open Go.Wf
set_option linter.unusedVariables false
def okC (d r m : Int) (fs : List (Int × Int)) : Prop := (1 ≤ d ∧ d ≤ 65536) ∧ (1 ≤ r ∧ r ≤ 1048576) ∧ (0 ≤ m ∧ m ≤ 65536) ∧ ∀ f ∈ fs, fateOk f
def zero (d r m : Int) (fs : List (Int × Int)) : Cs := ⟨d, r, m, fs, 0, 0, []⟩
theorem zero_ok {d r m : Int} {fs : List (Int × Int)} (h : okC d r m fs) : CsOk (zero d r m fs) := ⟨h.1, h.2.1, h.2.2.1, h.2.2.2, by unfold zero; dsimp only; omega, by unfold zero; simp, fun d hd => (by unfold zero at hd; cases hd), by unfold zero; dsimp only; omega⟩
structure KX where
  (bc : Nat) (A : List Blk)
section
variable {d r m : Int} {fs : List (Int × Int)} {v : Value} {w : World}
set_option maxHeartbeats 2000000 in
theorem new_ok (h : okC d r m fs) (hr : RdE w v 2 (fs.map pr)) (hl : fs.length ≤ 1048576) : Calls Try.prog 11 #[.int .i64 d, .int .i64 r, .int .i64 m, v] w
    fun e w' => ∃ x : KX, ChM x.bc (zero d r m fs) x.A ∧ e = .returned (.tuple #[.pointer (some ⟨x.bc, 0, none⟩), .int .i64 0]) ∧ St w [] w' x.A := by
  obtain ⟨h1, h2, h3, h4⟩ := h
  obtain ⟨ad, cap, rfl, hr1⟩ := id hr
  simp only [List.length_map] at hr ⊢
  refine Goal.enter (args := [.int .i64 d, .int .i64 r, .int .i64 m, .slice ad fs.length cap]) Try.func11 rfl Try.ntmps11 rfl (St.nil w) ?_
  repeat' (first
    | (refine Goal.loud (o := ⟨some 11, _, _, _, _, _⟩) rfl ?_; refine Loud.allocA rfl T.inf_50 (fun b11 => ?_))
    | (refine Goal.loud (o := ⟨some 50, _, _, _, _, _⟩) rfl ?_; first | refine Loud.boxA rfl rfl (fun b50 => ?_) | refine Loud.box1 rfl rfl rfl (fun b50 => ?_))
    | (apply G.move; exact rfl; exact rfl)
    | (apply G.assign; exact rfl; exact rfl)
    | refine Goal.seq (fun _ _ => ?_)
    | refine Goal.next (by assumption) ?_
    | refine Goal.lnil ?_
    | refine Goal.region ?_
    | refine Goal.skip ?_
    | refine Goal.block ?_
    | refine Goal.exit ?_
    | refine Goal.ret ?_
    | refine Goal.then_exit ?_
    | refine Goal.then_ret ?_
    | refine Goal.inBlock_exit ?_
    | refine Goal.inBlock_normal ?_
    | refine Goal.inBlock_ret ?_
    | refine Goal.inBlock_other rfl ?_
    | (apply Goal.condT; exact rfl)
    | (apply Goal.condF; exact rfl)
    | (refine Goal.condD rfl (fun hc => ?_) (fun hc => ?_) <;> first | (exfalso; omega) | contradiction | skip)
    | refine Goal.condB rfl (fun hc => ?_) (fun hc => ?_)
    | refine Goal.guardT rfl rfl ?_
    | refine Goal.guardF rfl rfl rfl rfl ?_
    | refine Goal.guardU rfl rfl rfl ?_
    | (refine Goal.guardD rfl rfl (fun hc => ?_) (fun hc => ?_) <;> first | (exfalso; omega) | contradiction | skip)
    | refine Goal.guardB rfl rfl (fun hc => ?_) (fun hc => ?_)
    | (apply G.load; exact rfl; exact rfl; first | exact LoadOK.agg (vs := [_, _]) T.agg_50 0 rfl rfl ⟨rfl, rfl, trivial⟩ | exact LoadOK.agg (vs := [_, _]) T.agg_50 1 rfl rfl ⟨rfl, rfl, trivial⟩ | exact LoadOK.agg (vs := [_, _]) T.agg_50 2 rfl rfl ⟨rfl, rfl, trivial⟩ | exact LoadOK.agg (vs := [_, _]) T.agg_50 3 rfl rfl ⟨rfl, rfl, trivial⟩ | exact LoadOK.agg (vs := [_, _]) T.agg_50 4 rfl rfl ⟨rfl, rfl, trivial⟩ | exact LoadOK.agg (vs := [_, _]) T.agg_50 5 rfl rfl ⟨rfl, rfl, trivial⟩ | exact LoadOK.agg (vs := [_, _]) T.agg_50 6 rfl rfl ⟨rfl, rfl, trivial⟩ | exact LoadOK.agg (vs := [_, _]) T.agg_50 7 rfl rfl ⟨rfl, rfl, trivial⟩)
    | (apply G.pickT; exact rfl; exact rfl; exact rfl)
    | (apply G.pickF; exact rfl; exact rfl; exact rfl)
    | (apply G.lss; exact rfl; exact rfl; exact rfl)
    | (apply G.gtr; exact rfl; exact rfl; exact rfl)
    | (apply G.add; exact rfl; exact rfl; exact rfl; first | exact IntWalk.i64_in _ (by omega) | exact IntWalk.u8_in _ (by omega) | exact IntWalk.u16_in _ (by omega) | exact IntWalk.u32_in _ (by omega) | exact IntWalk.u64_in _ (by omega))
    | (apply G.notT; exact rfl; exact rfl)
    | (apply G.notF; exact rfl; exact rfl)
    | (refine G.notD rfl rfl ?_)
    | (apply G.notB; exact rfl; exact rfl)
    | (apply G.build (cs := [_, _, _, _, _, _, _]); exact rfl; exact T.lay_55; exact rfl; exact rfl)
    | (apply G.len; exact rfl; exact rfl; exact T.slc_37)
    | (refine G.indexAddr rfl T.slc_37 T.sz_50 rfl rfl _ rfl (by omega) ?_)
    | (refine G.indexAddr rfl T.slc_37 T.sz_50 rfl rfl _ (Int.toNat_of_nonneg (by omega)).symm (by omega) ?_)
    | (refine Goal.loud rfl ?_; refine Loud.store0 rfl rfl T.sz_50 rfl rfl rfl (by first | exact Nat.le_of_ble_eq_true rfl | exact Nat.le_refl _ | decide | (simp; omega)) rfl ?_)
    | (refine Goal.loud rfl ?_; refine Loud.store1 rfl rfl T.sz_50 rfl rfl rfl (by first | exact Nat.le_of_ble_eq_true rfl | exact Nat.le_refl _ | decide | (simp; omega)) rfl ?_)
    | (refine Goal.loud rfl ?_; refine Loud.store2 rfl rfl T.sz_50 rfl rfl rfl (by first | exact Nat.le_of_ble_eq_true rfl | exact Nat.le_refl _ | decide | (simp; omega)) rfl ?_)
    | (refine Goal.loud rfl ?_; refine Loud.store3 rfl rfl T.sz_50 rfl rfl rfl (by first | exact Nat.le_of_ble_eq_true rfl | exact Nat.le_refl _ | decide | (simp; omega)) rfl ?_)
    | (refine Goal.loud rfl ?_; refine Loud.store4 rfl rfl T.sz_50 rfl rfl rfl (by first | exact Nat.le_of_ble_eq_true rfl | exact Nat.le_refl _ | decide | (simp; omega)) rfl ?_)
    | (refine Goal.loud rfl ?_; refine Loud.store5 rfl rfl T.sz_50 rfl rfl rfl (by first | exact Nat.le_of_ble_eq_true rfl | exact Nat.le_refl _ | decide | (simp; omega)) rfl ?_)
    | (refine Goal.loud rfl ?_; refine Loud.store6 rfl rfl T.sz_50 rfl rfl rfl (by first | exact Nat.le_of_ble_eq_true rfl | exact Nat.le_refl _ | decide | (simp; omega)) rfl ?_)
    | (refine Goal.loud rfl ?_; refine Loud.store7 rfl rfl T.sz_50 rfl rfl rfl (by first | exact Nat.le_of_ble_eq_true rfl | exact Nat.le_refl _ | decide | (simp; omega)) rfl ?_))
  refine Goal.loopP (X := Int) (fun x => [(0, .int .i64 d), (1, .int .i64 r), (2, .int .i64 m), (3, .slice ad fs.length cap), (34, .slice ad fs.length cap), (35, .int .i64 fs.length), (36, .int .i64 x)]) (fun _ => [])
    (fun x => 0 ≤ x ∧ x ≤ fs.length) (fun x => (fs.length - x).toNat) 0 ⟨rfl, rfl, rfl, rfl, rfl, rfl, rfl, trivial⟩ (fun _ h => h) (by omega) ?_
  intro i hi
  by_cases hlt : i < fs.length
  · obtain ⟨b, o, rfl, hk⟩ := rd_els hr (by omega)
    have hk2 := hk i hi.1 hlt
    have hok := h4 _ (el_mem ⟨hi.1, hlt⟩)
    generalize el fs i = fa at hk2 hok
    obtain ⟨a1, a2⟩ := fa
    repeat' (first
      | (refine Goal.loud (o := ⟨some 41, _, _, _, _, _⟩) rfl ?_; apply Loud.call0; exact rfl; exact rfl; exact rfl; exact rfl; exact T.bod_21; exact (fun w H => by have := valid_any a1 a2 w; rwa [decide_eq_true hok] at this))
      | (refine Goal.loud (o := ⟨some 11, _, _, _, _, _⟩) rfl ?_; refine Loud.allocA rfl T.inf_50 (fun b11 => ?_))
      | (refine Goal.loud (o := ⟨some 50, _, _, _, _, _⟩) rfl ?_; first | refine Loud.boxA rfl rfl (fun b50 => ?_) | refine Loud.box1 rfl rfl rfl (fun b50 => ?_))
      | (apply G.move; exact rfl; exact rfl)
      | (apply G.assign; exact rfl; exact rfl)
      | refine Goal.seq (fun _ _ => ?_)
      | refine Goal.next (by assumption) ?_
      | refine Goal.lnil ?_
      | refine Goal.region ?_
      | refine Goal.skip ?_
      | refine Goal.block ?_
      | refine Goal.exit ?_
      | refine Goal.ret ?_
      | refine Goal.then_exit ?_
      | refine Goal.then_ret ?_
      | refine Goal.inBlock_exit ?_
      | refine Goal.inBlock_normal ?_
      | refine Goal.inBlock_ret ?_
      | refine Goal.inBlock_other rfl ?_
      | (apply Goal.condT; exact rfl)
      | (apply Goal.condF; exact rfl)
      | (refine Goal.condD rfl (fun hc => ?_) (fun hc => ?_) <;> first | (exfalso; omega) | contradiction | skip)
      | refine Goal.condB rfl (fun hc => ?_) (fun hc => ?_)
      | refine Goal.guardT rfl rfl ?_
      | refine Goal.guardF rfl rfl rfl rfl ?_
      | refine Goal.guardU rfl rfl rfl ?_
      | (refine Goal.guardD rfl rfl (fun hc => ?_) (fun hc => ?_) <;> first | (exfalso; omega) | contradiction | skip)
      | refine Goal.guardB rfl rfl (fun hc => ?_) (fun hc => ?_)
      | (apply G.load; exact rfl; exact rfl; first | exact LoadOK.oldAgg (vs := [.int .i64 a1, .int .i64 a2]) T.agg_50 rfl hk2 (by simp) | exact LoadOK.agg (vs := [_, _]) T.agg_50 0 rfl rfl ⟨rfl, rfl, trivial⟩ | exact LoadOK.agg (vs := [_, _]) T.agg_50 1 rfl rfl ⟨rfl, rfl, trivial⟩ | exact LoadOK.agg (vs := [_, _]) T.agg_50 2 rfl rfl ⟨rfl, rfl, trivial⟩ | exact LoadOK.agg (vs := [_, _]) T.agg_50 3 rfl rfl ⟨rfl, rfl, trivial⟩ | exact LoadOK.agg (vs := [_, _]) T.agg_50 4 rfl rfl ⟨rfl, rfl, trivial⟩ | exact LoadOK.agg (vs := [_, _]) T.agg_50 5 rfl rfl ⟨rfl, rfl, trivial⟩ | exact LoadOK.agg (vs := [_, _]) T.agg_50 6 rfl rfl ⟨rfl, rfl, trivial⟩ | exact LoadOK.agg (vs := [_, _]) T.agg_50 7 rfl rfl ⟨rfl, rfl, trivial⟩)
      | (apply G.pickT; exact rfl; exact rfl; exact rfl)
      | (apply G.pickF; exact rfl; exact rfl; exact rfl)
      | (apply G.lss; exact rfl; exact rfl; exact rfl)
      | (apply G.gtr; exact rfl; exact rfl; exact rfl)
      | (apply G.add; exact rfl; exact rfl; exact rfl; first | exact IntWalk.i64_in _ (by omega) | exact IntWalk.u8_in _ (by omega) | exact IntWalk.u16_in _ (by omega) | exact IntWalk.u32_in _ (by omega) | exact IntWalk.u64_in _ (by omega))
      | (apply G.notT; exact rfl; exact rfl)
      | (apply G.notF; exact rfl; exact rfl)
      | (refine G.notD rfl rfl ?_)
      | (apply G.notB; exact rfl; exact rfl)
      | (apply G.build (cs := [_, _, _, _, _, _, _]); exact rfl; exact T.lay_55; exact rfl; exact rfl)
      | (apply G.len; exact rfl; exact rfl; exact T.slc_37)
      | (refine G.indexAddr rfl T.slc_37 T.sz_50 rfl rfl _ rfl (by omega) ?_)
      | (refine G.indexAddr rfl T.slc_37 T.sz_50 rfl rfl _ (Int.toNat_of_nonneg (by omega)).symm (by omega) ?_)
      | (refine Goal.loud rfl ?_; refine Loud.store0 rfl rfl T.sz_50 rfl rfl rfl (by first | exact Nat.le_of_ble_eq_true rfl | exact Nat.le_refl _ | decide | (simp; omega)) rfl ?_)
      | (refine Goal.loud rfl ?_; refine Loud.store1 rfl rfl T.sz_50 rfl rfl rfl (by first | exact Nat.le_of_ble_eq_true rfl | exact Nat.le_refl _ | decide | (simp; omega)) rfl ?_)
      | (refine Goal.loud rfl ?_; refine Loud.store2 rfl rfl T.sz_50 rfl rfl rfl (by first | exact Nat.le_of_ble_eq_true rfl | exact Nat.le_refl _ | decide | (simp; omega)) rfl ?_)
      | (refine Goal.loud rfl ?_; refine Loud.store3 rfl rfl T.sz_50 rfl rfl rfl (by first | exact Nat.le_of_ble_eq_true rfl | exact Nat.le_refl _ | decide | (simp; omega)) rfl ?_)
      | (refine Goal.loud rfl ?_; refine Loud.store4 rfl rfl T.sz_50 rfl rfl rfl (by first | exact Nat.le_of_ble_eq_true rfl | exact Nat.le_refl _ | decide | (simp; omega)) rfl ?_)
      | (refine Goal.loud rfl ?_; refine Loud.store5 rfl rfl T.sz_50 rfl rfl rfl (by first | exact Nat.le_of_ble_eq_true rfl | exact Nat.le_refl _ | decide | (simp; omega)) rfl ?_)
      | (refine Goal.loud rfl ?_; refine Loud.store6 rfl rfl T.sz_50 rfl rfl rfl (by first | exact Nat.le_of_ble_eq_true rfl | exact Nat.le_refl _ | decide | (simp; omega)) rfl ?_)
      | (refine Goal.loud rfl ?_; refine Loud.store7 rfl rfl T.sz_50 rfl rfl rfl (by first | exact Nat.le_of_ble_eq_true rfl | exact Nat.le_refl _ | decide | (simp; omega)) rfl ?_))
    refine Goal.again (i + 1) (by omega) (by omega) ⟨rfl, rfl, rfl, rfl, rfl, rfl, rfl, trivial⟩ (fun _ h => h.sub (List.nil_sublist _))
  · skip
    repeat' (first
      | (refine Goal.loud (o := ⟨some 48, _, _, _, _, _⟩) rfl ?_; apply Loud.callN; exact rfl; exact rfl; exact rfl; exact rfl; exact T.bod_22; exact (fun w H => clone_ok (hr.keep H.mod) hl); rintro ⟨vS, AS⟩ hS; dsimp only at hS ⊢; obtain ⟨ad2, cap2, rfl⟩ := hS.shape)
      | (refine Goal.loud (o := ⟨some 11, _, _, _, _, _⟩) rfl ?_; refine Loud.allocA rfl T.inf_50 (fun b11 => ?_))
      | (refine Goal.loud (o := ⟨some 50, _, _, _, _, _⟩) rfl ?_; first | refine Loud.boxA rfl rfl (fun b50 => ?_) | refine Loud.box1 rfl rfl rfl (fun b50 => ?_))
      | (apply G.move; exact rfl; exact rfl)
      | (apply G.assign; exact rfl; exact rfl)
      | refine Goal.seq (fun _ _ => ?_)
      | refine Goal.next (by assumption) ?_
      | refine Goal.lnil ?_
      | refine Goal.region ?_
      | refine Goal.skip ?_
      | refine Goal.block ?_
      | refine Goal.exit ?_
      | refine Goal.ret ?_
      | refine Goal.then_exit ?_
      | refine Goal.then_ret ?_
      | refine Goal.inBlock_exit ?_
      | refine Goal.inBlock_normal ?_
      | refine Goal.inBlock_ret ?_
      | refine Goal.inBlock_other rfl ?_
      | (apply Goal.condT; exact rfl)
      | (apply Goal.condF; exact rfl)
      | (refine Goal.condD rfl (fun hc => ?_) (fun hc => ?_) <;> first | (exfalso; omega) | contradiction | skip)
      | refine Goal.condB rfl (fun hc => ?_) (fun hc => ?_)
      | refine Goal.guardT rfl rfl ?_
      | refine Goal.guardF rfl rfl rfl rfl ?_
      | refine Goal.guardU rfl rfl rfl ?_
      | (refine Goal.guardD rfl rfl (fun hc => ?_) (fun hc => ?_) <;> first | (exfalso; omega) | contradiction | skip)
      | refine Goal.guardB rfl rfl (fun hc => ?_) (fun hc => ?_)
      | (apply G.load; exact rfl; exact rfl; first | exact LoadOK.agg (vs := [_, _]) T.agg_50 0 rfl rfl ⟨rfl, rfl, trivial⟩ | exact LoadOK.agg (vs := [_, _]) T.agg_50 1 rfl rfl ⟨rfl, rfl, trivial⟩ | exact LoadOK.agg (vs := [_, _]) T.agg_50 2 rfl rfl ⟨rfl, rfl, trivial⟩ | exact LoadOK.agg (vs := [_, _]) T.agg_50 3 rfl rfl ⟨rfl, rfl, trivial⟩ | exact LoadOK.agg (vs := [_, _]) T.agg_50 4 rfl rfl ⟨rfl, rfl, trivial⟩ | exact LoadOK.agg (vs := [_, _]) T.agg_50 5 rfl rfl ⟨rfl, rfl, trivial⟩ | exact LoadOK.agg (vs := [_, _]) T.agg_50 6 rfl rfl ⟨rfl, rfl, trivial⟩ | exact LoadOK.agg (vs := [_, _]) T.agg_50 7 rfl rfl ⟨rfl, rfl, trivial⟩)
      | (apply G.pickT; exact rfl; exact rfl; exact rfl)
      | (apply G.pickF; exact rfl; exact rfl; exact rfl)
      | (apply G.lss; exact rfl; exact rfl; exact rfl)
      | (apply G.gtr; exact rfl; exact rfl; exact rfl)
      | (apply G.add; exact rfl; exact rfl; exact rfl; first | exact IntWalk.i64_in _ (by omega) | exact IntWalk.u8_in _ (by omega) | exact IntWalk.u16_in _ (by omega) | exact IntWalk.u32_in _ (by omega) | exact IntWalk.u64_in _ (by omega))
      | (apply G.notT; exact rfl; exact rfl)
      | (apply G.notF; exact rfl; exact rfl)
      | (refine G.notD rfl rfl ?_)
      | (apply G.notB; exact rfl; exact rfl)
      | (apply G.build (cs := [_, _, _, _, _, _, _]); exact rfl; exact T.lay_55; exact rfl; exact rfl)
      | (apply G.len; exact rfl; exact rfl; exact T.slc_37)
      | (refine G.indexAddr rfl T.slc_37 T.sz_50 rfl rfl _ rfl (by omega) ?_)
      | (refine G.indexAddr rfl T.slc_37 T.sz_50 rfl rfl _ (Int.toNat_of_nonneg (by omega)).symm (by omega) ?_)
      | (refine Goal.loud rfl ?_; refine Loud.store0 rfl rfl T.sz_50 rfl rfl rfl (by first | exact Nat.le_of_ble_eq_true rfl | exact Nat.le_refl _ | decide | (simp; omega)) rfl ?_)
      | (refine Goal.loud rfl ?_; refine Loud.store1 rfl rfl T.sz_50 rfl rfl rfl (by first | exact Nat.le_of_ble_eq_true rfl | exact Nat.le_refl _ | decide | (simp; omega)) rfl ?_)
      | (refine Goal.loud rfl ?_; refine Loud.store2 rfl rfl T.sz_50 rfl rfl rfl (by first | exact Nat.le_of_ble_eq_true rfl | exact Nat.le_refl _ | decide | (simp; omega)) rfl ?_)
      | (refine Goal.loud rfl ?_; refine Loud.store3 rfl rfl T.sz_50 rfl rfl rfl (by first | exact Nat.le_of_ble_eq_true rfl | exact Nat.le_refl _ | decide | (simp; omega)) rfl ?_)
      | (refine Goal.loud rfl ?_; refine Loud.store4 rfl rfl T.sz_50 rfl rfl rfl (by first | exact Nat.le_of_ble_eq_true rfl | exact Nat.le_refl _ | decide | (simp; omega)) rfl ?_)
      | (refine Goal.loud rfl ?_; refine Loud.store5 rfl rfl T.sz_50 rfl rfl rfl (by first | exact Nat.le_of_ble_eq_true rfl | exact Nat.le_refl _ | decide | (simp; omega)) rfl ?_)
      | (refine Goal.loud rfl ?_; refine Loud.store6 rfl rfl T.sz_50 rfl rfl rfl (by first | exact Nat.le_of_ble_eq_true rfl | exact Nat.le_refl _ | decide | (simp; omega)) rfl ?_)
      | (refine Goal.loud rfl ?_; refine Loud.store7 rfl rfl T.sz_50 rfl rfl rfl (by first | exact Nat.le_of_ble_eq_true rfl | exact Nat.le_refl _ | decide | (simp; omega)) rfl ?_))
    refine Goal.done (vs := [_, _]) (by first | exact .inl rfl | exact .inr rfl) Try.results11 ⟨rfl, rfl, trivial⟩ rfl (fun w' H => ⟨⟨_, _⟩, ⟨[], _, _, AS, [], by simp [zero], hS, Sl.nil _ 2, Rep.zero⟩, rfl, H⟩)
set_option maxHeartbeats 2000000 in
theorem new_bad (h : ¬ okC d r m fs) (hr : RdE w v 2 (fs.map pr)) (hl : fs.length ≤ 1048576) : Calls Try.prog 11 #[.int .i64 d, .int .i64 r, .int .i64 m, v] w
    fun e w' => e = .returned (.tuple #[.pointer none, .int .i64 1]) ∧ Mod [] w w' := by
  obtain ⟨ad, cap, rfl, hr1⟩ := id hr
  simp only [List.length_map] at hr ⊢
  by_cases hp : (1 ≤ d ∧ d ≤ 65536) ∧ (1 ≤ r ∧ r ≤ 1048576) ∧ (0 ≤ m ∧ m ≤ 65536)
  · refine Goal.enter (args := [.int .i64 d, .int .i64 r, .int .i64 m, .slice ad fs.length cap]) Try.func11 rfl Try.ntmps11 rfl (St.nil w) ?_
    repeat' (first
      | (refine Goal.loud (o := ⟨some 11, _, _, _, _, _⟩) rfl ?_; refine Loud.allocA rfl T.inf_50 (fun b11 => ?_))
      | (refine Goal.loud (o := ⟨some 50, _, _, _, _, _⟩) rfl ?_; first | refine Loud.boxA rfl rfl (fun b50 => ?_) | refine Loud.box1 rfl rfl rfl (fun b50 => ?_))
      | (apply G.move; exact rfl; exact rfl)
      | (apply G.assign; exact rfl; exact rfl)
      | refine Goal.seq (fun _ _ => ?_)
      | refine Goal.next (by assumption) ?_
      | refine Goal.lnil ?_
      | refine Goal.region ?_
      | refine Goal.skip ?_
      | refine Goal.block ?_
      | refine Goal.exit ?_
      | refine Goal.ret ?_
      | refine Goal.then_exit ?_
      | refine Goal.then_ret ?_
      | refine Goal.inBlock_exit ?_
      | refine Goal.inBlock_normal ?_
      | refine Goal.inBlock_ret ?_
      | refine Goal.inBlock_other rfl ?_
      | (apply Goal.condT; exact rfl)
      | (apply Goal.condF; exact rfl)
      | (refine Goal.condD rfl (fun hc => ?_) (fun hc => ?_) <;> first | (exfalso; omega) | contradiction | skip)
      | refine Goal.condB rfl (fun hc => ?_) (fun hc => ?_)
      | refine Goal.guardT rfl rfl ?_
      | refine Goal.guardF rfl rfl rfl rfl ?_
      | refine Goal.guardU rfl rfl rfl ?_
      | (refine Goal.guardD rfl rfl (fun hc => ?_) (fun hc => ?_) <;> first | (exfalso; omega) | contradiction | skip)
      | refine Goal.guardB rfl rfl (fun hc => ?_) (fun hc => ?_)
      | (apply G.load; exact rfl; exact rfl; first | exact LoadOK.agg (vs := [_, _]) T.agg_50 0 rfl rfl ⟨rfl, rfl, trivial⟩ | exact LoadOK.agg (vs := [_, _]) T.agg_50 1 rfl rfl ⟨rfl, rfl, trivial⟩ | exact LoadOK.agg (vs := [_, _]) T.agg_50 2 rfl rfl ⟨rfl, rfl, trivial⟩ | exact LoadOK.agg (vs := [_, _]) T.agg_50 3 rfl rfl ⟨rfl, rfl, trivial⟩ | exact LoadOK.agg (vs := [_, _]) T.agg_50 4 rfl rfl ⟨rfl, rfl, trivial⟩ | exact LoadOK.agg (vs := [_, _]) T.agg_50 5 rfl rfl ⟨rfl, rfl, trivial⟩ | exact LoadOK.agg (vs := [_, _]) T.agg_50 6 rfl rfl ⟨rfl, rfl, trivial⟩ | exact LoadOK.agg (vs := [_, _]) T.agg_50 7 rfl rfl ⟨rfl, rfl, trivial⟩)
      | (apply G.pickT; exact rfl; exact rfl; exact rfl)
      | (apply G.pickF; exact rfl; exact rfl; exact rfl)
      | (apply G.lss; exact rfl; exact rfl; exact rfl)
      | (apply G.gtr; exact rfl; exact rfl; exact rfl)
      | (apply G.add; exact rfl; exact rfl; exact rfl; first | exact IntWalk.i64_in _ (by omega) | exact IntWalk.u8_in _ (by omega) | exact IntWalk.u16_in _ (by omega) | exact IntWalk.u32_in _ (by omega) | exact IntWalk.u64_in _ (by omega))
      | (apply G.notT; exact rfl; exact rfl)
      | (apply G.notF; exact rfl; exact rfl)
      | (refine G.notD rfl rfl ?_)
      | (apply G.notB; exact rfl; exact rfl)
      | (apply G.build (cs := [_, _, _, _, _, _, _]); exact rfl; exact T.lay_55; exact rfl; exact rfl)
      | (apply G.len; exact rfl; exact rfl; exact T.slc_37)
      | (refine G.indexAddr rfl T.slc_37 T.sz_50 rfl rfl _ rfl (by omega) ?_)
      | (refine G.indexAddr rfl T.slc_37 T.sz_50 rfl rfl _ (Int.toNat_of_nonneg (by omega)).symm (by omega) ?_)
      | (refine Goal.loud rfl ?_; refine Loud.store0 rfl rfl T.sz_50 rfl rfl rfl (by first | exact Nat.le_of_ble_eq_true rfl | exact Nat.le_refl _ | decide | (simp; omega)) rfl ?_)
      | (refine Goal.loud rfl ?_; refine Loud.store1 rfl rfl T.sz_50 rfl rfl rfl (by first | exact Nat.le_of_ble_eq_true rfl | exact Nat.le_refl _ | decide | (simp; omega)) rfl ?_)
      | (refine Goal.loud rfl ?_; refine Loud.store2 rfl rfl T.sz_50 rfl rfl rfl (by first | exact Nat.le_of_ble_eq_true rfl | exact Nat.le_refl _ | decide | (simp; omega)) rfl ?_)
      | (refine Goal.loud rfl ?_; refine Loud.store3 rfl rfl T.sz_50 rfl rfl rfl (by first | exact Nat.le_of_ble_eq_true rfl | exact Nat.le_refl _ | decide | (simp; omega)) rfl ?_)
      | (refine Goal.loud rfl ?_; refine Loud.store4 rfl rfl T.sz_50 rfl rfl rfl (by first | exact Nat.le_of_ble_eq_true rfl | exact Nat.le_refl _ | decide | (simp; omega)) rfl ?_)
      | (refine Goal.loud rfl ?_; refine Loud.store5 rfl rfl T.sz_50 rfl rfl rfl (by first | exact Nat.le_of_ble_eq_true rfl | exact Nat.le_refl _ | decide | (simp; omega)) rfl ?_)
      | (refine Goal.loud rfl ?_; refine Loud.store6 rfl rfl T.sz_50 rfl rfl rfl (by first | exact Nat.le_of_ble_eq_true rfl | exact Nat.le_refl _ | decide | (simp; omega)) rfl ?_)
      | (refine Goal.loud rfl ?_; refine Loud.store7 rfl rfl T.sz_50 rfl rfl rfl (by first | exact Nat.le_of_ble_eq_true rfl | exact Nat.le_refl _ | decide | (simp; omega)) rfl ?_))
    refine Goal.loopP (X := Int) (fun x => [(0, .int .i64 d), (1, .int .i64 r), (2, .int .i64 m), (3, .slice ad fs.length cap), (34, .slice ad fs.length cap), (35, .int .i64 fs.length), (36, .int .i64 x)]) (fun _ => [])
      (fun x => (0 ≤ x ∧ x ≤ fs.length) ∧ ∀ j : Int, 0 ≤ j → j < x → fateOk (el fs j)) (fun x => (fs.length - x).toNat) 0 ⟨rfl, rfl, rfl, rfl, rfl, rfl, rfl, trivial⟩ (fun _ h => h) ⟨by omega, fun j j0 j1 => by omega⟩ ?_
    rintro i ⟨hi, hg⟩
    by_cases hlt : i < fs.length
    · obtain ⟨b, o, rfl, hk⟩ := rd_els hr (by omega)
      have hk2 := hk i hi.1 hlt
      by_cases hok : fateOk (el fs i)
      · have hg2 : ∀ j : Int, 0 ≤ j → j < i + 1 → fateOk (el fs j) := fun j j0 j1 => by
          by_cases e : j = i
          · rw [e]; exact hok
          · exact hg j j0 (by omega)
        generalize el fs i = fa at hk2 hok
        obtain ⟨a1, a2⟩ := fa
        repeat' (first
          | (refine Goal.loud (o := ⟨some 41, _, _, _, _, _⟩) rfl ?_; apply Loud.call0; exact rfl; exact rfl; exact rfl; exact rfl; exact T.bod_21; exact (fun w H => by have := valid_any a1 a2 w; rwa [decide_eq_true hok] at this))
          | (refine Goal.loud (o := ⟨some 11, _, _, _, _, _⟩) rfl ?_; refine Loud.allocA rfl T.inf_50 (fun b11 => ?_))
          | (refine Goal.loud (o := ⟨some 50, _, _, _, _, _⟩) rfl ?_; first | refine Loud.boxA rfl rfl (fun b50 => ?_) | refine Loud.box1 rfl rfl rfl (fun b50 => ?_))
          | (apply G.move; exact rfl; exact rfl)
          | (apply G.assign; exact rfl; exact rfl)
          | refine Goal.seq (fun _ _ => ?_)
          | refine Goal.next (by assumption) ?_
          | refine Goal.lnil ?_
          | refine Goal.region ?_
          | refine Goal.skip ?_
          | refine Goal.block ?_
          | refine Goal.exit ?_
          | refine Goal.ret ?_
          | refine Goal.then_exit ?_
          | refine Goal.then_ret ?_
          | refine Goal.inBlock_exit ?_
          | refine Goal.inBlock_normal ?_
          | refine Goal.inBlock_ret ?_
          | refine Goal.inBlock_other rfl ?_
          | (apply Goal.condT; exact rfl)
          | (apply Goal.condF; exact rfl)
          | (refine Goal.condD rfl (fun hc => ?_) (fun hc => ?_) <;> first | (exfalso; omega) | contradiction | skip)
          | refine Goal.condB rfl (fun hc => ?_) (fun hc => ?_)
          | refine Goal.guardT rfl rfl ?_
          | refine Goal.guardF rfl rfl rfl rfl ?_
          | refine Goal.guardU rfl rfl rfl ?_
          | (refine Goal.guardD rfl rfl (fun hc => ?_) (fun hc => ?_) <;> first | (exfalso; omega) | contradiction | skip)
          | refine Goal.guardB rfl rfl (fun hc => ?_) (fun hc => ?_)
          | (apply G.load; exact rfl; exact rfl; first | exact LoadOK.oldAgg (vs := [.int .i64 a1, .int .i64 a2]) T.agg_50 rfl hk2 (by simp) | exact LoadOK.agg (vs := [_, _]) T.agg_50 0 rfl rfl ⟨rfl, rfl, trivial⟩ | exact LoadOK.agg (vs := [_, _]) T.agg_50 1 rfl rfl ⟨rfl, rfl, trivial⟩ | exact LoadOK.agg (vs := [_, _]) T.agg_50 2 rfl rfl ⟨rfl, rfl, trivial⟩ | exact LoadOK.agg (vs := [_, _]) T.agg_50 3 rfl rfl ⟨rfl, rfl, trivial⟩ | exact LoadOK.agg (vs := [_, _]) T.agg_50 4 rfl rfl ⟨rfl, rfl, trivial⟩ | exact LoadOK.agg (vs := [_, _]) T.agg_50 5 rfl rfl ⟨rfl, rfl, trivial⟩ | exact LoadOK.agg (vs := [_, _]) T.agg_50 6 rfl rfl ⟨rfl, rfl, trivial⟩ | exact LoadOK.agg (vs := [_, _]) T.agg_50 7 rfl rfl ⟨rfl, rfl, trivial⟩)
          | (apply G.pickT; exact rfl; exact rfl; exact rfl)
          | (apply G.pickF; exact rfl; exact rfl; exact rfl)
          | (apply G.lss; exact rfl; exact rfl; exact rfl)
          | (apply G.gtr; exact rfl; exact rfl; exact rfl)
          | (apply G.add; exact rfl; exact rfl; exact rfl; first | exact IntWalk.i64_in _ (by omega) | exact IntWalk.u8_in _ (by omega) | exact IntWalk.u16_in _ (by omega) | exact IntWalk.u32_in _ (by omega) | exact IntWalk.u64_in _ (by omega))
          | (apply G.notT; exact rfl; exact rfl)
          | (apply G.notF; exact rfl; exact rfl)
          | (refine G.notD rfl rfl ?_)
          | (apply G.notB; exact rfl; exact rfl)
          | (apply G.build (cs := [_, _, _, _, _, _, _]); exact rfl; exact T.lay_55; exact rfl; exact rfl)
          | (apply G.len; exact rfl; exact rfl; exact T.slc_37)
          | (refine G.indexAddr rfl T.slc_37 T.sz_50 rfl rfl _ rfl (by omega) ?_)
          | (refine G.indexAddr rfl T.slc_37 T.sz_50 rfl rfl _ (Int.toNat_of_nonneg (by omega)).symm (by omega) ?_)
          | (refine Goal.loud rfl ?_; refine Loud.store0 rfl rfl T.sz_50 rfl rfl rfl (by first | exact Nat.le_of_ble_eq_true rfl | exact Nat.le_refl _ | decide | (simp; omega)) rfl ?_)
          | (refine Goal.loud rfl ?_; refine Loud.store1 rfl rfl T.sz_50 rfl rfl rfl (by first | exact Nat.le_of_ble_eq_true rfl | exact Nat.le_refl _ | decide | (simp; omega)) rfl ?_)
          | (refine Goal.loud rfl ?_; refine Loud.store2 rfl rfl T.sz_50 rfl rfl rfl (by first | exact Nat.le_of_ble_eq_true rfl | exact Nat.le_refl _ | decide | (simp; omega)) rfl ?_)
          | (refine Goal.loud rfl ?_; refine Loud.store3 rfl rfl T.sz_50 rfl rfl rfl (by first | exact Nat.le_of_ble_eq_true rfl | exact Nat.le_refl _ | decide | (simp; omega)) rfl ?_)
          | (refine Goal.loud rfl ?_; refine Loud.store4 rfl rfl T.sz_50 rfl rfl rfl (by first | exact Nat.le_of_ble_eq_true rfl | exact Nat.le_refl _ | decide | (simp; omega)) rfl ?_)
          | (refine Goal.loud rfl ?_; refine Loud.store5 rfl rfl T.sz_50 rfl rfl rfl (by first | exact Nat.le_of_ble_eq_true rfl | exact Nat.le_refl _ | decide | (simp; omega)) rfl ?_)
          | (refine Goal.loud rfl ?_; refine Loud.store6 rfl rfl T.sz_50 rfl rfl rfl (by first | exact Nat.le_of_ble_eq_true rfl | exact Nat.le_refl _ | decide | (simp; omega)) rfl ?_)
          | (refine Goal.loud rfl ?_; refine Loud.store7 rfl rfl T.sz_50 rfl rfl rfl (by first | exact Nat.le_of_ble_eq_true rfl | exact Nat.le_refl _ | decide | (simp; omega)) rfl ?_))
        refine Goal.again (i + 1) ⟨by omega, hg2⟩ (by omega) ⟨rfl, rfl, rfl, rfl, rfl, rfl, rfl, trivial⟩ (fun _ h => h.sub (List.nil_sublist _))
      · generalize el fs i = fa at hk2 hok
        obtain ⟨a1, a2⟩ := fa
        repeat' (first
          | (refine Goal.loud (o := ⟨some 41, _, _, _, _, _⟩) rfl ?_; apply Loud.call0; exact rfl; exact rfl; exact rfl; exact rfl; exact T.bod_21; exact (fun w H => by have := valid_any a1 a2 w; rwa [decide_eq_false hok] at this))
          | (refine Goal.loud (o := ⟨some 11, _, _, _, _, _⟩) rfl ?_; refine Loud.allocA rfl T.inf_50 (fun b11 => ?_))
          | (refine Goal.loud (o := ⟨some 50, _, _, _, _, _⟩) rfl ?_; first | refine Loud.boxA rfl rfl (fun b50 => ?_) | refine Loud.box1 rfl rfl rfl (fun b50 => ?_))
          | (apply G.move; exact rfl; exact rfl)
          | (apply G.assign; exact rfl; exact rfl)
          | refine Goal.seq (fun _ _ => ?_)
          | refine Goal.next (by assumption) ?_
          | refine Goal.lnil ?_
          | refine Goal.region ?_
          | refine Goal.skip ?_
          | refine Goal.block ?_
          | refine Goal.exit ?_
          | refine Goal.ret ?_
          | refine Goal.then_exit ?_
          | refine Goal.then_ret ?_
          | refine Goal.inBlock_exit ?_
          | refine Goal.inBlock_normal ?_
          | refine Goal.inBlock_ret ?_
          | refine Goal.inBlock_other rfl ?_
          | (apply Goal.condT; exact rfl)
          | (apply Goal.condF; exact rfl)
          | (refine Goal.condD rfl (fun hc => ?_) (fun hc => ?_) <;> first | (exfalso; omega) | contradiction | skip)
          | refine Goal.condB rfl (fun hc => ?_) (fun hc => ?_)
          | refine Goal.guardT rfl rfl ?_
          | refine Goal.guardF rfl rfl rfl rfl ?_
          | refine Goal.guardU rfl rfl rfl ?_
          | (refine Goal.guardD rfl rfl (fun hc => ?_) (fun hc => ?_) <;> first | (exfalso; omega) | contradiction | skip)
          | refine Goal.guardB rfl rfl (fun hc => ?_) (fun hc => ?_)
          | (apply G.load; exact rfl; exact rfl; first | exact LoadOK.oldAgg (vs := [.int .i64 a1, .int .i64 a2]) T.agg_50 rfl hk2 (by simp) | exact LoadOK.agg (vs := [_, _]) T.agg_50 0 rfl rfl ⟨rfl, rfl, trivial⟩ | exact LoadOK.agg (vs := [_, _]) T.agg_50 1 rfl rfl ⟨rfl, rfl, trivial⟩ | exact LoadOK.agg (vs := [_, _]) T.agg_50 2 rfl rfl ⟨rfl, rfl, trivial⟩ | exact LoadOK.agg (vs := [_, _]) T.agg_50 3 rfl rfl ⟨rfl, rfl, trivial⟩ | exact LoadOK.agg (vs := [_, _]) T.agg_50 4 rfl rfl ⟨rfl, rfl, trivial⟩ | exact LoadOK.agg (vs := [_, _]) T.agg_50 5 rfl rfl ⟨rfl, rfl, trivial⟩ | exact LoadOK.agg (vs := [_, _]) T.agg_50 6 rfl rfl ⟨rfl, rfl, trivial⟩ | exact LoadOK.agg (vs := [_, _]) T.agg_50 7 rfl rfl ⟨rfl, rfl, trivial⟩)
          | (apply G.pickT; exact rfl; exact rfl; exact rfl)
          | (apply G.pickF; exact rfl; exact rfl; exact rfl)
          | (apply G.lss; exact rfl; exact rfl; exact rfl)
          | (apply G.gtr; exact rfl; exact rfl; exact rfl)
          | (apply G.add; exact rfl; exact rfl; exact rfl; first | exact IntWalk.i64_in _ (by omega) | exact IntWalk.u8_in _ (by omega) | exact IntWalk.u16_in _ (by omega) | exact IntWalk.u32_in _ (by omega) | exact IntWalk.u64_in _ (by omega))
          | (apply G.notT; exact rfl; exact rfl)
          | (apply G.notF; exact rfl; exact rfl)
          | (refine G.notD rfl rfl ?_)
          | (apply G.notB; exact rfl; exact rfl)
          | (apply G.build (cs := [_, _, _, _, _, _, _]); exact rfl; exact T.lay_55; exact rfl; exact rfl)
          | (apply G.len; exact rfl; exact rfl; exact T.slc_37)
          | (refine G.indexAddr rfl T.slc_37 T.sz_50 rfl rfl _ rfl (by omega) ?_)
          | (refine G.indexAddr rfl T.slc_37 T.sz_50 rfl rfl _ (Int.toNat_of_nonneg (by omega)).symm (by omega) ?_)
          | (refine Goal.loud rfl ?_; refine Loud.store0 rfl rfl T.sz_50 rfl rfl rfl (by first | exact Nat.le_of_ble_eq_true rfl | exact Nat.le_refl _ | decide | (simp; omega)) rfl ?_)
          | (refine Goal.loud rfl ?_; refine Loud.store1 rfl rfl T.sz_50 rfl rfl rfl (by first | exact Nat.le_of_ble_eq_true rfl | exact Nat.le_refl _ | decide | (simp; omega)) rfl ?_)
          | (refine Goal.loud rfl ?_; refine Loud.store2 rfl rfl T.sz_50 rfl rfl rfl (by first | exact Nat.le_of_ble_eq_true rfl | exact Nat.le_refl _ | decide | (simp; omega)) rfl ?_)
          | (refine Goal.loud rfl ?_; refine Loud.store3 rfl rfl T.sz_50 rfl rfl rfl (by first | exact Nat.le_of_ble_eq_true rfl | exact Nat.le_refl _ | decide | (simp; omega)) rfl ?_)
          | (refine Goal.loud rfl ?_; refine Loud.store4 rfl rfl T.sz_50 rfl rfl rfl (by first | exact Nat.le_of_ble_eq_true rfl | exact Nat.le_refl _ | decide | (simp; omega)) rfl ?_)
          | (refine Goal.loud rfl ?_; refine Loud.store5 rfl rfl T.sz_50 rfl rfl rfl (by first | exact Nat.le_of_ble_eq_true rfl | exact Nat.le_refl _ | decide | (simp; omega)) rfl ?_)
          | (refine Goal.loud rfl ?_; refine Loud.store6 rfl rfl T.sz_50 rfl rfl rfl (by first | exact Nat.le_of_ble_eq_true rfl | exact Nat.le_refl _ | decide | (simp; omega)) rfl ?_)
          | (refine Goal.loud rfl ?_; refine Loud.store7 rfl rfl T.sz_50 rfl rfl rfl (by first | exact Nat.le_of_ble_eq_true rfl | exact Nat.le_refl _ | decide | (simp; omega)) rfl ?_))
        refine Goal.done (vs := [_, _]) (by first | exact .inl rfl | exact .inr rfl) Try.results11 ⟨rfl, rfl, trivial⟩ rfl (fun w' H => ⟨rfl, H.mod⟩)
    · refine absurd ⟨hp.1, hp.2.1, hp.2.2, fun f hf => ?_⟩ h
      obtain ⟨j, hj, rfl⟩ := List.mem_iff_getElem.1 hf
      have := hg (j : Int) (by omega) (by omega)
      rwa [el_get ⟨by omega, by omega⟩] at this
  · refine Goal.enter (args := [.int .i64 d, .int .i64 r, .int .i64 m, .slice ad fs.length cap]) Try.func11 rfl Try.ntmps11 rfl (St.nil w) ?_
    repeat' (first
      | (refine Goal.loud (o := ⟨some 11, _, _, _, _, _⟩) rfl ?_; refine Loud.allocA rfl T.inf_50 (fun b11 => ?_))
      | (refine Goal.loud (o := ⟨some 50, _, _, _, _, _⟩) rfl ?_; first | refine Loud.boxA rfl rfl (fun b50 => ?_) | refine Loud.box1 rfl rfl rfl (fun b50 => ?_))
      | (apply G.move; exact rfl; exact rfl)
      | (apply G.assign; exact rfl; exact rfl)
      | refine Goal.seq (fun _ _ => ?_)
      | refine Goal.next (by assumption) ?_
      | refine Goal.lnil ?_
      | refine Goal.region ?_
      | refine Goal.skip ?_
      | refine Goal.block ?_
      | refine Goal.exit ?_
      | refine Goal.ret ?_
      | refine Goal.then_exit ?_
      | refine Goal.then_ret ?_
      | refine Goal.inBlock_exit ?_
      | refine Goal.inBlock_normal ?_
      | refine Goal.inBlock_ret ?_
      | refine Goal.inBlock_other rfl ?_
      | (apply Goal.condT; exact rfl)
      | (apply Goal.condF; exact rfl)
      | (refine Goal.condD rfl (fun hc => ?_) (fun hc => ?_) <;> first | (exfalso; omega) | contradiction | skip)
      | refine Goal.condB rfl (fun hc => ?_) (fun hc => ?_)
      | refine Goal.guardT rfl rfl ?_
      | refine Goal.guardF rfl rfl rfl rfl ?_
      | refine Goal.guardU rfl rfl rfl ?_
      | (refine Goal.guardD rfl rfl (fun hc => ?_) (fun hc => ?_) <;> first | (exfalso; omega) | contradiction | skip)
      | refine Goal.guardB rfl rfl (fun hc => ?_) (fun hc => ?_)
      | (apply G.load; exact rfl; exact rfl; first | exact LoadOK.agg (vs := [_, _]) T.agg_50 0 rfl rfl ⟨rfl, rfl, trivial⟩ | exact LoadOK.agg (vs := [_, _]) T.agg_50 1 rfl rfl ⟨rfl, rfl, trivial⟩ | exact LoadOK.agg (vs := [_, _]) T.agg_50 2 rfl rfl ⟨rfl, rfl, trivial⟩ | exact LoadOK.agg (vs := [_, _]) T.agg_50 3 rfl rfl ⟨rfl, rfl, trivial⟩ | exact LoadOK.agg (vs := [_, _]) T.agg_50 4 rfl rfl ⟨rfl, rfl, trivial⟩ | exact LoadOK.agg (vs := [_, _]) T.agg_50 5 rfl rfl ⟨rfl, rfl, trivial⟩ | exact LoadOK.agg (vs := [_, _]) T.agg_50 6 rfl rfl ⟨rfl, rfl, trivial⟩ | exact LoadOK.agg (vs := [_, _]) T.agg_50 7 rfl rfl ⟨rfl, rfl, trivial⟩)
      | (apply G.pickT; exact rfl; exact rfl; exact rfl)
      | (apply G.pickF; exact rfl; exact rfl; exact rfl)
      | (apply G.lss; exact rfl; exact rfl; exact rfl)
      | (apply G.gtr; exact rfl; exact rfl; exact rfl)
      | (apply G.add; exact rfl; exact rfl; exact rfl; first | exact IntWalk.i64_in _ (by omega) | exact IntWalk.u8_in _ (by omega) | exact IntWalk.u16_in _ (by omega) | exact IntWalk.u32_in _ (by omega) | exact IntWalk.u64_in _ (by omega))
      | (apply G.notT; exact rfl; exact rfl)
      | (apply G.notF; exact rfl; exact rfl)
      | (refine G.notD rfl rfl ?_)
      | (apply G.notB; exact rfl; exact rfl)
      | (apply G.build (cs := [_, _, _, _, _, _, _]); exact rfl; exact T.lay_55; exact rfl; exact rfl)
      | (apply G.len; exact rfl; exact rfl; exact T.slc_37)
      | (refine G.indexAddr rfl T.slc_37 T.sz_50 rfl rfl _ rfl (by omega) ?_)
      | (refine G.indexAddr rfl T.slc_37 T.sz_50 rfl rfl _ (Int.toNat_of_nonneg (by omega)).symm (by omega) ?_)
      | (refine Goal.loud rfl ?_; refine Loud.store0 rfl rfl T.sz_50 rfl rfl rfl (by first | exact Nat.le_of_ble_eq_true rfl | exact Nat.le_refl _ | decide | (simp; omega)) rfl ?_)
      | (refine Goal.loud rfl ?_; refine Loud.store1 rfl rfl T.sz_50 rfl rfl rfl (by first | exact Nat.le_of_ble_eq_true rfl | exact Nat.le_refl _ | decide | (simp; omega)) rfl ?_)
      | (refine Goal.loud rfl ?_; refine Loud.store2 rfl rfl T.sz_50 rfl rfl rfl (by first | exact Nat.le_of_ble_eq_true rfl | exact Nat.le_refl _ | decide | (simp; omega)) rfl ?_)
      | (refine Goal.loud rfl ?_; refine Loud.store3 rfl rfl T.sz_50 rfl rfl rfl (by first | exact Nat.le_of_ble_eq_true rfl | exact Nat.le_refl _ | decide | (simp; omega)) rfl ?_)
      | (refine Goal.loud rfl ?_; refine Loud.store4 rfl rfl T.sz_50 rfl rfl rfl (by first | exact Nat.le_of_ble_eq_true rfl | exact Nat.le_refl _ | decide | (simp; omega)) rfl ?_)
      | (refine Goal.loud rfl ?_; refine Loud.store5 rfl rfl T.sz_50 rfl rfl rfl (by first | exact Nat.le_of_ble_eq_true rfl | exact Nat.le_refl _ | decide | (simp; omega)) rfl ?_)
      | (refine Goal.loud rfl ?_; refine Loud.store6 rfl rfl T.sz_50 rfl rfl rfl (by first | exact Nat.le_of_ble_eq_true rfl | exact Nat.le_refl _ | decide | (simp; omega)) rfl ?_)
      | (refine Goal.loud rfl ?_; refine Loud.store7 rfl rfl T.sz_50 rfl rfl rfl (by first | exact Nat.le_of_ble_eq_true rfl | exact Nat.le_refl _ | decide | (simp; omega)) rfl ?_))
    all_goals
      refine Goal.done (vs := [_, _]) (by first | exact .inl rfl | exact .inr rfl) Try.results11 ⟨rfl, rfl, trivial⟩ rfl (fun w' H => ⟨rfl, H.mod⟩)
end
end Go.Proofs.Ytgidkddkoopdfaa
