/- Tick of the program: what it returns. -/
import Derived.Test.YtlnbogggaajfbaaStA
namespace Go.Proofs.Ytlnbogggaajfbaa
open Go.Wf
set_option linter.unusedVariables false

/-- The stage after n ticks, and the states entered. -/
def tk (a b h n : Int) : Int × Int × List Int :=
  if n ≤ 0 ∨ a = 3 then (a, b, [])
  else if n < b then (a, b - n, [])
  else if a = 0 then (if n - b < h then (2, h - (n - b), [2]) else (3, 0, [2, 3]))
  else (3, 0, [3])
structure TX where
  (a b n : Int) (E : List Int) (v : Value) (A : List Blk)

theorem tick_bad (a b g h n : Int) (w : World) (hv : ¬ vld a b g h) : Calls Try.prog 10 #[.agg #[.int .i64 a, .int .i64 b], .agg #[.int .i64 g, .int .i64 h], .int .i64 n] w
    fun e w' => e = .returned (.tuple #[.agg #[.int .i64 0, .int .i64 0], .slice none 0 0, .int .i64 1]) ∧ Mod [] w w' := by
  refine Goal.enter (args := [.agg #[.int .i64 a, .int .i64 b], .agg #[.int .i64 g, .int .i64 h], .int .i64 n]) Try.func10 rfl Try.ntmps10 rfl (St.nil w) ?_
  repeat' (first
    | (refine Goal.loud (o := ⟨some 13, _, _, _, _, _⟩) rfl ?_; apply Loud.call0; exact rfl; exact rfl; exact rfl; exact rfl; exact T.bod_16; exact (fun w H => valid_any a b g h w))
    | (refine Goal.loud (o := ⟨some 3, _, _, _, _, _⟩) rfl ?_; first | refine Loud.boxA rfl rfl (fun b3 => ?_) | refine Loud.box1 rfl rfl rfl (fun b3 => ?_))
    | (refine Goal.loud (o := ⟨some 4, _, _, _, _, _⟩) rfl ?_; first | refine Loud.boxA rfl rfl (fun b4 => ?_) | refine Loud.box1 rfl rfl rfl (fun b4 => ?_))
    | (refine Goal.loud (o := ⟨some 6, _, _, _, _, _⟩) rfl ?_; refine Loud.allocA rfl T.inf_27 (fun b6 => ?_))
    | (refine Goal.loud (o := ⟨some 9, _, _, _, _, _⟩) rfl ?_; refine Loud.allocA rfl T.inf_56 (fun b9 => ?_))
    | (refine Goal.loud (o := ⟨some 48, _, _, _, _, _⟩) rfl ?_; refine Loud.buildSlice (cs := [_]) rfl T.slc_28 T.inf_3 rfl rfl (by decide) rfl rfl rfl (fun b48 => ?_))
    | (apply G.move; exact rfl; exact rfl)
    | (apply G.assign; exact rfl; exact rfl)
    | refine Goal.seq (fun _ _ => ?_)
    | refine Goal.next (by assumption) ?_
    | refine Goal.lnil ?_
    | refine Goal.region ?_
    | refine Goal.skip ?_
    | refine Goal.block ?_
    | refine Goal.exit ?_
    | refine Goal.ret ?_
    | refine Goal.then_exit ?_
    | refine Goal.then_ret ?_
    | refine Goal.inBlock_exit ?_
    | refine Goal.inBlock_normal ?_
    | refine Goal.inBlock_ret ?_
    | refine Goal.inBlock_other rfl ?_
    | (apply Goal.condT; exact rfl)
    | (apply Goal.condF; exact rfl)
    | (refine Goal.condD rfl (fun hc => ?_) (fun hc => ?_) <;> first | (exfalso; omega) | contradiction | skip)
    | refine Goal.condB rfl (fun hc => ?_) (fun hc => ?_)
    | refine Goal.guardT rfl rfl ?_
    | refine Goal.guardF rfl rfl rfl rfl ?_
    | refine Goal.guardU rfl rfl rfl ?_
    | (refine Goal.guardD rfl rfl (fun hc => ?_) (fun hc => ?_) <;> first | (exfalso; omega) | contradiction | skip)
    | refine Goal.guardB rfl rfl (fun hc => ?_) (fun hc => ?_)
    | (apply G.fieldAddr; exact rfl; exact rfl; (first | exact T.fld_27_0 | exact T.fld_27_1 | exact T.fld_32_1))
    | (apply G.load; exact rfl; exact rfl; first | exact LoadOK.one T.one_3 0 rfl rfl | exact LoadOK.one T.one_3 1 rfl rfl | exact LoadOK.one T.one_3 2 rfl rfl | exact LoadOK.one T.one_3 3 rfl rfl | exact LoadOK.one T.one_3 4 rfl rfl | exact LoadOK.one T.one_3 5 rfl rfl | exact LoadOK.one T.one_3 6 rfl rfl | exact LoadOK.one T.one_3 7 rfl rfl | exact LoadOK.agg (vs := [_, _]) T.agg_27 0 rfl rfl ⟨rfl, rfl, trivial⟩ | exact LoadOK.agg (vs := [_, _]) T.agg_27 1 rfl rfl ⟨rfl, rfl, trivial⟩ | exact LoadOK.agg (vs := [_, _]) T.agg_27 2 rfl rfl ⟨rfl, rfl, trivial⟩ | exact LoadOK.agg (vs := [_, _]) T.agg_27 3 rfl rfl ⟨rfl, rfl, trivial⟩ | exact LoadOK.agg (vs := [_, _]) T.agg_27 4 rfl rfl ⟨rfl, rfl, trivial⟩ | exact LoadOK.agg (vs := [_, _]) T.agg_27 5 rfl rfl ⟨rfl, rfl, trivial⟩ | exact LoadOK.agg (vs := [_, _]) T.agg_27 6 rfl rfl ⟨rfl, rfl, trivial⟩ | exact LoadOK.agg (vs := [_, _]) T.agg_27 7 rfl rfl ⟨rfl, rfl, trivial⟩ | exact LoadOK.agg (vs := [_, _]) T.agg_32 0 rfl rfl ⟨rfl, rfl, trivial⟩ | exact LoadOK.agg (vs := [_, _]) T.agg_32 1 rfl rfl ⟨rfl, rfl, trivial⟩ | exact LoadOK.agg (vs := [_, _]) T.agg_32 2 rfl rfl ⟨rfl, rfl, trivial⟩ | exact LoadOK.agg (vs := [_, _]) T.agg_32 3 rfl rfl ⟨rfl, rfl, trivial⟩ | exact LoadOK.agg (vs := [_, _]) T.agg_32 4 rfl rfl ⟨rfl, rfl, trivial⟩ | exact LoadOK.agg (vs := [_, _]) T.agg_32 5 rfl rfl ⟨rfl, rfl, trivial⟩ | exact LoadOK.agg (vs := [_, _]) T.agg_32 6 rfl rfl ⟨rfl, rfl, trivial⟩ | exact LoadOK.agg (vs := [_, _]) T.agg_32 7 rfl rfl ⟨rfl, rfl, trivial⟩)
    | (apply G.pickT; exact rfl; exact rfl; exact rfl)
    | (apply G.pickF; exact rfl; exact rfl; exact rfl)
    | (apply G.lss; exact rfl; exact rfl; exact rfl)
    | (apply G.gtr; exact rfl; exact rfl; exact rfl)
    | (apply G.neq; exact rfl; exact rfl; exact rfl)
    | (apply G.sub; exact rfl; exact rfl; exact rfl; first | exact IntWalk.i64_in _ (by omega) | exact IntWalk.u8_in _ (by omega) | exact IntWalk.u16_in _ (by omega) | exact IntWalk.u32_in _ (by omega) | exact IntWalk.u64_in _ (by omega))
    | (apply G.neqI2; exact rfl; exact T.i2_27; exact rfl; exact rfl)
    | (apply G.notT; exact rfl; exact rfl)
    | (apply G.notF; exact rfl; exact rfl)
    | (refine G.notD rfl rfl ?_)
    | (apply G.notB; exact rfl; exact rfl)
    | (apply G.build (cs := [_, _]); exact rfl; exact T.lay_27; exact rfl; exact rfl)
    | (apply G.build (cs := [_, _, _, _, _, _]); exact rfl; exact T.lay_56; exact rfl; exact rfl)
    | (refine G.indexAddrA rfl T.arr_56 T.sz_27 rfl rfl _ rfl (by omega) ?_)
    | (refine G.indexAddrA rfl T.arr_56 T.sz_27 rfl rfl _ (Int.toNat_of_nonneg (by omega)).symm (by omega) ?_)
    | (refine Goal.loud rfl ?_; refine Loud.store0 rfl rfl (by first | exact T.sz_3 | exact T.sz_27 | exact T.sz_56) rfl rfl rfl (by first | exact Nat.le_refl _ | decide | (simp; omega)) rfl ?_)
    | (refine Goal.loud rfl ?_; refine Loud.store1 rfl rfl (by first | exact T.sz_3 | exact T.sz_27 | exact T.sz_56) rfl rfl rfl (by first | exact Nat.le_refl _ | decide | (simp; omega)) rfl ?_)
    | (refine Goal.loud rfl ?_; refine Loud.store2 rfl rfl (by first | exact T.sz_3 | exact T.sz_27 | exact T.sz_56) rfl rfl rfl (by first | exact Nat.le_refl _ | decide | (simp; omega)) rfl ?_)
    | (refine Goal.loud rfl ?_; refine Loud.store3 rfl rfl (by first | exact T.sz_3 | exact T.sz_27 | exact T.sz_56) rfl rfl rfl (by first | exact Nat.le_refl _ | decide | (simp; omega)) rfl ?_)
    | (refine Goal.loud rfl ?_; refine Loud.store4 rfl rfl (by first | exact T.sz_3 | exact T.sz_27 | exact T.sz_56) rfl rfl rfl (by first | exact Nat.le_refl _ | decide | (simp; omega)) rfl ?_)
    | (refine Goal.loud rfl ?_; refine Loud.store5 rfl rfl (by first | exact T.sz_3 | exact T.sz_27 | exact T.sz_56) rfl rfl rfl (by first | exact Nat.le_refl _ | decide | (simp; omega)) rfl ?_)
    | (refine Goal.loud rfl ?_; refine Loud.store6 rfl rfl (by first | exact T.sz_3 | exact T.sz_27 | exact T.sz_56) rfl rfl rfl (by first | exact Nat.le_refl _ | decide | (simp; omega)) rfl ?_)
    | (refine Goal.loud rfl ?_; refine Loud.store7 rfl rfl (by first | exact T.sz_3 | exact T.sz_27 | exact T.sz_56) rfl rfl rfl (by first | exact Nat.le_refl _ | decide | (simp; omega)) rfl ?_))
  refine Goal.done (vs := [_, _, _]) (by first | exact .inl rfl | exact .inr rfl) Try.results10 ⟨⟨_, rfl, LoadOK.agg (vs := [_, _]) T.agg_27 0 rfl rfl ⟨rfl, rfl, trivial⟩⟩, rfl, rfl, trivial⟩ rfl (fun w' H => ⟨rfl, H.mod⟩)

set_option maxHeartbeats 4000000 in
theorem tick_ok (a b g h n : Int) (w : World) (hn : n < 9223372036854775808) (hv : vld a b g h) : Calls Try.prog 10 #[.agg #[.int .i64 a, .int .i64 b], .agg #[.int .i64 g, .int .i64 h], .int .i64 n] w
    fun e w' => ∃ v A, Sl v 3 1 (tk a b h n).2.2.length (ints (tk a b h n).2.2) A ∧ e = .returned (.tuple #[.agg #[.int .i64 (tk a b h n).1, .int .i64 (tk a b h n).2.1], v, .int .i64 0]) ∧ St w [] w' A := by
  refine Goal.enter (args := [.agg #[.int .i64 a, .int .i64 b], .agg #[.int .i64 g, .int .i64 h], .int .i64 n]) Try.func10 rfl Try.ntmps10 rfl (St.nil w) ?_
  repeat' (first
    | (refine Goal.loud (o := ⟨some 13, _, _, _, _, _⟩) rfl ?_; apply Loud.call0; exact rfl; exact rfl; exact rfl; exact rfl; exact T.bod_16; exact (fun w H => valid_any a b g h w))
    | (refine Goal.loud (o := ⟨some 3, _, _, _, _, _⟩) rfl ?_; first | refine Loud.boxA rfl rfl (fun b3 => ?_) | refine Loud.box1 rfl rfl rfl (fun b3 => ?_))
    | (refine Goal.loud (o := ⟨some 4, _, _, _, _, _⟩) rfl ?_; first | refine Loud.boxA rfl rfl (fun b4 => ?_) | refine Loud.box1 rfl rfl rfl (fun b4 => ?_))
    | (refine Goal.loud (o := ⟨some 6, _, _, _, _, _⟩) rfl ?_; refine Loud.allocA rfl T.inf_27 (fun b6 => ?_))
    | (refine Goal.loud (o := ⟨some 9, _, _, _, _, _⟩) rfl ?_; refine Loud.allocA rfl T.inf_56 (fun b9 => ?_))
    | (refine Goal.loud (o := ⟨some 48, _, _, _, _, _⟩) rfl ?_; refine Loud.buildSlice (cs := [_]) rfl T.slc_28 T.inf_3 rfl rfl (by decide) rfl rfl rfl (fun b48 => ?_))
    | (apply G.move; exact rfl; exact rfl)
    | (apply G.assign; exact rfl; exact rfl)
    | refine Goal.seq (fun _ _ => ?_)
    | refine Goal.next (by assumption) ?_
    | refine Goal.lnil ?_
    | refine Goal.region ?_
    | refine Goal.skip ?_
    | refine Goal.block ?_
    | refine Goal.exit ?_
    | refine Goal.ret ?_
    | refine Goal.then_exit ?_
    | refine Goal.then_ret ?_
    | refine Goal.inBlock_exit ?_
    | refine Goal.inBlock_normal ?_
    | refine Goal.inBlock_ret ?_
    | refine Goal.inBlock_other rfl ?_
    | (apply Goal.condT; exact rfl)
    | (apply Goal.condF; exact rfl)
    | (refine Goal.condD rfl (fun hc => ?_) (fun hc => ?_) <;> first | (exfalso; omega) | contradiction | skip)
    | refine Goal.condB rfl (fun hc => ?_) (fun hc => ?_)
    | refine Goal.guardT rfl rfl ?_
    | refine Goal.guardF rfl rfl rfl rfl ?_
    | refine Goal.guardU rfl rfl rfl ?_
    | (refine Goal.guardD rfl rfl (fun hc => ?_) (fun hc => ?_) <;> first | (exfalso; omega) | contradiction | skip)
    | refine Goal.guardB rfl rfl (fun hc => ?_) (fun hc => ?_)
    | (apply G.fieldAddr; exact rfl; exact rfl; (first | exact T.fld_27_0 | exact T.fld_27_1 | exact T.fld_32_1))
    | (apply G.load; exact rfl; exact rfl; first | exact LoadOK.one T.one_3 0 rfl rfl | exact LoadOK.one T.one_3 1 rfl rfl | exact LoadOK.one T.one_3 2 rfl rfl | exact LoadOK.one T.one_3 3 rfl rfl | exact LoadOK.one T.one_3 4 rfl rfl | exact LoadOK.one T.one_3 5 rfl rfl | exact LoadOK.one T.one_3 6 rfl rfl | exact LoadOK.one T.one_3 7 rfl rfl | exact LoadOK.agg (vs := [_, _]) T.agg_27 0 rfl rfl ⟨rfl, rfl, trivial⟩ | exact LoadOK.agg (vs := [_, _]) T.agg_27 1 rfl rfl ⟨rfl, rfl, trivial⟩ | exact LoadOK.agg (vs := [_, _]) T.agg_27 2 rfl rfl ⟨rfl, rfl, trivial⟩ | exact LoadOK.agg (vs := [_, _]) T.agg_27 3 rfl rfl ⟨rfl, rfl, trivial⟩ | exact LoadOK.agg (vs := [_, _]) T.agg_27 4 rfl rfl ⟨rfl, rfl, trivial⟩ | exact LoadOK.agg (vs := [_, _]) T.agg_27 5 rfl rfl ⟨rfl, rfl, trivial⟩ | exact LoadOK.agg (vs := [_, _]) T.agg_27 6 rfl rfl ⟨rfl, rfl, trivial⟩ | exact LoadOK.agg (vs := [_, _]) T.agg_27 7 rfl rfl ⟨rfl, rfl, trivial⟩ | exact LoadOK.agg (vs := [_, _]) T.agg_32 0 rfl rfl ⟨rfl, rfl, trivial⟩ | exact LoadOK.agg (vs := [_, _]) T.agg_32 1 rfl rfl ⟨rfl, rfl, trivial⟩ | exact LoadOK.agg (vs := [_, _]) T.agg_32 2 rfl rfl ⟨rfl, rfl, trivial⟩ | exact LoadOK.agg (vs := [_, _]) T.agg_32 3 rfl rfl ⟨rfl, rfl, trivial⟩ | exact LoadOK.agg (vs := [_, _]) T.agg_32 4 rfl rfl ⟨rfl, rfl, trivial⟩ | exact LoadOK.agg (vs := [_, _]) T.agg_32 5 rfl rfl ⟨rfl, rfl, trivial⟩ | exact LoadOK.agg (vs := [_, _]) T.agg_32 6 rfl rfl ⟨rfl, rfl, trivial⟩ | exact LoadOK.agg (vs := [_, _]) T.agg_32 7 rfl rfl ⟨rfl, rfl, trivial⟩)
    | (apply G.pickT; exact rfl; exact rfl; exact rfl)
    | (apply G.pickF; exact rfl; exact rfl; exact rfl)
    | (apply G.lss; exact rfl; exact rfl; exact rfl)
    | (apply G.gtr; exact rfl; exact rfl; exact rfl)
    | (apply G.neq; exact rfl; exact rfl; exact rfl)
    | (apply G.sub; exact rfl; exact rfl; exact rfl; first | exact IntWalk.i64_in _ (by omega) | exact IntWalk.u8_in _ (by omega) | exact IntWalk.u16_in _ (by omega) | exact IntWalk.u32_in _ (by omega) | exact IntWalk.u64_in _ (by omega))
    | (apply G.neqI2; exact rfl; exact T.i2_27; exact rfl; exact rfl)
    | (apply G.notT; exact rfl; exact rfl)
    | (apply G.notF; exact rfl; exact rfl)
    | (refine G.notD rfl rfl ?_)
    | (apply G.notB; exact rfl; exact rfl)
    | (apply G.build (cs := [_, _]); exact rfl; exact T.lay_27; exact rfl; exact rfl)
    | (apply G.build (cs := [_, _, _, _, _, _]); exact rfl; exact T.lay_56; exact rfl; exact rfl)
    | (refine G.indexAddrA rfl T.arr_56 T.sz_27 rfl rfl _ rfl (by omega) ?_)
    | (refine G.indexAddrA rfl T.arr_56 T.sz_27 rfl rfl _ (Int.toNat_of_nonneg (by omega)).symm (by omega) ?_)
    | (refine Goal.loud rfl ?_; refine Loud.store0 rfl rfl (by first | exact T.sz_3 | exact T.sz_27 | exact T.sz_56) rfl rfl rfl (by first | exact Nat.le_refl _ | decide | (simp; omega)) rfl ?_)
    | (refine Goal.loud rfl ?_; refine Loud.store1 rfl rfl (by first | exact T.sz_3 | exact T.sz_27 | exact T.sz_56) rfl rfl rfl (by first | exact Nat.le_refl _ | decide | (simp; omega)) rfl ?_)
    | (refine Goal.loud rfl ?_; refine Loud.store2 rfl rfl (by first | exact T.sz_3 | exact T.sz_27 | exact T.sz_56) rfl rfl rfl (by first | exact Nat.le_refl _ | decide | (simp; omega)) rfl ?_)
    | (refine Goal.loud rfl ?_; refine Loud.store3 rfl rfl (by first | exact T.sz_3 | exact T.sz_27 | exact T.sz_56) rfl rfl rfl (by first | exact Nat.le_refl _ | decide | (simp; omega)) rfl ?_)
    | (refine Goal.loud rfl ?_; refine Loud.store4 rfl rfl (by first | exact T.sz_3 | exact T.sz_27 | exact T.sz_56) rfl rfl rfl (by first | exact Nat.le_refl _ | decide | (simp; omega)) rfl ?_)
    | (refine Goal.loud rfl ?_; refine Loud.store5 rfl rfl (by first | exact T.sz_3 | exact T.sz_27 | exact T.sz_56) rfl rfl rfl (by first | exact Nat.le_refl _ | decide | (simp; omega)) rfl ?_)
    | (refine Goal.loud rfl ?_; refine Loud.store6 rfl rfl (by first | exact T.sz_3 | exact T.sz_27 | exact T.sz_56) rfl rfl rfl (by first | exact Nat.le_refl _ | decide | (simp; omega)) rfl ?_)
    | (refine Goal.loud rfl ?_; refine Loud.store7 rfl rfl (by first | exact T.sz_3 | exact T.sz_27 | exact T.sz_56) rfl rfl rfl (by first | exact Nat.le_refl _ | decide | (simp; omega)) rfl ?_))
  refine Goal.loopP (X := TX) (fun x => [(2, .int .i64 x.n), (3, .pointer (some ⟨b3, 0, none⟩)), (4, .pointer (some ⟨b4, 0, none⟩)), (6, .pointer (some ⟨b6, 0, none⟩)), (9, .pointer (some ⟨b9, 0, none⟩)), (10, x.v)])
    (fun x => (b9, .cells #[.int .i64 2, .int .i64 h, .int .i64 0, .int .i64 0, .int .i64 3, .int .i64 0] 56) :: (b6, .cells #[.int .i64 0, .int .i64 0] 27) :: (b4, .cells #[.int .i64 g, .int .i64 h] 32) :: (b3, .cells #[.int .i64 x.a, .int .i64 x.b] 27) :: x.A)
    (fun x => x.n < 9223372036854775808 ∧ vld x.a x.b g h ∧ x.E.length + (if x.a = 0 then 2 else if x.a = 2 then 1 else 0) ≤ 2 ∧ Sl x.v 3 1 x.E.length (ints x.E) x.A ∧ (tk a b h n).1 = (tk x.a x.b h x.n).1 ∧ (tk a b h n).2.1 = (tk x.a x.b h x.n).2.1 ∧ (tk a b h n).2.2 = x.E ++ (tk x.a x.b h x.n).2.2)
    (fun x => if x.a = 0 then 2 else if x.a = 2 then 1 else 0)
    ⟨a, b, n, [], .slice none 0 0, []⟩ ⟨rfl, rfl, rfl, rfl, rfl, rfl, trivial⟩ (fun _ h => h) ⟨hn, hv, by dsimp only [List.length_nil]; split <;> (try split) <;> omega, Sl.nil _ _, rfl, rfl, by simp⟩ ?_
  rintro ⟨a', b', m, E, v, A⟩ ⟨hm, hv', hE, hA, e1, e2, e3⟩
  dsimp only at hm hv' hE hA e1 e2 e3 ⊢
  have hv2 := hv'
  unfold vld at hv2
  have hE2 : E.length ≤ 2 := by omega
  obtain ⟨htm, ⟨rfl, rfl⟩ | ⟨rfl, hb1, hb2⟩ | ⟨rfl, hb1, hb2⟩⟩ := hv2
  all_goals
    repeat' (first
      | (refine Goal.drawAll (id := 5) 7 T.mixed ?_; all_goals ((refine Goal.takeP (listed' := #[true, false, false, false, false, false, false]) 0 ⟨rfl, by kernel_rfl, by kernel_rfl, by kernel_rfl, by kernel_rfl⟩ rfl (fun _ _ _ _ h => h) (by intro _; exact Run.move rfl) ?_)); all_goals ((refine Goal.takeP (listed' := #[true, true, false, false, false, false, false]) 1 ⟨rfl, by kernel_rfl, by kernel_rfl, by kernel_rfl, by kernel_rfl⟩ rfl (fun _ _ _ _ h => h) (by intro _; first | exact Run.gtr rfl rfl) ?_)); all_goals ((refine Goal.takeP (listed' := #[true, true, true, false, false, false, false]) 2 ⟨rfl, by kernel_rfl, by kernel_rfl, by kernel_rfl, by kernel_rfl⟩ rfl (fun _ _ _ _ h => h) (by intro _; exact Run.move rfl) ?_)); all_goals (first | (refine Goal.bdec 23 rfl (fun hc => ?_) (fun hc => ?_) <;> first | (exfalso; omega) | contradiction | skip) | skip); all_goals (first | (refine Goal.takeT (listed' := #[true, true, true, true, false, false, false]) 3 ⟨rfl, by kernel_rfl, by kernel_rfl, by kernel_rfl, by kernel_rfl, by kernel_rfl⟩ rfl rfl rfl (by (first | exact fun _ h => h | exact fun _ h => h.sub (.cons _ (.refl _)) | exact fun _ h => h.sub (.cons _ (.cons _ (.refl _))) | exact fun _ h => h.sub (.cons _ (.cons _ (.cons _ (.refl _)))) | exact fun _ h => h.drop)) (fun _ _ _ _ h => h) (by (apply Run.load; exact rfl; first | exact LoadOK.agg (vs := [_, _]) T.agg_27 0 rfl rfl ⟨rfl, rfl, trivial⟩ | exact LoadOK.agg (vs := [_, _]) T.agg_27 1 rfl rfl ⟨rfl, rfl, trivial⟩ | exact LoadOK.agg (vs := [_, _]) T.agg_27 2 rfl rfl ⟨rfl, rfl, trivial⟩ | exact LoadOK.agg (vs := [_, _]) T.agg_27 3 rfl rfl ⟨rfl, rfl, trivial⟩ | exact LoadOK.agg (vs := [_, _]) T.agg_27 4 rfl rfl ⟨rfl, rfl, trivial⟩ | exact LoadOK.agg (vs := [_, _]) T.agg_27 5 rfl rfl ⟨rfl, rfl, trivial⟩ | exact LoadOK.agg (vs := [_, _]) T.agg_27 6 rfl rfl ⟨rfl, rfl, trivial⟩ | exact LoadOK.agg (vs := [_, _]) T.agg_27 7 rfl rfl ⟨rfl, rfl, trivial⟩)) ?_) | (refine Goal.takeF (listed' := #[true, true, true, true, false, false, false]) 3 ⟨rfl, by kernel_rfl, by kernel_rfl, by kernel_rfl, by kernel_rfl, by kernel_rfl⟩ rfl rfl rfl rfl (by (first | exact fun _ h => h | exact fun _ h => h.sub (.cons _ (.refl _)) | exact fun _ h => h.sub (.cons _ (.cons _ (.refl _))) | exact fun _ h => h.sub (.cons _ (.cons _ (.cons _ (.refl _)))) | exact fun _ h => h.drop)) (fun _ _ _ _ h => h) ?_) | (refine Goal.takePU (listed' := #[true, true, true, true, false, false, false]) 3 ⟨rfl, by kernel_rfl, by kernel_rfl, by kernel_rfl, by kernel_rfl⟩ rfl rfl rfl (fun _ _ _ _ h => h) ?_)); all_goals (refine Goal.ready1 (i := 4) (by kernel_rfl) ?_); all_goals ((first | (refine Goal.upT (i := 4) (listed' := #[true, true, true, true, true, false, false]) rfl (by kernel_rfl) rfl rfl ?_; (apply Loud.call0; exact rfl; exact rfl; exact rfl; exact rfl; exact T.bod_15; exact (fun w H => start_any w)); first | refine Goal.tail rfl ?_ | refine Goal.kept (by (first | exact fun _ h => h | exact fun _ h => h.sub (.cons _ (.refl _)) | exact fun _ h => h.sub (.cons _ (.cons _ (.refl _))) | exact fun _ h => h.sub (.cons _ (.cons _ (.cons _ (.refl _)))) | exact fun _ h => h.drop)) ?_) | (refine Goal.upF (i := 4) (listed' := #[true, true, true, true, true, false, false]) rfl (by kernel_rfl) rfl rfl rfl rfl ?_; first | refine Goal.tail rfl ?_ | refine Goal.kept (by (first | exact fun _ h => h | exact fun _ h => h.sub (.cons _ (.refl _)) | exact fun _ h => h.sub (.cons _ (.cons _ (.refl _))) | exact fun _ h => h.sub (.cons _ (.cons _ (.cons _ (.refl _)))) | exact fun _ h => h.drop)) ?_))); all_goals (first | (refine Goal.takePT (listed' := #[true, true, true, true, true, true, false]) 5 ⟨rfl, by kernel_rfl, by kernel_rfl, by kernel_rfl, by kernel_rfl⟩ rfl rfl rfl (fun _ _ _ _ h => h) (by intro _; first | exact Run.neqI2 T.i2_27 rfl rfl) ?_) | (refine Goal.takePF (listed' := #[true, true, true, true, true, true, false]) 5 ⟨rfl, by kernel_rfl, by kernel_rfl, by kernel_rfl, by kernel_rfl⟩ rfl rfl rfl rfl (fun _ _ _ _ h => h) ?_) | (refine Goal.takePU (listed' := #[true, true, true, true, true, true, false]) 5 ⟨rfl, by kernel_rfl, by kernel_rfl, by kernel_rfl, by kernel_rfl⟩ rfl rfl rfl (fun _ _ _ _ h => h) ?_)); all_goals ((refine Goal.takeP (listed' := #[true, true, true, true, true, true, true]) 6 ⟨rfl, by kernel_rfl, by kernel_rfl, by kernel_rfl, by kernel_rfl⟩ rfl (fun _ _ _ _ h => h) (by intro _; first | exact Run.pickT rfl rfl | exact Run.pickF rfl rfl) ?_)); all_goals (refine Goal.allUp (by kernel_rfl) ?_))
      | (refine Goal.loud (o := ⟨some 25, _, _, _, _, _⟩) rfl ?_; apply Loud.call0; exact rfl; exact rfl; exact rfl; exact rfl; exact T.bod_15; exact (fun w H => start_any w))
      | (refine Goal.loud (o := ⟨some 49, _, _, _, _, _⟩) rfl ?_; refine Loud.appendT rfl T.slc_28 T.inf_3 rfl [_, _, _, _] rfl hA rfl rfl rfl rfl (by omega) (by omega) ?_; intro v' A' hA')
      | (refine Goal.loud (o := ⟨some 3, _, _, _, _, _⟩) rfl ?_; first | refine Loud.boxA rfl rfl (fun b3 => ?_) | refine Loud.box1 rfl rfl rfl (fun b3 => ?_))
      | (refine Goal.loud (o := ⟨some 4, _, _, _, _, _⟩) rfl ?_; first | refine Loud.boxA rfl rfl (fun b4 => ?_) | refine Loud.box1 rfl rfl rfl (fun b4 => ?_))
      | (refine Goal.loud (o := ⟨some 6, _, _, _, _, _⟩) rfl ?_; refine Loud.allocA rfl T.inf_27 (fun b6 => ?_))
      | (refine Goal.loud (o := ⟨some 9, _, _, _, _, _⟩) rfl ?_; refine Loud.allocA rfl T.inf_56 (fun b9 => ?_))
      | (refine Goal.loud (o := ⟨some 48, _, _, _, _, _⟩) rfl ?_; refine Loud.buildSlice (cs := [_]) rfl T.slc_28 T.inf_3 rfl rfl (by decide) rfl rfl rfl (fun b48 => ?_))
      | (apply G.move; exact rfl; exact rfl)
      | (apply G.assign; exact rfl; exact rfl)
      | refine Goal.seq (fun _ _ => ?_)
      | refine Goal.next (by assumption) ?_
      | refine Goal.lnil ?_
      | refine Goal.region ?_
      | refine Goal.skip ?_
      | refine Goal.block ?_
      | refine Goal.exit ?_
      | refine Goal.ret ?_
      | refine Goal.then_exit ?_
      | refine Goal.then_ret ?_
      | refine Goal.inBlock_exit ?_
      | refine Goal.inBlock_normal ?_
      | refine Goal.inBlock_ret ?_
      | refine Goal.inBlock_other rfl ?_
      | (apply Goal.condT; exact rfl)
      | (apply Goal.condF; exact rfl)
      | (refine Goal.condD rfl (fun hc => ?_) (fun hc => ?_) <;> first | (exfalso; omega) | contradiction | skip)
      | refine Goal.condB rfl (fun hc => ?_) (fun hc => ?_)
      | refine Goal.guardT rfl rfl ?_
      | refine Goal.guardF rfl rfl rfl rfl ?_
      | refine Goal.guardU rfl rfl rfl ?_
      | (refine Goal.guardD rfl rfl (fun hc => ?_) (fun hc => ?_) <;> first | (exfalso; omega) | contradiction | skip)
      | refine Goal.guardB rfl rfl (fun hc => ?_) (fun hc => ?_)
      | (apply G.fieldAddr; exact rfl; exact rfl; (first | exact T.fld_27_0 | exact T.fld_27_1 | exact T.fld_32_1))
      | (apply G.load; exact rfl; exact rfl; first | exact LoadOK.one T.one_3 0 rfl rfl | exact LoadOK.one T.one_3 1 rfl rfl | exact LoadOK.one T.one_3 2 rfl rfl | exact LoadOK.one T.one_3 3 rfl rfl | exact LoadOK.one T.one_3 4 rfl rfl | exact LoadOK.one T.one_3 5 rfl rfl | exact LoadOK.one T.one_3 6 rfl rfl | exact LoadOK.one T.one_3 7 rfl rfl | exact LoadOK.agg (vs := [_, _]) T.agg_27 0 rfl rfl ⟨rfl, rfl, trivial⟩ | exact LoadOK.agg (vs := [_, _]) T.agg_27 1 rfl rfl ⟨rfl, rfl, trivial⟩ | exact LoadOK.agg (vs := [_, _]) T.agg_27 2 rfl rfl ⟨rfl, rfl, trivial⟩ | exact LoadOK.agg (vs := [_, _]) T.agg_27 3 rfl rfl ⟨rfl, rfl, trivial⟩ | exact LoadOK.agg (vs := [_, _]) T.agg_27 4 rfl rfl ⟨rfl, rfl, trivial⟩ | exact LoadOK.agg (vs := [_, _]) T.agg_27 5 rfl rfl ⟨rfl, rfl, trivial⟩ | exact LoadOK.agg (vs := [_, _]) T.agg_27 6 rfl rfl ⟨rfl, rfl, trivial⟩ | exact LoadOK.agg (vs := [_, _]) T.agg_27 7 rfl rfl ⟨rfl, rfl, trivial⟩ | exact LoadOK.agg (vs := [_, _]) T.agg_32 0 rfl rfl ⟨rfl, rfl, trivial⟩ | exact LoadOK.agg (vs := [_, _]) T.agg_32 1 rfl rfl ⟨rfl, rfl, trivial⟩ | exact LoadOK.agg (vs := [_, _]) T.agg_32 2 rfl rfl ⟨rfl, rfl, trivial⟩ | exact LoadOK.agg (vs := [_, _]) T.agg_32 3 rfl rfl ⟨rfl, rfl, trivial⟩ | exact LoadOK.agg (vs := [_, _]) T.agg_32 4 rfl rfl ⟨rfl, rfl, trivial⟩ | exact LoadOK.agg (vs := [_, _]) T.agg_32 5 rfl rfl ⟨rfl, rfl, trivial⟩ | exact LoadOK.agg (vs := [_, _]) T.agg_32 6 rfl rfl ⟨rfl, rfl, trivial⟩ | exact LoadOK.agg (vs := [_, _]) T.agg_32 7 rfl rfl ⟨rfl, rfl, trivial⟩)
      | (apply G.pickT; exact rfl; exact rfl; exact rfl)
      | (apply G.pickF; exact rfl; exact rfl; exact rfl)
      | (apply G.lss; exact rfl; exact rfl; exact rfl)
      | (apply G.gtr; exact rfl; exact rfl; exact rfl)
      | (apply G.neq; exact rfl; exact rfl; exact rfl)
      | (apply G.sub; exact rfl; exact rfl; exact rfl; first | exact IntWalk.i64_in _ (by omega) | exact IntWalk.u8_in _ (by omega) | exact IntWalk.u16_in _ (by omega) | exact IntWalk.u32_in _ (by omega) | exact IntWalk.u64_in _ (by omega))
      | (apply G.neqI2; exact rfl; exact T.i2_27; exact rfl; exact rfl)
      | (apply G.notT; exact rfl; exact rfl)
      | (apply G.notF; exact rfl; exact rfl)
      | (refine G.notD rfl rfl ?_)
      | (apply G.notB; exact rfl; exact rfl)
      | (apply G.build (cs := [_, _]); exact rfl; exact T.lay_27; exact rfl; exact rfl)
      | (apply G.build (cs := [_, _, _, _, _, _]); exact rfl; exact T.lay_56; exact rfl; exact rfl)
      | (refine G.indexAddrA rfl T.arr_56 T.sz_27 rfl rfl _ rfl (by omega) ?_)
      | (refine G.indexAddrA rfl T.arr_56 T.sz_27 rfl rfl _ (Int.toNat_of_nonneg (by omega)).symm (by omega) ?_)
      | (refine Goal.loud rfl ?_; refine Loud.store0 rfl rfl (by first | exact T.sz_3 | exact T.sz_27 | exact T.sz_56) rfl rfl rfl (by first | exact Nat.le_refl _ | decide | (simp; omega)) rfl ?_)
      | (refine Goal.loud rfl ?_; refine Loud.store1 rfl rfl (by first | exact T.sz_3 | exact T.sz_27 | exact T.sz_56) rfl rfl rfl (by first | exact Nat.le_refl _ | decide | (simp; omega)) rfl ?_)
      | (refine Goal.loud rfl ?_; refine Loud.store2 rfl rfl (by first | exact T.sz_3 | exact T.sz_27 | exact T.sz_56) rfl rfl rfl (by first | exact Nat.le_refl _ | decide | (simp; omega)) rfl ?_)
      | (refine Goal.loud rfl ?_; refine Loud.store3 rfl rfl (by first | exact T.sz_3 | exact T.sz_27 | exact T.sz_56) rfl rfl rfl (by first | exact Nat.le_refl _ | decide | (simp; omega)) rfl ?_)
      | (refine Goal.loud rfl ?_; refine Loud.store4 rfl rfl (by first | exact T.sz_3 | exact T.sz_27 | exact T.sz_56) rfl rfl rfl (by first | exact Nat.le_refl _ | decide | (simp; omega)) rfl ?_)
      | (refine Goal.loud rfl ?_; refine Loud.store5 rfl rfl (by first | exact T.sz_3 | exact T.sz_27 | exact T.sz_56) rfl rfl rfl (by first | exact Nat.le_refl _ | decide | (simp; omega)) rfl ?_)
      | (refine Goal.loud rfl ?_; refine Loud.store6 rfl rfl (by first | exact T.sz_3 | exact T.sz_27 | exact T.sz_56) rfl rfl rfl (by first | exact Nat.le_refl _ | decide | (simp; omega)) rfl ?_)
      | (refine Goal.loud rfl ?_; refine Loud.store7 rfl rfl (by first | exact T.sz_3 | exact T.sz_27 | exact T.sz_56) rfl rfl rfl (by first | exact Nat.le_refl _ | decide | (simp; omega)) rfl ?_))
  · -- final already, and ticks left
    have hT : tk 3 0 h m = (3, 0, []) := by unfold tk; simp
    rw [hT] at e1 e2 e3
    simp only [List.append_nil] at e3
    refine Goal.done (vs := [_, _, _]) (by first | exact .inl rfl | exact .inr rfl) Try.results10 ⟨⟨_, rfl, LoadOK.agg (vs := [_, _]) T.agg_27 1 rfl rfl ⟨rfl, rfl, trivial⟩⟩, rfl, rfl, trivial⟩ rfl (fun w' H => ⟨v, A, by rw [e3]; exact hA, by rw [e1, e2], H.drop (L := [_, _, _, _])⟩)
  · have hT : tk 3 0 h m = (3, 0, []) := by unfold tk; simp
    rw [hT] at e1 e2 e3
    simp only [List.append_nil] at e3
    refine Goal.done (vs := [_, _, _]) (by first | exact .inl rfl | exact .inr rfl) Try.results10 ⟨⟨_, rfl, LoadOK.agg (vs := [_, _]) T.agg_27 1 rfl rfl ⟨rfl, rfl, trivial⟩⟩, rfl, rfl, trivial⟩ rfl (fun w' H => ⟨v, A, by rw [e3]; exact hA, by rw [e1, e2], H.drop (L := [_, _, _, _])⟩)
  · have hT : tk 0 b' h m = (0, b' - m, []) := by unfold tk; rw [if_neg (by omega), if_pos (by assumption)]
    rw [hT] at e1 e2 e3
    simp only [List.append_nil] at e3
    refine Goal.done (vs := [_, _, _]) (by first | exact .inl rfl | exact .inr rfl) Try.results10 ⟨⟨_, rfl, LoadOK.agg (vs := [_, _]) T.agg_27 1 rfl rfl ⟨rfl, rfl, trivial⟩⟩, rfl, rfl, trivial⟩ rfl (fun w' H => ⟨v, A, by rw [e3]; exact hA, by rw [e1, e2], H.drop (L := [_, _, _, _])⟩)
  · refine Goal.again ⟨2, h, m - b', E ++ [2], v', A'⟩ ⟨by show m - b' < _; omega, by unfold vld; dsimp only; omega, ?_, ?_, ?_, ?_, ?_⟩ (by simp) ⟨rfl, rfl, rfl, rfl, rfl, rfl, trivial⟩ (fun _ h => h)
    all_goals dsimp only
    · simp at hE ⊢; omega
    · simpa [ints] using hA'
    · rw [e1]; first | (unfold tk; rw [if_neg (by omega), if_neg (by omega), if_pos rfl]; by_cases hq : m - b' ≤ 0 <;> by_cases hr : m - b' < h <;> simp [hq, hr] <;> omega) | (unfold tk; rw [if_neg (by omega), if_neg (by omega)]; simp)
    · rw [e2]; first | (unfold tk; rw [if_neg (by omega), if_neg (by omega), if_pos rfl]; by_cases hq : m - b' ≤ 0 <;> by_cases hr : m - b' < h <;> simp [hq, hr] <;> omega) | (unfold tk; rw [if_neg (by omega), if_neg (by omega)]; simp)
    · rw [e3, List.append_assoc]; congr 1; first | (unfold tk; rw [if_neg (by omega), if_neg (by omega), if_pos rfl]; by_cases hq : m - b' ≤ 0 <;> by_cases hr : m - b' < h <;> simp [hq, hr] <;> omega) | (unfold tk; rw [if_neg (by omega), if_neg (by omega)]; simp)
  · have hT : tk 0 b' h m = (0, b', []) := by unfold tk; rw [if_pos (by omega)]
    rw [hT] at e1 e2 e3
    simp only [List.append_nil] at e3
    refine Goal.done (vs := [_, _, _]) (by first | exact .inl rfl | exact .inr rfl) Try.results10 ⟨⟨_, rfl, LoadOK.agg (vs := [_, _]) T.agg_27 1 rfl rfl ⟨rfl, rfl, trivial⟩⟩, rfl, rfl, trivial⟩ rfl (fun w' H => ⟨v, A, by rw [e3]; exact hA, by rw [e1, e2], H.drop (L := [_, _, _, _])⟩)
  · have hT : tk 2 b' h m = (2, b' - m, []) := by unfold tk; rw [if_neg (by omega), if_pos (by assumption)]
    rw [hT] at e1 e2 e3
    simp only [List.append_nil] at e3
    refine Goal.done (vs := [_, _, _]) (by first | exact .inl rfl | exact .inr rfl) Try.results10 ⟨⟨_, rfl, LoadOK.agg (vs := [_, _]) T.agg_27 1 rfl rfl ⟨rfl, rfl, trivial⟩⟩, rfl, rfl, trivial⟩ rfl (fun w' H => ⟨v, A, by rw [e3]; exact hA, by rw [e1, e2], H.drop (L := [_, _, _, _])⟩)
  · refine Goal.again ⟨3, 0, m - b', E ++ [3], v', A'⟩ ⟨by show m - b' < _; omega, by unfold vld; dsimp only; omega, ?_, ?_, ?_, ?_, ?_⟩ (by simp) ⟨rfl, rfl, rfl, rfl, rfl, rfl, trivial⟩ (fun _ h => h)
    all_goals dsimp only
    · simp at hE ⊢; omega
    · simpa [ints] using hA'
    · rw [e1]; first | (unfold tk; rw [if_neg (by omega), if_neg (by omega), if_pos rfl]; by_cases hq : m - b' ≤ 0 <;> by_cases hr : m - b' < h <;> simp [hq, hr] <;> omega) | (unfold tk; rw [if_neg (by omega), if_neg (by omega)]; simp)
    · rw [e2]; first | (unfold tk; rw [if_neg (by omega), if_neg (by omega), if_pos rfl]; by_cases hq : m - b' ≤ 0 <;> by_cases hr : m - b' < h <;> simp [hq, hr] <;> omega) | (unfold tk; rw [if_neg (by omega), if_neg (by omega)]; simp)
    · rw [e3, List.append_assoc]; congr 1; first | (unfold tk; rw [if_neg (by omega), if_neg (by omega), if_pos rfl]; by_cases hq : m - b' ≤ 0 <;> by_cases hr : m - b' < h <;> simp [hq, hr] <;> omega) | (unfold tk; rw [if_neg (by omega), if_neg (by omega)]; simp)
  · have hT : tk 2 b' h m = (2, b', []) := by unfold tk; rw [if_pos (by omega)]
    rw [hT] at e1 e2 e3
    simp only [List.append_nil] at e3
    refine Goal.done (vs := [_, _, _]) (by first | exact .inl rfl | exact .inr rfl) Try.results10 ⟨⟨_, rfl, LoadOK.agg (vs := [_, _]) T.agg_27 1 rfl rfl ⟨rfl, rfl, trivial⟩⟩, rfl, rfl, trivial⟩ rfl (fun w' H => ⟨v, A, by rw [e3]; exact hA, by rw [e1, e2], H.drop (L := [_, _, _, _])⟩)
end Go.Proofs.Ytlnbogggaajfbaa
