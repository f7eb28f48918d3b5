/- The stages of the program, one function each: what it returns. -/
import Derived.Test.YtlnbogggaajfbaaTypes
import Derived.Test.YtlnbogggaajfbaaRows
namespace Go.Proofs.Ytlnbogggaajfbaa
open Go.Wf
set_option linter.unusedVariables false

/-- Timers that are valid. -/
abbrev tm (g h : Int) : Prop := 1 ≤ g ∧ g ≤ 65536 ∧ 1 ≤ h ∧ h ≤ 65536
/-- A stage that is valid for timers. -/
def vld (a b g h : Int) : Prop := tm g h ∧ ((a = 3 ∧ b = 0) ∨ (a = 0 ∧ 1 ≤ b ∧ b ≤ g) ∨ (a = 2 ∧ 1 ≤ b ∧ b ≤ h))
instance (a b g h : Int) : Decidable (vld a b g h) := by unfold vld; infer_instance

theorem start_any (w : World) : Calls Try.prog 15 #[] w fun e w' => e = .returned (.agg #[.int .i64 3, .int .i64 0]) ∧ Mod [] w w' := by
  refine Goal.enter (args := []) Try.func15 rfl Try.ntmps15 rfl (St.nil w) ?_
  repeat' (first
    | (refine Goal.loud (o := ⟨some 0, _, _, _, _, _⟩) rfl ?_; refine Loud.allocA rfl T.inf_27 (fun b0 => ?_))
    | refine Goal.seq (fun _ _ => ?_)
    | refine Goal.next (by assumption) ?_
    | refine Goal.lnil ?_
    | refine Goal.region ?_
    | refine Goal.skip ?_
    | refine Goal.block ?_
    | refine Goal.exit ?_
    | refine Goal.ret ?_
    | refine Goal.then_exit ?_
    | refine Goal.then_ret ?_
    | refine Goal.inBlock_exit ?_
    | refine Goal.inBlock_normal ?_
    | refine Goal.inBlock_ret ?_
    | refine Goal.inBlock_other rfl ?_
    | (apply Goal.condT; exact rfl)
    | (apply Goal.condF; exact rfl)
    | (refine Goal.condD rfl (fun hc => ?_) (fun hc => ?_) <;> first | (exfalso; omega) | contradiction | skip)
    | refine Goal.condB rfl (fun hc => ?_) (fun hc => ?_)
    | (apply G.build (cs := [_, _]); exact rfl; exact T.lay_27; exact rfl; exact rfl)
    | (refine Goal.loud rfl ?_; refine Loud.store0 rfl rfl T.sz_27 rfl rfl rfl (by first | exact Nat.le_refl _ | decide | (simp; omega)) rfl ?_)
    | (refine Goal.loud rfl ?_; refine Loud.store1 rfl rfl T.sz_27 rfl rfl rfl (by first | exact Nat.le_refl _ | decide | (simp; omega)) rfl ?_)
    | (refine Goal.loud rfl ?_; refine Loud.store2 rfl rfl T.sz_27 rfl rfl rfl (by first | exact Nat.le_refl _ | decide | (simp; omega)) rfl ?_)
    | (refine Goal.loud rfl ?_; refine Loud.store3 rfl rfl T.sz_27 rfl rfl rfl (by first | exact Nat.le_refl _ | decide | (simp; omega)) rfl ?_)
    | (refine Goal.loud rfl ?_; refine Loud.store4 rfl rfl T.sz_27 rfl rfl rfl (by first | exact Nat.le_refl _ | decide | (simp; omega)) rfl ?_)
    | (refine Goal.loud rfl ?_; refine Loud.store5 rfl rfl T.sz_27 rfl rfl rfl (by first | exact Nat.le_refl _ | decide | (simp; omega)) rfl ?_)
    | (refine Goal.loud rfl ?_; refine Loud.store6 rfl rfl T.sz_27 rfl rfl rfl (by first | exact Nat.le_refl _ | decide | (simp; omega)) rfl ?_)
    | (refine Goal.loud rfl ?_; refine Loud.store7 rfl rfl T.sz_27 rfl rfl rfl (by first | exact Nat.le_refl _ | decide | (simp; omega)) rfl ?_))
  refine Goal.done (vs := [_]) (by first | exact .inl rfl | exact .inr rfl) Try.results15 ⟨⟨_, rfl, LoadOK.agg (vs := [_, _]) T.agg_27 0 rfl rfl ⟨rfl, rfl, trivial⟩⟩, trivial⟩ rfl (fun w' H => ⟨rfl, H.mod⟩)

theorem valid_any (a b g h : Int) (w : World) : Calls Try.prog 16 #[.agg #[.int .i64 a, .int .i64 b], .agg #[.int .i64 g, .int .i64 h]] w
    fun e w' => e = .returned (.bool (decide (vld a b g h))) ∧ Mod [] w w' := by
  refine Goal.enter (args := [.agg #[.int .i64 a, .int .i64 b], .agg #[.int .i64 g, .int .i64 h]]) Try.func16 rfl Try.ntmps16 rfl (St.nil w) ?_
  repeat' (first
    | (refine Goal.drawAll (id := 5) 2 T.mixed ?_; all_goals ((refine Goal.take (listed' := #[true, false, false, false]) 0 ⟨rfl, by kernel_rfl, by kernel_rfl, by kernel_rfl, by kernel_rfl, by kernel_rfl⟩ rfl (by (first | exact fun _ h => h | exact fun _ h => h.sub (.cons _ (.refl _)) | exact fun _ h => h.sub (.cons _ (.cons _ (.refl _))) | exact fun _ h => h.sub (.cons _ (.cons _ (.cons _ (.refl _)))) | exact fun _ h => h.drop)) (fun _ _ _ _ h => h) (by (apply Run.load; exact rfl; first | exact LoadOK.agg (vs := [_, _]) T.agg_27 0 rfl rfl ⟨rfl, rfl, trivial⟩ | exact LoadOK.agg (vs := [_, _]) T.agg_27 1 rfl rfl ⟨rfl, rfl, trivial⟩ | exact LoadOK.agg (vs := [_, _]) T.agg_27 2 rfl rfl ⟨rfl, rfl, trivial⟩ | exact LoadOK.agg (vs := [_, _]) T.agg_27 3 rfl rfl ⟨rfl, rfl, trivial⟩ | exact LoadOK.agg (vs := [_, _]) T.agg_27 4 rfl rfl ⟨rfl, rfl, trivial⟩ | exact LoadOK.agg (vs := [_, _]) T.agg_27 5 rfl rfl ⟨rfl, rfl, trivial⟩ | exact LoadOK.agg (vs := [_, _]) T.agg_27 6 rfl rfl ⟨rfl, rfl, trivial⟩ | exact LoadOK.agg (vs := [_, _]) T.agg_27 7 rfl rfl ⟨rfl, rfl, trivial⟩)) ?_)); all_goals (refine Goal.ready1 (i := 1) (by kernel_rfl) ?_); all_goals ((refine Goal.up (i := 1) (listed' := #[true, true, false, false]) rfl (by kernel_rfl) ?_; (apply Loud.call0; exact rfl; exact rfl; exact rfl; exact rfl; exact T.bod_15; exact (fun w H => start_any w)); first | refine Goal.tail rfl ?_ | refine Goal.kept (by (first | exact fun _ h => h | exact fun _ h => h.sub (.cons _ (.refl _)) | exact fun _ h => h.sub (.cons _ (.cons _ (.refl _))) | exact fun _ h => h.sub (.cons _ (.cons _ (.cons _ (.refl _)))) | exact fun _ h => h.drop)) ?_)); all_goals ((refine Goal.takeP (listed' := #[true, true, true, false]) 2 ⟨rfl, by kernel_rfl, by kernel_rfl, by kernel_rfl, by kernel_rfl⟩ rfl (fun _ _ _ _ h => h) (by intro _; first | exact Run.eqlI2 T.i2_27 rfl rfl) ?_)); all_goals ((refine Goal.takeP (listed' := #[true, true, true, true]) 3 ⟨rfl, by kernel_rfl, by kernel_rfl, by kernel_rfl, by kernel_rfl⟩ rfl (fun _ _ _ _ h => h) (by intro _; exact Run.assign rfl) ?_)); all_goals (refine Goal.allUp (by kernel_rfl) ?_))
    | (refine Goal.loud (o := ⟨some 28, _, _, _, _, _⟩) rfl ?_; apply Loud.call0; exact rfl; exact rfl; exact rfl; exact rfl; exact T.bod_15; exact (fun w H => start_any w))
    | (refine Goal.loud (o := ⟨some 2, _, _, _, _, _⟩) rfl ?_; first | refine Loud.boxA rfl rfl (fun b2 => ?_) | refine Loud.box1 rfl rfl rfl (fun b2 => ?_))
    | (refine Goal.loud (o := ⟨some 3, _, _, _, _, _⟩) rfl ?_; first | refine Loud.boxA rfl rfl (fun b3 => ?_) | refine Loud.box1 rfl rfl rfl (fun b3 => ?_))
    | (apply G.move; exact rfl; exact rfl)
    | (apply G.assign; exact rfl; exact rfl)
    | refine Goal.seq (fun _ _ => ?_)
    | refine Goal.next (by assumption) ?_
    | refine Goal.lnil ?_
    | refine Goal.region ?_
    | refine Goal.skip ?_
    | refine Goal.block ?_
    | refine Goal.exit ?_
    | refine Goal.ret ?_
    | refine Goal.then_exit ?_
    | refine Goal.then_ret ?_
    | refine Goal.inBlock_exit ?_
    | refine Goal.inBlock_normal ?_
    | refine Goal.inBlock_ret ?_
    | refine Goal.inBlock_other rfl ?_
    | (apply Goal.condT; exact rfl)
    | (apply Goal.condF; exact rfl)
    | (refine Goal.condD rfl (fun hc => ?_) (fun hc => ?_) <;> first | (exfalso; omega) | contradiction | skip)
    | refine Goal.condB rfl (fun hc => ?_) (fun hc => ?_)
    | refine Goal.guardT rfl rfl ?_
    | refine Goal.guardF rfl rfl rfl rfl ?_
    | refine Goal.guardU rfl rfl rfl ?_
    | (refine Goal.guardD rfl rfl (fun hc => ?_) (fun hc => ?_) <;> first | (exfalso; omega) | contradiction | skip)
    | refine Goal.guardB rfl rfl (fun hc => ?_) (fun hc => ?_)
    | (apply G.fieldAddr; exact rfl; exact rfl; (first | exact T.fld_27_0 | exact T.fld_27_1 | exact T.fld_32_0 | exact T.fld_32_1))
    | (apply G.load; exact rfl; exact rfl; first | exact LoadOK.one T.one_3 0 rfl rfl | exact LoadOK.one T.one_3 1 rfl rfl | exact LoadOK.one T.one_3 2 rfl rfl | exact LoadOK.one T.one_3 3 rfl rfl | exact LoadOK.one T.one_3 4 rfl rfl | exact LoadOK.one T.one_3 5 rfl rfl | exact LoadOK.one T.one_3 6 rfl rfl | exact LoadOK.one T.one_3 7 rfl rfl | exact LoadOK.agg (vs := [_, _]) T.agg_27 0 rfl rfl ⟨rfl, rfl, trivial⟩ | exact LoadOK.agg (vs := [_, _]) T.agg_27 1 rfl rfl ⟨rfl, rfl, trivial⟩ | exact LoadOK.agg (vs := [_, _]) T.agg_27 2 rfl rfl ⟨rfl, rfl, trivial⟩ | exact LoadOK.agg (vs := [_, _]) T.agg_27 3 rfl rfl ⟨rfl, rfl, trivial⟩ | exact LoadOK.agg (vs := [_, _]) T.agg_27 4 rfl rfl ⟨rfl, rfl, trivial⟩ | exact LoadOK.agg (vs := [_, _]) T.agg_27 5 rfl rfl ⟨rfl, rfl, trivial⟩ | exact LoadOK.agg (vs := [_, _]) T.agg_27 6 rfl rfl ⟨rfl, rfl, trivial⟩ | exact LoadOK.agg (vs := [_, _]) T.agg_27 7 rfl rfl ⟨rfl, rfl, trivial⟩)
    | (apply G.pickT; exact rfl; exact rfl; exact rfl)
    | (apply G.pickF; exact rfl; exact rfl; exact rfl)
    | (apply G.lss; exact rfl; exact rfl; exact rfl)
    | (apply G.leq; exact rfl; exact rfl; exact rfl)
    | (apply G.gtr; exact rfl; exact rfl; exact rfl)
    | (apply G.geq; exact rfl; exact rfl; exact rfl)
    | (apply G.eql; exact rfl; exact rfl; exact rfl)
    | (apply G.eqlI2; exact rfl; exact T.i2_27; exact rfl; exact rfl))
  all_goals
    refine Goal.done (vs := [_]) (by first | exact .inl rfl | exact .inr rfl) Try.results16 ⟨rfl, trivial⟩ rfl (fun w' H => ⟨ret_bool (by first | exact (decide_eq_true (by unfold vld; omega)).symm | exact (decide_eq_false (by unfold vld; omega)).symm | exact decide_eq_decide.2 (by unfold vld; omega)), H.mod⟩)
end Go.Proofs.Ytlnbogggaajfbaa
