/- What the statements of the channel share: large, steps, fates. -/
import Derived.Test.YtgidkddkoopdfaaChI
import Derived.Test.YtgidkddkoopdfaaFrame
namespace Go.Proofs.Ytgidkddkoopdfaa
open Go.Wf
set_option linter.unusedVariables false
theorem large_any (d r m : Int) (a1 a2 : Option Addr) (l1 l2 c1 c2 : Nat) (w : World) : Calls Try.prog 10 #[.agg #[.int .i64 d, .int .i64 r, .int .i64 m, .slice a1 l1 c1, .slice a2 l2 c2]] w
    fun e w' => e = .returned (.bool (decide (200 < (l1 : Int) ∨ 200 < (l2 : Int)))) ∧ Mod [] w w' := by
  refine Goal.enter (args := [.agg #[.int .i64 d, .int .i64 r, .int .i64 m, .slice a1 l1 c1, .slice a2 l2 c2]]) Try.func10 rfl Try.ntmps10 rfl (St.nil w) ?_
  repeat' (first
    | (refine Goal.loud (o := ⟨some 1, _, _, _, _, _⟩) rfl ?_; first | refine Loud.boxA rfl rfl (fun b1 => ?_) | refine Loud.box1 rfl rfl rfl (fun b1 => ?_))
    | (apply G.move; exact rfl; exact rfl)
    | (apply G.assign; exact rfl; exact rfl)
    | refine Goal.seq (fun _ _ => ?_)
    | refine Goal.next (by assumption) ?_
    | refine Goal.lnil ?_
    | refine Goal.region ?_
    | refine Goal.skip ?_
    | refine Goal.block ?_
    | refine Goal.exit ?_
    | refine Goal.ret ?_
    | refine Goal.then_exit ?_
    | refine Goal.then_ret ?_
    | refine Goal.inBlock_exit ?_
    | refine Goal.inBlock_normal ?_
    | refine Goal.inBlock_ret ?_
    | refine Goal.inBlock_other rfl ?_
    | (apply Goal.condT; exact rfl)
    | (apply Goal.condF; exact rfl)
    | (refine Goal.condD rfl (fun hc => ?_) (fun hc => ?_) <;> first | (exfalso; omega) | contradiction | skip)
    | refine Goal.condB rfl (fun hc => ?_) (fun hc => ?_)
    | refine Goal.guardT rfl rfl ?_
    | refine Goal.guardF rfl rfl rfl rfl ?_
    | refine Goal.guardU rfl rfl rfl ?_
    | (refine Goal.guardD rfl rfl (fun hc => ?_) (fun hc => ?_) <;> first | (exfalso; omega) | contradiction | skip)
    | refine Goal.guardB rfl rfl (fun hc => ?_) (fun hc => ?_)
    | (apply G.fieldAddr; exact rfl; exact rfl; (first | exact T.fld_25_3 | exact T.fld_25_4))
    | (apply G.load; exact rfl; exact rfl; first | exact LoadOK.one (by first | exact T.one_22 | exact T.one_23) 0 rfl rfl | exact LoadOK.one (by first | exact T.one_22 | exact T.one_23) 1 rfl rfl | exact LoadOK.one (by first | exact T.one_22 | exact T.one_23) 2 rfl rfl | exact LoadOK.one (by first | exact T.one_22 | exact T.one_23) 3 rfl rfl | exact LoadOK.one (by first | exact T.one_22 | exact T.one_23) 4 rfl rfl | exact LoadOK.one (by first | exact T.one_22 | exact T.one_23) 5 rfl rfl | exact LoadOK.one (by first | exact T.one_22 | exact T.one_23) 6 rfl rfl | exact LoadOK.one (by first | exact T.one_22 | exact T.one_23) 7 rfl rfl)
    | (apply G.pickT; exact rfl; exact rfl; exact rfl)
    | (apply G.pickF; exact rfl; exact rfl; exact rfl)
    | (apply G.gtr; exact rfl; exact rfl; exact rfl)
    | (apply G.len; exact rfl; exact rfl; (first | exact T.slc_22 | exact T.slc_23)))
  all_goals
    refine Goal.done (vs := [_]) (by first | exact .inl rfl | exact .inr rfl) Try.results10 ⟨rfl, trivial⟩ rfl (fun w' H => ⟨ret_bool (by first | exact decide_eq_decide.2 (by omega) | exact (decide_eq_true (by omega)).symm | exact (decide_eq_false (by omega)).symm), H.mod⟩)
def nowF (l : List Int) : Int := (l.map (· % 8)).sum
def stepsF : Int → List Int → List Int
  | _, [] => []
  | t, d :: r => (t + d % 8) :: stepsF (t + d % 8) r
theorem nowF_app (l : List Int) (d : Int) : nowF (l ++ [d]) = nowF l + d % 8 := by
  unfold nowF
  simp
theorem stepsF_app (t : Int) (l : List Int) (d : Int) : stepsF t (l ++ [d]) = stepsF t l ++ [t + nowF l + d % 8] := by
  induction l generalizing t with
  | nil => simp [stepsF, nowF]
  | cons a r ih =>
    simp only [List.cons_append, stepsF, ih]
    rw [show nowF (a :: r) = a % 8 + nowF r by simp [nowF], show t + a % 8 + nowF r + d % 8 = t + (a % 8 + nowF r) + d % 8 by omega]
theorem stepsF_len (t : Int) (l : List Int) : (stepsF t l).length = l.length := by
  induction l generalizing t with
  | nil => rfl
  | cons a r ih => simp [stepsF, ih]
theorem nowF_le (l : List Int) : 0 ≤ nowF l ∧ nowF l ≤ 7 * l.length := by
  induction l with
  | nil => simp [nowF]
  | cons a r ih =>
    rw [show nowF (a :: r) = a % 8 + nowF r by simp [nowF]]
    simp only [List.length_cons]
    omega
theorem take_next {l : List Int} {i : Int} (h : 0 ≤ i ∧ i < l.length) : l.take (i + 1).toNat = l.take i.toNat ++ [ia l i] := by
  rw [show (i + 1).toNat = i.toNat + 1 by omega, List.take_succ_eq_append_getElem (by omega)]
  congr 2
  unfold ia
  rw [List.getD_eq_getElem?_getD, List.getElem?_eq_getElem (by omega)]
  rfl
/-- The steps: within bounds and in order. -/
theorem steps_at {l : List Int} {i : Int} (h : 0 ≤ i ∧ i < l.length) : ia (stepsF 0 l) i = nowF (l.take (i + 1).toNat) := by
  have key : ∀ (l : List Int) (t : Int) (k : Nat), k < l.length → (stepsF t l).getD k 0 = t + nowF (l.take (k + 1)) := by
    intro l
    induction l with
    | nil => intro t k hk; simp at hk
    | cons a r ih =>
      intro t k hk
      cases k with
      | zero => simp [stepsF, nowF]
      | succ k =>
        simp only [stepsF, List.getD_cons_succ, List.take_succ_cons]
        rw [ih (t + a % 8) k (by simpa using hk), show nowF (a :: r.take (k + 1)) = a % 8 + nowF (r.take (k + 1)) by simp [nowF]]
        omega
  have := key l 0 i.toNat (by omega)
  unfold ia
  rw [this, show (i + 1).toNat = i.toNat + 1 by omega]
  omega
theorem steps_bound {l : List Int} {i : Int} (h : 0 ≤ i ∧ i < l.length) (hl : l.length ≤ 200) : 0 ≤ ia (stepsF 0 l) i ∧ ia (stepsF 0 l) i ≤ 1400 := by
  rw [steps_at h]
  have := nowF_le (l.take (i + 1).toNat)
  rw [List.length_take] at this
  omega
theorem steps_next {l : List Int} {i : Int} (h : 0 ≤ i ∧ i + 1 < l.length) : ia (stepsF 0 l) i ≤ ia (stepsF 0 l) (i + 1) := by
  rw [steps_at (by omega), steps_at (by omega), take_next (i := i + 1) (by omega), nowF_app]
  omega
structure PX1 where
  (t now : Int) (v : Value) (A : List Blk)
set_option maxHeartbeats 1000000 in
theorem steps_ok {gaps : List Int} {v : Value} {w : World} (hr : RdV w v (gaps.map (.int .u8))) (hq : ∀ n ∈ gaps, (Lit.int .u8 n).wf = true) (hl : gaps.length ≤ 200) : Calls Try.prog 12 #[v] w
    fun e w' => ∃ z : Value × List Blk, Sl z.1 3 1 (stepsF 0 gaps).length (ints (stepsF 0 gaps)) z.2 ∧ e = .returned z.1 ∧ St w [] w' z.2 := by
  obtain ⟨ad, cap, rfl, hr1⟩ := id hr
  simp only [List.length_map] at hr ⊢
  refine Goal.enter (args := [.slice ad gaps.length cap]) Try.func12 rfl Try.ntmps12 rfl (St.nil w) ?_
  repeat' (first
    | (refine Goal.loud (o := ⟨some 20, _, _, _, _, _⟩) rfl ?_; refine Loud.buildSlice (cs := [_]) rfl T.slc_23 T.inf_3 rfl rfl (by decide) rfl rfl rfl (fun b20 => ?_))
    | (apply G.move; exact rfl; exact rfl)
    | (apply G.assign; exact rfl; exact rfl)
    | refine Goal.seq (fun _ _ => ?_)
    | refine Goal.next (by assumption) ?_
    | refine Goal.lnil ?_
    | refine Goal.region ?_
    | refine Goal.skip ?_
    | refine Goal.block ?_
    | refine Goal.exit ?_
    | refine Goal.ret ?_
    | refine Goal.then_exit ?_
    | refine Goal.then_ret ?_
    | refine Goal.inBlock_exit ?_
    | refine Goal.inBlock_normal ?_
    | refine Goal.inBlock_ret ?_
    | refine Goal.inBlock_other rfl ?_
    | (apply Goal.condT; exact rfl)
    | (apply Goal.condF; exact rfl)
    | (refine Goal.condD rfl (fun hc => ?_) (fun hc => ?_) <;> first | (exfalso; omega) | contradiction | skip)
    | refine Goal.condB rfl (fun hc => ?_) (fun hc => ?_)
    | (apply G.load; exact rfl; exact rfl; first | exact LoadOK.one T.one_5 0 rfl rfl | exact LoadOK.one T.one_5 1 rfl rfl | exact LoadOK.one T.one_5 2 rfl rfl | exact LoadOK.one T.one_5 3 rfl rfl | exact LoadOK.one T.one_5 4 rfl rfl | exact LoadOK.one T.one_5 5 rfl rfl | exact LoadOK.one T.one_5 6 rfl rfl | exact LoadOK.one T.one_5 7 rfl rfl)
    | (apply G.lss; exact rfl; exact rfl; exact rfl)
    | (apply G.add; exact rfl; exact rfl; exact rfl; first | exact IntWalk.i64_in _ (by omega) | exact IntWalk.u8_in _ (by omega) | exact IntWalk.u16_in _ (by omega) | exact IntWalk.u32_in _ (by omega) | exact IntWalk.u64_in _ (by omega))
    | (apply G.rem; exact rfl; exact rfl; exact rfl; (first | decide | omega); exact IntWalk.rem_in _ _ (by omega))
    | (apply G.conv; exact rfl; exact rfl; (first | exact T.int_3 | exact T.int_5); (first | exact T.int_3 | exact T.int_5); first | exact IntWalk.i64_in _ (by omega) | exact IntWalk.u8_in _ (by omega) | exact IntWalk.u16_in _ (by omega) | exact IntWalk.u32_in _ (by omega) | exact IntWalk.u64_in _ (by omega))
    | (apply G.len; exact rfl; exact rfl; exact T.slc_26)
    | (refine G.indexAddr1 rfl T.slc_26 T.sz_5 rfl rfl _ rfl (by omega) ?_)
    | (refine G.indexAddr1 rfl T.slc_26 T.sz_5 rfl rfl _ (Int.toNat_of_nonneg (by omega)).symm (by omega) ?_))
  refine Goal.loopP (X := PX1) (fun x => [(7, .slice ad gaps.length cap), (8, .int .i64 gaps.length), (9, .int .i64 x.t), (3, .int .i64 x.now), (4, x.v)]) (fun x => x.A)
    (fun x => (0 ≤ x.t ∧ x.t ≤ gaps.length) ∧ x.now = nowF (gaps.take x.t.toNat) ∧ Sl x.v 3 1 (stepsF 0 (gaps.take x.t.toNat)).length (ints (stepsF 0 (gaps.take x.t.toNat))) x.A) (fun x => (gaps.length - x.t).toNat) ⟨0, 0, .slice none 0 0, []⟩ ⟨rfl, rfl, rfl, rfl, rfl, trivial⟩ (fun _ h => h)
    ⟨by dsimp only; omega, rfl, Sl.nil 3 1⟩ ?_
  rintro ⟨t, now, v, A⟩ ⟨ht, hn, hA⟩
  dsimp only at ht hn hA ⊢
  by_cases hlt : t < gaps.length
  · obtain ⟨b, o, rfl, hk⟩ := rd_nums hr (by omega)
    have hb := bounds_u8 (hq _ (mem_ia ⟨ht.1, hlt⟩))
    have hnl := nowF_le (gaps.take t.toNat)
    rw [List.length_take] at hnl
    have hsl : (stepsF 0 (gaps.take t.toNat)).length = t.toNat := by rw [stepsF_len, List.length_take]; omega
    have hnx := stepsF_app 0 (gaps.take t.toNat) (ia gaps t)
    have hnw := nowF_app (gaps.take t.toNat) (ia gaps t)
    rw [← take_next ⟨ht.1, hlt⟩] at hnx hnw
    subst hn
    repeat' (first
      | (refine Goal.loud (o := ⟨some 21, _, _, _, _, _⟩) rfl ?_; refine Loud.appendT rfl T.slc_23 T.inf_3 rfl [] rfl hA rfl rfl rfl rfl (by omega) (by omega) ?_; intro v2 A2 hA2)
      | (refine Goal.loud (o := ⟨some 20, _, _, _, _, _⟩) rfl ?_; refine Loud.buildSlice (cs := [_]) rfl T.slc_23 T.inf_3 rfl rfl (by decide) rfl rfl rfl (fun b20 => ?_))
      | (apply G.move; exact rfl; exact rfl)
      | (apply G.assign; exact rfl; exact rfl)
      | refine Goal.seq (fun _ _ => ?_)
      | refine Goal.next (by assumption) ?_
      | refine Goal.lnil ?_
      | refine Goal.region ?_
      | refine Goal.skip ?_
      | refine Goal.block ?_
      | refine Goal.exit ?_
      | refine Goal.ret ?_
      | refine Goal.then_exit ?_
      | refine Goal.then_ret ?_
      | refine Goal.inBlock_exit ?_
      | refine Goal.inBlock_normal ?_
      | refine Goal.inBlock_ret ?_
      | refine Goal.inBlock_other rfl ?_
      | (apply Goal.condT; exact rfl)
      | (apply Goal.condF; exact rfl)
      | (refine Goal.condD rfl (fun hc => ?_) (fun hc => ?_) <;> first | (exfalso; omega) | contradiction | skip)
      | refine Goal.condB rfl (fun hc => ?_) (fun hc => ?_)
      | (apply G.load; exact rfl; exact rfl; first | exact LoadOK.old T.one_5 (hk _ (by omega) (by omega)) (by simp) | exact LoadOK.one T.one_5 0 rfl rfl | exact LoadOK.one T.one_5 1 rfl rfl | exact LoadOK.one T.one_5 2 rfl rfl | exact LoadOK.one T.one_5 3 rfl rfl | exact LoadOK.one T.one_5 4 rfl rfl | exact LoadOK.one T.one_5 5 rfl rfl | exact LoadOK.one T.one_5 6 rfl rfl | exact LoadOK.one T.one_5 7 rfl rfl)
      | (apply G.lss; exact rfl; exact rfl; exact rfl)
      | (apply G.add; exact rfl; exact rfl; exact rfl; first | exact IntWalk.i64_in _ (by omega) | exact IntWalk.u8_in _ (by omega) | exact IntWalk.u16_in _ (by omega) | exact IntWalk.u32_in _ (by omega) | exact IntWalk.u64_in _ (by omega))
      | (apply G.rem; exact rfl; exact rfl; exact rfl; (first | decide | omega); exact IntWalk.rem_in _ _ (by omega))
      | (apply G.conv; exact rfl; exact rfl; (first | exact T.int_3 | exact T.int_5); (first | exact T.int_3 | exact T.int_5); first | exact IntWalk.i64_in _ (by omega) | exact IntWalk.u8_in _ (by omega) | exact IntWalk.u16_in _ (by omega) | exact IntWalk.u32_in _ (by omega) | exact IntWalk.u64_in _ (by omega))
      | (apply G.len; exact rfl; exact rfl; exact T.slc_26)
      | (refine G.indexAddr1 rfl T.slc_26 T.sz_5 rfl rfl _ rfl (by omega) ?_)
      | (refine G.indexAddr1 rfl T.slc_26 T.sz_5 rfl rfl _ (Int.toNat_of_nonneg (by omega)).symm (by omega) ?_))
    refine Goal.again ⟨t + 1, nowF (gaps.take t.toNat) + ia gaps t % 8, v2, A2⟩ ⟨by dsimp only; omega, hnw.symm, ?_⟩ (by dsimp only; omega) ⟨rfl, rfl, rfl, rfl, rfl, trivial⟩ (fun _ h => h)
    dsimp only
    rw [hnx, Int.zero_add, List.length_append]
    have : ints (stepsF 0 (gaps.take t.toNat) ++ [nowF (gaps.take t.toNat) + ia gaps t % 8]) = ints (stepsF 0 (gaps.take t.toNat)) ++ [.int .i64 (nowF (gaps.take t.toNat) + ia gaps t % 8)] := by simp [ints]
    rw [this]
    exact hA2
  · have e : gaps.take t.toNat = gaps := List.take_of_length_le (by omega)
    rw [e] at hA
    repeat' (first
      | (refine Goal.loud (o := ⟨some 20, _, _, _, _, _⟩) rfl ?_; refine Loud.buildSlice (cs := [_]) rfl T.slc_23 T.inf_3 rfl rfl (by decide) rfl rfl rfl (fun b20 => ?_))
      | (apply G.move; exact rfl; exact rfl)
      | (apply G.assign; exact rfl; exact rfl)
      | refine Goal.seq (fun _ _ => ?_)
      | refine Goal.next (by assumption) ?_
      | refine Goal.lnil ?_
      | refine Goal.region ?_
      | refine Goal.skip ?_
      | refine Goal.block ?_
      | refine Goal.exit ?_
      | refine Goal.ret ?_
      | refine Goal.then_exit ?_
      | refine Goal.then_ret ?_
      | refine Goal.inBlock_exit ?_
      | refine Goal.inBlock_normal ?_
      | refine Goal.inBlock_ret ?_
      | refine Goal.inBlock_other rfl ?_
      | (apply Goal.condT; exact rfl)
      | (apply Goal.condF; exact rfl)
      | (refine Goal.condD rfl (fun hc => ?_) (fun hc => ?_) <;> first | (exfalso; omega) | contradiction | skip)
      | refine Goal.condB rfl (fun hc => ?_) (fun hc => ?_)
      | (apply G.load; exact rfl; exact rfl; first | exact LoadOK.one T.one_5 0 rfl rfl | exact LoadOK.one T.one_5 1 rfl rfl | exact LoadOK.one T.one_5 2 rfl rfl | exact LoadOK.one T.one_5 3 rfl rfl | exact LoadOK.one T.one_5 4 rfl rfl | exact LoadOK.one T.one_5 5 rfl rfl | exact LoadOK.one T.one_5 6 rfl rfl | exact LoadOK.one T.one_5 7 rfl rfl)
      | (apply G.lss; exact rfl; exact rfl; exact rfl)
      | (apply G.add; exact rfl; exact rfl; exact rfl; first | exact IntWalk.i64_in _ (by omega) | exact IntWalk.u8_in _ (by omega) | exact IntWalk.u16_in _ (by omega) | exact IntWalk.u32_in _ (by omega) | exact IntWalk.u64_in _ (by omega))
      | (apply G.rem; exact rfl; exact rfl; exact rfl; (first | decide | omega); exact IntWalk.rem_in _ _ (by omega))
      | (apply G.conv; exact rfl; exact rfl; (first | exact T.int_3 | exact T.int_5); (first | exact T.int_3 | exact T.int_5); first | exact IntWalk.i64_in _ (by omega) | exact IntWalk.u8_in _ (by omega) | exact IntWalk.u16_in _ (by omega) | exact IntWalk.u32_in _ (by omega) | exact IntWalk.u64_in _ (by omega))
      | (apply G.len; exact rfl; exact rfl; exact T.slc_26)
      | (refine G.indexAddr1 rfl T.slc_26 T.sz_5 rfl rfl _ rfl (by omega) ?_)
      | (refine G.indexAddr1 rfl T.slc_26 T.sz_5 rfl rfl _ (Int.toNat_of_nonneg (by omega)).symm (by omega) ?_))
    refine Goal.done (vs := [_]) (by first | exact .inl rfl | exact .inr rfl) Try.results12 ⟨rfl, trivial⟩ rfl (fun w' H => ⟨⟨v, A⟩, hA, rfl, H⟩)
end Go.Proofs.Ytgidkddkoopdfaa
