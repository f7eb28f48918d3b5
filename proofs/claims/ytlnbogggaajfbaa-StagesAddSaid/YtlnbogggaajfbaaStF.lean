/- The statement of n and then m ticks. -/
import Derived.Test.YtlnbogggaajfbaaStE
namespace Go.Proofs.Ytlnbogggaajfbaa
open Go.Wf
set_option linter.unusedVariables false

theorem ints_one (E : List Int) : (ints E).all Value.oneCell' = true := by
  simp [ints, List.all_map, Function.comp_def, Value.oneCell']
theorem ints_append (E D : List Int) : ints (E ++ D) = ints E ++ ints D := by simp [ints]
theorem T1 {a b h n : Int} (hn : n ≤ 0) : tk a b h n = (a, b, []) := by unfold tk; rw [if_pos (by omega)]
theorem T2 {b h n : Int} : tk 3 b h n = (3, b, []) := by unfold tk; rw [if_pos (by omega)]
theorem T3 {b h n : Int} (h1 : 0 < n) (h2 : n < b) : tk 0 b h n = (0, b - n, []) := by unfold tk; rw [if_neg (by omega), if_pos (by omega)]
theorem T3' {b h n : Int} (h1 : 0 < n) (h2 : n < b) : tk 2 b h n = (2, b - n, []) := by unfold tk; rw [if_neg (by omega), if_pos (by omega)]
theorem T4 {b h n : Int} (h0 : 1 ≤ b) (h1 : b ≤ n) (h2 : n < b + h) : tk 0 b h n = (2, h - (n - b), [2]) := by unfold tk; rw [if_neg (by omega), if_neg (by omega), if_pos (by omega), if_pos (by omega)]
theorem T5 {b h n : Int} (h0 : 1 ≤ b) (h3 : 1 ≤ h) (h2 : b + h ≤ n) : tk 0 b h n = (3, 0, [2, 3]) := by unfold tk; rw [if_neg (by omega), if_neg (by omega), if_pos (by omega), if_neg (by omega)]
theorem T6 {b h n : Int} (h0 : 1 ≤ b) (h2 : b ≤ n) : tk 2 b h n = (3, 0, [3]) := by unfold tk; rw [if_neg (by omega), if_neg (by omega), if_neg (by omega)]
theorem tk_vld {a b g h n : Int} (hn : 0 ≤ n) (hv : vld a b g h) : vld (tk a b h n).1 (tk a b h n).2.1 g h := by
  unfold vld at hv ⊢
  unfold tm at hv ⊢
  obtain ⟨hg, h1⟩ := hv
  rcases h1 with ⟨rfl, rfl⟩ | ⟨rfl, h1, h2⟩ | ⟨rfl, h1, h2⟩
  · rw [T2]; dsimp only; omega
  · rcases (by omega : n ≤ 0 ∨ (0 < n ∧ n < b) ∨ (b ≤ n ∧ n < b + h) ∨ b + h ≤ n) with c | ⟨c, d⟩ | ⟨c, d⟩ | c
    · rw [T1 c]; dsimp only; omega
    · rw [T3 c d]; dsimp only; omega
    · rw [T4 h1 c d]; dsimp only; omega
    · rw [T5 h1 (by omega) c]; dsimp only; omega
  · rcases (by omega : n ≤ 0 ∨ (0 < n ∧ n < b) ∨ b ≤ n) with c | ⟨c, d⟩ | c
    · rw [T1 c]; dsimp only; omega
    · rw [T3' c d]; dsimp only; omega
    · rw [T6 h1 c]; dsimp only; omega
theorem tk_two' {b h q : Int} (h1 : 1 ≤ b) (hq : 0 ≤ q) {p : Int} (hp : 0 ≤ p) : tk 2 b h (p + q) = ((tk (tk 2 b h p).1 (tk 2 b h p).2.1 h q).1, (tk (tk 2 b h p).1 (tk 2 b h p).2.1 h q).2.1, (tk 2 b h p).2.2 ++ (tk (tk 2 b h p).1 (tk 2 b h p).2.1 h q).2.2) := by
  rcases (by omega : p = 0 ∨ (0 < p ∧ p < b) ∨ b ≤ p) with rfl | ⟨c, d⟩ | c
  · rw [T1 (n := 0) (by omega)]; simp
  · rw [T3' c d]
    dsimp only
    rcases (by omega : q = 0 ∨ (0 < q ∧ q < b - p) ∨ b - p ≤ q) with rfl | ⟨c', d'⟩ | c'
    · rw [T1 (n := 0) (by omega), Int.add_zero, T3' c d]; simp
    · rw [T3' c' d', T3' (by omega) (by omega)]; simp; omega
    · rw [T6 (by omega) c', T6 h1 (by omega)]; simp
  · rw [T6 h1 c]
    dsimp only
    rw [T2, T6 h1 (by omega)]; simp
theorem tk_add {a b g h p q : Int} (hp : 0 ≤ p) (hq : 0 ≤ q) (hv : vld a b g h) : tk a b h (p + q) = ((tk (tk a b h p).1 (tk a b h p).2.1 h q).1, (tk (tk a b h p).1 (tk a b h p).2.1 h q).2.1, (tk a b h p).2.2 ++ (tk (tk a b h p).1 (tk a b h p).2.1 h q).2.2) := by
  unfold vld tm at hv
  obtain ⟨hg, h1⟩ := hv
  rcases h1 with ⟨rfl, rfl⟩ | ⟨rfl, h1, h2⟩ | ⟨rfl, h1, h2⟩
  · rw [T2, T2]; dsimp only; rw [T2]; simp
  · rcases (by omega : p = 0 ∨ (0 < p ∧ p < b) ∨ (b ≤ p ∧ p < b + h) ∨ b + h ≤ p) with rfl | ⟨c, d⟩ | ⟨c, d⟩ | c
    · rw [T1 (n := 0) (by omega)]; simp
    · rw [T3 c d]
      dsimp only
      rcases (by omega : q = 0 ∨ (0 < q ∧ q < b - p) ∨ (b - p ≤ q ∧ q < b - p + h) ∨ b - p + h ≤ q) with rfl | ⟨c', d'⟩ | ⟨c', d'⟩ | c'
      · rw [T1 (n := 0) (by omega), Int.add_zero, T3 c d]; simp
      · rw [T3 c' d', T3 (by omega) (by omega)]; simp; omega
      · rw [T4 (by omega) c' d', T4 (by omega) (by omega) (by omega)]; simp; omega
      · rw [T5 (by omega) (by omega) c', T5 (by omega) (by omega) (by omega)]; simp
    · rw [T4 h1 c d]
      dsimp only
      rcases (by omega : q = 0 ∨ (0 < q ∧ q < h - (p - b)) ∨ h - (p - b) ≤ q) with rfl | ⟨c', d'⟩ | c'
      · rw [T1 (n := 0) (by omega), Int.add_zero, T4 h1 c d]; simp
      · rw [T3' c' d', T4 h1 (by omega) (by omega)]; simp; omega
      · rw [T6 (by omega) c', T5 h1 (by omega) (by omega)]; simp
    · rw [T5 h1 (by omega) c]
      dsimp only
      rw [T2, T5 h1 (by omega) (by omega)]; simp
  · exact tk_two' h1 hq hp

set_option maxHeartbeats 4000000 in
theorem law_add (a b g h p q : Int) (hp : 0 ≤ p ∧ p ≤ 4294967295) (hq : 0 ≤ q ∧ q ≤ 4294967295) (w : World) : Calls Try.prog 5 #[.agg #[.int .i64 a, .int .i64 b], .agg #[.int .i64 g, .int .i64 h], .agg #[.int .u32 p, .int .u32 q]] w fun e w' => e = .returned (.bool true) ∧ Mod [] w w' := by
  by_cases hv : vld a b g h
  · have l1 := tk_len a b h p
    have l2 := tk_len (tk a b h p).1 (tk a b h p).2.1 h q
    have V1 := tk_vld hp.1 hv
    have hA := tk_add hp.1 hq.1 hv
    generalize e1 : tk a b h p = X1 at l1 l2 V1 hA
    obtain ⟨a1, b1, E1⟩ := X1
    dsimp only at l1 l2 V1 hA
    generalize e2 : tk a1 b1 h q = X2 at l2 hA
    obtain ⟨a2, b2, E2⟩ := X2
    dsimp only at l2 hA
    refine Goal.enter (args := [.agg #[.int .i64 a, .int .i64 b], .agg #[.int .i64 g, .int .i64 h], .agg #[.int .u32 p, .int .u32 q]]) Try.func5 rfl Try.ntmps5 rfl (St.nil w) ?_
    repeat' (first
      | (refine Goal.loud (o := ⟨some 17, _, _, _, _, _⟩) rfl ?_; apply Loud.call0; exact rfl; exact rfl; exact rfl; exact rfl; exact T.bod_9; exact (fun w H => awake_any w))
      | (refine Goal.loud (o := ⟨some 21, _, _, _, _, _⟩) rfl ?_; apply Loud.call0; exact rfl; exact rfl; exact rfl; exact rfl; exact T.bod_11; exact (fun w H => rvalid_any a b g h w))
      | (refine Goal.loud (o := ⟨some 30, _, _, _, _, _⟩) rfl ?_; apply Loud.callN; exact rfl; exact rfl; exact rfl; exact rfl; exact T.bod_10; exact (fun w H => tick_e a b g h p _ _ _ w (by omega) hv e1); rintro ⟨v1, A1⟩ h1; dsimp only at h1 ⊢)
      | (refine Goal.loud (o := ⟨some 40, _, _, _, _, _⟩) rfl ?_; apply Loud.callN; exact rfl; exact rfl; exact rfl; exact rfl; exact T.bod_10; exact (fun w H => tick_e a1 b1 g h q _ _ _ w (by omega) V1 e2); rintro ⟨v2, A2⟩ h2; dsimp only at h2 ⊢)
      | (refine Goal.loud (o := ⟨some 54, _, _, _, _, _⟩) rfl ?_; apply Loud.callN; exact rfl; exact rfl; exact rfl; exact rfl; exact T.bod_10; exact (fun w H => tick_e a b g h (p + q) _ _ _ w (by omega) hv hA); rintro ⟨v3, A3⟩ h3; dsimp only at h3 ⊢)
      | (refine Goal.loud (o := ⟨some 76, _, _, _, _, _⟩) rfl ?_; refine Loud.appendRd (news := ints E1) (k := 0) (vs := []) (A := [(b74, _)]) rfl T.slc_28 T.inf_3 rfl rfl (Sl.full (vs := []) (n := 0) rfl) rfl (ints_one _) (by rw [ints_len]; omega) (by rw [ints_len]; omega) (fun w H => RdV.of_sl h1 (H.own.of_mem (by intro p hp; simp [hp]))) (fun _ h => h) ?_; intro v4 A4 h4)
      | (refine Goal.loud (o := ⟨some 78, _, _, _, _, _⟩) rfl ?_; refine Loud.appendRd (news := ints E2) rfl T.slc_28 T.inf_3 rfl rfl h4 rfl (ints_one _) (by rw [ints_len, ints_len]; omega) (by rw [ints_len, ints_len]; omega) (fun w H => RdV.of_sl h2 (H.own.of_mem (by intro p hp; simp [hp]))) (fun _ h => h) ?_; intro v5 A5 h5; rw [List.nil_append, ← ints_append] at h5)
      | (refine Goal.loud (o := ⟨some 80, _, _, _, _, _⟩) rfl ?_; apply Loud.call0; exact rfl; exact rfl; exact rfl; exact rfl; exact T.bod_13; exact (fun w H => same_any (RdV.of_sl h5 (H.own.of_mem (by intro p hp; simp [hp]))) (RdV.of_sl h3 (H.own.of_mem (by intro p hp; simp [hp]))) (by simp; omega) (by simp; omega)))
      | (refine Goal.loud (o := ⟨some 3, _, _, _, _, _⟩) rfl ?_; first | refine Loud.boxA rfl rfl (fun b3 => ?_) | refine Loud.box1 rfl rfl rfl (fun b3 => ?_))
      | (refine Goal.loud (o := ⟨some 4, _, _, _, _, _⟩) rfl ?_; first | refine Loud.boxA rfl rfl (fun b4 => ?_) | refine Loud.box1 rfl rfl rfl (fun b4 => ?_))
      | (refine Goal.loud (o := ⟨some 5, _, _, _, _, _⟩) rfl ?_; first | refine Loud.boxA rfl rfl (fun b5 => ?_) | refine Loud.box1 rfl rfl rfl (fun b5 => ?_))
      | (refine Goal.loud (o := ⟨some 7, _, _, _, _, _⟩) rfl ?_; refine Loud.allocA rfl T.inf_32 (fun b7 => ?_))
      | (refine Goal.loud (o := ⟨some 8, _, _, _, _, _⟩) rfl ?_; refine Loud.allocA rfl T.inf_27 (fun b8 => ?_))
      | (refine Goal.loud (o := ⟨some 11, _, _, _, _, _⟩) rfl ?_; refine Loud.allocA rfl T.inf_27 (fun b11 => ?_))
      | (refine Goal.loud (o := ⟨some 14, _, _, _, _, _⟩) rfl ?_; refine Loud.allocA rfl T.inf_27 (fun b14 => ?_))
      | (refine Goal.loud (o := ⟨some 74, _, _, _, _, _⟩) rfl ?_; refine Loud.buildSlice (cs := []) rfl T.slc_28 T.inf_3 rfl rfl (by decide) rfl rfl rfl (fun b74 => ?_))
      | (apply G.move; exact rfl; exact rfl)
      | (apply G.assign; exact rfl; exact rfl)
      | refine Goal.seq (fun _ _ => ?_)
      | refine Goal.next (by assumption) ?_
      | refine Goal.lnil ?_
      | refine Goal.region ?_
      | refine Goal.skip ?_
      | refine Goal.block ?_
      | refine Goal.exit ?_
      | refine Goal.ret ?_
      | refine Goal.then_exit ?_
      | refine Goal.then_ret ?_
      | refine Goal.inBlock_exit ?_
      | refine Goal.inBlock_normal ?_
      | refine Goal.inBlock_ret ?_
      | refine Goal.inBlock_other rfl ?_
      | (apply Goal.condT; exact rfl)
      | (apply Goal.condF; exact rfl)
      | (refine Goal.condD rfl (fun hc => ?_) (fun hc => ?_) <;> first | (exfalso; omega) | contradiction | skip)
      | refine Goal.condB rfl (fun hc => ?_) (fun hc => ?_)
      | refine Goal.guardT rfl rfl ?_
      | refine Goal.guardF rfl rfl rfl rfl ?_
      | (refine Goal.guardD rfl rfl (fun hc => ?_) (fun hc => ?_) <;> first | (exfalso; omega) | contradiction | skip)
      | refine Goal.guardB rfl rfl (fun hc => ?_) (fun hc => ?_)
      | (apply G.load; exact rfl; exact rfl; first | exact LoadOK.one T.one_39 0 rfl rfl | exact LoadOK.one T.one_39 1 rfl rfl | exact LoadOK.one T.one_39 2 rfl rfl | exact LoadOK.one T.one_39 3 rfl rfl | exact LoadOK.one T.one_39 4 rfl rfl | exact LoadOK.one T.one_39 5 rfl rfl | exact LoadOK.one T.one_39 6 rfl rfl | exact LoadOK.one T.one_39 7 rfl rfl | exact LoadOK.agg (vs := [_, _]) T.agg_23 0 rfl rfl ⟨rfl, rfl, trivial⟩ | exact LoadOK.agg (vs := [_, _]) T.agg_23 1 rfl rfl ⟨rfl, rfl, trivial⟩ | exact LoadOK.agg (vs := [_, _]) T.agg_23 2 rfl rfl ⟨rfl, rfl, trivial⟩ | exact LoadOK.agg (vs := [_, _]) T.agg_23 3 rfl rfl ⟨rfl, rfl, trivial⟩ | exact LoadOK.agg (vs := [_, _]) T.agg_23 4 rfl rfl ⟨rfl, rfl, trivial⟩ | exact LoadOK.agg (vs := [_, _]) T.agg_23 5 rfl rfl ⟨rfl, rfl, trivial⟩ | exact LoadOK.agg (vs := [_, _]) T.agg_23 6 rfl rfl ⟨rfl, rfl, trivial⟩ | exact LoadOK.agg (vs := [_, _]) T.agg_23 7 rfl rfl ⟨rfl, rfl, trivial⟩ | exact LoadOK.agg (vs := [_, _]) T.agg_25 0 rfl rfl ⟨rfl, rfl, trivial⟩ | exact LoadOK.agg (vs := [_, _]) T.agg_25 1 rfl rfl ⟨rfl, rfl, trivial⟩ | exact LoadOK.agg (vs := [_, _]) T.agg_25 2 rfl rfl ⟨rfl, rfl, trivial⟩ | exact LoadOK.agg (vs := [_, _]) T.agg_25 3 rfl rfl ⟨rfl, rfl, trivial⟩ | exact LoadOK.agg (vs := [_, _]) T.agg_25 4 rfl rfl ⟨rfl, rfl, trivial⟩ | exact LoadOK.agg (vs := [_, _]) T.agg_25 5 rfl rfl ⟨rfl, rfl, trivial⟩ | exact LoadOK.agg (vs := [_, _]) T.agg_25 6 rfl rfl ⟨rfl, rfl, trivial⟩ | exact LoadOK.agg (vs := [_, _]) T.agg_25 7 rfl rfl ⟨rfl, rfl, trivial⟩ | exact LoadOK.agg (vs := [_, _]) T.agg_27 0 rfl rfl ⟨rfl, rfl, trivial⟩ | exact LoadOK.agg (vs := [_, _]) T.agg_27 1 rfl rfl ⟨rfl, rfl, trivial⟩ | exact LoadOK.agg (vs := [_, _]) T.agg_27 2 rfl rfl ⟨rfl, rfl, trivial⟩ | exact LoadOK.agg (vs := [_, _]) T.agg_27 3 rfl rfl ⟨rfl, rfl, trivial⟩ | exact LoadOK.agg (vs := [_, _]) T.agg_27 4 rfl rfl ⟨rfl, rfl, trivial⟩ | exact LoadOK.agg (vs := [_, _]) T.agg_27 5 rfl rfl ⟨rfl, rfl, trivial⟩ | exact LoadOK.agg (vs := [_, _]) T.agg_27 6 rfl rfl ⟨rfl, rfl, trivial⟩ | exact LoadOK.agg (vs := [_, _]) T.agg_27 7 rfl rfl ⟨rfl, rfl, trivial⟩ | exact LoadOK.agg (vs := [_, _]) T.agg_32 0 rfl rfl ⟨rfl, rfl, trivial⟩ | exact LoadOK.agg (vs := [_, _]) T.agg_32 1 rfl rfl ⟨rfl, rfl, trivial⟩ | exact LoadOK.agg (vs := [_, _]) T.agg_32 2 rfl rfl ⟨rfl, rfl, trivial⟩ | exact LoadOK.agg (vs := [_, _]) T.agg_32 3 rfl rfl ⟨rfl, rfl, trivial⟩ | exact LoadOK.agg (vs := [_, _]) T.agg_32 4 rfl rfl ⟨rfl, rfl, trivial⟩ | exact LoadOK.agg (vs := [_, _]) T.agg_32 5 rfl rfl ⟨rfl, rfl, trivial⟩ | exact LoadOK.agg (vs := [_, _]) T.agg_32 6 rfl rfl ⟨rfl, rfl, trivial⟩ | exact LoadOK.agg (vs := [_, _]) T.agg_32 7 rfl rfl ⟨rfl, rfl, trivial⟩)
      | (apply G.pickT; exact rfl; exact rfl; exact rfl)
      | (apply G.pickF; exact rfl; exact rfl; exact rfl)
      | (apply G.eql; exact rfl; exact rfl; exact rfl)
      | (apply G.add; exact rfl; exact rfl; exact rfl; first | exact IntWalk.i64_in _ (by omega) | exact IntWalk.u8_in _ (by omega) | exact IntWalk.u16_in _ (by omega) | exact IntWalk.u32_in _ (by omega) | exact IntWalk.u64_in _ (by omega))
      | (apply G.eqlI2; exact rfl; exact T.i2_27; exact rfl; exact rfl)
      | (apply G.conv; exact rfl; exact rfl; (first | exact T.int_3 | exact T.int_39); (first | exact T.int_3 | exact T.int_39); first | exact IntWalk.i64_in _ (by omega) | exact IntWalk.u8_in _ (by omega) | exact IntWalk.u16_in _ (by omega) | exact IntWalk.u32_in _ (by omega) | exact IntWalk.u64_in _ (by omega))
      | (apply G.notT; exact rfl; exact rfl)
      | (apply G.notF; exact rfl; exact rfl)
      | (refine G.notD rfl rfl ?_)
      | (apply G.notB; exact rfl; exact rfl)
      | (apply G.extract; exact rfl; exact rfl; exact rfl)
      | (refine G.indexAddrA rfl T.arr_45 T.sz_39 rfl rfl _ rfl (by omega) ?_)
      | (refine G.indexAddrA rfl T.arr_45 T.sz_39 rfl rfl _ (Int.toNat_of_nonneg (by omega)).symm (by omega) ?_)
      | (refine Goal.loud rfl ?_; refine Loud.store0 rfl rfl (by first | exact T.sz_27 | exact T.sz_32) rfl rfl rfl (by first | exact Nat.le_refl _ | decide | (simp; omega)) rfl ?_)
      | (refine Goal.loud rfl ?_; refine Loud.store1 rfl rfl (by first | exact T.sz_27 | exact T.sz_32) rfl rfl rfl (by first | exact Nat.le_refl _ | decide | (simp; omega)) rfl ?_)
      | (refine Goal.loud rfl ?_; refine Loud.store2 rfl rfl (by first | exact T.sz_27 | exact T.sz_32) rfl rfl rfl (by first | exact Nat.le_refl _ | decide | (simp; omega)) rfl ?_)
      | (refine Goal.loud rfl ?_; refine Loud.store3 rfl rfl (by first | exact T.sz_27 | exact T.sz_32) rfl rfl rfl (by first | exact Nat.le_refl _ | decide | (simp; omega)) rfl ?_)
      | (refine Goal.loud rfl ?_; refine Loud.store4 rfl rfl (by first | exact T.sz_27 | exact T.sz_32) rfl rfl rfl (by first | exact Nat.le_refl _ | decide | (simp; omega)) rfl ?_)
      | (refine Goal.loud rfl ?_; refine Loud.store5 rfl rfl (by first | exact T.sz_27 | exact T.sz_32) rfl rfl rfl (by first | exact Nat.le_refl _ | decide | (simp; omega)) rfl ?_)
      | (refine Goal.loud rfl ?_; refine Loud.store6 rfl rfl (by first | exact T.sz_27 | exact T.sz_32) rfl rfl rfl (by first | exact Nat.le_refl _ | decide | (simp; omega)) rfl ?_)
      | (refine Goal.loud rfl ?_; refine Loud.store7 rfl rfl (by first | exact T.sz_27 | exact T.sz_32) rfl rfl rfl (by first | exact Nat.le_refl _ | decide | (simp; omega)) rfl ?_))
    all_goals first
      | (exfalso; omega)
      | (exfalso; simp_all; done)
      | (refine Goal.done (vs := [_]) (.inl rfl) Try.results5 ⟨rfl, trivial⟩ rfl (fun w' H => ⟨ret_bool (by first | rfl | simp), H.mod⟩))
  · refine Goal.enter (args := [.agg #[.int .i64 a, .int .i64 b], .agg #[.int .i64 g, .int .i64 h], .agg #[.int .u32 p, .int .u32 q]]) Try.func5 rfl Try.ntmps5 rfl (St.nil w) ?_
    repeat' (first
      | (refine Goal.loud (o := ⟨some 17, _, _, _, _, _⟩) rfl ?_; apply Loud.call0; exact rfl; exact rfl; exact rfl; exact rfl; exact T.bod_9; exact (fun w H => awake_any w))
      | (refine Goal.loud (o := ⟨some 21, _, _, _, _, _⟩) rfl ?_; apply Loud.call0; exact rfl; exact rfl; exact rfl; exact rfl; exact T.bod_11; exact (fun w H => rvalid_any a b g h w))
      | (refine Goal.loud (o := ⟨some 3, _, _, _, _, _⟩) rfl ?_; first | refine Loud.boxA rfl rfl (fun b3 => ?_) | refine Loud.box1 rfl rfl rfl (fun b3 => ?_))
      | (refine Goal.loud (o := ⟨some 4, _, _, _, _, _⟩) rfl ?_; first | refine Loud.boxA rfl rfl (fun b4 => ?_) | refine Loud.box1 rfl rfl rfl (fun b4 => ?_))
      | (refine Goal.loud (o := ⟨some 5, _, _, _, _, _⟩) rfl ?_; first | refine Loud.boxA rfl rfl (fun b5 => ?_) | refine Loud.box1 rfl rfl rfl (fun b5 => ?_))
      | (refine Goal.loud (o := ⟨some 7, _, _, _, _, _⟩) rfl ?_; refine Loud.allocA rfl T.inf_32 (fun b7 => ?_))
      | (refine Goal.loud (o := ⟨some 8, _, _, _, _, _⟩) rfl ?_; refine Loud.allocA rfl T.inf_27 (fun b8 => ?_))
      | (refine Goal.loud (o := ⟨some 11, _, _, _, _, _⟩) rfl ?_; refine Loud.allocA rfl T.inf_27 (fun b11 => ?_))
      | (refine Goal.loud (o := ⟨some 14, _, _, _, _, _⟩) rfl ?_; refine Loud.allocA rfl T.inf_27 (fun b14 => ?_))
      | (refine Goal.loud (o := ⟨some 74, _, _, _, _, _⟩) rfl ?_; refine Loud.buildSlice (cs := []) rfl T.slc_28 T.inf_3 rfl rfl (by decide) rfl rfl rfl (fun b74 => ?_))
      | (apply G.move; exact rfl; exact rfl)
      | (apply G.assign; exact rfl; exact rfl)
      | refine Goal.seq (fun _ _ => ?_)
      | refine Goal.next (by assumption) ?_
      | refine Goal.lnil ?_
      | refine Goal.region ?_
      | refine Goal.skip ?_
      | refine Goal.block ?_
      | refine Goal.exit ?_
      | refine Goal.ret ?_
      | refine Goal.then_exit ?_
      | refine Goal.then_ret ?_
      | refine Goal.inBlock_exit ?_
      | refine Goal.inBlock_normal ?_
      | refine Goal.inBlock_ret ?_
      | refine Goal.inBlock_other rfl ?_
      | (apply Goal.condT; exact rfl)
      | (apply Goal.condF; exact rfl)
      | (refine Goal.condD rfl (fun hc => ?_) (fun hc => ?_) <;> first | (exfalso; omega) | contradiction | skip)
      | refine Goal.condB rfl (fun hc => ?_) (fun hc => ?_)
      | refine Goal.guardT rfl rfl ?_
      | refine Goal.guardF rfl rfl rfl rfl ?_
      | (refine Goal.guardD rfl rfl (fun hc => ?_) (fun hc => ?_) <;> first | (exfalso; omega) | contradiction | skip)
      | refine Goal.guardB rfl rfl (fun hc => ?_) (fun hc => ?_)
      | (apply G.load; exact rfl; exact rfl; first | exact LoadOK.one T.one_39 0 rfl rfl | exact LoadOK.one T.one_39 1 rfl rfl | exact LoadOK.one T.one_39 2 rfl rfl | exact LoadOK.one T.one_39 3 rfl rfl | exact LoadOK.one T.one_39 4 rfl rfl | exact LoadOK.one T.one_39 5 rfl rfl | exact LoadOK.one T.one_39 6 rfl rfl | exact LoadOK.one T.one_39 7 rfl rfl | exact LoadOK.agg (vs := [_, _]) T.agg_23 0 rfl rfl ⟨rfl, rfl, trivial⟩ | exact LoadOK.agg (vs := [_, _]) T.agg_23 1 rfl rfl ⟨rfl, rfl, trivial⟩ | exact LoadOK.agg (vs := [_, _]) T.agg_23 2 rfl rfl ⟨rfl, rfl, trivial⟩ | exact LoadOK.agg (vs := [_, _]) T.agg_23 3 rfl rfl ⟨rfl, rfl, trivial⟩ | exact LoadOK.agg (vs := [_, _]) T.agg_23 4 rfl rfl ⟨rfl, rfl, trivial⟩ | exact LoadOK.agg (vs := [_, _]) T.agg_23 5 rfl rfl ⟨rfl, rfl, trivial⟩ | exact LoadOK.agg (vs := [_, _]) T.agg_23 6 rfl rfl ⟨rfl, rfl, trivial⟩ | exact LoadOK.agg (vs := [_, _]) T.agg_23 7 rfl rfl ⟨rfl, rfl, trivial⟩ | exact LoadOK.agg (vs := [_, _]) T.agg_25 0 rfl rfl ⟨rfl, rfl, trivial⟩ | exact LoadOK.agg (vs := [_, _]) T.agg_25 1 rfl rfl ⟨rfl, rfl, trivial⟩ | exact LoadOK.agg (vs := [_, _]) T.agg_25 2 rfl rfl ⟨rfl, rfl, trivial⟩ | exact LoadOK.agg (vs := [_, _]) T.agg_25 3 rfl rfl ⟨rfl, rfl, trivial⟩ | exact LoadOK.agg (vs := [_, _]) T.agg_25 4 rfl rfl ⟨rfl, rfl, trivial⟩ | exact LoadOK.agg (vs := [_, _]) T.agg_25 5 rfl rfl ⟨rfl, rfl, trivial⟩ | exact LoadOK.agg (vs := [_, _]) T.agg_25 6 rfl rfl ⟨rfl, rfl, trivial⟩ | exact LoadOK.agg (vs := [_, _]) T.agg_25 7 rfl rfl ⟨rfl, rfl, trivial⟩ | exact LoadOK.agg (vs := [_, _]) T.agg_27 0 rfl rfl ⟨rfl, rfl, trivial⟩ | exact LoadOK.agg (vs := [_, _]) T.agg_27 1 rfl rfl ⟨rfl, rfl, trivial⟩ | exact LoadOK.agg (vs := [_, _]) T.agg_27 2 rfl rfl ⟨rfl, rfl, trivial⟩ | exact LoadOK.agg (vs := [_, _]) T.agg_27 3 rfl rfl ⟨rfl, rfl, trivial⟩ | exact LoadOK.agg (vs := [_, _]) T.agg_27 4 rfl rfl ⟨rfl, rfl, trivial⟩ | exact LoadOK.agg (vs := [_, _]) T.agg_27 5 rfl rfl ⟨rfl, rfl, trivial⟩ | exact LoadOK.agg (vs := [_, _]) T.agg_27 6 rfl rfl ⟨rfl, rfl, trivial⟩ | exact LoadOK.agg (vs := [_, _]) T.agg_27 7 rfl rfl ⟨rfl, rfl, trivial⟩ | exact LoadOK.agg (vs := [_, _]) T.agg_32 0 rfl rfl ⟨rfl, rfl, trivial⟩ | exact LoadOK.agg (vs := [_, _]) T.agg_32 1 rfl rfl ⟨rfl, rfl, trivial⟩ | exact LoadOK.agg (vs := [_, _]) T.agg_32 2 rfl rfl ⟨rfl, rfl, trivial⟩ | exact LoadOK.agg (vs := [_, _]) T.agg_32 3 rfl rfl ⟨rfl, rfl, trivial⟩ | exact LoadOK.agg (vs := [_, _]) T.agg_32 4 rfl rfl ⟨rfl, rfl, trivial⟩ | exact LoadOK.agg (vs := [_, _]) T.agg_32 5 rfl rfl ⟨rfl, rfl, trivial⟩ | exact LoadOK.agg (vs := [_, _]) T.agg_32 6 rfl rfl ⟨rfl, rfl, trivial⟩ | exact LoadOK.agg (vs := [_, _]) T.agg_32 7 rfl rfl ⟨rfl, rfl, trivial⟩)
      | (apply G.pickT; exact rfl; exact rfl; exact rfl)
      | (apply G.pickF; exact rfl; exact rfl; exact rfl)
      | (apply G.eql; exact rfl; exact rfl; exact rfl)
      | (apply G.add; exact rfl; exact rfl; exact rfl; first | exact IntWalk.i64_in _ (by omega) | exact IntWalk.u8_in _ (by omega) | exact IntWalk.u16_in _ (by omega) | exact IntWalk.u32_in _ (by omega) | exact IntWalk.u64_in _ (by omega))
      | (apply G.eqlI2; exact rfl; exact T.i2_27; exact rfl; exact rfl)
      | (apply G.conv; exact rfl; exact rfl; (first | exact T.int_3 | exact T.int_39); (first | exact T.int_3 | exact T.int_39); first | exact IntWalk.i64_in _ (by omega) | exact IntWalk.u8_in _ (by omega) | exact IntWalk.u16_in _ (by omega) | exact IntWalk.u32_in _ (by omega) | exact IntWalk.u64_in _ (by omega))
      | (apply G.notT; exact rfl; exact rfl)
      | (apply G.notF; exact rfl; exact rfl)
      | (refine G.notD rfl rfl ?_)
      | (apply G.notB; exact rfl; exact rfl)
      | (apply G.extract; exact rfl; exact rfl; exact rfl)
      | (refine G.indexAddrA rfl T.arr_45 T.sz_39 rfl rfl _ rfl (by omega) ?_)
      | (refine G.indexAddrA rfl T.arr_45 T.sz_39 rfl rfl _ (Int.toNat_of_nonneg (by omega)).symm (by omega) ?_)
      | (refine Goal.loud rfl ?_; refine Loud.store0 rfl rfl (by first | exact T.sz_27 | exact T.sz_32) rfl rfl rfl (by first | exact Nat.le_refl _ | decide | (simp; omega)) rfl ?_)
      | (refine Goal.loud rfl ?_; refine Loud.store1 rfl rfl (by first | exact T.sz_27 | exact T.sz_32) rfl rfl rfl (by first | exact Nat.le_refl _ | decide | (simp; omega)) rfl ?_)
      | (refine Goal.loud rfl ?_; refine Loud.store2 rfl rfl (by first | exact T.sz_27 | exact T.sz_32) rfl rfl rfl (by first | exact Nat.le_refl _ | decide | (simp; omega)) rfl ?_)
      | (refine Goal.loud rfl ?_; refine Loud.store3 rfl rfl (by first | exact T.sz_27 | exact T.sz_32) rfl rfl rfl (by first | exact Nat.le_refl _ | decide | (simp; omega)) rfl ?_)
      | (refine Goal.loud rfl ?_; refine Loud.store4 rfl rfl (by first | exact T.sz_27 | exact T.sz_32) rfl rfl rfl (by first | exact Nat.le_refl _ | decide | (simp; omega)) rfl ?_)
      | (refine Goal.loud rfl ?_; refine Loud.store5 rfl rfl (by first | exact T.sz_27 | exact T.sz_32) rfl rfl rfl (by first | exact Nat.le_refl _ | decide | (simp; omega)) rfl ?_)
      | (refine Goal.loud rfl ?_; refine Loud.store6 rfl rfl (by first | exact T.sz_27 | exact T.sz_32) rfl rfl rfl (by first | exact Nat.le_refl _ | decide | (simp; omega)) rfl ?_)
      | (refine Goal.loud rfl ?_; refine Loud.store7 rfl rfl (by first | exact T.sz_27 | exact T.sz_32) rfl rfl rfl (by first | exact Nat.le_refl _ | decide | (simp; omega)) rfl ?_))
    all_goals first
      | (exfalso; simp_all; done)
      | (refine Goal.done (vs := [_]) (.inl rfl) Try.results5 ⟨rfl, trivial⟩ rfl (fun w' H => ⟨ret_bool (by first | rfl | simp_all), H.mod⟩))
end Go.Proofs.Ytlnbogggaajfbaa
