/- A channel: Send in one contract, New; the document's SameInts. -/
import Derived.Test.YtgidkddkoopdfaaChF
namespace Go.Proofs.Ytgidkddkoopdfaa
open Go.Wf
set_option linter.unusedVariables false
def sendF (s : Cs) (now : Int) : List Int × Int × Cs :=
  if now < 0 ∨ 1073741824 < now then ([], 1, s) else if now < s.now then ([], 7, s)
  else if dep s.rate s.D now ≠ now ∧ s.room ≤ s.D.length - cle s.D now then ([], 12, off1 s now)
  else (arr s.delay (dep s.rate s.D now) (fateOf s), 0, fit1 s now)
theorem sendF_ok {s : Cs} {now : Int} (h : CsOk s) (ho : s.off < 1048576) : CsOk (sendF s now).2.2 := by
  unfold sendF
  split
  · exact h
  · split
    · exact h
    · split
      · exact off1_ok h (by omega) ho
      · exact fit1_ok h (by omega) ho
theorem sendF_off {s : Cs} {now : Int} : (sendF s now).2.2.off ≤ s.off + 1 := by
  unfold sendF off1 fit1
  repeat' split
  all_goals dsimp only
  all_goals omega
section
variable {bc : Nat} {s : Cs} {A : List Blk}
theorem send_ok (hA : ChM bc s A) (hs : CsOk s) (ho : s.off < 1048576) (now : Int) :
    MCalls Try.prog 13 [.pointer (some ⟨bc, 0, none⟩), .int .i64 now] A (fun x : SX => Sl x.v 3 1 (sendF s now).1.length (ints (sendF s now).1) x.E ∧ ChM bc (sendF s now).2.2 x.A) (fun x => .tuple #[x.v, .int .i64 (sendF s now).2.1]) (fun x => x.A ++ x.E) := fun w hw hn => by
  by_cases h1 : now < 0 ∨ 1073741824 < now
  · have e : sendF s now = ([], 1, s) := if_pos h1
    rw [e]
    refine (send_bad hA now (.inl h1) w hw hn).mono fun e w' ⟨_, _, he, hst⟩ => ⟨⟨.slice none 0 0, [], A⟩, ⟨Sl.nil 3 1, hA⟩, ?_, by dsimp only; rw [List.append_nil]; exact hst⟩
    rw [if_pos h1] at he
    exact he
  · by_cases h2 : now < s.now
    · have e : sendF s now = ([], 7, s) := by unfold sendF; rw [if_neg h1, if_pos h2]
      rw [e]
      refine (send_bad hA now (.inr h2) w hw hn).mono fun e w' ⟨_, _, he, hst⟩ => ⟨⟨.slice none 0 0, [], A⟩, ⟨Sl.nil 3 1, hA⟩, ?_, by dsimp only; rw [List.append_nil]; exact hst⟩
      rw [if_neg h1] at he
      exact he
    · by_cases h3 : dep s.rate s.D now ≠ now ∧ s.room ≤ s.D.length - cle s.D now
      · have e : sendF s now = ([], 12, off1 s now) := by unfold sendF; rw [if_neg h1, if_neg h2, if_pos h3]
        rw [e]
        exact (send_cap hA hs ho now (by omega) h3 w hw hn).mono fun e w' ⟨A', hA', he, hst⟩ => ⟨⟨.slice none 0 0, [], A'⟩, ⟨Sl.nil 3 1, hA'⟩, he, by dsimp only; rw [List.append_nil]; exact hst⟩
      · have e : sendF s now = (arr s.delay (dep s.rate s.D now) (fateOf s), 0, fit1 s now) := by unfold sendF; rw [if_neg h1, if_neg h2, if_neg h3]
        rw [e]
        exact send_fit hA hs ho now (by omega) h3 w hw hn
end
instance (f : Int × Int) : Decidable (fateOk f) := by unfold fateOk; infer_instance
theorem valid_any (a b : Int) (w : World) : Calls Try.prog 21 #[.agg #[.int .i64 a, .int .i64 b]] w fun e w' => e = .returned (.bool (decide (fateOk (a, b)))) ∧ Mod [] w w' := by
  refine Goal.enter (args := [.agg #[.int .i64 a, .int .i64 b]]) Try.func21 rfl Try.ntmps21 rfl (St.nil w) ?_
  repeat' (first
    | (refine Goal.loud (o := ⟨some 1, _, _, _, _, _⟩) rfl ?_; first | refine Loud.boxA rfl rfl (fun b1 => ?_) | refine Loud.box1 rfl rfl rfl (fun b1 => ?_))
    | (apply G.move; exact rfl; exact rfl)
    | (apply G.assign; exact rfl; exact rfl)
    | refine Goal.seq (fun _ _ => ?_)
    | refine Goal.next (by assumption) ?_
    | refine Goal.lnil ?_
    | refine Goal.region ?_
    | refine Goal.skip ?_
    | refine Goal.block ?_
    | refine Goal.exit ?_
    | refine Goal.ret ?_
    | refine Goal.then_exit ?_
    | refine Goal.then_ret ?_
    | refine Goal.inBlock_exit ?_
    | refine Goal.inBlock_normal ?_
    | refine Goal.inBlock_ret ?_
    | refine Goal.inBlock_other rfl ?_
    | (apply Goal.condT; exact rfl)
    | (apply Goal.condF; exact rfl)
    | (refine Goal.condD rfl (fun hc => ?_) (fun hc => ?_) <;> first | (exfalso; omega) | contradiction | skip)
    | refine Goal.condB rfl (fun hc => ?_) (fun hc => ?_)
    | refine Goal.guardT rfl rfl ?_
    | refine Goal.guardF rfl rfl rfl rfl ?_
    | refine Goal.guardU rfl rfl rfl ?_
    | (refine Goal.guardD rfl rfl (fun hc => ?_) (fun hc => ?_) <;> first | (exfalso; omega) | contradiction | skip)
    | refine Goal.guardB rfl rfl (fun hc => ?_) (fun hc => ?_)
    | (apply G.fieldAddr; exact rfl; exact rfl; (first | exact T.fld_50_0 | exact T.fld_50_1))
    | (apply G.load; exact rfl; exact rfl; first | exact LoadOK.one T.one_3 0 rfl rfl | exact LoadOK.one T.one_3 1 rfl rfl | exact LoadOK.one T.one_3 2 rfl rfl | exact LoadOK.one T.one_3 3 rfl rfl | exact LoadOK.one T.one_3 4 rfl rfl | exact LoadOK.one T.one_3 5 rfl rfl | exact LoadOK.one T.one_3 6 rfl rfl | exact LoadOK.one T.one_3 7 rfl rfl)
    | (apply G.pickT; exact rfl; exact rfl; exact rfl)
    | (apply G.pickF; exact rfl; exact rfl; exact rfl)
    | (apply G.leq; exact rfl; exact rfl; exact rfl)
    | (apply G.geq; exact rfl; exact rfl; exact rfl)
    | (apply G.eql; exact rfl; exact rfl; exact rfl))
  all_goals
    refine Goal.done (vs := [_]) (by first | exact .inl rfl | exact .inr rfl) Try.results21 ⟨rfl, trivial⟩ rfl (fun w' H => ⟨ret_bool (by first | exact decide_eq_decide.2 (by unfold fateOk; dsimp only; omega) | exact (decide_eq_true (by unfold fateOk; dsimp only; omega)).symm | exact (decide_eq_false (by unfold fateOk; dsimp only; omega)).symm), H.mod⟩)
theorem clone_ok {fs : List (Int × Int)} {v : Value} {w : World} (hr : RdE w v 2 (fs.map pr)) (hl : fs.length ≤ 1048576) : Calls Try.prog 22 #[v] w
    fun e w' => ∃ z : Value × List Blk, Sl z.1 50 2 fs.length (Els pr fs) z.2 ∧ e = .returned z.1 ∧ St w [] w' z.2 := by
  obtain ⟨ad, cap, rfl, hr1⟩ := id hr
  simp only [List.length_map] at hr ⊢
  cases ad with
  | none =>
    have : fs = [] := by
      cases fs with
      | nil => rfl
      | cons a r =>
        obtain ⟨_, b, o, e, _⟩ := hr1 0 (pr a) rfl
        cases e
    subst this
    refine Goal.enter (args := [.slice none 0 cap]) Try.func22 rfl Try.ntmps22 rfl (St.nil w) ?_
    repeat' (first
      | (refine Goal.loud (o := ⟨some 5, _, _, _, _, _⟩) rfl ?_; refine Loud.buildSlice (cs := []) rfl T.slc_37 T.inf_50 rfl rfl (by decide) rfl rfl rfl (fun b5 => ?_))
      | (apply G.move; exact rfl; exact rfl)
      | (apply G.assign; exact rfl; exact rfl)
      | refine Goal.seq (fun _ _ => ?_)
      | refine Goal.next (by assumption) ?_
      | refine Goal.lnil ?_
      | refine Goal.region ?_
      | refine Goal.skip ?_
      | refine Goal.block ?_
      | refine Goal.exit ?_
      | refine Goal.ret ?_
      | refine Goal.then_exit ?_
      | refine Goal.then_ret ?_
      | refine Goal.inBlock_exit ?_
      | refine Goal.inBlock_normal ?_
      | refine Goal.inBlock_ret ?_
      | refine Goal.inBlock_other rfl ?_
      | (apply Goal.condT; exact rfl)
      | (apply Goal.condF; exact rfl)
      | (refine Goal.condD rfl (fun hc => ?_) (fun hc => ?_) <;> first | (exfalso; omega) | contradiction | skip)
      | refine Goal.condB rfl (fun hc => ?_) (fun hc => ?_)
      | (apply G.eql; exact rfl; exact rfl; exact rfl)
      | (refine Goal.quiet rfl (Run.eqlSN T.slc_37 rfl rfl rfl) ?_))
    refine Goal.done (vs := [_]) (by first | exact .inl rfl | exact .inr rfl) Try.results22 ⟨rfl, trivial⟩ rfl (fun w' H => ⟨⟨_, _⟩, Sl.nil _ 2, rfl, H⟩)
  | some ad =>
    refine Goal.enter (args := [.slice (some ad) fs.length cap]) Try.func22 rfl Try.ntmps22 rfl (St.nil w) ?_
    repeat' (first
      | (refine Goal.loud (o := ⟨some 7, _, _, _, _, _⟩) rfl ?_; refine Loud.appendRdE (f := pr) (l := fs) (R := []) rfl T.slc_37 T.inf_50 rfl (by decide) pr_len pr_one rfl (Sl.full (vs := []) rfl) rfl (by omega) (by omega) (fun w hw => hr.keep hw.mod) (fun _ h => h) ?_; intro v2 A2 hA2)
      | (refine Goal.loud (o := ⟨some 5, _, _, _, _, _⟩) rfl ?_; refine Loud.buildSlice (cs := []) rfl T.slc_37 T.inf_50 rfl rfl (by decide) rfl rfl rfl (fun b5 => ?_))
      | (apply G.move; exact rfl; exact rfl)
      | (apply G.assign; exact rfl; exact rfl)
      | refine Goal.seq (fun _ _ => ?_)
      | refine Goal.next (by assumption) ?_
      | refine Goal.lnil ?_
      | refine Goal.region ?_
      | refine Goal.skip ?_
      | refine Goal.block ?_
      | refine Goal.exit ?_
      | refine Goal.ret ?_
      | refine Goal.then_exit ?_
      | refine Goal.then_ret ?_
      | refine Goal.inBlock_exit ?_
      | refine Goal.inBlock_normal ?_
      | refine Goal.inBlock_ret ?_
      | refine Goal.inBlock_other rfl ?_
      | (apply Goal.condT; exact rfl)
      | (apply Goal.condF; exact rfl)
      | (refine Goal.condD rfl (fun hc => ?_) (fun hc => ?_) <;> first | (exfalso; omega) | contradiction | skip)
      | refine Goal.condB rfl (fun hc => ?_) (fun hc => ?_)
      | (apply G.eql; exact rfl; exact rfl; exact rfl)
      | (refine Goal.quiet rfl (Run.eqlSN T.slc_37 rfl rfl rfl) ?_))
    refine Goal.done (vs := [_]) (by first | exact .inl rfl | exact .inr rfl) Try.results22 ⟨rfl, trivial⟩ rfl (fun w' H => ⟨⟨_, _⟩, by rw [Nat.zero_add, List.nil_append] at hA2; exact hA2, rfl, by rw [List.append_nil] at H; exact H⟩)
theorem same_any {va vb : Value} {xs ys : List Int} {w : World} (ha : RdV w va (ints xs)) (hb : RdV w vb (ints ys)) (hxs : xs.length < 9223372036854775808) (hys : ys.length < 9223372036854775808) :
    Calls Try.prog 15 #[va, vb] w fun e w' => e = .returned (.bool (decide (xs = ys))) ∧ Mod [] w w' := by
  obtain ⟨aa, ca, rfl, ha⟩ := ha
  obtain ⟨ab, cb, rfl, hb⟩ := hb
  rw [ints_len, ints_len] at *
  refine Goal.enter (args := [.slice aa xs.length ca, .slice ab ys.length cb]) Try.func15 rfl Try.ntmps15 rfl (St.nil w) ?_
  repeat' (first
    | (apply G.move; exact rfl; exact rfl)
    | (apply G.assign; exact rfl; exact rfl)
    | refine Goal.seq (fun _ _ => ?_)
    | refine Goal.next (by assumption) ?_
    | refine Goal.lnil ?_
    | refine Goal.region ?_
    | refine Goal.skip ?_
    | refine Goal.block ?_
    | refine Goal.exit ?_
    | refine Goal.ret ?_
    | refine Goal.then_exit ?_
    | refine Goal.then_ret ?_
    | refine Goal.inBlock_exit ?_
    | refine Goal.inBlock_normal ?_
    | refine Goal.inBlock_ret ?_
    | refine Goal.inBlock_other rfl ?_
    | (apply Goal.condT; exact rfl)
    | (apply Goal.condF; exact rfl)
    | (refine Goal.condD rfl (fun hc => ?_) (fun hc => ?_) <;> first | (exfalso; omega) | contradiction | skip)
    | refine Goal.condB rfl (fun hc => ?_) (fun hc => ?_)
    | (apply G.load; exact rfl; exact rfl; first | exact LoadOK.one T.one_3 0 rfl rfl | exact LoadOK.one T.one_3 1 rfl rfl | exact LoadOK.one T.one_3 2 rfl rfl | exact LoadOK.one T.one_3 3 rfl rfl | exact LoadOK.one T.one_3 4 rfl rfl | exact LoadOK.one T.one_3 5 rfl rfl | exact LoadOK.one T.one_3 6 rfl rfl | exact LoadOK.one T.one_3 7 rfl rfl)
    | (apply G.lss; exact rfl; exact rfl; exact rfl)
    | (apply G.neq; exact rfl; exact rfl; exact rfl)
    | (apply G.add; exact rfl; exact rfl; exact rfl; first | exact IntWalk.i64_in _ (by omega) | exact IntWalk.u8_in _ (by omega) | exact IntWalk.u16_in _ (by omega) | exact IntWalk.u32_in _ (by omega) | exact IntWalk.u64_in _ (by omega))
    | (apply G.len; exact rfl; exact rfl; exact T.slc_23)
    | (refine G.indexAddr1 rfl T.slc_23 T.sz_3 rfl rfl _ rfl (by omega) ?_)
    | (refine G.indexAddr1 rfl T.slc_23 T.sz_3 rfl rfl _ (Int.toNat_of_nonneg (by omega)).symm (by omega) ?_))
  · refine Goal.done (vs := [_]) (by first | exact .inl rfl | exact .inr rfl) Try.results15 ⟨rfl, trivial⟩ rfl (fun w' H => ⟨ret_bool (decide_eq_false (by rintro rfl; omega)).symm, H.mod⟩)
  · have hl : xs.length = ys.length := by omega
    clear hc
    refine Goal.loopP (X := Nat) (fun i => [(0, .slice aa xs.length ca), (1, .slice ab ys.length cb), (5, .int .i64 i)]) (fun _ => []) (fun i => i ≤ xs.length ∧ xs.take i = ys.take i) (fun i => xs.length - i) 0 ⟨rfl, rfl, rfl, trivial⟩ (fun _ h => h) ⟨Nat.zero_le _, by simp⟩ ?_
    rintro i ⟨hi, he⟩
    by_cases hlt : i < xs.length
    · obtain ⟨b1, o1, rfl, h1⟩ := ha i _ (ints_get hlt)
      obtain ⟨b2, o2, rfl, h2⟩ := hb i _ (ints_get (hl ▸ hlt))
      repeat' (first
        | (refine Goal.drawAll (id := 6) 9 T.mixed ?_; all_goals ((refine Goal.takeP (listed' := #[true, false, false, false, false, false, false, false, false]) 0 ⟨rfl, by kernel_rfl, by kernel_rfl, by kernel_rfl, by kernel_rfl⟩ rfl (fun _ _ _ _ h => h) (by intro _; exact Run.move rfl) ?_)); all_goals ((refine Goal.takeP (listed' := #[true, true, false, false, false, false, false, false, false]) 1 ⟨rfl, by kernel_rfl, by kernel_rfl, by kernel_rfl, by kernel_rfl⟩ rfl (fun _ _ _ _ h => h) (by intro _; exact Run.move rfl) ?_)); all_goals ((refine Goal.takeP (listed' := #[true, true, true, false, false, false, false, false, false]) 2 ⟨rfl, by kernel_rfl, by kernel_rfl, by kernel_rfl, by kernel_rfl⟩ rfl (fun _ _ _ _ h => h) (by intro _; first | exact Run.indexAddr1 T.slc_23 T.sz_3 rfl rfl rfl (by omega) | exact Run.indexAddr1 T.slc_23 T.sz_3 rfl rfl (Int.toNat_of_nonneg (by omega)).symm (by omega)) ?_)); all_goals ((refine Goal.takeP (listed' := #[true, true, true, false, true, false, false, false, false]) 4 ⟨rfl, by kernel_rfl, by kernel_rfl, by kernel_rfl, by kernel_rfl⟩ rfl (fun _ _ _ _ h => h) (by intro _; exact Run.move rfl) ?_)); all_goals ((refine Goal.takeP (listed' := #[true, true, true, false, true, true, false, false, false]) 5 ⟨rfl, by kernel_rfl, by kernel_rfl, by kernel_rfl, by kernel_rfl⟩ rfl (fun _ _ _ _ h => h) (by intro _; exact Run.move rfl) ?_)); all_goals ((refine Goal.takeP (listed' := #[true, true, true, false, true, true, true, false, false]) 6 ⟨rfl, by kernel_rfl, by kernel_rfl, by kernel_rfl, by kernel_rfl⟩ rfl (fun _ _ _ _ h => h) (by intro _; first | exact Run.indexAddr1 T.slc_23 T.sz_3 rfl rfl rfl (by omega) | exact Run.indexAddr1 T.slc_23 T.sz_3 rfl rfl (Int.toNat_of_nonneg (by omega)).symm (by omega)) ?_)); all_goals ((refine Goal.take (listed' := #[true, true, true, true, true, true, true, false, false]) 3 ⟨rfl, by kernel_rfl, by kernel_rfl, by kernel_rfl, by kernel_rfl, by kernel_rfl⟩ rfl (by (first | exact fun _ h => h | exact fun _ h => h.sub (.cons _ (.refl _)) | exact fun _ h => h.sub (.cons _ (.cons _ (.refl _))) | exact fun _ h => h.sub (.cons _ (.cons _ (.cons _ (.refl _)))) | exact fun _ h => h.drop | exact fun _ h => h.sub (List.sublist_append_left _ _))) (fun _ _ _ _ h => h) (by (apply Run.load; exact rfl; first | exact LoadOK.old (by first | exact T.one_3 | exact T.one_5 | exact T.one_22 | exact T.one_23 | exact T.one_26 | exact T.one_29 | exact T.one_37 | exact T.one_43 | exact T.one_49 | exact T.one_53 | exact T.one_58 | exact T.one_62) h1 (by simp) | exact LoadOK.old (by first | exact T.one_3 | exact T.one_5 | exact T.one_22 | exact T.one_23 | exact T.one_26 | exact T.one_29 | exact T.one_37 | exact T.one_43 | exact T.one_49 | exact T.one_53 | exact T.one_58 | exact T.one_62) h2 (by simp) | exact LoadOK.one T.one_3 0 rfl rfl | exact LoadOK.one T.one_3 1 rfl rfl | exact LoadOK.one T.one_3 2 rfl rfl | exact LoadOK.one T.one_3 3 rfl rfl | exact LoadOK.one T.one_3 4 rfl rfl | exact LoadOK.one T.one_3 5 rfl rfl | exact LoadOK.one T.one_3 6 rfl rfl | exact LoadOK.one T.one_3 7 rfl rfl)) ?_)); all_goals ((refine Goal.take (listed' := #[true, true, true, true, true, true, true, true, false]) 7 ⟨rfl, by kernel_rfl, by kernel_rfl, by kernel_rfl, by kernel_rfl, by kernel_rfl⟩ rfl (by (first | exact fun _ h => h | exact fun _ h => h.sub (.cons _ (.refl _)) | exact fun _ h => h.sub (.cons _ (.cons _ (.refl _))) | exact fun _ h => h.sub (.cons _ (.cons _ (.cons _ (.refl _)))) | exact fun _ h => h.drop | exact fun _ h => h.sub (List.sublist_append_left _ _))) (fun _ _ _ _ h => h) (by (apply Run.load; exact rfl; first | exact LoadOK.old (by first | exact T.one_3 | exact T.one_5 | exact T.one_22 | exact T.one_23 | exact T.one_26 | exact T.one_29 | exact T.one_37 | exact T.one_43 | exact T.one_49 | exact T.one_53 | exact T.one_58 | exact T.one_62) h1 (by simp) | exact LoadOK.old (by first | exact T.one_3 | exact T.one_5 | exact T.one_22 | exact T.one_23 | exact T.one_26 | exact T.one_29 | exact T.one_37 | exact T.one_43 | exact T.one_49 | exact T.one_53 | exact T.one_58 | exact T.one_62) h2 (by simp) | exact LoadOK.one T.one_3 0 rfl rfl | exact LoadOK.one T.one_3 1 rfl rfl | exact LoadOK.one T.one_3 2 rfl rfl | exact LoadOK.one T.one_3 3 rfl rfl | exact LoadOK.one T.one_3 4 rfl rfl | exact LoadOK.one T.one_3 5 rfl rfl | exact LoadOK.one T.one_3 6 rfl rfl | exact LoadOK.one T.one_3 7 rfl rfl)) ?_)); all_goals ((refine Goal.takeP (listed' := #[true, true, true, true, true, true, true, true, true]) 8 ⟨rfl, by kernel_rfl, by kernel_rfl, by kernel_rfl, by kernel_rfl⟩ rfl (fun _ _ _ _ h => h) (by intro _; first | exact Run.neq rfl rfl) ?_)); all_goals (refine Goal.allUp (by kernel_rfl) ?_))
        | (apply G.move; exact rfl; exact rfl)
        | (apply G.assign; exact rfl; exact rfl)
        | refine Goal.seq (fun _ _ => ?_)
        | refine Goal.next (by assumption) ?_
        | refine Goal.lnil ?_
        | refine Goal.region ?_
        | refine Goal.skip ?_
        | refine Goal.block ?_
        | refine Goal.exit ?_
        | refine Goal.ret ?_
        | refine Goal.then_exit ?_
        | refine Goal.then_ret ?_
        | refine Goal.inBlock_exit ?_
        | refine Goal.inBlock_normal ?_
        | refine Goal.inBlock_ret ?_
        | refine Goal.inBlock_other rfl ?_
        | (apply Goal.condT; exact rfl)
        | (apply Goal.condF; exact rfl)
        | (refine Goal.condD rfl (fun hc => ?_) (fun hc => ?_) <;> first | (exfalso; omega) | contradiction | skip)
        | refine Goal.condB rfl (fun hc => ?_) (fun hc => ?_)
        | (apply G.load; exact rfl; exact rfl; first | exact LoadOK.old (by first | exact T.one_3 | exact T.one_5 | exact T.one_22 | exact T.one_23 | exact T.one_26 | exact T.one_29 | exact T.one_37 | exact T.one_43 | exact T.one_49 | exact T.one_53 | exact T.one_58 | exact T.one_62) h1 (by simp) | exact LoadOK.old (by first | exact T.one_3 | exact T.one_5 | exact T.one_22 | exact T.one_23 | exact T.one_26 | exact T.one_29 | exact T.one_37 | exact T.one_43 | exact T.one_49 | exact T.one_53 | exact T.one_58 | exact T.one_62) h2 (by simp) | exact LoadOK.one T.one_3 0 rfl rfl | exact LoadOK.one T.one_3 1 rfl rfl | exact LoadOK.one T.one_3 2 rfl rfl | exact LoadOK.one T.one_3 3 rfl rfl | exact LoadOK.one T.one_3 4 rfl rfl | exact LoadOK.one T.one_3 5 rfl rfl | exact LoadOK.one T.one_3 6 rfl rfl | exact LoadOK.one T.one_3 7 rfl rfl)
        | (apply G.lss; exact rfl; exact rfl; exact rfl)
        | (apply G.neq; exact rfl; exact rfl; exact rfl)
        | (apply G.add; exact rfl; exact rfl; exact rfl; first | exact IntWalk.i64_in _ (by omega) | exact IntWalk.u8_in _ (by omega) | exact IntWalk.u16_in _ (by omega) | exact IntWalk.u32_in _ (by omega) | exact IntWalk.u64_in _ (by omega))
        | (apply G.len; exact rfl; exact rfl; exact T.slc_23)
        | (refine G.indexAddr1 rfl T.slc_23 T.sz_3 rfl rfl _ rfl (by omega) ?_)
        | (refine G.indexAddr1 rfl T.slc_23 T.sz_3 rfl rfl _ (Int.toNat_of_nonneg (by omega)).symm (by omega) ?_))
      · refine Goal.done (vs := [_]) (by first | exact .inl rfl | exact .inr rfl) Try.results15 ⟨rfl, trivial⟩ rfl (fun w' H => ⟨ret_bool (decide_eq_false (by rintro rfl; exact hc rfl)).symm, H.mod⟩)
      · have hc' : xs[i] = ys[i]'(hl ▸ hlt) := by omega
        refine Goal.again (i + 1) ⟨hlt, by rw [List.take_succ_eq_append_getElem hlt, List.take_succ_eq_append_getElem (hl ▸ hlt), he, hc']⟩ (by omega) ⟨rfl, rfl, rfl, trivial⟩ (fun _ h => h)
    · skip
      repeat' (first
        | (apply G.move; exact rfl; exact rfl)
        | (apply G.assign; exact rfl; exact rfl)
        | refine Goal.seq (fun _ _ => ?_)
        | refine Goal.next (by assumption) ?_
        | refine Goal.lnil ?_
        | refine Goal.region ?_
        | refine Goal.skip ?_
        | refine Goal.block ?_
        | refine Goal.exit ?_
        | refine Goal.ret ?_
        | refine Goal.then_exit ?_
        | refine Goal.then_ret ?_
        | refine Goal.inBlock_exit ?_
        | refine Goal.inBlock_normal ?_
        | refine Goal.inBlock_ret ?_
        | refine Goal.inBlock_other rfl ?_
        | (apply Goal.condT; exact rfl)
        | (apply Goal.condF; exact rfl)
        | (refine Goal.condD rfl (fun hc => ?_) (fun hc => ?_) <;> first | (exfalso; omega) | contradiction | skip)
        | refine Goal.condB rfl (fun hc => ?_) (fun hc => ?_)
        | (apply G.load; exact rfl; exact rfl; first | exact LoadOK.one T.one_3 0 rfl rfl | exact LoadOK.one T.one_3 1 rfl rfl | exact LoadOK.one T.one_3 2 rfl rfl | exact LoadOK.one T.one_3 3 rfl rfl | exact LoadOK.one T.one_3 4 rfl rfl | exact LoadOK.one T.one_3 5 rfl rfl | exact LoadOK.one T.one_3 6 rfl rfl | exact LoadOK.one T.one_3 7 rfl rfl)
        | (apply G.lss; exact rfl; exact rfl; exact rfl)
        | (apply G.neq; exact rfl; exact rfl; exact rfl)
        | (apply G.add; exact rfl; exact rfl; exact rfl; first | exact IntWalk.i64_in _ (by omega) | exact IntWalk.u8_in _ (by omega) | exact IntWalk.u16_in _ (by omega) | exact IntWalk.u32_in _ (by omega) | exact IntWalk.u64_in _ (by omega))
        | (apply G.len; exact rfl; exact rfl; exact T.slc_23)
        | (refine G.indexAddr1 rfl T.slc_23 T.sz_3 rfl rfl _ rfl (by omega) ?_)
        | (refine G.indexAddr1 rfl T.slc_23 T.sz_3 rfl rfl _ (Int.toNat_of_nonneg (by omega)).symm (by omega) ?_))
      refine Goal.done (vs := [_]) (by first | exact .inl rfl | exact .inr rfl) Try.results15 ⟨rfl, trivial⟩ rfl (fun w' H => ⟨ret_bool (decide_eq_true (by rwa [List.take_of_length_le (by omega), List.take_of_length_le (by omega)] at he)).symm, H.mod⟩)
end Go.Proofs.Ytgidkddkoopdfaa
