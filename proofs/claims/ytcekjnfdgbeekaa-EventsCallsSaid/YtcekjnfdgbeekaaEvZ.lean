/- EventsCalls' contract. -/
import Derived.Test.YtcekjnfdgbeekaaEvY
import Derived.Test.YtcekjnfdgbeekaaBounds
namespace Go.Proofs.Ytcekjnfdgbeekaa
open Go.Wf
set_option linter.unusedVariables false
section
variable {bq br : Nat} {A B : List Blk} {E : List Evt} {now last k d k2 d2 : Int} {ok ok2 : Bool}
theorem QM.sorted (h : QM bq E now last A) : E.Pairwise fun a b => a.id < b.id := by
  rcases h with ⟨rfl, _⟩ | ⟨q, hQ, _⟩
  · simp
  · exact hQ.sorted
theorem nx_eq (h1 : (ok = false ∧ k = 0 ∧ d = 0 ∧ E = [] ∧ QM bq E now last A) ∨ (ok = true ∧ ∃ E1 e E2, IsFirst E E1 e E2 ∧ k = e.time ∧ d = e.data ∧ QM bq (E1 ++ E2) e.time last A))
    (h2 : (ok2 = false ∧ k2 = 0 ∧ d2 = 0 ∧ E = [] ∧ DqM br E now last B) ∨ (ok2 = true ∧ ∃ E1 e E2, IsFirst E E1 e E2 ∧ k2 = e.time ∧ d2 = e.data ∧ DqM br (E1 ++ E2) e.time last B)) :
    k = k2 ∧ d = d2 ∧ ok = ok2 ∧ ∃ E' n', QM bq E' n' last A ∧ DqM br E' n' last B ∧ (∀ x ∈ E', x ∈ E) ∧ (n' = now ∨ ∃ e ∈ E, n' = e.time) := by
  rcases h1 with ⟨rfl, rfl, rfl, rfl, h1⟩ | ⟨rfl, E1, e, E2, hF, rfl, rfl, h1⟩
  · rcases h2 with ⟨rfl, rfl, rfl, _, h3⟩ | ⟨rfl, E1, e, E2, hF, _⟩
    · exact ⟨rfl, rfl, rfl, [], now, h1, h3, fun x hx => hx, .inl rfl⟩
    · have := hF.eq; simp at this
  · rcases h2 with ⟨rfl, rfl, rfl, h0, h3⟩ | ⟨rfl, F1, f, F2, hF2, rfl, rfl, h3⟩
    · have := hF.eq; rw [h0] at this; simp at this
    · obtain ⟨rfl, rfl, rfl⟩ := hF.one hF2
      refine ⟨rfl, rfl, rfl, _, _, h1, h3, fun x hx => ?_, .inr ⟨e, hF.mem.1, rfl⟩⟩
      rw [hF.eq]
      rcases List.mem_append.1 hx with hx | hx <;> simp [hx]
theorem pk_eq (h1 : (ok = false ∧ k = 0 ∧ E = []) ∨ (ok = true ∧ ∃ E1 e E2, IsFirst E E1 e E2 ∧ k = e.time)) (h2 : (ok2 = false ∧ k2 = 0 ∧ E = []) ∨ (ok2 = true ∧ ∃ E1 e E2, IsFirst E E1 e E2 ∧ k2 = e.time)) : k = k2 ∧ ok = ok2 := by
  rcases h1 with ⟨rfl, rfl, rfl⟩ | ⟨rfl, E1, e, E2, hF, rfl⟩
  · rcases h2 with ⟨rfl, rfl, _⟩ | ⟨rfl, E1, e, E2, hF, _⟩
    · exact ⟨rfl, rfl⟩
    · have := hF.eq; simp at this
  · rcases h2 with ⟨rfl, rfl, h0⟩ | ⟨rfl, F1, f, F2, hF2, rfl⟩
    · have := hF.eq; rw [h0] at this; simp at this
    · obtain ⟨rfl, rfl, rfl⟩ := hF.one hF2
      exact ⟨rfl, rfl⟩
end
structure ZX where
  (t now last : Int) (E : List Evt) (A B : List Blk)
/-- Both queues hold the same. -/
def Zp (bq br : Nat) (z : ZX) : Prop := QM bq z.E z.now z.last z.A ∧ DqM br z.E z.now z.last z.B ∧ (0 ≤ z.now ∧ z.now ≤ 1073741824) ∧ (∀ e ∈ z.E, 0 ≤ e.time ∧ e.time ≤ 1073741824)
theorem zp_add {E : List Evt} {now last time data : Int} (hn : 0 ≤ now ∧ now ≤ 1073741824) (he : ∀ e ∈ E, 0 ≤ e.time ∧ e.time ≤ 1073741824) : ∀ e ∈ (if addErr E.length now time = 0 then E ++ [(⟨last + 1, time, data⟩ : Evt)] else E), 0 ≤ e.time ∧ e.time ≤ 1073741824 := fun e h => by
  split at h
  · rename_i h0
    rcases List.mem_append.1 h with h | h
    · exact he e h
    · simp at h
      subst h
      unfold addErr at h0
      split at h0
      · cases h0
      · dsimp only; omega
  · exact he e h
theorem St.front {w0 w : World} {S : List Nat} {X : Blk} {R : List Blk} (h : St w0 S w (X :: R)) : St w0 S w (R ++ [X]) := h.perm (List.perm_append_comm (l₁ := [X]) (l₂ := R))
set_option maxHeartbeats 16000000 in
theorem law_calls (l : List (Int × Int × Int)) (v : Value) (w : World) (hr : RdE w v 3 (l.map fun a => [.int .u8 a.1, .int .i64 a.2.1, .int .i64 a.2.2])) (hq : ∀ a ∈ l, 0 ≤ a.1 ∧ a.1 < 256) : Calls Try.prog 7 #[v] w fun e w' => e = .returned (.bool true) ∧ Mod [] w w' := by
  obtain ⟨ad, cap, rfl, hr'⟩ := id hr
  rw [List.length_map] at hr ⊢
  by_cases hbig : 300 < l.length
  · refine Goal.enter (args := [.slice ad l.length cap]) Try.func7 rfl Try.ntmps7 rfl (St.nil w) ?_
    repeat' (first
      | (refine Goal.loud (o := ⟨some 22, _, _, _, _, _⟩) rfl ?_; apply Loud.call0; exact rfl; exact rfl; exact rfl; exact rfl; exact T.bod_9; exact (fun w H => awake_any w))
      | (refine Goal.loud (o := ⟨some 29, _, _, _, _, _⟩) rfl ?_; first | refine Loud.boxA rfl rfl (fun b29 => ?_) | refine Loud.box1 rfl rfl rfl (fun b29 => ?_))
      | (refine Goal.loud (o := ⟨some 6, _, _, _, _, _⟩) rfl ?_; refine Loud.allocA rfl T.inf_47 (fun b6 => ?_))
      | (apply G.move; exact rfl; exact rfl)
      | (apply G.assign; exact rfl; exact rfl)
      | refine Goal.seq (fun _ _ => ?_)
      | refine Goal.next (by assumption) ?_
      | refine Goal.lnil ?_
      | refine Goal.region ?_
      | refine Goal.skip ?_
      | refine Goal.block ?_
      | refine Goal.exit ?_
      | refine Goal.ret ?_
      | refine Goal.then_exit ?_
      | refine Goal.then_ret ?_
      | refine Goal.inBlock_exit ?_
      | refine Goal.inBlock_normal ?_
      | refine Goal.inBlock_ret ?_
      | refine Goal.inBlock_other rfl ?_
      | (apply Goal.condT; exact rfl)
      | (apply Goal.condF; exact rfl)
      | (refine Goal.condD rfl (fun hc => ?_) (fun hc => ?_) <;> first | (exfalso; omega) | contradiction | skip)
      | refine Goal.condB rfl (fun hc => ?_) (fun hc => ?_)
      | refine Goal.guardT rfl rfl ?_
      | refine Goal.guardF rfl rfl rfl rfl ?_
      | refine Goal.guardU rfl rfl rfl ?_
      | (refine Goal.guardD rfl rfl (fun hc => ?_) (fun hc => ?_) <;> first | (exfalso; omega) | contradiction | skip)
      | refine Goal.guardB rfl rfl (fun hc => ?_) (fun hc => ?_)
      | (apply G.fieldAddr; exact rfl; exact rfl; (first | exact T.fld_45_0 | exact T.fld_45_2 | exact T.fld_47_0 | exact T.fld_47_1 | exact T.fld_47_2))
      | (apply G.load; exact rfl; exact rfl; first | exact LoadOK.one (by first | exact T.one_3 | exact T.one_5 | exact T.one_43) 0 rfl rfl | exact LoadOK.one (by first | exact T.one_3 | exact T.one_5 | exact T.one_43) 1 rfl rfl | exact LoadOK.one (by first | exact T.one_3 | exact T.one_5 | exact T.one_43) 2 rfl rfl | exact LoadOK.one (by first | exact T.one_3 | exact T.one_5 | exact T.one_43) 3 rfl rfl | exact LoadOK.one (by first | exact T.one_3 | exact T.one_5 | exact T.one_43) 4 rfl rfl | exact LoadOK.one (by first | exact T.one_3 | exact T.one_5 | exact T.one_43) 5 rfl rfl | exact LoadOK.one (by first | exact T.one_3 | exact T.one_5 | exact T.one_43) 6 rfl rfl | exact LoadOK.one (by first | exact T.one_3 | exact T.one_5 | exact T.one_43) 7 rfl rfl | exact LoadOK.agg (vs := [_, _, _]) T.agg_47 0 rfl rfl ⟨rfl, rfl, rfl, trivial⟩ | exact LoadOK.agg (vs := [_, _, _]) T.agg_47 1 rfl rfl ⟨rfl, rfl, rfl, trivial⟩ | exact LoadOK.agg (vs := [_, _, _]) T.agg_47 2 rfl rfl ⟨rfl, rfl, rfl, trivial⟩ | exact LoadOK.agg (vs := [_, _, _]) T.agg_47 3 rfl rfl ⟨rfl, rfl, rfl, trivial⟩ | exact LoadOK.agg (vs := [_, _, _]) T.agg_47 4 rfl rfl ⟨rfl, rfl, rfl, trivial⟩ | exact LoadOK.agg (vs := [_, _, _]) T.agg_47 5 rfl rfl ⟨rfl, rfl, rfl, trivial⟩ | exact LoadOK.agg (vs := [_, _, _]) T.agg_47 6 rfl rfl ⟨rfl, rfl, rfl, trivial⟩ | exact LoadOK.agg (vs := [_, _, _]) T.agg_47 7 rfl rfl ⟨rfl, rfl, rfl, trivial⟩)
      | (apply G.pickT; exact rfl; exact rfl; exact rfl)
      | (apply G.pickF; exact rfl; exact rfl; exact rfl)
      | (apply G.lss; exact rfl; exact rfl; exact rfl)
      | (apply G.gtr; exact rfl; exact rfl; exact rfl)
      | (apply G.geq; exact rfl; exact rfl; exact rfl)
      | (apply G.eql; exact rfl; exact rfl; exact rfl)
      | (apply G.neq; exact rfl; exact rfl; exact rfl)
      | (apply G.add; exact rfl; exact rfl; exact rfl; first | exact IntWalk.i64_in _ (by omega) | exact IntWalk.u8_in _ (by omega) | exact IntWalk.u16_in _ (by omega) | exact IntWalk.u32_in _ (by omega) | exact IntWalk.u64_in _ (by omega))
      | (apply G.eqlB; exact rfl; exact T.boo_4; exact rfl; exact rfl)
      | (apply G.neqB; exact rfl; exact T.boo_4; exact rfl; exact rfl)
      | (apply G.rem; exact rfl; exact rfl; exact rfl; (first | decide | omega); exact IntWalk.rem_in _ _ (by omega))
      | (apply G.notT; exact rfl; exact rfl)
      | (apply G.notF; exact rfl; exact rfl)
      | (refine G.notD rfl rfl ?_)
      | (apply G.notB; exact rfl; exact rfl)
      | (apply G.extract; exact rfl; exact rfl; exact rfl)
      | (apply G.build (cs := [_, _, _]); exact rfl; exact T.lay_45; exact rfl; exact rfl)
      | (apply G.len; exact rfl; exact rfl; (first | exact T.slc_41 | exact T.slc_43))
      | (apply G.nilCheckP; exact rfl; exact rfl)
      | (refine G.indexAddr rfl T.slc_41 T.sz_47 rfl rfl _ rfl (by omega) ?_)
      | (refine G.indexAddr rfl T.slc_41 T.sz_47 rfl rfl _ (Int.toNat_of_nonneg (by omega)).symm (by omega) ?_)
      | (refine Goal.loud rfl ?_; refine Loud.store0 rfl rfl T.sz_47 rfl rfl rfl (by first | exact Nat.le_of_ble_eq_true rfl | exact Nat.le_refl _ | decide | (simp; omega)) rfl ?_)
      | (refine Goal.loud rfl ?_; refine Loud.store1 rfl rfl T.sz_47 rfl rfl rfl (by first | exact Nat.le_of_ble_eq_true rfl | exact Nat.le_refl _ | decide | (simp; omega)) rfl ?_)
      | (refine Goal.loud rfl ?_; refine Loud.store2 rfl rfl T.sz_47 rfl rfl rfl (by first | exact Nat.le_of_ble_eq_true rfl | exact Nat.le_refl _ | decide | (simp; omega)) rfl ?_)
      | (refine Goal.loud rfl ?_; refine Loud.store3 rfl rfl T.sz_47 rfl rfl rfl (by first | exact Nat.le_of_ble_eq_true rfl | exact Nat.le_refl _ | decide | (simp; omega)) rfl ?_)
      | (refine Goal.loud rfl ?_; refine Loud.store4 rfl rfl T.sz_47 rfl rfl rfl (by first | exact Nat.le_of_ble_eq_true rfl | exact Nat.le_refl _ | decide | (simp; omega)) rfl ?_)
      | (refine Goal.loud rfl ?_; refine Loud.store5 rfl rfl T.sz_47 rfl rfl rfl (by first | exact Nat.le_of_ble_eq_true rfl | exact Nat.le_refl _ | decide | (simp; omega)) rfl ?_)
      | (refine Goal.loud rfl ?_; refine Loud.store6 rfl rfl T.sz_47 rfl rfl rfl (by first | exact Nat.le_of_ble_eq_true rfl | exact Nat.le_refl _ | decide | (simp; omega)) rfl ?_)
      | (refine Goal.loud rfl ?_; refine Loud.store7 rfl rfl T.sz_47 rfl rfl rfl (by first | exact Nat.le_of_ble_eq_true rfl | exact Nat.le_refl _ | decide | (simp; omega)) rfl ?_))
    all_goals
      refine Goal.done (vs := [_]) (by first | exact .inl rfl | exact .inr rfl) Try.results7 ⟨rfl, trivial⟩ rfl (fun w' H => ⟨rfl, H.mod⟩)
  · refine Goal.enter (args := [.slice ad l.length cap]) Try.func7 rfl Try.ntmps7 rfl (St.nil w) ?_
    repeat' (first
      | (refine Goal.loud (o := ⟨some 22, _, _, _, _, _⟩) rfl ?_; apply Loud.call0; exact rfl; exact rfl; exact rfl; exact rfl; exact T.bod_9; exact (fun w H => awake_any w))
      | (refine Goal.loud (o := ⟨some 27, _, _, _, _, _⟩) rfl ?_; apply Loud.callN; exact rfl; exact rfl; exact rfl; exact rfl; exact T.bod_10; exact (fun w H => newQ w); rintro ⟨bq, A1⟩ h1; dsimp only at h1 ⊢)
      | (refine Goal.loud (o := ⟨some 29, _, _, _, _, _⟩) rfl ?_; first | refine Loud.boxA rfl rfl (fun b29 => ?_) | refine Loud.box1 rfl rfl rfl (fun b29 => ?_))
      | (refine Goal.loud (o := ⟨some 6, _, _, _, _, _⟩) rfl ?_; refine Loud.allocA rfl T.inf_47 (fun b6 => ?_))
      | (apply G.move; exact rfl; exact rfl)
      | (apply G.assign; exact rfl; exact rfl)
      | refine Goal.seq (fun _ _ => ?_)
      | refine Goal.next (by assumption) ?_
      | refine Goal.lnil ?_
      | refine Goal.region ?_
      | refine Goal.skip ?_
      | refine Goal.block ?_
      | refine Goal.exit ?_
      | refine Goal.ret ?_
      | refine Goal.then_exit ?_
      | refine Goal.then_ret ?_
      | refine Goal.inBlock_exit ?_
      | refine Goal.inBlock_normal ?_
      | refine Goal.inBlock_ret ?_
      | refine Goal.inBlock_other rfl ?_
      | (apply Goal.condT; exact rfl)
      | (apply Goal.condF; exact rfl)
      | (refine Goal.condD rfl (fun hc => ?_) (fun hc => ?_) <;> first | (exfalso; omega) | contradiction | skip)
      | refine Goal.condB rfl (fun hc => ?_) (fun hc => ?_)
      | refine Goal.guardT rfl rfl ?_
      | refine Goal.guardF rfl rfl rfl rfl ?_
      | refine Goal.guardU rfl rfl rfl ?_
      | (refine Goal.guardD rfl rfl (fun hc => ?_) (fun hc => ?_) <;> first | (exfalso; omega) | contradiction | skip)
      | refine Goal.guardB rfl rfl (fun hc => ?_) (fun hc => ?_)
      | (apply G.fieldAddr; exact rfl; exact rfl; (first | exact T.fld_45_0 | exact T.fld_45_2 | exact T.fld_47_0 | exact T.fld_47_1 | exact T.fld_47_2))
      | (apply G.load; exact rfl; exact rfl; first | exact LoadOK.one (by first | exact T.one_3 | exact T.one_5 | exact T.one_43) 0 rfl rfl | exact LoadOK.one (by first | exact T.one_3 | exact T.one_5 | exact T.one_43) 1 rfl rfl | exact LoadOK.one (by first | exact T.one_3 | exact T.one_5 | exact T.one_43) 2 rfl rfl | exact LoadOK.one (by first | exact T.one_3 | exact T.one_5 | exact T.one_43) 3 rfl rfl | exact LoadOK.one (by first | exact T.one_3 | exact T.one_5 | exact T.one_43) 4 rfl rfl | exact LoadOK.one (by first | exact T.one_3 | exact T.one_5 | exact T.one_43) 5 rfl rfl | exact LoadOK.one (by first | exact T.one_3 | exact T.one_5 | exact T.one_43) 6 rfl rfl | exact LoadOK.one (by first | exact T.one_3 | exact T.one_5 | exact T.one_43) 7 rfl rfl | exact LoadOK.agg (vs := [_, _, _]) T.agg_47 0 rfl rfl ⟨rfl, rfl, rfl, trivial⟩ | exact LoadOK.agg (vs := [_, _, _]) T.agg_47 1 rfl rfl ⟨rfl, rfl, rfl, trivial⟩ | exact LoadOK.agg (vs := [_, _, _]) T.agg_47 2 rfl rfl ⟨rfl, rfl, rfl, trivial⟩ | exact LoadOK.agg (vs := [_, _, _]) T.agg_47 3 rfl rfl ⟨rfl, rfl, rfl, trivial⟩ | exact LoadOK.agg (vs := [_, _, _]) T.agg_47 4 rfl rfl ⟨rfl, rfl, rfl, trivial⟩ | exact LoadOK.agg (vs := [_, _, _]) T.agg_47 5 rfl rfl ⟨rfl, rfl, rfl, trivial⟩ | exact LoadOK.agg (vs := [_, _, _]) T.agg_47 6 rfl rfl ⟨rfl, rfl, rfl, trivial⟩ | exact LoadOK.agg (vs := [_, _, _]) T.agg_47 7 rfl rfl ⟨rfl, rfl, rfl, trivial⟩)
      | (apply G.pickT; exact rfl; exact rfl; exact rfl)
      | (apply G.pickF; exact rfl; exact rfl; exact rfl)
      | (apply G.lss; exact rfl; exact rfl; exact rfl)
      | (apply G.gtr; exact rfl; exact rfl; exact rfl)
      | (apply G.geq; exact rfl; exact rfl; exact rfl)
      | (apply G.eql; exact rfl; exact rfl; exact rfl)
      | (apply G.neq; exact rfl; exact rfl; exact rfl)
      | (apply G.add; exact rfl; exact rfl; exact rfl; first | exact IntWalk.i64_in _ (by omega) | exact IntWalk.u8_in _ (by omega) | exact IntWalk.u16_in _ (by omega) | exact IntWalk.u32_in _ (by omega) | exact IntWalk.u64_in _ (by omega))
      | (apply G.eqlB; exact rfl; exact T.boo_4; exact rfl; exact rfl)
      | (apply G.neqB; exact rfl; exact T.boo_4; exact rfl; exact rfl)
      | (apply G.rem; exact rfl; exact rfl; exact rfl; (first | decide | omega); exact IntWalk.rem_in _ _ (by omega))
      | (apply G.notT; exact rfl; exact rfl)
      | (apply G.notF; exact rfl; exact rfl)
      | (refine G.notD rfl rfl ?_)
      | (apply G.notB; exact rfl; exact rfl)
      | (apply G.extract; exact rfl; exact rfl; exact rfl)
      | (apply G.build (cs := [_, _, _]); exact rfl; exact T.lay_45; exact rfl; exact rfl)
      | (apply G.len; exact rfl; exact rfl; (first | exact T.slc_41 | exact T.slc_43))
      | (apply G.nilCheckP; exact rfl; exact rfl)
      | (refine G.indexAddr rfl T.slc_41 T.sz_47 rfl rfl _ rfl (by omega) ?_)
      | (refine G.indexAddr rfl T.slc_41 T.sz_47 rfl rfl _ (Int.toNat_of_nonneg (by omega)).symm (by omega) ?_)
      | (refine Goal.loud rfl ?_; refine Loud.store0 rfl rfl T.sz_47 rfl rfl rfl (by first | exact Nat.le_of_ble_eq_true rfl | exact Nat.le_refl _ | decide | (simp; omega)) rfl ?_)
      | (refine Goal.loud rfl ?_; refine Loud.store1 rfl rfl T.sz_47 rfl rfl rfl (by first | exact Nat.le_of_ble_eq_true rfl | exact Nat.le_refl _ | decide | (simp; omega)) rfl ?_)
      | (refine Goal.loud rfl ?_; refine Loud.store2 rfl rfl T.sz_47 rfl rfl rfl (by first | exact Nat.le_of_ble_eq_true rfl | exact Nat.le_refl _ | decide | (simp; omega)) rfl ?_)
      | (refine Goal.loud rfl ?_; refine Loud.store3 rfl rfl T.sz_47 rfl rfl rfl (by first | exact Nat.le_of_ble_eq_true rfl | exact Nat.le_refl _ | decide | (simp; omega)) rfl ?_)
      | (refine Goal.loud rfl ?_; refine Loud.store4 rfl rfl T.sz_47 rfl rfl rfl (by first | exact Nat.le_of_ble_eq_true rfl | exact Nat.le_refl _ | decide | (simp; omega)) rfl ?_)
      | (refine Goal.loud rfl ?_; refine Loud.store5 rfl rfl T.sz_47 rfl rfl rfl (by first | exact Nat.le_of_ble_eq_true rfl | exact Nat.le_refl _ | decide | (simp; omega)) rfl ?_)
      | (refine Goal.loud rfl ?_; refine Loud.store6 rfl rfl T.sz_47 rfl rfl rfl (by first | exact Nat.le_of_ble_eq_true rfl | exact Nat.le_refl _ | decide | (simp; omega)) rfl ?_)
      | (refine Goal.loud rfl ?_; refine Loud.store7 rfl rfl T.sz_47 rfl rfl rfl (by first | exact Nat.le_of_ble_eq_true rfl | exact Nat.le_refl _ | decide | (simp; omega)) rfl ?_))
    refine Goal.loopP (X := ZX) (fun x => [(3, .pointer (some ⟨bq, 0, none⟩)), (4, .pointer (some ⟨b29, 0, none⟩)), (30, .slice ad l.length cap), (31, .int .i64 l.length), (32, .int .i64 x.t)]) (fun x => x.A ++ x.B)
      (fun x => (0 ≤ x.t ∧ x.t ≤ l.length) ∧ x.last ≤ x.t ∧ Zp bq b29 x) (fun x => (l.length - x.t).toNat) ⟨0, 0, 0, [], A1, [(b29, .cells #[.slice none 0 0, .int .i64 0, .int .i64 0] 45)]⟩ ⟨rfl, rfl, rfl, rfl, rfl, trivial⟩ (fun _ h => St.front h)
      ⟨by dsimp only; omega, by dsimp only; omega, h1, ⟨_, [], rfl, Sl.nil _ _⟩, by dsimp only; omega, by simp⟩ ?_
    clear h1
    rintro ⟨t, now, last, E, A, B⟩ ⟨ht, hlt, hA, hB, hn, he⟩
    dsimp only at ht hlt hA hB hn he ⊢
    by_cases h : t < l.length
    · obtain ⟨b1, o1, rfl, hk1⟩ := rd_els hr (by omega)
      have hk2 := hk1 t (by omega) (by omega)
      have hb := hq _ (el_mem (i := t) (by omega))
      generalize el l t = ac at hk2 hb
      obtain ⟨k0, c1, c2⟩ := ac
      dsimp only at hk2 hb
      have hf := hA.few
      repeat' (first
        | (refine Goal.loud (o := ⟨some 29, _, _, _, _, _⟩) rfl ?_; first | refine Loud.boxA rfl rfl (fun b29 => ?_) | refine Loud.box1 rfl rfl rfl (fun b29 => ?_))
        | (refine Goal.loud (o := ⟨some 6, _, _, _, _, _⟩) rfl ?_; refine Loud.allocA rfl T.inf_47 (fun b6 => ?_))
        | (refine Goal.cut (x := Code.seq (Code.region 9 _ _) _) (X := ZX) (fun _ => [(3, .pointer (some ⟨bq, 0, none⟩)), (4, .pointer (some ⟨b29, 0, none⟩)), (30, .slice (some ⟨b1, o1, none⟩) l.length cap), (31, .int .i64 l.length), (32, .int .i64 t)]) (fun z => z.A ++ z.B) (fun z => z.last ≤ t + 1 ∧ Zp bq b29 z) ?_ ?_)
        | (apply G.move; exact rfl; exact rfl)
        | (apply G.assign; exact rfl; exact rfl)
        | refine Goal.seq (fun _ _ => ?_)
        | refine Goal.next (by assumption) ?_
        | refine Goal.lnil ?_
        | refine Goal.region ?_
        | refine Goal.skip ?_
        | refine Goal.block ?_
        | refine Goal.exit ?_
        | refine Goal.ret ?_
        | refine Goal.then_exit ?_
        | refine Goal.then_ret ?_
        | refine Goal.inBlock_exit ?_
        | refine Goal.inBlock_normal ?_
        | refine Goal.inBlock_ret ?_
        | refine Goal.inBlock_other rfl ?_
        | (apply Goal.condT; exact rfl)
        | (apply Goal.condF; exact rfl)
        | (refine Goal.condD rfl (fun hc => ?_) (fun hc => ?_) <;> first | (exfalso; omega) | contradiction | skip)
        | refine Goal.condB rfl (fun hc => ?_) (fun hc => ?_)
        | refine Goal.guardT rfl rfl ?_
        | refine Goal.guardF rfl rfl rfl rfl ?_
        | refine Goal.guardU rfl rfl rfl ?_
        | (refine Goal.guardD rfl rfl (fun hc => ?_) (fun hc => ?_) <;> first | (exfalso; omega) | contradiction | skip)
        | refine Goal.guardB rfl rfl (fun hc => ?_) (fun hc => ?_)
        | (apply G.fieldAddr; exact rfl; exact rfl; (first | exact T.fld_45_0 | exact T.fld_45_2 | exact T.fld_47_0 | exact T.fld_47_1 | exact T.fld_47_2))
        | (apply G.load; exact rfl; exact rfl; first | exact LoadOK.oldAgg (vs := [.int .u8 k0, .int .i64 c1, .int .i64 c2]) T.agg_47 rfl hk2 (by simp) | exact LoadOK.one (by first | exact T.one_3 | exact T.one_5 | exact T.one_43) 0 rfl rfl | exact LoadOK.one (by first | exact T.one_3 | exact T.one_5 | exact T.one_43) 1 rfl rfl | exact LoadOK.one (by first | exact T.one_3 | exact T.one_5 | exact T.one_43) 2 rfl rfl | exact LoadOK.one (by first | exact T.one_3 | exact T.one_5 | exact T.one_43) 3 rfl rfl | exact LoadOK.one (by first | exact T.one_3 | exact T.one_5 | exact T.one_43) 4 rfl rfl | exact LoadOK.one (by first | exact T.one_3 | exact T.one_5 | exact T.one_43) 5 rfl rfl | exact LoadOK.one (by first | exact T.one_3 | exact T.one_5 | exact T.one_43) 6 rfl rfl | exact LoadOK.one (by first | exact T.one_3 | exact T.one_5 | exact T.one_43) 7 rfl rfl | exact LoadOK.agg (vs := [_, _, _]) T.agg_47 0 rfl rfl ⟨rfl, rfl, rfl, trivial⟩ | exact LoadOK.agg (vs := [_, _, _]) T.agg_47 1 rfl rfl ⟨rfl, rfl, rfl, trivial⟩ | exact LoadOK.agg (vs := [_, _, _]) T.agg_47 2 rfl rfl ⟨rfl, rfl, rfl, trivial⟩ | exact LoadOK.agg (vs := [_, _, _]) T.agg_47 3 rfl rfl ⟨rfl, rfl, rfl, trivial⟩ | exact LoadOK.agg (vs := [_, _, _]) T.agg_47 4 rfl rfl ⟨rfl, rfl, rfl, trivial⟩ | exact LoadOK.agg (vs := [_, _, _]) T.agg_47 5 rfl rfl ⟨rfl, rfl, rfl, trivial⟩ | exact LoadOK.agg (vs := [_, _, _]) T.agg_47 6 rfl rfl ⟨rfl, rfl, rfl, trivial⟩ | exact LoadOK.agg (vs := [_, _, _]) T.agg_47 7 rfl rfl ⟨rfl, rfl, rfl, trivial⟩)
        | (apply G.pickT; exact rfl; exact rfl; exact rfl)
        | (apply G.pickF; exact rfl; exact rfl; exact rfl)
        | (apply G.lss; exact rfl; exact rfl; exact rfl)
        | (apply G.gtr; exact rfl; exact rfl; exact rfl)
        | (apply G.geq; exact rfl; exact rfl; exact rfl)
        | (apply G.eql; exact rfl; exact rfl; exact rfl)
        | (apply G.neq; exact rfl; exact rfl; exact rfl)
        | (apply G.add; exact rfl; exact rfl; exact rfl; first | exact IntWalk.i64_in _ (by omega) | exact IntWalk.u8_in _ (by omega) | exact IntWalk.u16_in _ (by omega) | exact IntWalk.u32_in _ (by omega) | exact IntWalk.u64_in _ (by omega))
        | (apply G.eqlB; exact rfl; exact T.boo_4; exact rfl; exact rfl)
        | (apply G.neqB; exact rfl; exact T.boo_4; exact rfl; exact rfl)
        | (apply G.rem; exact rfl; exact rfl; exact rfl; (first | decide | omega); exact IntWalk.rem_in _ _ (by omega))
        | (apply G.notT; exact rfl; exact rfl)
        | (apply G.notF; exact rfl; exact rfl)
        | (refine G.notD rfl rfl ?_)
        | (apply G.notB; exact rfl; exact rfl)
        | (apply G.extract; exact rfl; exact rfl; exact rfl)
        | (apply G.build (cs := [_, _, _]); exact rfl; exact T.lay_45; exact rfl; exact rfl)
        | (apply G.len; exact rfl; exact rfl; (first | exact T.slc_41 | exact T.slc_43))
        | (apply G.nilCheckP; exact rfl; exact rfl)
        | (refine G.indexAddr rfl T.slc_41 T.sz_47 rfl rfl _ rfl (by omega) ?_)
        | (refine G.indexAddr rfl T.slc_41 T.sz_47 rfl rfl _ (Int.toNat_of_nonneg (by omega)).symm (by omega) ?_)
        | (refine Goal.loud rfl ?_; refine Loud.store0 rfl rfl T.sz_47 rfl rfl rfl (by first | exact Nat.le_of_ble_eq_true rfl | exact Nat.le_refl _ | decide | (simp; omega)) rfl ?_)
        | (refine Goal.loud rfl ?_; refine Loud.store1 rfl rfl T.sz_47 rfl rfl rfl (by first | exact Nat.le_of_ble_eq_true rfl | exact Nat.le_refl _ | decide | (simp; omega)) rfl ?_)
        | (refine Goal.loud rfl ?_; refine Loud.store2 rfl rfl T.sz_47 rfl rfl rfl (by first | exact Nat.le_of_ble_eq_true rfl | exact Nat.le_refl _ | decide | (simp; omega)) rfl ?_)
        | (refine Goal.loud rfl ?_; refine Loud.store3 rfl rfl T.sz_47 rfl rfl rfl (by first | exact Nat.le_of_ble_eq_true rfl | exact Nat.le_refl _ | decide | (simp; omega)) rfl ?_)
        | (refine Goal.loud rfl ?_; refine Loud.store4 rfl rfl T.sz_47 rfl rfl rfl (by first | exact Nat.le_of_ble_eq_true rfl | exact Nat.le_refl _ | decide | (simp; omega)) rfl ?_)
        | (refine Goal.loud rfl ?_; refine Loud.store5 rfl rfl T.sz_47 rfl rfl rfl (by first | exact Nat.le_of_ble_eq_true rfl | exact Nat.le_refl _ | decide | (simp; omega)) rfl ?_)
        | (refine Goal.loud rfl ?_; refine Loud.store6 rfl rfl T.sz_47 rfl rfl rfl (by first | exact Nat.le_of_ble_eq_true rfl | exact Nat.le_refl _ | decide | (simp; omega)) rfl ?_)
        | (refine Goal.loud rfl ?_; refine Loud.store7 rfl rfl T.sz_47 rfl rfl rfl (by first | exact Nat.le_of_ble_eq_true rfl | exact Nat.le_refl _ | decide | (simp; omega)) rfl ?_))
      · intro K hk
        have hso := hA.sorted
        obtain ⟨vE, AE, rfl, hS⟩ := id hB
        repeat' (first
          | (refine Goal.drawHd (id := 10) 9 T.mixed ?_; all_goals ((refine Goal.takeP (listed' := #[true, false, false, false, false, false, false, false, false]) 0 ⟨rfl, by kernel_rfl, by kernel_rfl, by kernel_rfl, by kernel_rfl⟩ rfl (fun _ _ _ _ h => h) (by intro _; exact Run.move rfl) ?_)); all_goals ((refine Goal.takeP (listed' := #[true, true, false, false, false, false, false, false, false]) 1 ⟨rfl, by kernel_rfl, by kernel_rfl, by kernel_rfl, by kernel_rfl⟩ rfl (fun _ _ _ _ h => h) (by intro _; exact Run.fieldAddr T.fld_47_1 rfl) ?_)); all_goals ((refine Goal.takeP (listed' := #[true, true, false, false, true, false, false, false, false]) 4 ⟨rfl, by kernel_rfl, by kernel_rfl, by kernel_rfl, by kernel_rfl⟩ rfl (fun _ _ _ _ h => h) (by intro _; exact Run.move rfl) ?_)); all_goals ((refine Goal.takeP (listed' := #[true, true, false, false, true, true, false, false, false]) 5 ⟨rfl, by kernel_rfl, by kernel_rfl, by kernel_rfl, by kernel_rfl⟩ rfl (fun _ _ _ _ h => h) (by intro _; exact Run.fieldAddr T.fld_47_1 rfl) ?_)); all_goals ((refine Goal.take (listed' := #[true, true, true, false, true, true, false, false, false]) 2 ⟨rfl, by kernel_rfl, by kernel_rfl, by kernel_rfl, by kernel_rfl, by kernel_rfl⟩ rfl (by (first | exact fun _ h => h.sub (List.Sublist.cons_cons _ (List.nil_sublist _)) | exact fun _ h => h.sub (.cons _ (List.Sublist.cons_cons _ (List.nil_sublist _))) | exact fun _ h => h.sub (.cons _ (.refl _)) | exact fun _ h => h.sub (.cons _ (.cons _ (.refl _))) | exact fun _ h => h.sub (.cons _ (.cons _ (.cons _ (.refl _)))) | exact fun _ h => h.drop | exact fun _ h => h.sub (List.sublist_append_left _ _) | exact fun _ h => by simpa only [List.append_eq, List.append_assoc, List.cons_append, List.nil_append, List.append_nil] using h)) (fun _ _ _ _ h => h) (by (apply Run.load; exact rfl; first | exact LoadOK.offM (b := b29) (c := #[vE, .int .i64 last, .int .i64 now]) (E := 45) (by first | exact T.one_3 | exact T.one_4 | exact T.one_5 | exact T.one_22 | exact T.one_24 | exact T.one_29 | exact T.one_34 | exact T.one_38 | exact T.one_39 | exact T.one_41 | exact T.one_42 | exact T.one_43 | exact T.one_52 | exact T.one_53 | exact T.one_54 | exact T.one_60 | exact T.one_65) (by simp) rfl | exact LoadOK.one T.one_3 0 rfl rfl | exact LoadOK.one T.one_3 1 rfl rfl | exact LoadOK.one T.one_3 2 rfl rfl | exact LoadOK.one T.one_3 3 rfl rfl | exact LoadOK.one T.one_3 4 rfl rfl | exact LoadOK.one T.one_3 5 rfl rfl | exact LoadOK.one T.one_3 6 rfl rfl | exact LoadOK.one T.one_3 7 rfl rfl)) ?_)); all_goals ((refine Goal.take (listed' := #[true, true, true, false, true, true, true, false, false]) 6 ⟨rfl, by kernel_rfl, by kernel_rfl, by kernel_rfl, by kernel_rfl, by kernel_rfl⟩ rfl (by (first | exact fun _ h => h.sub (List.Sublist.cons_cons _ (List.nil_sublist _)) | exact fun _ h => h.sub (.cons _ (List.Sublist.cons_cons _ (List.nil_sublist _))) | exact fun _ h => h.sub (.cons _ (.refl _)) | exact fun _ h => h.sub (.cons _ (.cons _ (.refl _))) | exact fun _ h => h.sub (.cons _ (.cons _ (.cons _ (.refl _)))) | exact fun _ h => h.drop | exact fun _ h => h.sub (List.sublist_append_left _ _) | exact fun _ h => by simpa only [List.append_eq, List.append_assoc, List.cons_append, List.nil_append, List.append_nil] using h)) (fun _ _ _ _ h => h) (by (apply Run.load; exact rfl; first | exact LoadOK.offM (b := b29) (c := #[vE, .int .i64 last, .int .i64 now]) (E := 45) (by first | exact T.one_3 | exact T.one_4 | exact T.one_5 | exact T.one_22 | exact T.one_24 | exact T.one_29 | exact T.one_34 | exact T.one_38 | exact T.one_39 | exact T.one_41 | exact T.one_42 | exact T.one_43 | exact T.one_52 | exact T.one_53 | exact T.one_54 | exact T.one_60 | exact T.one_65) (by simp) rfl | exact LoadOK.one T.one_3 0 rfl rfl | exact LoadOK.one T.one_3 1 rfl rfl | exact LoadOK.one T.one_3 2 rfl rfl | exact LoadOK.one T.one_3 3 rfl rfl | exact LoadOK.one T.one_3 4 rfl rfl | exact LoadOK.one T.one_3 5 rfl rfl | exact LoadOK.one T.one_3 6 rfl rfl | exact LoadOK.one T.one_3 7 rfl rfl)) ?_)); all_goals (refine Goal.ready1 (i := 3) (by kernel_rfl) ?_); all_goals ((refine Goal.up (i := 3) (listed' := #[true, true, true, true, true, true, true, false, false]) rfl (by kernel_rfl) ?_; (refine Loud.callM ([_]) (G := _) (cancelQ hA c1) rfl rfl rfl rfl T.bod_14 (fun _ h => by first | exact h | simpa only [List.append_eq, List.append_assoc, List.cons_append, List.nil_append, List.append_nil] using h) ?_; intro A2 h2); first | refine Goal.tail rfl ?_ | refine Goal.kept (by (first | exact fun _ h => h.sub (List.Sublist.cons_cons _ (List.nil_sublist _)) | exact fun _ h => h.sub (.cons _ (List.Sublist.cons_cons _ (List.nil_sublist _))) | exact fun _ h => h.sub (.cons _ (.refl _)) | exact fun _ h => h.sub (.cons _ (.cons _ (.refl _))) | exact fun _ h => h.sub (.cons _ (.cons _ (.cons _ (.refl _)))) | exact fun _ h => h.drop | exact fun _ h => h.sub (List.sublist_append_left _ _) | exact fun _ h => by simpa only [List.append_eq, List.append_assoc, List.cons_append, List.nil_append, List.append_nil] using h)) ?_)); all_goals (refine Goal.ready1 (i := 7) (by kernel_rfl) ?_); all_goals ((refine Goal.up (i := 7) (listed' := #[true, true, true, true, true, true, true, true, false]) rfl (by kernel_rfl) ?_; (refine Loud.callE (_ :: A2) (dcancelQ hB hf.1 hso c1) rfl rfl rfl rfl T.bod_18 (fun _ h => h) ?_; intro B2 g2); first | refine Goal.tail rfl ?_ | refine Goal.kept (by (first | exact fun _ h => h.sub (List.Sublist.cons_cons _ (List.nil_sublist _)) | exact fun _ h => h.sub (.cons _ (List.Sublist.cons_cons _ (List.nil_sublist _))) | exact fun _ h => h.sub (.cons _ (.refl _)) | exact fun _ h => h.sub (.cons _ (.cons _ (.refl _))) | exact fun _ h => h.sub (.cons _ (.cons _ (.cons _ (.refl _)))) | exact fun _ h => h.drop | exact fun _ h => h.sub (List.sublist_append_left _ _) | exact fun _ h => by simpa only [List.append_eq, List.append_assoc, List.cons_append, List.nil_append, List.append_nil] using h)) ?_)); all_goals ((refine Goal.takeP (listed' := #[true, true, true, true, true, true, true, true, true]) 8 ⟨rfl, by kernel_rfl, by kernel_rfl, by kernel_rfl, by kernel_rfl⟩ rfl (fun _ _ _ _ h => h) (by intro _; first | exact Run.neq rfl rfl) ?_)); all_goals (refine Goal.allUp (by kernel_rfl) ?_))
          | (refine Goal.loud (o := ⟨some 78, _, _, _, _, _⟩) rfl ?_; refine Loud.callM ([_]) (G := _) (addQ hA _ c2 (by omega)) rfl rfl rfl rfl T.bod_11 (fun _ h => by first | exact h | simpa only [List.append_eq, List.append_assoc, List.cons_append, List.nil_append, List.append_nil] using h) ?_; intro A2 h2)
          | (refine Goal.loud (o := ⟨some 86, _, _, _, _, _⟩) rfl ?_; refine Loud.callE (_ :: A2) (daddQ hB _ c2 hf.1 (by omega)) rfl rfl rfl rfl T.bod_16 (fun _ h => h) ?_; intro B2 g2)
          | (refine Goal.loud (o := ⟨some 101, _, _, _, _, _⟩) rfl ?_; refine Loud.callM ([_]) (G := _) (nextQ hA) rfl rfl rfl rfl T.bod_12 (fun _ h => by first | exact h | simpa only [List.append_eq, List.append_assoc, List.cons_append, List.nil_append, List.append_nil] using h) ?_; rintro ⟨k1, d1, ok1, A2⟩ h2; dsimp only at h2 ⊢)
          | (refine Goal.loud (o := ⟨some 107, _, _, _, _, _⟩) rfl ?_; refine Loud.callE (_ :: A2) (dnextQ hB hf.1) rfl rfl rfl rfl T.bod_17 (fun _ h => h) ?_; rintro ⟨k2, d2, ok2, B2⟩ g2; dsimp only at g2 ⊢; obtain ⟨rfl, rfl, rfl, E', n', e1, e2, e3, e4⟩ := nx_eq h2 g2)
          | (refine Goal.loud (o := ⟨some 42, _, _, _, _, _⟩) rfl ?_; refine Loud.callM ([_]) (G := _) (cancelQ hA c1) rfl rfl rfl rfl T.bod_14 (fun _ h => by first | exact h | simpa only [List.append_eq, List.append_assoc, List.cons_append, List.nil_append, List.append_nil] using h) ?_; intro A2 h2)
          | (refine Goal.loud (o := ⟨some 46, _, _, _, _, _⟩) rfl ?_; refine Loud.callE (_ :: A2) (dcancelQ hB hf.1 hso c1) rfl rfl rfl rfl T.bod_18 (fun _ h => h) ?_; intro B2 g2)
          | (refine Goal.loud (o := ⟨some 29, _, _, _, _, _⟩) rfl ?_; first | refine Loud.boxA rfl rfl (fun b29 => ?_) | refine Loud.box1 rfl rfl rfl (fun b29 => ?_))
          | (refine Goal.loud (o := ⟨some 6, _, _, _, _, _⟩) rfl ?_; refine Loud.allocA rfl T.inf_47 (fun b6 => ?_))
          | (apply G.move; exact rfl; exact rfl)
          | (apply G.assign; exact rfl; exact rfl)
          | refine Goal.seq (fun _ _ => ?_)
          | refine Goal.next (by assumption) ?_
          | refine Goal.lnil ?_
          | refine Goal.region ?_
          | refine Goal.skip ?_
          | refine Goal.block ?_
          | refine Goal.exit ?_
          | refine Goal.ret ?_
          | refine Goal.then_exit ?_
          | refine Goal.then_ret ?_
          | refine Goal.inBlock_exit ?_
          | refine Goal.inBlock_normal ?_
          | refine Goal.inBlock_ret ?_
          | refine Goal.inBlock_other rfl ?_
          | (apply Goal.condT; exact rfl)
          | (apply Goal.condF; exact rfl)
          | (refine Goal.condD rfl (fun hc => ?_) (fun hc => ?_) <;> first | (exfalso; omega) | contradiction | skip)
          | refine Goal.condB rfl (fun hc => ?_) (fun hc => ?_)
          | refine Goal.guardT rfl rfl ?_
          | refine Goal.guardF rfl rfl rfl rfl ?_
          | refine Goal.guardU rfl rfl rfl ?_
          | (refine Goal.guardD rfl rfl (fun hc => ?_) (fun hc => ?_) <;> first | (exfalso; omega) | contradiction | skip)
          | refine Goal.guardB rfl rfl (fun hc => ?_) (fun hc => ?_)
          | (apply G.fieldAddr; exact rfl; exact rfl; (first | exact T.fld_45_0 | exact T.fld_45_2 | exact T.fld_47_0 | exact T.fld_47_1 | exact T.fld_47_2))
          | (apply G.load; exact rfl; exact rfl; first | exact LoadOK.offM (b := b29) (c := #[vE, .int .i64 last, .int .i64 now]) (E := 45) (by first | exact T.one_3 | exact T.one_4 | exact T.one_5 | exact T.one_22 | exact T.one_24 | exact T.one_29 | exact T.one_34 | exact T.one_38 | exact T.one_39 | exact T.one_41 | exact T.one_42 | exact T.one_43 | exact T.one_52 | exact T.one_53 | exact T.one_54 | exact T.one_60 | exact T.one_65) (by simp) rfl | exact LoadOK.one (by first | exact T.one_3 | exact T.one_5 | exact T.one_43) 0 rfl rfl | exact LoadOK.one (by first | exact T.one_3 | exact T.one_5 | exact T.one_43) 1 rfl rfl | exact LoadOK.one (by first | exact T.one_3 | exact T.one_5 | exact T.one_43) 2 rfl rfl | exact LoadOK.one (by first | exact T.one_3 | exact T.one_5 | exact T.one_43) 3 rfl rfl | exact LoadOK.one (by first | exact T.one_3 | exact T.one_5 | exact T.one_43) 4 rfl rfl | exact LoadOK.one (by first | exact T.one_3 | exact T.one_5 | exact T.one_43) 5 rfl rfl | exact LoadOK.one (by first | exact T.one_3 | exact T.one_5 | exact T.one_43) 6 rfl rfl | exact LoadOK.one (by first | exact T.one_3 | exact T.one_5 | exact T.one_43) 7 rfl rfl | exact LoadOK.agg (vs := [_, _, _]) T.agg_47 0 rfl rfl ⟨rfl, rfl, rfl, trivial⟩ | exact LoadOK.agg (vs := [_, _, _]) T.agg_47 1 rfl rfl ⟨rfl, rfl, rfl, trivial⟩ | exact LoadOK.agg (vs := [_, _, _]) T.agg_47 2 rfl rfl ⟨rfl, rfl, rfl, trivial⟩ | exact LoadOK.agg (vs := [_, _, _]) T.agg_47 3 rfl rfl ⟨rfl, rfl, rfl, trivial⟩ | exact LoadOK.agg (vs := [_, _, _]) T.agg_47 4 rfl rfl ⟨rfl, rfl, rfl, trivial⟩ | exact LoadOK.agg (vs := [_, _, _]) T.agg_47 5 rfl rfl ⟨rfl, rfl, rfl, trivial⟩ | exact LoadOK.agg (vs := [_, _, _]) T.agg_47 6 rfl rfl ⟨rfl, rfl, rfl, trivial⟩ | exact LoadOK.agg (vs := [_, _, _]) T.agg_47 7 rfl rfl ⟨rfl, rfl, rfl, trivial⟩)
          | (apply G.pickT; exact rfl; exact rfl; exact rfl)
          | (apply G.pickF; exact rfl; exact rfl; exact rfl)
          | (apply G.lss; exact rfl; exact rfl; exact rfl)
          | (apply G.gtr; exact rfl; exact rfl; exact rfl)
          | (apply G.geq; exact rfl; exact rfl; exact rfl)
          | (apply G.eql; exact rfl; exact rfl; exact rfl)
          | (apply G.neq; exact rfl; exact rfl; exact rfl)
          | (apply G.add; exact rfl; exact rfl; exact rfl; first | exact IntWalk.i64_in _ (by omega) | exact IntWalk.u8_in _ (by omega) | exact IntWalk.u16_in _ (by omega) | exact IntWalk.u32_in _ (by omega) | exact IntWalk.u64_in _ (by omega))
          | (apply G.eqlB; exact rfl; exact T.boo_4; exact rfl; exact rfl)
          | (apply G.neqB; exact rfl; exact T.boo_4; exact rfl; exact rfl)
          | (apply G.rem; exact rfl; exact rfl; exact rfl; (first | decide | omega); exact IntWalk.rem_in _ _ (by omega))
          | (apply G.notT; exact rfl; exact rfl)
          | (apply G.notF; exact rfl; exact rfl)
          | (refine G.notD rfl rfl ?_)
          | (apply G.notB; exact rfl; exact rfl)
          | (apply G.extract; exact rfl; exact rfl; exact rfl)
          | (apply G.build (cs := [_, _, _]); exact rfl; exact T.lay_45; exact rfl; exact rfl)
          | (apply G.len; exact rfl; exact rfl; (first | exact T.slc_41 | exact T.slc_43))
          | (apply G.nilCheckP; exact rfl; exact rfl)
          | (refine G.indexAddr rfl T.slc_41 T.sz_47 rfl rfl _ rfl (by omega) ?_)
          | (refine G.indexAddr rfl T.slc_41 T.sz_47 rfl rfl _ (Int.toNat_of_nonneg (by omega)).symm (by omega) ?_)
          | (refine Goal.loud rfl ?_; refine Loud.store0 rfl rfl T.sz_47 rfl rfl rfl (by first | exact Nat.le_of_ble_eq_true rfl | exact Nat.le_refl _ | decide | (simp; omega)) rfl ?_)
          | (refine Goal.loud rfl ?_; refine Loud.store1 rfl rfl T.sz_47 rfl rfl rfl (by first | exact Nat.le_of_ble_eq_true rfl | exact Nat.le_refl _ | decide | (simp; omega)) rfl ?_)
          | (refine Goal.loud rfl ?_; refine Loud.store2 rfl rfl T.sz_47 rfl rfl rfl (by first | exact Nat.le_of_ble_eq_true rfl | exact Nat.le_refl _ | decide | (simp; omega)) rfl ?_)
          | (refine Goal.loud rfl ?_; refine Loud.store3 rfl rfl T.sz_47 rfl rfl rfl (by first | exact Nat.le_of_ble_eq_true rfl | exact Nat.le_refl _ | decide | (simp; omega)) rfl ?_)
          | (refine Goal.loud rfl ?_; refine Loud.store4 rfl rfl T.sz_47 rfl rfl rfl (by first | exact Nat.le_of_ble_eq_true rfl | exact Nat.le_refl _ | decide | (simp; omega)) rfl ?_)
          | (refine Goal.loud rfl ?_; refine Loud.store5 rfl rfl T.sz_47 rfl rfl rfl (by first | exact Nat.le_of_ble_eq_true rfl | exact Nat.le_refl _ | decide | (simp; omega)) rfl ?_)
          | (refine Goal.loud rfl ?_; refine Loud.store6 rfl rfl T.sz_47 rfl rfl rfl (by first | exact Nat.le_of_ble_eq_true rfl | exact Nat.le_refl _ | decide | (simp; omega)) rfl ?_)
          | (refine Goal.loud rfl ?_; refine Loud.store7 rfl rfl T.sz_47 rfl rfl rfl (by first | exact Nat.le_of_ble_eq_true rfl | exact Nat.le_refl _ | decide | (simp; omega)) rfl ?_))
        all_goals first
          | exact Goal.meet hk ⟨0, now, if addErr E.length now c1 = 0 then last + 1 else last, if addErr E.length now c1 = 0 then E ++ [⟨last + 1, c1, c2⟩] else E, A2, B2⟩ ⟨by dsimp only; split <;> omega, h2, g2, hn, zp_add hn he⟩ ⟨rfl, rfl, rfl, rfl, rfl, trivial⟩ (fun _ h => St.drop1 (by simpa only [List.append_eq, List.append_assoc, List.cons_append, List.nil_append, List.append_nil] using h))
          | exact Goal.meet hk ⟨0, now, if addErr E.length now (c1 + now) = 0 then last + 1 else last, if addErr E.length now (c1 + now) = 0 then E ++ [⟨last + 1, (c1 + now), c2⟩] else E, A2, B2⟩ ⟨by dsimp only; split <;> omega, h2, g2, hn, zp_add hn he⟩ ⟨rfl, rfl, rfl, rfl, rfl, trivial⟩ (fun _ h => St.drop1 (by simpa only [List.append_eq, List.append_assoc, List.cons_append, List.nil_append, List.append_nil] using h))
          | exact Goal.meet hk ⟨0, n', last, E', A2, B2⟩ ⟨by dsimp only; omega, e1, e2, by
              dsimp only
              rcases e4 with e4 | ⟨e, he1, e4⟩
              · omega
              · have := he e he1; omega, fun e h => he e (e3 e h)⟩ ⟨rfl, rfl, rfl, rfl, rfl, trivial⟩ (fun _ h => St.drop1 (by simpa only [List.append_eq, List.append_assoc, List.cons_append, List.nil_append, List.append_nil] using h))
          | exact Goal.meet hk ⟨0, now, last, _, A2, B2⟩ ⟨by dsimp only; omega, h2, g2, hn, fun e h => he e (List.mem_filter.1 h).1⟩ ⟨rfl, rfl, rfl, rfl, rfl, trivial⟩ (fun _ h => St.drop1 (by simpa only [List.append_eq, List.append_assoc, List.cons_append, List.nil_append, List.append_nil] using h))
      · rintro ⟨_, now, last, E, A, B⟩ ⟨hlt, hA, hB, hn, he⟩
        dsimp only at hlt hA hB hn he ⊢
        have hf := hA.few
        repeat' (first
          | (refine Goal.drawAll (id := 28) 27 T.mixed ?_; all_goals ((refine Goal.takeP (listed' := #[true, false, false, false, false, false, false, false, false, false, false, false, false, false, false, false, false, false, false, false, false, false, false, false, false, false, false]) 0 ⟨rfl, by kernel_rfl, by kernel_rfl, by kernel_rfl, by kernel_rfl⟩ rfl (fun _ _ _ _ h => h) (by intro _; exact Run.move rfl) ?_)); all_goals ((refine Goal.takeP (listed' := #[true, true, false, false, false, false, false, false, false, false, false, false, false, false, false, false, false, false, false, false, false, false, false, false, false, false, false]) 1 ⟨rfl, by kernel_rfl, by kernel_rfl, by kernel_rfl, by kernel_rfl⟩ rfl (fun _ _ _ _ h => h) (by intro _; exact Run.move rfl) ?_)); all_goals ((refine Goal.takeP (listed' := #[true, true, true, false, false, false, false, false, false, false, false, false, false, false, false, false, false, false, false, false, false, false, false, false, false, false, false]) 2 ⟨rfl, by kernel_rfl, by kernel_rfl, by kernel_rfl, by kernel_rfl⟩ rfl (fun _ _ _ _ h => h) (by intro _; first | exact Run.neq rfl rfl) ?_)); all_goals ((refine Goal.takeP (listed' := #[true, true, true, true, false, false, false, false, false, false, false, false, false, false, false, false, false, false, false, false, false, false, false, false, false, false, false]) 3 ⟨rfl, by kernel_rfl, by kernel_rfl, by kernel_rfl, by kernel_rfl⟩ rfl (fun _ _ _ _ h => h) (by intro _; exact Run.move rfl) ?_)); all_goals (first | (refine Goal.bdec 137 rfl (fun hc => ?_) (fun hc => ?_) <;> first | (exfalso; omega) | contradiction | skip) | skip); all_goals (first | (refine Goal.takePT (listed' := #[true, true, true, true, true, false, false, false, false, false, false, false, false, false, false, false, false, false, false, false, false, false, false, false, false, false, false]) 4 ⟨rfl, by kernel_rfl, by kernel_rfl, by kernel_rfl, by kernel_rfl⟩ rfl rfl rfl (fun _ _ _ _ h => h) (by intro _; exact Run.move rfl) ?_) | (refine Goal.takePF (listed' := #[true, true, true, true, true, false, false, false, false, false, false, false, false, false, false, false, false, false, false, false, false, false, false, false, false, false, false]) 4 ⟨rfl, by kernel_rfl, by kernel_rfl, by kernel_rfl, by kernel_rfl⟩ rfl rfl rfl rfl (fun _ _ _ _ h => h) ?_) | (refine Goal.takePU (listed' := #[true, true, true, true, true, false, false, false, false, false, false, false, false, false, false, false, false, false, false, false, false, false, false, false, false, false, false]) 4 ⟨rfl, by kernel_rfl, by kernel_rfl, by kernel_rfl, by kernel_rfl⟩ rfl rfl rfl (fun _ _ _ _ h => h) ?_)); all_goals (first | (refine Goal.takePT (listed' := #[true, true, true, true, true, true, false, false, false, false, false, false, false, false, false, false, false, false, false, false, false, false, false, false, false, false, false]) 5 ⟨rfl, by kernel_rfl, by kernel_rfl, by kernel_rfl, by kernel_rfl⟩ rfl rfl rfl (fun _ _ _ _ h => h) (by intro _; exact Run.move rfl) ?_) | (refine Goal.takePF (listed' := #[true, true, true, true, true, true, false, false, false, false, false, false, false, false, false, false, false, false, false, false, false, false, false, false, false, false, false]) 5 ⟨rfl, by kernel_rfl, by kernel_rfl, by kernel_rfl, by kernel_rfl⟩ rfl rfl rfl rfl (fun _ _ _ _ h => h) ?_) | (refine Goal.takePU (listed' := #[true, true, true, true, true, true, false, false, false, false, false, false, false, false, false, false, false, false, false, false, false, false, false, false, false, false, false]) 5 ⟨rfl, by kernel_rfl, by kernel_rfl, by kernel_rfl, by kernel_rfl⟩ rfl rfl rfl (fun _ _ _ _ h => h) ?_)); all_goals (first | (refine Goal.takePT (listed' := #[true, true, true, true, true, true, true, false, false, false, false, false, false, false, false, false, false, false, false, false, false, false, false, false, false, false, false]) 6 ⟨rfl, by kernel_rfl, by kernel_rfl, by kernel_rfl, by kernel_rfl⟩ rfl rfl rfl (fun _ _ _ _ h => h) (by intro _; first | exact Run.neqB T.boo_4 rfl rfl) ?_) | (refine Goal.takePF (listed' := #[true, true, true, true, true, true, true, false, false, false, false, false, false, false, false, false, false, false, false, false, false, false, false, false, false, false, false]) 6 ⟨rfl, by kernel_rfl, by kernel_rfl, by kernel_rfl, by kernel_rfl⟩ rfl rfl rfl rfl (fun _ _ _ _ h => h) ?_) | (refine Goal.takePU (listed' := #[true, true, true, true, true, true, true, false, false, false, false, false, false, false, false, false, false, false, false, false, false, false, false, false, false, false, false]) 6 ⟨rfl, by kernel_rfl, by kernel_rfl, by kernel_rfl, by kernel_rfl⟩ rfl rfl rfl (fun _ _ _ _ h => h) ?_)); all_goals ((refine Goal.takeP (listed' := #[true, true, true, true, true, true, true, true, false, false, false, false, false, false, false, false, false, false, false, false, false, false, false, false, false, false, false]) 7 ⟨rfl, by kernel_rfl, by kernel_rfl, by kernel_rfl, by kernel_rfl⟩ rfl (fun _ _ _ _ h => h) (by intro _; first | exact Run.pickT rfl rfl | exact Run.pickF rfl rfl) ?_)); all_goals ((refine Goal.takeP (listed' := #[true, true, true, true, true, true, true, true, true, false, false, false, false, false, false, false, false, false, false, false, false, false, false, false, false, false, false]) 8 ⟨rfl, by kernel_rfl, by kernel_rfl, by kernel_rfl, by kernel_rfl⟩ rfl (fun _ _ _ _ h => h) (by intro _; exact Run.move rfl) ?_)); all_goals (first | (refine Goal.bdec 142 rfl (fun hc => ?_) (fun hc => ?_) <;> first | (exfalso; omega) | contradiction | skip) | skip); all_goals (first | (refine Goal.takePT (listed' := #[true, true, true, true, true, true, true, true, true, true, false, false, false, false, false, false, false, false, false, false, false, false, false, false, false, false, false]) 9 ⟨rfl, by kernel_rfl, by kernel_rfl, by kernel_rfl, by kernel_rfl⟩ rfl rfl rfl (fun _ _ _ _ h => h) (by intro _; exact Run.move rfl) ?_) | (refine Goal.takePF (listed' := #[true, true, true, true, true, true, true, true, true, true, false, false, false, false, false, false, false, false, false, false, false, false, false, false, false, false, false]) 9 ⟨rfl, by kernel_rfl, by kernel_rfl, by kernel_rfl, by kernel_rfl⟩ rfl rfl rfl rfl (fun _ _ _ _ h => h) ?_) | (refine Goal.takePU (listed' := #[true, true, true, true, true, true, true, true, true, true, false, false, false, false, false, false, false, false, false, false, false, false, false, false, false, false, false]) 9 ⟨rfl, by kernel_rfl, by kernel_rfl, by kernel_rfl, by kernel_rfl⟩ rfl rfl rfl (fun _ _ _ _ h => h) ?_)); all_goals (first | (refine Goal.takePT (listed' := #[true, true, true, true, true, true, true, true, true, true, false, true, false, false, false, false, false, false, false, false, false, false, false, false, false, false, false]) 11 ⟨rfl, by kernel_rfl, by kernel_rfl, by kernel_rfl, by kernel_rfl⟩ rfl rfl rfl (fun _ _ _ _ h => h) (by intro _; exact Run.move rfl) ?_) | (refine Goal.takePF (listed' := #[true, true, true, true, true, true, true, true, true, true, false, true, false, false, false, false, false, false, false, false, false, false, false, false, false, false, false]) 11 ⟨rfl, by kernel_rfl, by kernel_rfl, by kernel_rfl, by kernel_rfl⟩ rfl rfl rfl rfl (fun _ _ _ _ h => h) ?_) | (refine Goal.takePU (listed' := #[true, true, true, true, true, true, true, true, true, true, false, true, false, false, false, false, false, false, false, false, false, false, false, false, false, false, false]) 11 ⟨rfl, by kernel_rfl, by kernel_rfl, by kernel_rfl, by kernel_rfl⟩ rfl rfl rfl (fun _ _ _ _ h => h) ?_)); all_goals (first | (refine Goal.takePT (listed' := #[true, true, true, true, true, true, true, true, true, true, false, true, true, false, false, false, false, false, false, false, false, false, false, false, false, false, false]) 12 ⟨rfl, by kernel_rfl, by kernel_rfl, by kernel_rfl, by kernel_rfl⟩ rfl rfl rfl (fun _ _ _ _ h => h) (by intro _; exact Run.nilCheckP rfl) ?_) | (refine Goal.takePF (listed' := #[true, true, true, true, true, true, true, true, true, true, false, true, true, false, false, false, false, false, false, false, false, false, false, false, false, false, false]) 12 ⟨rfl, by kernel_rfl, by kernel_rfl, by kernel_rfl, by kernel_rfl⟩ rfl rfl rfl rfl (fun _ _ _ _ h => h) ?_) | (refine Goal.takePU (listed' := #[true, true, true, true, true, true, true, true, true, true, false, true, true, false, false, false, false, false, false, false, false, false, false, false, false, false, false]) 12 ⟨rfl, by kernel_rfl, by kernel_rfl, by kernel_rfl, by kernel_rfl⟩ rfl rfl rfl (fun _ _ _ _ h => h) ?_)); all_goals (first | (refine Goal.takePT (listed' := #[true, true, true, true, true, true, true, true, true, true, false, true, true, true, false, false, false, false, false, false, false, false, false, false, false, false, false]) 13 ⟨rfl, by kernel_rfl, by kernel_rfl, by kernel_rfl, by kernel_rfl⟩ rfl rfl rfl (fun _ _ _ _ h => h) (by intro _; exact Run.fieldAddr T.fld_45_2 rfl) ?_) | (refine Goal.takePF (listed' := #[true, true, true, true, true, true, true, true, true, true, false, true, true, true, false, false, false, false, false, false, false, false, false, false, false, false, false]) 13 ⟨rfl, by kernel_rfl, by kernel_rfl, by kernel_rfl, by kernel_rfl⟩ rfl rfl rfl rfl (fun _ _ _ _ h => h) ?_) | (refine Goal.takePU (listed' := #[true, true, true, true, true, true, true, true, true, true, false, true, true, true, false, false, false, false, false, false, false, false, false, false, false, false, false]) 13 ⟨rfl, by kernel_rfl, by kernel_rfl, by kernel_rfl, by kernel_rfl⟩ rfl rfl rfl (fun _ _ _ _ h => h) ?_)); all_goals (first | (refine Goal.takeT (listed' := #[true, true, true, true, true, true, true, true, true, true, false, true, true, true, true, false, false, false, false, false, false, false, false, false, false, false, false]) 14 ⟨rfl, by kernel_rfl, by kernel_rfl, by kernel_rfl, by kernel_rfl, by kernel_rfl⟩ rfl rfl rfl (by (first | exact fun _ h => h | exact fun _ h => h.sub (.cons _ (.refl _)) | exact fun _ h => h.sub (.cons _ (.cons _ (.refl _))) | exact fun _ h => h.sub (.cons _ (.cons _ (.cons _ (.refl _)))) | exact fun _ h => h.drop | exact fun _ h => h.sub (List.sublist_append_left _ _) | exact fun _ h => by simpa only [List.append_eq, List.append_assoc, List.cons_append, List.nil_append, List.append_nil] using h)) (fun _ _ _ _ h => h) (by (apply Run.load; exact rfl; first | exact LoadOK.offM (b := b29) (c := #[.slice aE E.length cE, .int .i64 last, .int .i64 now]) (E := 45) (by first | exact T.one_3 | exact T.one_4 | exact T.one_5 | exact T.one_22 | exact T.one_24 | exact T.one_29 | exact T.one_34 | exact T.one_38 | exact T.one_39 | exact T.one_41 | exact T.one_42 | exact T.one_43 | exact T.one_52 | exact T.one_53 | exact T.one_54 | exact T.one_60 | exact T.one_65) (by simp) rfl | exact LoadOK.one T.one_3 0 rfl rfl | exact LoadOK.one T.one_3 1 rfl rfl | exact LoadOK.one T.one_3 2 rfl rfl | exact LoadOK.one T.one_3 3 rfl rfl | exact LoadOK.one T.one_3 4 rfl rfl | exact LoadOK.one T.one_3 5 rfl rfl | exact LoadOK.one T.one_3 6 rfl rfl | exact LoadOK.one T.one_3 7 rfl rfl)) ?_) | (refine Goal.takeF (listed' := #[true, true, true, true, true, true, true, true, true, true, false, true, true, true, true, false, false, false, false, false, false, false, false, false, false, false, false]) 14 ⟨rfl, by kernel_rfl, by kernel_rfl, by kernel_rfl, by kernel_rfl, by kernel_rfl⟩ rfl rfl rfl rfl (by (first | exact fun _ h => h | exact fun _ h => h.sub (.cons _ (.refl _)) | exact fun _ h => h.sub (.cons _ (.cons _ (.refl _))) | exact fun _ h => h.sub (.cons _ (.cons _ (.cons _ (.refl _)))) | exact fun _ h => h.drop | exact fun _ h => h.sub (List.sublist_append_left _ _) | exact fun _ h => by simpa only [List.append_eq, List.append_assoc, List.cons_append, List.nil_append, List.append_nil] using h)) (fun _ _ _ _ h => h) ?_) | (refine Goal.takePU (listed' := #[true, true, true, true, true, true, true, true, true, true, false, true, true, true, true, false, false, false, false, false, false, false, false, false, false, false, false]) 14 ⟨rfl, by kernel_rfl, by kernel_rfl, by kernel_rfl, by kernel_rfl⟩ rfl rfl rfl (fun _ _ _ _ h => h) ?_)); all_goals (refine Goal.ready1 (i := 10) (by kernel_rfl) ?_); all_goals ((first | (refine Goal.upT (i := 10) (listed' := #[true, true, true, true, true, true, true, true, true, true, true, true, true, true, true, false, false, false, false, false, false, false, false, false, false, false, false]) rfl (by kernel_rfl) rfl rfl ?_; (refine Loud.callM ([]) (G := _) (nowQ h2) rfl rfl rfl rfl T.bod_15 (fun _ h => by first | exact h | simpa only [List.append_eq, List.append_assoc, List.cons_append, List.nil_append, List.append_nil] using h) ?_; rintro ⟨⟩ -); first | refine Goal.tail rfl ?_ | refine Goal.kept (by (first | exact fun _ h => h | exact fun _ h => h.sub (.cons _ (.refl _)) | exact fun _ h => h.sub (.cons _ (.cons _ (.refl _))) | exact fun _ h => h.sub (.cons _ (.cons _ (.cons _ (.refl _)))) | exact fun _ h => h.drop | exact fun _ h => h.sub (List.sublist_append_left _ _) | exact fun _ h => by simpa only [List.append_eq, List.append_assoc, List.cons_append, List.nil_append, List.append_nil] using h)) ?_) | (refine Goal.upF (i := 10) (listed' := #[true, true, true, true, true, true, true, true, true, true, true, true, true, true, true, false, false, false, false, false, false, false, false, false, false, false, false]) rfl (by kernel_rfl) rfl rfl rfl rfl ?_; first | refine Goal.tail rfl ?_ | refine Goal.kept (by (first | exact fun _ h => h | exact fun _ h => h.sub (.cons _ (.refl _)) | exact fun _ h => h.sub (.cons _ (.cons _ (.refl _))) | exact fun _ h => h.sub (.cons _ (.cons _ (.cons _ (.refl _)))) | exact fun _ h => h.drop | exact fun _ h => h.sub (List.sublist_append_left _ _) | exact fun _ h => by simpa only [List.append_eq, List.append_assoc, List.cons_append, List.nil_append, List.append_nil] using h)) ?_))); all_goals (first | (refine Goal.takePT (listed' := #[true, true, true, true, true, true, true, true, true, true, true, true, true, true, true, true, false, false, false, false, false, false, false, false, false, false, false]) 15 ⟨rfl, by kernel_rfl, by kernel_rfl, by kernel_rfl, by kernel_rfl⟩ rfl rfl rfl (fun _ _ _ _ h => h) (by intro _; first | exact Run.neq rfl rfl) ?_) | (refine Goal.takePF (listed' := #[true, true, true, true, true, true, true, true, true, true, true, true, true, true, true, true, false, false, false, false, false, false, false, false, false, false, false]) 15 ⟨rfl, by kernel_rfl, by kernel_rfl, by kernel_rfl, by kernel_rfl⟩ rfl rfl rfl rfl (fun _ _ _ _ h => h) ?_) | (refine Goal.takePU (listed' := #[true, true, true, true, true, true, true, true, true, true, true, true, true, true, true, true, false, false, false, false, false, false, false, false, false, false, false]) 15 ⟨rfl, by kernel_rfl, by kernel_rfl, by kernel_rfl, by kernel_rfl⟩ rfl rfl rfl (fun _ _ _ _ h => h) ?_)); all_goals ((refine Goal.takeP (listed' := #[true, true, true, true, true, true, true, true, true, true, true, true, true, true, true, true, true, false, false, false, false, false, false, false, false, false, false]) 16 ⟨rfl, by kernel_rfl, by kernel_rfl, by kernel_rfl, by kernel_rfl⟩ rfl (fun _ _ _ _ h => h) (by intro _; first | exact Run.pickT rfl rfl | exact Run.pickF rfl rfl) ?_)); all_goals ((refine Goal.takeP (listed' := #[true, true, true, true, true, true, true, true, true, true, true, true, true, true, true, true, true, true, false, false, false, false, false, false, false, false, false]) 17 ⟨rfl, by kernel_rfl, by kernel_rfl, by kernel_rfl, by kernel_rfl⟩ rfl (fun _ _ _ _ h => h) (by intro _; exact Run.move rfl) ?_)); all_goals (first | (refine Goal.bdec 151 rfl (fun hc => ?_) (fun hc => ?_) <;> first | (exfalso; omega) | contradiction | skip) | skip); all_goals (first | (refine Goal.takePT (listed' := #[true, true, true, true, true, true, true, true, true, true, true, true, true, true, true, true, true, true, true, false, false, false, false, false, false, false, false]) 18 ⟨rfl, by kernel_rfl, by kernel_rfl, by kernel_rfl, by kernel_rfl⟩ rfl rfl rfl (fun _ _ _ _ h => h) (by intro _; exact Run.move rfl) ?_) | (refine Goal.takePF (listed' := #[true, true, true, true, true, true, true, true, true, true, true, true, true, true, true, true, true, true, true, false, false, false, false, false, false, false, false]) 18 ⟨rfl, by kernel_rfl, by kernel_rfl, by kernel_rfl, by kernel_rfl⟩ rfl rfl rfl rfl (fun _ _ _ _ h => h) ?_) | (refine Goal.takePU (listed' := #[true, true, true, true, true, true, true, true, true, true, true, true, true, true, true, true, true, true, true, false, false, false, false, false, false, false, false]) 18 ⟨rfl, by kernel_rfl, by kernel_rfl, by kernel_rfl, by kernel_rfl⟩ rfl rfl rfl (fun _ _ _ _ h => h) ?_)); all_goals (first | (refine Goal.takePT (listed' := #[true, true, true, true, true, true, true, true, true, true, true, true, true, true, true, true, true, true, true, false, true, false, false, false, false, false, false]) 20 ⟨rfl, by kernel_rfl, by kernel_rfl, by kernel_rfl, by kernel_rfl⟩ rfl rfl rfl (fun _ _ _ _ h => h) (by intro _; exact Run.move rfl) ?_) | (refine Goal.takePF (listed' := #[true, true, true, true, true, true, true, true, true, true, true, true, true, true, true, true, true, true, true, false, true, false, false, false, false, false, false]) 20 ⟨rfl, by kernel_rfl, by kernel_rfl, by kernel_rfl, by kernel_rfl⟩ rfl rfl rfl rfl (fun _ _ _ _ h => h) ?_) | (refine Goal.takePU (listed' := #[true, true, true, true, true, true, true, true, true, true, true, true, true, true, true, true, true, true, true, false, true, false, false, false, false, false, false]) 20 ⟨rfl, by kernel_rfl, by kernel_rfl, by kernel_rfl, by kernel_rfl⟩ rfl rfl rfl (fun _ _ _ _ h => h) ?_)); all_goals (first | (refine Goal.takePT (listed' := #[true, true, true, true, true, true, true, true, true, true, true, true, true, true, true, true, true, true, true, false, true, true, false, false, false, false, false]) 21 ⟨rfl, by kernel_rfl, by kernel_rfl, by kernel_rfl, by kernel_rfl⟩ rfl rfl rfl (fun _ _ _ _ h => h) (by intro _; exact Run.nilCheckP rfl) ?_) | (refine Goal.takePF (listed' := #[true, true, true, true, true, true, true, true, true, true, true, true, true, true, true, true, true, true, true, false, true, true, false, false, false, false, false]) 21 ⟨rfl, by kernel_rfl, by kernel_rfl, by kernel_rfl, by kernel_rfl⟩ rfl rfl rfl rfl (fun _ _ _ _ h => h) ?_) | (refine Goal.takePU (listed' := #[true, true, true, true, true, true, true, true, true, true, true, true, true, true, true, true, true, true, true, false, true, true, false, false, false, false, false]) 21 ⟨rfl, by kernel_rfl, by kernel_rfl, by kernel_rfl, by kernel_rfl⟩ rfl rfl rfl (fun _ _ _ _ h => h) ?_)); all_goals (first | (refine Goal.takePT (listed' := #[true, true, true, true, true, true, true, true, true, true, true, true, true, true, true, true, true, true, true, false, true, true, true, false, false, false, false]) 22 ⟨rfl, by kernel_rfl, by kernel_rfl, by kernel_rfl, by kernel_rfl⟩ rfl rfl rfl (fun _ _ _ _ h => h) (by intro _; exact Run.fieldAddr T.fld_45_0 rfl) ?_) | (refine Goal.takePF (listed' := #[true, true, true, true, true, true, true, true, true, true, true, true, true, true, true, true, true, true, true, false, true, true, true, false, false, false, false]) 22 ⟨rfl, by kernel_rfl, by kernel_rfl, by kernel_rfl, by kernel_rfl⟩ rfl rfl rfl rfl (fun _ _ _ _ h => h) ?_) | (refine Goal.takePU (listed' := #[true, true, true, true, true, true, true, true, true, true, true, true, true, true, true, true, true, true, true, false, true, true, true, false, false, false, false]) 22 ⟨rfl, by kernel_rfl, by kernel_rfl, by kernel_rfl, by kernel_rfl⟩ rfl rfl rfl (fun _ _ _ _ h => h) ?_)); all_goals (first | (refine Goal.takeT (listed' := #[true, true, true, true, true, true, true, true, true, true, true, true, true, true, true, true, true, true, true, false, true, true, true, true, false, false, false]) 23 ⟨rfl, by kernel_rfl, by kernel_rfl, by kernel_rfl, by kernel_rfl, by kernel_rfl⟩ rfl rfl rfl (by (first | exact fun _ h => h | exact fun _ h => h.sub (.cons _ (.refl _)) | exact fun _ h => h.sub (.cons _ (.cons _ (.refl _))) | exact fun _ h => h.sub (.cons _ (.cons _ (.cons _ (.refl _)))) | exact fun _ h => h.drop | exact fun _ h => h.sub (List.sublist_append_left _ _) | exact fun _ h => by simpa only [List.append_eq, List.append_assoc, List.cons_append, List.nil_append, List.append_nil] using h)) (fun _ _ _ _ h => h) (by (apply Run.load; exact rfl; first | exact LoadOK.offM (b := b29) (c := #[.slice aE E.length cE, .int .i64 last, .int .i64 now]) (E := 45) (by first | exact T.one_3 | exact T.one_4 | exact T.one_5 | exact T.one_22 | exact T.one_24 | exact T.one_29 | exact T.one_34 | exact T.one_38 | exact T.one_39 | exact T.one_41 | exact T.one_42 | exact T.one_43 | exact T.one_52 | exact T.one_53 | exact T.one_54 | exact T.one_60 | exact T.one_65) (by simp) rfl | exact LoadOK.one T.one_43 0 rfl rfl | exact LoadOK.one T.one_43 1 rfl rfl | exact LoadOK.one T.one_43 2 rfl rfl | exact LoadOK.one T.one_43 3 rfl rfl | exact LoadOK.one T.one_43 4 rfl rfl | exact LoadOK.one T.one_43 5 rfl rfl | exact LoadOK.one T.one_43 6 rfl rfl | exact LoadOK.one T.one_43 7 rfl rfl)) ?_) | (refine Goal.takeF (listed' := #[true, true, true, true, true, true, true, true, true, true, true, true, true, true, true, true, true, true, true, false, true, true, true, true, false, false, false]) 23 ⟨rfl, by kernel_rfl, by kernel_rfl, by kernel_rfl, by kernel_rfl, by kernel_rfl⟩ rfl rfl rfl rfl (by (first | exact fun _ h => h | exact fun _ h => h.sub (.cons _ (.refl _)) | exact fun _ h => h.sub (.cons _ (.cons _ (.refl _))) | exact fun _ h => h.sub (.cons _ (.cons _ (.cons _ (.refl _)))) | exact fun _ h => h.drop | exact fun _ h => h.sub (List.sublist_append_left _ _) | exact fun _ h => by simpa only [List.append_eq, List.append_assoc, List.cons_append, List.nil_append, List.append_nil] using h)) (fun _ _ _ _ h => h) ?_) | (refine Goal.takePU (listed' := #[true, true, true, true, true, true, true, true, true, true, true, true, true, true, true, true, true, true, true, false, true, true, true, true, false, false, false]) 23 ⟨rfl, by kernel_rfl, by kernel_rfl, by kernel_rfl, by kernel_rfl⟩ rfl rfl rfl (fun _ _ _ _ h => h) ?_)); all_goals (first | (refine Goal.takePT (listed' := #[true, true, true, true, true, true, true, true, true, true, true, true, true, true, true, true, true, true, true, false, true, true, true, true, true, false, false]) 24 ⟨rfl, by kernel_rfl, by kernel_rfl, by kernel_rfl, by kernel_rfl⟩ rfl rfl rfl (fun _ _ _ _ h => h) (by intro _; exact Run.len T.slc_43 rfl) ?_) | (refine Goal.takePF (listed' := #[true, true, true, true, true, true, true, true, true, true, true, true, true, true, true, true, true, true, true, false, true, true, true, true, true, false, false]) 24 ⟨rfl, by kernel_rfl, by kernel_rfl, by kernel_rfl, by kernel_rfl⟩ rfl rfl rfl rfl (fun _ _ _ _ h => h) ?_) | (refine Goal.takePU (listed' := #[true, true, true, true, true, true, true, true, true, true, true, true, true, true, true, true, true, true, true, false, true, true, true, true, true, false, false]) 24 ⟨rfl, by kernel_rfl, by kernel_rfl, by kernel_rfl, by kernel_rfl⟩ rfl rfl rfl (fun _ _ _ _ h => h) ?_)); all_goals (refine Goal.ready1 (i := 19) (by kernel_rfl) ?_); all_goals ((first | (refine Goal.upT (i := 19) (listed' := #[true, true, true, true, true, true, true, true, true, true, true, true, true, true, true, true, true, true, true, true, true, true, true, true, true, false, false]) rfl (by kernel_rfl) rfl rfl ?_; (refine Loud.callM ([]) (G := _) (lenQ h2) rfl rfl rfl rfl T.bod_13 (fun _ h => by first | exact h | simpa only [List.append_eq, List.append_assoc, List.cons_append, List.nil_append, List.append_nil] using h) ?_; rintro ⟨⟩ -); first | refine Goal.tail rfl ?_ | refine Goal.kept (by (first | exact fun _ h => h | exact fun _ h => h.sub (.cons _ (.refl _)) | exact fun _ h => h.sub (.cons _ (.cons _ (.refl _))) | exact fun _ h => h.sub (.cons _ (.cons _ (.cons _ (.refl _)))) | exact fun _ h => h.drop | exact fun _ h => h.sub (List.sublist_append_left _ _) | exact fun _ h => by simpa only [List.append_eq, List.append_assoc, List.cons_append, List.nil_append, List.append_nil] using h)) ?_) | (refine Goal.upF (i := 19) (listed' := #[true, true, true, true, true, true, true, true, true, true, true, true, true, true, true, true, true, true, true, true, true, true, true, true, true, false, false]) rfl (by kernel_rfl) rfl rfl rfl rfl ?_; first | refine Goal.tail rfl ?_ | refine Goal.kept (by (first | exact fun _ h => h | exact fun _ h => h.sub (.cons _ (.refl _)) | exact fun _ h => h.sub (.cons _ (.cons _ (.refl _))) | exact fun _ h => h.sub (.cons _ (.cons _ (.cons _ (.refl _)))) | exact fun _ h => h.drop | exact fun _ h => h.sub (List.sublist_append_left _ _) | exact fun _ h => by simpa only [List.append_eq, List.append_assoc, List.cons_append, List.nil_append, List.append_nil] using h)) ?_))); all_goals (first | (refine Goal.takePT (listed' := #[true, true, true, true, true, true, true, true, true, true, true, true, true, true, true, true, true, true, true, true, true, true, true, true, true, true, false]) 25 ⟨rfl, by kernel_rfl, by kernel_rfl, by kernel_rfl, by kernel_rfl⟩ rfl rfl rfl (fun _ _ _ _ h => h) (by intro _; first | exact Run.neq rfl rfl) ?_) | (refine Goal.takePF (listed' := #[true, true, true, true, true, true, true, true, true, true, true, true, true, true, true, true, true, true, true, true, true, true, true, true, true, true, false]) 25 ⟨rfl, by kernel_rfl, by kernel_rfl, by kernel_rfl, by kernel_rfl⟩ rfl rfl rfl rfl (fun _ _ _ _ h => h) ?_) | (refine Goal.takePU (listed' := #[true, true, true, true, true, true, true, true, true, true, true, true, true, true, true, true, true, true, true, true, true, true, true, true, true, true, false]) 25 ⟨rfl, by kernel_rfl, by kernel_rfl, by kernel_rfl, by kernel_rfl⟩ rfl rfl rfl (fun _ _ _ _ h => h) ?_)); all_goals ((refine Goal.takeP (listed' := #[true, true, true, true, true, true, true, true, true, true, true, true, true, true, true, true, true, true, true, true, true, true, true, true, true, true, true]) 26 ⟨rfl, by kernel_rfl, by kernel_rfl, by kernel_rfl, by kernel_rfl⟩ rfl (fun _ _ _ _ h => h) (by intro _; first | exact Run.pickT rfl rfl | exact Run.pickF rfl rfl) ?_)); all_goals (refine Goal.allUp (by kernel_rfl) ?_))
          | (refine Goal.loud (o := ⟨some 126, _, _, _, _, _⟩) rfl ?_; refine Loud.callM ([]) (G := B) (peekQ hA) rfl rfl rfl rfl T.bod_19 (fun _ h => by first | exact h | simpa only [List.append_eq, List.append_assoc, List.cons_append, List.nil_append, List.append_nil] using h) ?_; rintro ⟨k1, d1, ok1, A2⟩ ⟨h2, h3⟩; dsimp only at h2 h3 ⊢)
          | (refine Goal.loud (o := ⟨some 131, _, _, _, _, _⟩) rfl ?_; refine Loud.callE (A2) (dpeekQ hB hf.1) rfl rfl rfl rfl T.bod_20 (fun _ h => h) ?_; rintro ⟨k2, d2, ok2, B2⟩ ⟨rfl, g3⟩; dsimp only at g3 ⊢; obtain ⟨rfl, rfl⟩ := pk_eq h3 g3; obtain ⟨vE, AE, rfl, hS⟩ := id hB; obtain ⟨aE, cE, rfl⟩ := hS.shape)
          | (refine Goal.loud (o := ⟨some 144, _, _, _, _, _⟩) rfl ?_; refine Loud.callM ([]) (G := _) (nowQ h2) rfl rfl rfl rfl T.bod_15 (fun _ h => by first | exact h | simpa only [List.append_eq, List.append_assoc, List.cons_append, List.nil_append, List.append_nil] using h) ?_; rintro ⟨⟩ -)
          | (refine Goal.loud (o := ⟨some 153, _, _, _, _, _⟩) rfl ?_; refine Loud.callM ([]) (G := _) (lenQ h2) rfl rfl rfl rfl T.bod_13 (fun _ h => by first | exact h | simpa only [List.append_eq, List.append_assoc, List.cons_append, List.nil_append, List.append_nil] using h) ?_; rintro ⟨⟩ -)
          | (refine Goal.loud (o := ⟨some 29, _, _, _, _, _⟩) rfl ?_; first | refine Loud.boxA rfl rfl (fun b29 => ?_) | refine Loud.box1 rfl rfl rfl (fun b29 => ?_))
          | (refine Goal.loud (o := ⟨some 6, _, _, _, _, _⟩) rfl ?_; refine Loud.allocA rfl T.inf_47 (fun b6 => ?_))
          | (apply G.move; exact rfl; exact rfl)
          | (apply G.assign; exact rfl; exact rfl)
          | refine Goal.seq (fun _ _ => ?_)
          | refine Goal.next (by assumption) ?_
          | refine Goal.lnil ?_
          | refine Goal.region ?_
          | refine Goal.skip ?_
          | refine Goal.block ?_
          | refine Goal.exit ?_
          | refine Goal.ret ?_
          | refine Goal.then_exit ?_
          | refine Goal.then_ret ?_
          | refine Goal.inBlock_exit ?_
          | refine Goal.inBlock_normal ?_
          | refine Goal.inBlock_ret ?_
          | refine Goal.inBlock_other rfl ?_
          | (apply Goal.condT; exact rfl)
          | (apply Goal.condF; exact rfl)
          | (refine Goal.condD rfl (fun hc => ?_) (fun hc => ?_) <;> first | (exfalso; omega) | contradiction | skip)
          | refine Goal.condB rfl (fun hc => ?_) (fun hc => ?_)
          | refine Goal.guardT rfl rfl ?_
          | refine Goal.guardF rfl rfl rfl rfl ?_
          | refine Goal.guardU rfl rfl rfl ?_
          | (refine Goal.guardD rfl rfl (fun hc => ?_) (fun hc => ?_) <;> first | (exfalso; omega) | contradiction | skip)
          | refine Goal.guardB rfl rfl (fun hc => ?_) (fun hc => ?_)
          | (apply G.fieldAddr; exact rfl; exact rfl; (first | exact T.fld_45_0 | exact T.fld_45_2 | exact T.fld_47_0 | exact T.fld_47_1 | exact T.fld_47_2))
          | (apply G.load; exact rfl; exact rfl; first | exact LoadOK.offM (b := b29) (c := #[.slice aE E.length cE, .int .i64 last, .int .i64 now]) (E := 45) (by first | exact T.one_3 | exact T.one_4 | exact T.one_5 | exact T.one_22 | exact T.one_24 | exact T.one_29 | exact T.one_34 | exact T.one_38 | exact T.one_39 | exact T.one_41 | exact T.one_42 | exact T.one_43 | exact T.one_52 | exact T.one_53 | exact T.one_54 | exact T.one_60 | exact T.one_65) (by simp) rfl | exact LoadOK.one (by first | exact T.one_3 | exact T.one_5 | exact T.one_43) 0 rfl rfl | exact LoadOK.one (by first | exact T.one_3 | exact T.one_5 | exact T.one_43) 1 rfl rfl | exact LoadOK.one (by first | exact T.one_3 | exact T.one_5 | exact T.one_43) 2 rfl rfl | exact LoadOK.one (by first | exact T.one_3 | exact T.one_5 | exact T.one_43) 3 rfl rfl | exact LoadOK.one (by first | exact T.one_3 | exact T.one_5 | exact T.one_43) 4 rfl rfl | exact LoadOK.one (by first | exact T.one_3 | exact T.one_5 | exact T.one_43) 5 rfl rfl | exact LoadOK.one (by first | exact T.one_3 | exact T.one_5 | exact T.one_43) 6 rfl rfl | exact LoadOK.one (by first | exact T.one_3 | exact T.one_5 | exact T.one_43) 7 rfl rfl | exact LoadOK.agg (vs := [_, _, _]) T.agg_47 0 rfl rfl ⟨rfl, rfl, rfl, trivial⟩ | exact LoadOK.agg (vs := [_, _, _]) T.agg_47 1 rfl rfl ⟨rfl, rfl, rfl, trivial⟩ | exact LoadOK.agg (vs := [_, _, _]) T.agg_47 2 rfl rfl ⟨rfl, rfl, rfl, trivial⟩ | exact LoadOK.agg (vs := [_, _, _]) T.agg_47 3 rfl rfl ⟨rfl, rfl, rfl, trivial⟩ | exact LoadOK.agg (vs := [_, _, _]) T.agg_47 4 rfl rfl ⟨rfl, rfl, rfl, trivial⟩ | exact LoadOK.agg (vs := [_, _, _]) T.agg_47 5 rfl rfl ⟨rfl, rfl, rfl, trivial⟩ | exact LoadOK.agg (vs := [_, _, _]) T.agg_47 6 rfl rfl ⟨rfl, rfl, rfl, trivial⟩ | exact LoadOK.agg (vs := [_, _, _]) T.agg_47 7 rfl rfl ⟨rfl, rfl, rfl, trivial⟩)
          | (apply G.pickT; exact rfl; exact rfl; exact rfl)
          | (apply G.pickF; exact rfl; exact rfl; exact rfl)
          | (apply G.lss; exact rfl; exact rfl; exact rfl)
          | (apply G.gtr; exact rfl; exact rfl; exact rfl)
          | (apply G.geq; exact rfl; exact rfl; exact rfl)
          | (apply G.eql; exact rfl; exact rfl; exact rfl)
          | (apply G.neq; exact rfl; exact rfl; exact rfl)
          | (apply G.add; exact rfl; exact rfl; exact rfl; first | exact IntWalk.i64_in _ (by omega) | exact IntWalk.u8_in _ (by omega) | exact IntWalk.u16_in _ (by omega) | exact IntWalk.u32_in _ (by omega) | exact IntWalk.u64_in _ (by omega))
          | (apply G.eqlB; exact rfl; exact T.boo_4; exact rfl; exact rfl)
          | (apply G.neqB; exact rfl; exact T.boo_4; exact rfl; exact rfl)
          | (apply G.rem; exact rfl; exact rfl; exact rfl; (first | decide | omega); exact IntWalk.rem_in _ _ (by omega))
          | (apply G.notT; exact rfl; exact rfl)
          | (apply G.notF; exact rfl; exact rfl)
          | (refine G.notD rfl rfl ?_)
          | (apply G.notB; exact rfl; exact rfl)
          | (apply G.extract; exact rfl; exact rfl; exact rfl)
          | (apply G.build (cs := [_, _, _]); exact rfl; exact T.lay_45; exact rfl; exact rfl)
          | (apply G.len; exact rfl; exact rfl; (first | exact T.slc_41 | exact T.slc_43))
          | (apply G.nilCheckP; exact rfl; exact rfl)
          | (refine G.indexAddr rfl T.slc_41 T.sz_47 rfl rfl _ rfl (by omega) ?_)
          | (refine G.indexAddr rfl T.slc_41 T.sz_47 rfl rfl _ (Int.toNat_of_nonneg (by omega)).symm (by omega) ?_)
          | (refine Goal.loud rfl ?_; refine Loud.store0 rfl rfl T.sz_47 rfl rfl rfl (by first | exact Nat.le_of_ble_eq_true rfl | exact Nat.le_refl _ | decide | (simp; omega)) rfl ?_)
          | (refine Goal.loud rfl ?_; refine Loud.store1 rfl rfl T.sz_47 rfl rfl rfl (by first | exact Nat.le_of_ble_eq_true rfl | exact Nat.le_refl _ | decide | (simp; omega)) rfl ?_)
          | (refine Goal.loud rfl ?_; refine Loud.store2 rfl rfl T.sz_47 rfl rfl rfl (by first | exact Nat.le_of_ble_eq_true rfl | exact Nat.le_refl _ | decide | (simp; omega)) rfl ?_)
          | (refine Goal.loud rfl ?_; refine Loud.store3 rfl rfl T.sz_47 rfl rfl rfl (by first | exact Nat.le_of_ble_eq_true rfl | exact Nat.le_refl _ | decide | (simp; omega)) rfl ?_)
          | (refine Goal.loud rfl ?_; refine Loud.store4 rfl rfl T.sz_47 rfl rfl rfl (by first | exact Nat.le_of_ble_eq_true rfl | exact Nat.le_refl _ | decide | (simp; omega)) rfl ?_)
          | (refine Goal.loud rfl ?_; refine Loud.store5 rfl rfl T.sz_47 rfl rfl rfl (by first | exact Nat.le_of_ble_eq_true rfl | exact Nat.le_refl _ | decide | (simp; omega)) rfl ?_)
          | (refine Goal.loud rfl ?_; refine Loud.store6 rfl rfl T.sz_47 rfl rfl rfl (by first | exact Nat.le_of_ble_eq_true rfl | exact Nat.le_refl _ | decide | (simp; omega)) rfl ?_)
          | (refine Goal.loud rfl ?_; refine Loud.store7 rfl rfl T.sz_47 rfl rfl rfl (by first | exact Nat.le_of_ble_eq_true rfl | exact Nat.le_refl _ | decide | (simp; omega)) rfl ?_))
        refine Goal.again ⟨t + 1, now, last, E, A2, _⟩ ⟨by dsimp only; omega, hlt, h2, hB, hn, he⟩ (by dsimp only; omega) ⟨rfl, rfl, rfl, rfl, rfl, trivial⟩ (fun _ h => by simpa only [List.append_eq, List.append_assoc, List.cons_append, List.nil_append, List.append_nil] using h)
    · skip
      repeat' (first
        | (refine Goal.loud (o := ⟨some 29, _, _, _, _, _⟩) rfl ?_; first | refine Loud.boxA rfl rfl (fun b29 => ?_) | refine Loud.box1 rfl rfl rfl (fun b29 => ?_))
        | (refine Goal.loud (o := ⟨some 6, _, _, _, _, _⟩) rfl ?_; refine Loud.allocA rfl T.inf_47 (fun b6 => ?_))
        | (apply G.move; exact rfl; exact rfl)
        | (apply G.assign; exact rfl; exact rfl)
        | refine Goal.seq (fun _ _ => ?_)
        | refine Goal.next (by assumption) ?_
        | refine Goal.lnil ?_
        | refine Goal.region ?_
        | refine Goal.skip ?_
        | refine Goal.block ?_
        | refine Goal.exit ?_
        | refine Goal.ret ?_
        | refine Goal.then_exit ?_
        | refine Goal.then_ret ?_
        | refine Goal.inBlock_exit ?_
        | refine Goal.inBlock_normal ?_
        | refine Goal.inBlock_ret ?_
        | refine Goal.inBlock_other rfl ?_
        | (apply Goal.condT; exact rfl)
        | (apply Goal.condF; exact rfl)
        | (refine Goal.condD rfl (fun hc => ?_) (fun hc => ?_) <;> first | (exfalso; omega) | contradiction | skip)
        | refine Goal.condB rfl (fun hc => ?_) (fun hc => ?_)
        | refine Goal.guardT rfl rfl ?_
        | refine Goal.guardF rfl rfl rfl rfl ?_
        | refine Goal.guardU rfl rfl rfl ?_
        | (refine Goal.guardD rfl rfl (fun hc => ?_) (fun hc => ?_) <;> first | (exfalso; omega) | contradiction | skip)
        | refine Goal.guardB rfl rfl (fun hc => ?_) (fun hc => ?_)
        | (apply G.fieldAddr; exact rfl; exact rfl; (first | exact T.fld_45_0 | exact T.fld_45_2 | exact T.fld_47_0 | exact T.fld_47_1 | exact T.fld_47_2))
        | (apply G.load; exact rfl; exact rfl; first | exact LoadOK.one (by first | exact T.one_3 | exact T.one_5 | exact T.one_43) 0 rfl rfl | exact LoadOK.one (by first | exact T.one_3 | exact T.one_5 | exact T.one_43) 1 rfl rfl | exact LoadOK.one (by first | exact T.one_3 | exact T.one_5 | exact T.one_43) 2 rfl rfl | exact LoadOK.one (by first | exact T.one_3 | exact T.one_5 | exact T.one_43) 3 rfl rfl | exact LoadOK.one (by first | exact T.one_3 | exact T.one_5 | exact T.one_43) 4 rfl rfl | exact LoadOK.one (by first | exact T.one_3 | exact T.one_5 | exact T.one_43) 5 rfl rfl | exact LoadOK.one (by first | exact T.one_3 | exact T.one_5 | exact T.one_43) 6 rfl rfl | exact LoadOK.one (by first | exact T.one_3 | exact T.one_5 | exact T.one_43) 7 rfl rfl | exact LoadOK.agg (vs := [_, _, _]) T.agg_47 0 rfl rfl ⟨rfl, rfl, rfl, trivial⟩ | exact LoadOK.agg (vs := [_, _, _]) T.agg_47 1 rfl rfl ⟨rfl, rfl, rfl, trivial⟩ | exact LoadOK.agg (vs := [_, _, _]) T.agg_47 2 rfl rfl ⟨rfl, rfl, rfl, trivial⟩ | exact LoadOK.agg (vs := [_, _, _]) T.agg_47 3 rfl rfl ⟨rfl, rfl, rfl, trivial⟩ | exact LoadOK.agg (vs := [_, _, _]) T.agg_47 4 rfl rfl ⟨rfl, rfl, rfl, trivial⟩ | exact LoadOK.agg (vs := [_, _, _]) T.agg_47 5 rfl rfl ⟨rfl, rfl, rfl, trivial⟩ | exact LoadOK.agg (vs := [_, _, _]) T.agg_47 6 rfl rfl ⟨rfl, rfl, rfl, trivial⟩ | exact LoadOK.agg (vs := [_, _, _]) T.agg_47 7 rfl rfl ⟨rfl, rfl, rfl, trivial⟩)
        | (apply G.pickT; exact rfl; exact rfl; exact rfl)
        | (apply G.pickF; exact rfl; exact rfl; exact rfl)
        | (apply G.lss; exact rfl; exact rfl; exact rfl)
        | (apply G.gtr; exact rfl; exact rfl; exact rfl)
        | (apply G.geq; exact rfl; exact rfl; exact rfl)
        | (apply G.eql; exact rfl; exact rfl; exact rfl)
        | (apply G.neq; exact rfl; exact rfl; exact rfl)
        | (apply G.add; exact rfl; exact rfl; exact rfl; first | exact IntWalk.i64_in _ (by omega) | exact IntWalk.u8_in _ (by omega) | exact IntWalk.u16_in _ (by omega) | exact IntWalk.u32_in _ (by omega) | exact IntWalk.u64_in _ (by omega))
        | (apply G.eqlB; exact rfl; exact T.boo_4; exact rfl; exact rfl)
        | (apply G.neqB; exact rfl; exact T.boo_4; exact rfl; exact rfl)
        | (apply G.rem; exact rfl; exact rfl; exact rfl; (first | decide | omega); exact IntWalk.rem_in _ _ (by omega))
        | (apply G.notT; exact rfl; exact rfl)
        | (apply G.notF; exact rfl; exact rfl)
        | (refine G.notD rfl rfl ?_)
        | (apply G.notB; exact rfl; exact rfl)
        | (apply G.extract; exact rfl; exact rfl; exact rfl)
        | (apply G.build (cs := [_, _, _]); exact rfl; exact T.lay_45; exact rfl; exact rfl)
        | (apply G.len; exact rfl; exact rfl; (first | exact T.slc_41 | exact T.slc_43))
        | (apply G.nilCheckP; exact rfl; exact rfl)
        | (refine G.indexAddr rfl T.slc_41 T.sz_47 rfl rfl _ rfl (by omega) ?_)
        | (refine G.indexAddr rfl T.slc_41 T.sz_47 rfl rfl _ (Int.toNat_of_nonneg (by omega)).symm (by omega) ?_)
        | (refine Goal.loud rfl ?_; refine Loud.store0 rfl rfl T.sz_47 rfl rfl rfl (by first | exact Nat.le_of_ble_eq_true rfl | exact Nat.le_refl _ | decide | (simp; omega)) rfl ?_)
        | (refine Goal.loud rfl ?_; refine Loud.store1 rfl rfl T.sz_47 rfl rfl rfl (by first | exact Nat.le_of_ble_eq_true rfl | exact Nat.le_refl _ | decide | (simp; omega)) rfl ?_)
        | (refine Goal.loud rfl ?_; refine Loud.store2 rfl rfl T.sz_47 rfl rfl rfl (by first | exact Nat.le_of_ble_eq_true rfl | exact Nat.le_refl _ | decide | (simp; omega)) rfl ?_)
        | (refine Goal.loud rfl ?_; refine Loud.store3 rfl rfl T.sz_47 rfl rfl rfl (by first | exact Nat.le_of_ble_eq_true rfl | exact Nat.le_refl _ | decide | (simp; omega)) rfl ?_)
        | (refine Goal.loud rfl ?_; refine Loud.store4 rfl rfl T.sz_47 rfl rfl rfl (by first | exact Nat.le_of_ble_eq_true rfl | exact Nat.le_refl _ | decide | (simp; omega)) rfl ?_)
        | (refine Goal.loud rfl ?_; refine Loud.store5 rfl rfl T.sz_47 rfl rfl rfl (by first | exact Nat.le_of_ble_eq_true rfl | exact Nat.le_refl _ | decide | (simp; omega)) rfl ?_)
        | (refine Goal.loud rfl ?_; refine Loud.store6 rfl rfl T.sz_47 rfl rfl rfl (by first | exact Nat.le_of_ble_eq_true rfl | exact Nat.le_refl _ | decide | (simp; omega)) rfl ?_)
        | (refine Goal.loud rfl ?_; refine Loud.store7 rfl rfl T.sz_47 rfl rfl rfl (by first | exact Nat.le_of_ble_eq_true rfl | exact Nat.le_refl _ | decide | (simp; omega)) rfl ?_))
      refine Goal.done (vs := [_]) (by first | exact .inl rfl | exact .inr rfl) Try.results7 ⟨rfl, trivial⟩ rfl (fun w' H => ⟨rfl, H.mod⟩)
end Go.Proofs.Ytcekjnfdgbeekaa
