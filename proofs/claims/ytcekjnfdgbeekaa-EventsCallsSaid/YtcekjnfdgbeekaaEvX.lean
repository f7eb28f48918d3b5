/- EventsCancelled's contract. -/
import Derived.Test.YtcekjnfdgbeekaaEvC2
namespace Go.Proofs.Ytcekjnfdgbeekaa
open Go.Wf
set_option linter.unusedVariables false
/-- Without the identifiers. -/
def td (E : List Evt) : List (Int × Int) := E.map fun e => (e.time, e.data)
theorem td_split {E : List Evt} : ∀ {F1 : List (Int × Int)} {x : Int × Int} {F2 : List (Int × Int)}, td E = F1 ++ x :: F2 → ∃ E1 e E2, E = E1 ++ e :: E2 ∧ td E1 = F1 ∧ (e.time, e.data) = x ∧ td E2 = F2 := by
  intro F1 x F2 h
  unfold td at h
  obtain ⟨E1, R, rfl, h1, h2⟩ := List.map_eq_append_iff.1 h
  obtain ⟨e, E2, rfl, h3, h4⟩ := List.map_eq_cons_iff.1 h2
  exact ⟨E1, e, E2, rfl, h1, h3, h4⟩
theorem td_first {E F E1 E2 : List Evt} {e : Evt} (h : td E = td F) (hF : IsFirst E E1 e E2) : ∃ F1 f F2, IsFirst F F1 f F2 ∧ f.time = e.time ∧ f.data = e.data ∧ td (E1 ++ E2) = td (F1 ++ F2) := by
  have he := hF.eq
  subst he
  have h2 : td F = td E1 ++ (e.time, e.data) :: td E2 := by rw [← h]; simp [td]
  obtain ⟨F1, f, F2, rfl, h3, h4, h5⟩ := td_split h2
  injection h4 with h6 h7
  refine ⟨F1, f, F2, ⟨rfl, fun a ha => ?_, fun a ha => ?_⟩, h6, h7, ?_⟩
  · have : (a.time, a.data) ∈ td E1 := by rw [← h3]; exact List.mem_map.2 ⟨a, ha, rfl⟩
    obtain ⟨b, hb, hb2⟩ := List.mem_map.1 this
    injection hb2 with hb2 hb3
    have := hF.lt b hb
    omega
  · have : (a.time, a.data) ∈ td E2 := by rw [← h5]; exact List.mem_map.2 ⟨a, ha, rfl⟩
    obtain ⟨b, hb, hb2⟩ := List.mem_map.1 this
    injection hb2 with hb2 hb3
    have := hF.le b hb
    omega
  · unfold td at h3 h5 ⊢
    rw [List.map_append, List.map_append, h3, h5]
theorem td_nil {E F : List Evt} (h : td E = td F) : E = [] ↔ F = [] := by
  have : E.length = F.length := by have := congrArg List.length h; simpa [td] using this
  rw [← List.length_eq_zero_iff, ← List.length_eq_zero_iff, this]
def keep (o : List Bool) (k : Int) (E : List Evt) : List Evt := E.filter fun e => !(ba o e.data && decide (e.data < k))
theorem keep_step {o : List Bool} {n : Nat} {t : Int → Int} {i : Int} (hi : 0 ≤ i ∧ i < n) (h : ba o i = true) :
    hasId (keep o i (evr n t)) (i + 1) = true ∧ without (keep o i (evr n t)) (i + 1) = keep o (i + 1) (evr n t) ∧ hasId (keep o (i + 1) (evr n t)) (i + 1) = false ∧ without (keep o (i + 1) (evr n t)) (i + 1) = keep o (i + 1) (evr n t) := by
  have hid : ∀ e ∈ evr n t, e.id = i + 1 ↔ e.data = i := fun e he => by obtain ⟨_, a, _⟩ := mem_evr he; omega
  have hnot : ∀ e ∈ keep o (i + 1) (evr n t), e.id ≠ i + 1 := fun e he h2 => by
    obtain ⟨h3, h4⟩ := List.mem_filter.1 he
    have h5 := (hid e h3).1 h2
    rw [h5, h] at h4
    simp at h4
    omega
  refine ⟨?_, ?_, ?_, ?_⟩
  · unfold hasId
    rw [List.any_eq_true]
    refine ⟨⟨i + 1, t i, i⟩, List.mem_filter.2 ⟨?_, by simp⟩, by simp⟩
    unfold evr
    refine List.mem_map.2 ⟨i.toNat, by rw [List.mem_range]; omega, ?_⟩
    rw [show ((i.toNat : Nat) : Int) = i by omega]
  · unfold without keep
    rw [List.filter_filter]
    refine List.filter_congr fun e he => ?_
    have h1 := hid e he
    by_cases e1 : e.data = i
    · have e2 := h1.2 e1
      rw [e1, h]
      simp [e2]
      omega
    · have e2 : e.id ≠ i + 1 := fun x => e1 (h1.1 x)
      have e3 : decide (e.data < i + 1) = decide (e.data < i) := by
        rw [Bool.eq_iff_iff]; simp; omega
      rw [e3]
      simp [e2]
  · unfold hasId
    rw [List.any_eq_false]
    intro e he
    simpa using hnot e he
  · unfold without
    rw [List.filter_eq_self]
    intro e he
    simpa using hnot e he
theorem keep_skip {o : List Bool} {n : Nat} {t : Int → Int} {i : Int} (h : ba o i = false) : keep o (i + 1) (evr n t) = keep o i (evr n t) := by
  unfold keep
  refine List.filter_congr fun e he => ?_
  by_cases e1 : e.data = i
  · rw [e1, h]; simp
  · have e3 : decide (e.data < i + 1) = decide (e.data < i) := by
      rw [Bool.eq_iff_iff]; simp; omega
    rw [e3]
theorem keep_zero {o : List Bool} {n : Nat} {t : Int → Int} : keep o 0 (evr n t) = evr n t := by
  unfold keep
  rw [List.filter_eq_self]
  intro e he
  obtain ⟨a, _⟩ := mem_evr he
  have : decide (e.data < 0) = false := by simp; omega
  rw [this]; simp
def keepA (o : List Bool) (E : List Evt) : List Evt := E.filter fun e => !ba o e.data
theorem keep_all {o : List Bool} {n : Nat} {t : Int → Int} {k : Int} (hk : (n : Int) ≤ k) : keep o k (evr n t) = keepA o (evr n t) := by
  unfold keep keepA
  refine List.filter_congr fun e he => ?_
  obtain ⟨a, _⟩ := mem_evr he
  have : decide (e.data < k) = true := by simp; omega
  rw [this]; simp
theorem keepA_succ {o : List Bool} {n : Nat} {t : Int → Int} : keepA o (evr (n + 1) t) = keepA o (evr n t) ++ if ba o n = true then [] else [⟨(n : Int) + 1, t n, n⟩] := by
  unfold keepA
  rw [evr_succ, List.filter_append]
  congr 1
  by_cases h : ba o n = true
  · rw [if_pos h, List.filter_cons_of_neg (by simp [h]), List.filter_nil]
  · rw [if_neg h, List.filter_cons_of_pos (by simpa using h), List.filter_nil]
theorem keepA_len {o : List Bool} {n : Nat} {t : Int → Int} : (keepA o (evr n t)).length ≤ n := by
  unfold keepA
  refine Nat.le_trans (List.length_filter_le _ _) ?_
  rw [evr_len]
  exact Nat.le_refl _
theorem td_app (E F : List Evt) : td (E ++ F) = td E ++ td F := by simp [td]
theorem td_len {E F : List Evt} (h : td E = td F) : E.length = F.length := by have := congrArg List.length h; simpa [td] using this
structure XA where
  (i : Int) (o : List Bool)
structure XB where
  (i lr : Int) (F : List Evt) (A B : List Blk)
structure XC where
  (i : Int) (A : List Blk)
structure XD where
  (k nq nr : Int) (E F : List Evt) (A B : List Blk)
section
variable {bq : Nat} {A : List Blk} {E : List Evt} {now last k d : Int} {ok : Bool}
/-- What Next says of a queue with the same events. -/
theorem nx_same {E F : List Evt} (h : td E = td F) {b2 : Nat} {B : List Blk} {now2 last2 k2 d2 : Int} {ok2 : Bool}
    (h1 : (ok = false ∧ k = 0 ∧ d = 0 ∧ E = [] ∧ QM bq E now last A) ∨ (ok = true ∧ ∃ E1 e E2, IsFirst E E1 e E2 ∧ k = e.time ∧ d = e.data ∧ QM bq (E1 ++ E2) e.time last A))
    (h2 : (ok2 = false ∧ k2 = 0 ∧ d2 = 0 ∧ F = [] ∧ QM b2 F now2 last2 B) ∨ (ok2 = true ∧ ∃ E1 e E2, IsFirst F E1 e E2 ∧ k2 = e.time ∧ d2 = e.data ∧ QM b2 (E1 ++ E2) e.time last2 B)) :
    k = k2 ∧ d = d2 ∧ ok = ok2 ∧ ∃ E' F' n1 n2, td E' = td F' ∧ QM bq E' n1 last A ∧ QM b2 F' n2 last2 B ∧ (E'.length + 1 = E.length ∨ E'.length = 0) := by
  rcases h1 with ⟨rfl, rfl, rfl, rfl, h1⟩ | ⟨rfl, E1, e, E2, hF, rfl, rfl, h1⟩
  · obtain ⟨rfl, rfl, rfl, h3⟩ := nx_none ((td_nil h).1 rfl) h2
    exact ⟨rfl, rfl, rfl, [], F, _, _, h, h1, h3, .inr rfl⟩
  · obtain ⟨F1, f, F2, hF2, e1, e2, e3⟩ := td_first h hF
    obtain ⟨rfl, rfl, rfl, h3⟩ := nx_some hF2 h2
    exact ⟨e1.symm, e2.symm, rfl, _, _, _, _, e3, h1, h3, .inl hF.mem.2⟩
end
set_option maxHeartbeats 8000000 in
theorem law_cancelled (l g : List Int) (v u : Value) (w : World) (hr : RdV w v (l.map (.int .u8))) (hq : ∀ n ∈ l, 0 ≤ n ∧ n < 256) (hr2 : RdV w u (g.map (.int .u8))) (hq2 : ∀ n ∈ g, 0 ≤ n ∧ n < 256) :
    Calls Try.prog 4 #[v, u] w fun e w' => e = .returned (.bool true) ∧ Mod [] w w' := by
  obtain ⟨ad, cap, rfl, hr'⟩ := id hr
  obtain ⟨ag, cg, rfl, hr''⟩ := id hr2
  rw [List.length_map] at hr hr2 ⊢
  rw [List.length_map]
  by_cases hbig : (100 < l.length ∨ l.length = 0) ∨ 100 < g.length
  · refine Goal.enter (args := [.slice ad l.length cap, .slice ag g.length cg]) Try.func4 rfl Try.ntmps4 rfl (St.nil w) ?_
    repeat' (first
      | (refine Goal.loud (o := ⟨some 22, _, _, _, _, _⟩) rfl ?_; apply Loud.call0; exact rfl; exact rfl; exact rfl; exact rfl; exact T.bod_9; exact (fun w H => awake_any w))
      | (refine Goal.loud (o := ⟨some 41, _, _, _, _, _⟩) rfl ?_; first | refine Loud.makeSlice rfl T.slc_34 T.inf_4 rfl rfl (by decide) rfl rfl rfl rfl (by omega) (by omega) (by omega) (fun b41 => ?_) | refine Loud.makeSlice rfl T.slc_34 T.inf_4 rfl rfl (by decide) rfl rfl (Int.toNat_of_nonneg (by omega)).symm (Int.toNat_of_nonneg (by omega)).symm (by omega) (by omega) (by omega) (fun b41 => ?_))
      | (apply G.move; exact rfl; exact rfl)
      | (apply G.assign; exact rfl; exact rfl)
      | refine Goal.seq (fun _ _ => ?_)
      | refine Goal.next (by assumption) ?_
      | refine Goal.lnil ?_
      | refine Goal.region ?_
      | refine Goal.skip ?_
      | refine Goal.block ?_
      | refine Goal.exit ?_
      | refine Goal.ret ?_
      | refine Goal.then_exit ?_
      | refine Goal.then_ret ?_
      | refine Goal.inBlock_exit ?_
      | refine Goal.inBlock_normal ?_
      | refine Goal.inBlock_ret ?_
      | refine Goal.inBlock_other rfl ?_
      | (apply Goal.condT; exact rfl)
      | (apply Goal.condF; exact rfl)
      | (refine Goal.condD rfl (fun hc => ?_) (fun hc => ?_) <;> first | (exfalso; omega) | contradiction | skip)
      | refine Goal.condB rfl (fun hc => ?_) (fun hc => ?_)
      | refine Goal.guardT rfl rfl ?_
      | refine Goal.guardF rfl rfl rfl rfl ?_
      | refine Goal.guardU rfl rfl rfl ?_
      | (refine Goal.guardD rfl rfl (fun hc => ?_) (fun hc => ?_) <;> first | (exfalso; omega) | contradiction | skip)
      | refine Goal.guardB rfl rfl (fun hc => ?_) (fun hc => ?_)
      | (apply G.load; exact rfl; exact rfl; first | exact LoadOK.one (by first | exact T.one_4 | exact T.one_5) 0 rfl rfl | exact LoadOK.one (by first | exact T.one_4 | exact T.one_5) 1 rfl rfl | exact LoadOK.one (by first | exact T.one_4 | exact T.one_5) 2 rfl rfl | exact LoadOK.one (by first | exact T.one_4 | exact T.one_5) 3 rfl rfl | exact LoadOK.one (by first | exact T.one_4 | exact T.one_5) 4 rfl rfl | exact LoadOK.one (by first | exact T.one_4 | exact T.one_5) 5 rfl rfl | exact LoadOK.one (by first | exact T.one_4 | exact T.one_5) 6 rfl rfl | exact LoadOK.one (by first | exact T.one_4 | exact T.one_5) 7 rfl rfl)
      | (apply G.pickT; exact rfl; exact rfl; exact rfl)
      | (apply G.pickF; exact rfl; exact rfl; exact rfl)
      | (apply G.lss; exact rfl; exact rfl; exact rfl)
      | (apply G.gtr; exact rfl; exact rfl; exact rfl)
      | (apply G.eql; exact rfl; exact rfl; exact rfl)
      | (apply G.neq; exact rfl; exact rfl; exact rfl)
      | (apply G.add; exact rfl; exact rfl; exact rfl; first | exact IntWalk.i64_in _ (by omega) | exact IntWalk.u8_in _ (by omega) | exact IntWalk.u16_in _ (by omega) | exact IntWalk.u32_in _ (by omega) | exact IntWalk.u64_in _ (by omega))
      | (apply G.eqlB; exact rfl; exact T.boo_4; exact rfl; exact rfl)
      | (apply G.neqB; exact rfl; exact T.boo_4; exact rfl; exact rfl)
      | (apply G.rem; exact rfl; exact rfl; exact rfl; (first | decide | omega); exact IntWalk.rem_in _ _ (by omega))
      | (apply G.conv; exact rfl; exact rfl; (first | exact T.int_3 | exact T.int_5); (first | exact T.int_3 | exact T.int_5); first | exact IntWalk.i64_in _ (by omega) | exact IntWalk.u8_in _ (by omega) | exact IntWalk.u16_in _ (by omega) | exact IntWalk.u32_in _ (by omega) | exact IntWalk.u64_in _ (by omega))
      | (apply G.notT; exact rfl; exact rfl)
      | (apply G.notF; exact rfl; exact rfl)
      | (refine G.notD rfl rfl ?_)
      | (apply G.notB; exact rfl; exact rfl)
      | (apply G.extract; exact rfl; exact rfl; exact rfl)
      | (apply G.len; exact rfl; exact rfl; (first | exact T.slc_22 | exact T.slc_34))
      | (refine G.indexAddr1 rfl (by first | exact T.slc_22 | exact T.slc_34) (by first | exact T.sz_4 | exact T.sz_5) rfl rfl _ rfl (by omega) ?_)
      | (refine G.indexAddr1 rfl (by first | exact T.slc_22 | exact T.slc_34) (by first | exact T.sz_4 | exact T.sz_5) rfl rfl _ (Int.toNat_of_nonneg (by omega)).symm (by omega) ?_)
      | (refine Goal.loud rfl ?_; refine Loud.store0 rfl rfl T.sz_4 rfl rfl rfl (by first | exact Nat.le_of_ble_eq_true rfl | exact Nat.le_refl _ | decide | (simp; omega)) rfl ?_)
      | (refine Goal.loud rfl ?_; refine Loud.store1 rfl rfl T.sz_4 rfl rfl rfl (by first | exact Nat.le_of_ble_eq_true rfl | exact Nat.le_refl _ | decide | (simp; omega)) rfl ?_)
      | (refine Goal.loud rfl ?_; refine Loud.store2 rfl rfl T.sz_4 rfl rfl rfl (by first | exact Nat.le_of_ble_eq_true rfl | exact Nat.le_refl _ | decide | (simp; omega)) rfl ?_)
      | (refine Goal.loud rfl ?_; refine Loud.store3 rfl rfl T.sz_4 rfl rfl rfl (by first | exact Nat.le_of_ble_eq_true rfl | exact Nat.le_refl _ | decide | (simp; omega)) rfl ?_)
      | (refine Goal.loud rfl ?_; refine Loud.store4 rfl rfl T.sz_4 rfl rfl rfl (by first | exact Nat.le_of_ble_eq_true rfl | exact Nat.le_refl _ | decide | (simp; omega)) rfl ?_)
      | (refine Goal.loud rfl ?_; refine Loud.store5 rfl rfl T.sz_4 rfl rfl rfl (by first | exact Nat.le_of_ble_eq_true rfl | exact Nat.le_refl _ | decide | (simp; omega)) rfl ?_)
      | (refine Goal.loud rfl ?_; refine Loud.store6 rfl rfl T.sz_4 rfl rfl rfl (by first | exact Nat.le_of_ble_eq_true rfl | exact Nat.le_refl _ | decide | (simp; omega)) rfl ?_)
      | (refine Goal.loud rfl ?_; refine Loud.store7 rfl rfl T.sz_4 rfl rfl rfl (by first | exact Nat.le_of_ble_eq_true rfl | exact Nat.le_refl _ | decide | (simp; omega)) rfl ?_))
    all_goals
      refine Goal.done (vs := [_]) (by first | exact .inl rfl | exact .inr rfl) Try.results4 ⟨rfl, trivial⟩ rfl (fun w' H => ⟨rfl, H.mod⟩)
  · obtain ⟨b, o, rfl, hk⟩ := rd_nums hr (by omega)
    refine Goal.enter (args := [.slice (some ⟨b, o, none⟩) l.length cap, .slice ag g.length cg]) Try.func4 rfl Try.ntmps4 rfl (St.nil w) ?_
    repeat' (first
      | (refine Goal.loud (o := ⟨some 22, _, _, _, _, _⟩) rfl ?_; apply Loud.call0; exact rfl; exact rfl; exact rfl; exact rfl; exact T.bod_9; exact (fun w H => awake_any w))
      | (refine Goal.loud (o := ⟨some 37, _, _, _, _, _⟩) rfl ?_; apply Loud.callN; exact rfl; exact rfl; exact rfl; exact rfl; exact T.bod_10; exact (fun w H => newQ w); rintro ⟨bq, A1⟩ h1; dsimp only at h1 ⊢)
      | (refine Goal.loud (o := ⟨some 38, _, _, _, _, _⟩) rfl ?_; apply Loud.callN; exact rfl; exact rfl; exact rfl; exact rfl; exact T.bod_10; exact (fun w H => newQ w); rintro ⟨br, B1⟩ g1; dsimp only at g1 ⊢)
      | (refine Goal.loud (o := ⟨some 41, _, _, _, _, _⟩) rfl ?_; first | refine Loud.makeSlice rfl T.slc_34 T.inf_4 rfl rfl (by decide) rfl rfl rfl rfl (by omega) (by omega) (by omega) (fun b41 => ?_) | refine Loud.makeSlice rfl T.slc_34 T.inf_4 rfl rfl (by decide) rfl rfl (Int.toNat_of_nonneg (by omega)).symm (Int.toNat_of_nonneg (by omega)).symm (by omega) (by omega) (by omega) (fun b41 => ?_))
      | (apply G.move; exact rfl; exact rfl)
      | (apply G.assign; exact rfl; exact rfl)
      | refine Goal.seq (fun _ _ => ?_)
      | refine Goal.next (by assumption) ?_
      | refine Goal.lnil ?_
      | refine Goal.region ?_
      | refine Goal.skip ?_
      | refine Goal.block ?_
      | refine Goal.exit ?_
      | refine Goal.ret ?_
      | refine Goal.then_exit ?_
      | refine Goal.then_ret ?_
      | refine Goal.inBlock_exit ?_
      | refine Goal.inBlock_normal ?_
      | refine Goal.inBlock_ret ?_
      | refine Goal.inBlock_other rfl ?_
      | (apply Goal.condT; exact rfl)
      | (apply Goal.condF; exact rfl)
      | (refine Goal.condD rfl (fun hc => ?_) (fun hc => ?_) <;> first | (exfalso; omega) | contradiction | skip)
      | refine Goal.condB rfl (fun hc => ?_) (fun hc => ?_)
      | refine Goal.guardT rfl rfl ?_
      | refine Goal.guardF rfl rfl rfl rfl ?_
      | refine Goal.guardU rfl rfl rfl ?_
      | (refine Goal.guardD rfl rfl (fun hc => ?_) (fun hc => ?_) <;> first | (exfalso; omega) | contradiction | skip)
      | refine Goal.guardB rfl rfl (fun hc => ?_) (fun hc => ?_)
      | (apply G.load; exact rfl; exact rfl; first | exact LoadOK.one (by first | exact T.one_4 | exact T.one_5) 0 rfl rfl | exact LoadOK.one (by first | exact T.one_4 | exact T.one_5) 1 rfl rfl | exact LoadOK.one (by first | exact T.one_4 | exact T.one_5) 2 rfl rfl | exact LoadOK.one (by first | exact T.one_4 | exact T.one_5) 3 rfl rfl | exact LoadOK.one (by first | exact T.one_4 | exact T.one_5) 4 rfl rfl | exact LoadOK.one (by first | exact T.one_4 | exact T.one_5) 5 rfl rfl | exact LoadOK.one (by first | exact T.one_4 | exact T.one_5) 6 rfl rfl | exact LoadOK.one (by first | exact T.one_4 | exact T.one_5) 7 rfl rfl)
      | (apply G.pickT; exact rfl; exact rfl; exact rfl)
      | (apply G.pickF; exact rfl; exact rfl; exact rfl)
      | (apply G.lss; exact rfl; exact rfl; exact rfl)
      | (apply G.gtr; exact rfl; exact rfl; exact rfl)
      | (apply G.eql; exact rfl; exact rfl; exact rfl)
      | (apply G.neq; exact rfl; exact rfl; exact rfl)
      | (apply G.add; exact rfl; exact rfl; exact rfl; first | exact IntWalk.i64_in _ (by omega) | exact IntWalk.u8_in _ (by omega) | exact IntWalk.u16_in _ (by omega) | exact IntWalk.u32_in _ (by omega) | exact IntWalk.u64_in _ (by omega))
      | (apply G.eqlB; exact rfl; exact T.boo_4; exact rfl; exact rfl)
      | (apply G.neqB; exact rfl; exact T.boo_4; exact rfl; exact rfl)
      | (apply G.rem; exact rfl; exact rfl; exact rfl; (first | decide | omega); exact IntWalk.rem_in _ _ (by omega))
      | (apply G.conv; exact rfl; exact rfl; (first | exact T.int_3 | exact T.int_5); (first | exact T.int_3 | exact T.int_5); first | exact IntWalk.i64_in _ (by omega) | exact IntWalk.u8_in _ (by omega) | exact IntWalk.u16_in _ (by omega) | exact IntWalk.u32_in _ (by omega) | exact IntWalk.u64_in _ (by omega))
      | (apply G.notT; exact rfl; exact rfl)
      | (apply G.notF; exact rfl; exact rfl)
      | (refine G.notD rfl rfl ?_)
      | (apply G.notB; exact rfl; exact rfl)
      | (apply G.extract; exact rfl; exact rfl; exact rfl)
      | (apply G.len; exact rfl; exact rfl; (first | exact T.slc_22 | exact T.slc_34))
      | (refine G.indexAddr1 rfl (by first | exact T.slc_22 | exact T.slc_34) (by first | exact T.sz_4 | exact T.sz_5) rfl rfl _ rfl (by omega) ?_)
      | (refine G.indexAddr1 rfl (by first | exact T.slc_22 | exact T.slc_34) (by first | exact T.sz_4 | exact T.sz_5) rfl rfl _ (Int.toNat_of_nonneg (by omega)).symm (by omega) ?_)
      | (refine Goal.loud rfl ?_; refine Loud.store0 rfl rfl T.sz_4 rfl rfl rfl (by first | exact Nat.le_of_ble_eq_true rfl | exact Nat.le_refl _ | decide | (simp; omega)) rfl ?_)
      | (refine Goal.loud rfl ?_; refine Loud.store1 rfl rfl T.sz_4 rfl rfl rfl (by first | exact Nat.le_of_ble_eq_true rfl | exact Nat.le_refl _ | decide | (simp; omega)) rfl ?_)
      | (refine Goal.loud rfl ?_; refine Loud.store2 rfl rfl T.sz_4 rfl rfl rfl (by first | exact Nat.le_of_ble_eq_true rfl | exact Nat.le_refl _ | decide | (simp; omega)) rfl ?_)
      | (refine Goal.loud rfl ?_; refine Loud.store3 rfl rfl T.sz_4 rfl rfl rfl (by first | exact Nat.le_of_ble_eq_true rfl | exact Nat.le_refl _ | decide | (simp; omega)) rfl ?_)
      | (refine Goal.loud rfl ?_; refine Loud.store4 rfl rfl T.sz_4 rfl rfl rfl (by first | exact Nat.le_of_ble_eq_true rfl | exact Nat.le_refl _ | decide | (simp; omega)) rfl ?_)
      | (refine Goal.loud rfl ?_; refine Loud.store5 rfl rfl T.sz_4 rfl rfl rfl (by first | exact Nat.le_of_ble_eq_true rfl | exact Nat.le_refl _ | decide | (simp; omega)) rfl ?_)
      | (refine Goal.loud rfl ?_; refine Loud.store6 rfl rfl T.sz_4 rfl rfl rfl (by first | exact Nat.le_of_ble_eq_true rfl | exact Nat.le_refl _ | decide | (simp; omega)) rfl ?_)
      | (refine Goal.loud rfl ?_; refine Loud.store7 rfl rfl T.sz_4 rfl rfl rfl (by first | exact Nat.le_of_ble_eq_true rfl | exact Nat.le_refl _ | decide | (simp; omega)) rfl ?_))
    refine Goal.loopP (X := XA) (fun x => [(0, .slice (some ⟨b, o, none⟩) l.length cap), (5, .pointer (some ⟨bq, 0, none⟩)), (6, .pointer (some ⟨br, 0, none⟩)), (7, .slice (some ⟨b41, 0, none⟩) l.length l.length), (42, .slice ag g.length cg), (43, .int .i64 g.length), (44, .int .i64 x.i)]) (fun x => (b41, .cells (bools x.o).toArray 4) :: (A1 ++ B1))
      (fun x => (0 ≤ x.i ∧ x.i ≤ g.length) ∧ x.o.length = l.length) (fun x => (g.length - x.i).toNat) ⟨0, List.replicate l.length false⟩ ⟨rfl, rfl, rfl, rfl, rfl, rfl, rfl, trivial⟩ (fun _ h => by rw [← rep_bools]; exact h) ⟨by dsimp only; omega, by simp⟩ ?_
    rintro ⟨i, out⟩ ⟨hi, hol⟩
    dsimp only at hi hol ⊢
    by_cases h : i < g.length
    · obtain ⟨bg, og, rfl, hkg⟩ := rd_nums hr2 (by omega)
      have hm := hq2 _ (mem_ia (i := i) (by omega))
      have hmod : 0 ≤ ia g i % l.length ∧ ia g i % l.length < l.length := ⟨Int.emod_nonneg _ (by omega), Int.emod_lt_of_pos _ (by omega)⟩
      repeat' (first
        | (refine Goal.loud (o := ⟨some 41, _, _, _, _, _⟩) rfl ?_; first | refine Loud.makeSlice rfl T.slc_34 T.inf_4 rfl rfl (by decide) rfl rfl rfl rfl (by omega) (by omega) (by omega) (fun b41 => ?_) | refine Loud.makeSlice rfl T.slc_34 T.inf_4 rfl rfl (by decide) rfl rfl (Int.toNat_of_nonneg (by omega)).symm (Int.toNat_of_nonneg (by omega)).symm (by omega) (by omega) (by omega) (fun b41 => ?_))
        | (apply G.move; exact rfl; exact rfl)
        | (apply G.assign; exact rfl; exact rfl)
        | refine Goal.seq (fun _ _ => ?_)
        | refine Goal.next (by assumption) ?_
        | refine Goal.lnil ?_
        | refine Goal.region ?_
        | refine Goal.skip ?_
        | refine Goal.block ?_
        | refine Goal.exit ?_
        | refine Goal.ret ?_
        | refine Goal.then_exit ?_
        | refine Goal.then_ret ?_
        | refine Goal.inBlock_exit ?_
        | refine Goal.inBlock_normal ?_
        | refine Goal.inBlock_ret ?_
        | refine Goal.inBlock_other rfl ?_
        | (apply Goal.condT; exact rfl)
        | (apply Goal.condF; exact rfl)
        | (refine Goal.condD rfl (fun hc => ?_) (fun hc => ?_) <;> first | (exfalso; omega) | contradiction | skip)
        | refine Goal.condB rfl (fun hc => ?_) (fun hc => ?_)
        | refine Goal.guardT rfl rfl ?_
        | refine Goal.guardF rfl rfl rfl rfl ?_
        | refine Goal.guardU rfl rfl rfl ?_
        | (refine Goal.guardD rfl rfl (fun hc => ?_) (fun hc => ?_) <;> first | (exfalso; omega) | contradiction | skip)
        | refine Goal.guardB rfl rfl (fun hc => ?_) (fun hc => ?_)
        | (apply G.load; exact rfl; exact rfl; first | exact LoadOK.old T.one_5 (hkg _ (by omega) (by omega)) (by simp) | exact LoadOK.one (by first | exact T.one_4 | exact T.one_5) 0 rfl rfl | exact LoadOK.one (by first | exact T.one_4 | exact T.one_5) 1 rfl rfl | exact LoadOK.one (by first | exact T.one_4 | exact T.one_5) 2 rfl rfl | exact LoadOK.one (by first | exact T.one_4 | exact T.one_5) 3 rfl rfl | exact LoadOK.one (by first | exact T.one_4 | exact T.one_5) 4 rfl rfl | exact LoadOK.one (by first | exact T.one_4 | exact T.one_5) 5 rfl rfl | exact LoadOK.one (by first | exact T.one_4 | exact T.one_5) 6 rfl rfl | exact LoadOK.one (by first | exact T.one_4 | exact T.one_5) 7 rfl rfl)
        | (apply G.pickT; exact rfl; exact rfl; exact rfl)
        | (apply G.pickF; exact rfl; exact rfl; exact rfl)
        | (apply G.lss; exact rfl; exact rfl; exact rfl)
        | (apply G.gtr; exact rfl; exact rfl; exact rfl)
        | (apply G.eql; exact rfl; exact rfl; exact rfl)
        | (apply G.neq; exact rfl; exact rfl; exact rfl)
        | (apply G.add; exact rfl; exact rfl; exact rfl; first | exact IntWalk.i64_in _ (by omega) | exact IntWalk.u8_in _ (by omega) | exact IntWalk.u16_in _ (by omega) | exact IntWalk.u32_in _ (by omega) | exact IntWalk.u64_in _ (by omega))
        | (apply G.eqlB; exact rfl; exact T.boo_4; exact rfl; exact rfl)
        | (apply G.neqB; exact rfl; exact T.boo_4; exact rfl; exact rfl)
        | (apply G.rem; exact rfl; exact rfl; exact rfl; (first | decide | omega); exact IntWalk.rem_in _ _ (by omega))
        | (apply G.conv; exact rfl; exact rfl; (first | exact T.int_3 | exact T.int_5); (first | exact T.int_3 | exact T.int_5); first | exact IntWalk.i64_in _ (by omega) | exact IntWalk.u8_in _ (by omega) | exact IntWalk.u16_in _ (by omega) | exact IntWalk.u32_in _ (by omega) | exact IntWalk.u64_in _ (by omega))
        | (apply G.notT; exact rfl; exact rfl)
        | (apply G.notF; exact rfl; exact rfl)
        | (refine G.notD rfl rfl ?_)
        | (apply G.notB; exact rfl; exact rfl)
        | (apply G.extract; exact rfl; exact rfl; exact rfl)
        | (apply G.len; exact rfl; exact rfl; (first | exact T.slc_22 | exact T.slc_34))
        | (refine G.indexAddr1 rfl (by first | exact T.slc_22 | exact T.slc_34) (by first | exact T.sz_4 | exact T.sz_5) rfl rfl _ rfl (by omega) ?_)
        | (refine G.indexAddr1 rfl (by first | exact T.slc_22 | exact T.slc_34) (by first | exact T.sz_4 | exact T.sz_5) rfl rfl _ (Int.toNat_of_nonneg (by omega)).symm (by omega) ?_)
        | (refine Goal.loud rfl ?_; refine Loud.store0 rfl rfl T.sz_4 rfl rfl rfl (by rw [List.size_toArray, bools_len]; omega) (wr_bools (by omega)) ?_)
        | (refine Goal.loud rfl ?_; refine Loud.store0 rfl rfl T.sz_4 rfl rfl rfl (by first | exact Nat.le_of_ble_eq_true rfl | exact Nat.le_refl _ | decide | (simp; omega)) rfl ?_)
        | (refine Goal.loud rfl ?_; refine Loud.store1 rfl rfl T.sz_4 rfl rfl rfl (by first | exact Nat.le_of_ble_eq_true rfl | exact Nat.le_refl _ | decide | (simp; omega)) rfl ?_)
        | (refine Goal.loud rfl ?_; refine Loud.store2 rfl rfl T.sz_4 rfl rfl rfl (by first | exact Nat.le_of_ble_eq_true rfl | exact Nat.le_refl _ | decide | (simp; omega)) rfl ?_)
        | (refine Goal.loud rfl ?_; refine Loud.store3 rfl rfl T.sz_4 rfl rfl rfl (by first | exact Nat.le_of_ble_eq_true rfl | exact Nat.le_refl _ | decide | (simp; omega)) rfl ?_)
        | (refine Goal.loud rfl ?_; refine Loud.store4 rfl rfl T.sz_4 rfl rfl rfl (by first | exact Nat.le_of_ble_eq_true rfl | exact Nat.le_refl _ | decide | (simp; omega)) rfl ?_)
        | (refine Goal.loud rfl ?_; refine Loud.store5 rfl rfl T.sz_4 rfl rfl rfl (by first | exact Nat.le_of_ble_eq_true rfl | exact Nat.le_refl _ | decide | (simp; omega)) rfl ?_)
        | (refine Goal.loud rfl ?_; refine Loud.store6 rfl rfl T.sz_4 rfl rfl rfl (by first | exact Nat.le_of_ble_eq_true rfl | exact Nat.le_refl _ | decide | (simp; omega)) rfl ?_)
        | (refine Goal.loud rfl ?_; refine Loud.store7 rfl rfl T.sz_4 rfl rfl rfl (by first | exact Nat.le_of_ble_eq_true rfl | exact Nat.le_refl _ | decide | (simp; omega)) rfl ?_))
      refine Goal.again ⟨i + 1, out.set (ia g i % l.length).toNat true⟩ ⟨by dsimp only; omega, by simp [hol]⟩ (by dsimp only; omega) ⟨rfl, rfl, rfl, rfl, rfl, rfl, rfl, trivial⟩ (fun _ h => h)
    · skip
      repeat' (first
        | (refine Goal.loud (o := ⟨some 41, _, _, _, _, _⟩) rfl ?_; first | refine Loud.makeSlice rfl T.slc_34 T.inf_4 rfl rfl (by decide) rfl rfl rfl rfl (by omega) (by omega) (by omega) (fun b41 => ?_) | refine Loud.makeSlice rfl T.slc_34 T.inf_4 rfl rfl (by decide) rfl rfl (Int.toNat_of_nonneg (by omega)).symm (Int.toNat_of_nonneg (by omega)).symm (by omega) (by omega) (by omega) (fun b41 => ?_))
        | (apply G.move; exact rfl; exact rfl)
        | (apply G.assign; exact rfl; exact rfl)
        | refine Goal.seq (fun _ _ => ?_)
        | refine Goal.next (by assumption) ?_
        | refine Goal.lnil ?_
        | refine Goal.region ?_
        | refine Goal.skip ?_
        | refine Goal.block ?_
        | refine Goal.exit ?_
        | refine Goal.ret ?_
        | refine Goal.then_exit ?_
        | refine Goal.then_ret ?_
        | refine Goal.inBlock_exit ?_
        | refine Goal.inBlock_normal ?_
        | refine Goal.inBlock_ret ?_
        | refine Goal.inBlock_other rfl ?_
        | (apply Goal.condT; exact rfl)
        | (apply Goal.condF; exact rfl)
        | (refine Goal.condD rfl (fun hc => ?_) (fun hc => ?_) <;> first | (exfalso; omega) | contradiction | skip)
        | refine Goal.condB rfl (fun hc => ?_) (fun hc => ?_)
        | refine Goal.guardT rfl rfl ?_
        | refine Goal.guardF rfl rfl rfl rfl ?_
        | refine Goal.guardU rfl rfl rfl ?_
        | (refine Goal.guardD rfl rfl (fun hc => ?_) (fun hc => ?_) <;> first | (exfalso; omega) | contradiction | skip)
        | refine Goal.guardB rfl rfl (fun hc => ?_) (fun hc => ?_)
        | (apply G.load; exact rfl; exact rfl; first | exact LoadOK.one (by first | exact T.one_4 | exact T.one_5) 0 rfl rfl | exact LoadOK.one (by first | exact T.one_4 | exact T.one_5) 1 rfl rfl | exact LoadOK.one (by first | exact T.one_4 | exact T.one_5) 2 rfl rfl | exact LoadOK.one (by first | exact T.one_4 | exact T.one_5) 3 rfl rfl | exact LoadOK.one (by first | exact T.one_4 | exact T.one_5) 4 rfl rfl | exact LoadOK.one (by first | exact T.one_4 | exact T.one_5) 5 rfl rfl | exact LoadOK.one (by first | exact T.one_4 | exact T.one_5) 6 rfl rfl | exact LoadOK.one (by first | exact T.one_4 | exact T.one_5) 7 rfl rfl)
        | (apply G.pickT; exact rfl; exact rfl; exact rfl)
        | (apply G.pickF; exact rfl; exact rfl; exact rfl)
        | (apply G.lss; exact rfl; exact rfl; exact rfl)
        | (apply G.gtr; exact rfl; exact rfl; exact rfl)
        | (apply G.eql; exact rfl; exact rfl; exact rfl)
        | (apply G.neq; exact rfl; exact rfl; exact rfl)
        | (apply G.add; exact rfl; exact rfl; exact rfl; first | exact IntWalk.i64_in _ (by omega) | exact IntWalk.u8_in _ (by omega) | exact IntWalk.u16_in _ (by omega) | exact IntWalk.u32_in _ (by omega) | exact IntWalk.u64_in _ (by omega))
        | (apply G.eqlB; exact rfl; exact T.boo_4; exact rfl; exact rfl)
        | (apply G.neqB; exact rfl; exact T.boo_4; exact rfl; exact rfl)
        | (apply G.rem; exact rfl; exact rfl; exact rfl; (first | decide | omega); exact IntWalk.rem_in _ _ (by omega))
        | (apply G.conv; exact rfl; exact rfl; (first | exact T.int_3 | exact T.int_5); (first | exact T.int_3 | exact T.int_5); first | exact IntWalk.i64_in _ (by omega) | exact IntWalk.u8_in _ (by omega) | exact IntWalk.u16_in _ (by omega) | exact IntWalk.u32_in _ (by omega) | exact IntWalk.u64_in _ (by omega))
        | (apply G.notT; exact rfl; exact rfl)
        | (apply G.notF; exact rfl; exact rfl)
        | (refine G.notD rfl rfl ?_)
        | (apply G.notB; exact rfl; exact rfl)
        | (apply G.extract; exact rfl; exact rfl; exact rfl)
        | (apply G.len; exact rfl; exact rfl; (first | exact T.slc_22 | exact T.slc_34))
        | (refine G.indexAddr1 rfl (by first | exact T.slc_22 | exact T.slc_34) (by first | exact T.sz_4 | exact T.sz_5) rfl rfl _ rfl (by omega) ?_)
        | (refine G.indexAddr1 rfl (by first | exact T.slc_22 | exact T.slc_34) (by first | exact T.sz_4 | exact T.sz_5) rfl rfl _ (Int.toNat_of_nonneg (by omega)).symm (by omega) ?_)
        | (refine Goal.loud rfl ?_; refine Loud.store0 rfl rfl T.sz_4 rfl rfl rfl (by first | exact Nat.le_of_ble_eq_true rfl | exact Nat.le_refl _ | decide | (simp; omega)) rfl ?_)
        | (refine Goal.loud rfl ?_; refine Loud.store1 rfl rfl T.sz_4 rfl rfl rfl (by first | exact Nat.le_of_ble_eq_true rfl | exact Nat.le_refl _ | decide | (simp; omega)) rfl ?_)
        | (refine Goal.loud rfl ?_; refine Loud.store2 rfl rfl T.sz_4 rfl rfl rfl (by first | exact Nat.le_of_ble_eq_true rfl | exact Nat.le_refl _ | decide | (simp; omega)) rfl ?_)
        | (refine Goal.loud rfl ?_; refine Loud.store3 rfl rfl T.sz_4 rfl rfl rfl (by first | exact Nat.le_of_ble_eq_true rfl | exact Nat.le_refl _ | decide | (simp; omega)) rfl ?_)
        | (refine Goal.loud rfl ?_; refine Loud.store4 rfl rfl T.sz_4 rfl rfl rfl (by first | exact Nat.le_of_ble_eq_true rfl | exact Nat.le_refl _ | decide | (simp; omega)) rfl ?_)
        | (refine Goal.loud rfl ?_; refine Loud.store5 rfl rfl T.sz_4 rfl rfl rfl (by first | exact Nat.le_of_ble_eq_true rfl | exact Nat.le_refl _ | decide | (simp; omega)) rfl ?_)
        | (refine Goal.loud rfl ?_; refine Loud.store6 rfl rfl T.sz_4 rfl rfl rfl (by first | exact Nat.le_of_ble_eq_true rfl | exact Nat.le_refl _ | decide | (simp; omega)) rfl ?_)
        | (refine Goal.loud rfl ?_; refine Loud.store7 rfl rfl T.sz_4 rfl rfl rfl (by first | exact Nat.le_of_ble_eq_true rfl | exact Nat.le_refl _ | decide | (simp; omega)) rfl ?_))
      refine Goal.loopP (X := XB) (fun x => [(0, .slice (some ⟨b, o, none⟩) l.length cap), (5, .pointer (some ⟨bq, 0, none⟩)), (6, .pointer (some ⟨br, 0, none⟩)), (7, .slice (some ⟨b41, 0, none⟩) l.length l.length), (56, .slice (some ⟨b, o, none⟩) l.length cap), (57, .int .i64 l.length), (58, .int .i64 x.i)]) (fun x => (b41, .cells (bools out).toArray 4) :: (x.A ++ x.B))
        (fun x => (0 ≤ x.i ∧ x.i ≤ l.length) ∧ QM bq (evr x.i.toNat (ia l)) 0 x.i x.A ∧ QM br x.F 0 x.lr x.B ∧ (0 ≤ x.lr ∧ x.lr ≤ x.i) ∧ td (keepA out (evr x.i.toNat (ia l))) = td x.F) (fun x => (l.length - x.i).toNat) ⟨0, 0, [], A1, B1⟩ ⟨rfl, rfl, rfl, rfl, rfl, rfl, rfl, trivial⟩ (fun _ h => h) ⟨by dsimp only; omega, h1, g1, by dsimp only; omega, rfl⟩ ?_
      clear h1 g1
      rintro ⟨j, lr, F, A, B⟩ ⟨hj, hA, hB, hlr, htd⟩
      dsimp only at hj hA hB hlr htd ⊢
      by_cases h : j < l.length
      · have hm := hq _ (mem_ia (i := j) (by omega))
        have hE : addErr (evr j.toNat (ia l)).length 0 (ia l j) = 0 := by
          unfold addErr
          rw [evr_len, if_neg (by omega), if_neg (by omega), if_neg (by omega)]
        have hFl := td_len htd
        have hkl := keepA_len (o := out) (n := j.toNat) (t := ia l)
        have hE2 : addErr F.length 0 (ia l j) = 0 := by
          unfold addErr
          rw [if_neg (by omega), if_neg (by omega), if_neg (by omega)]
        have hjj : ((j.toNat : Nat) : Int) = j := by omega
        cases hb : ba out j
        · skip
          repeat' (first
            | (refine Goal.loud (o := ⟨some 68, _, _, _, _, _⟩) rfl ?_; refine Loud.callM ([_]) (G := B) (addQ hA (ia l j) j (by omega)) rfl rfl rfl rfl T.bod_11 (fun _ h => by first | exact h | simpa only [List.append_eq, List.append_assoc, List.cons_append, List.nil_append, List.append_nil] using h) ?_; intro A2 h2; rw [hE, if_pos rfl, if_pos rfl] at h2; rw [hE, if_pos rfl])
            | (refine Goal.loud (o := ⟨some 88, _, _, _, _, _⟩) rfl ?_; refine Loud.callE (_ :: A2) (addQ hB (ia l j) j (by omega)) rfl rfl rfl rfl T.bod_11 (fun _ h => h) ?_; intro B2 g2; rw [hE2, if_pos rfl, if_pos rfl] at g2; rw [hE2, if_pos rfl])
            | (refine Goal.loud (o := ⟨some 41, _, _, _, _, _⟩) rfl ?_; first | refine Loud.makeSlice rfl T.slc_34 T.inf_4 rfl rfl (by decide) rfl rfl rfl rfl (by omega) (by omega) (by omega) (fun b41 => ?_) | refine Loud.makeSlice rfl T.slc_34 T.inf_4 rfl rfl (by decide) rfl rfl (Int.toNat_of_nonneg (by omega)).symm (Int.toNat_of_nonneg (by omega)).symm (by omega) (by omega) (by omega) (fun b41 => ?_))
            | (apply G.move; exact rfl; exact rfl)
            | (apply G.assign; exact rfl; exact rfl)
            | refine Goal.seq (fun _ _ => ?_)
            | refine Goal.next (by assumption) ?_
            | refine Goal.lnil ?_
            | refine Goal.region ?_
            | refine Goal.skip ?_
            | refine Goal.block ?_
            | refine Goal.exit ?_
            | refine Goal.ret ?_
            | refine Goal.then_exit ?_
            | refine Goal.then_ret ?_
            | refine Goal.inBlock_exit ?_
            | refine Goal.inBlock_normal ?_
            | refine Goal.inBlock_ret ?_
            | refine Goal.inBlock_other rfl ?_
            | (apply Goal.condT; exact rfl)
            | (apply Goal.condF; exact rfl)
            | (refine Goal.condD rfl (fun hc => ?_) (fun hc => ?_) <;> first | (exfalso; omega) | contradiction | skip)
            | refine Goal.condB rfl (fun hc => ?_) (fun hc => ?_)
            | refine Goal.guardT rfl rfl ?_
            | refine Goal.guardF rfl rfl rfl rfl ?_
            | refine Goal.guardU rfl rfl rfl ?_
            | (refine Goal.guardD rfl rfl (fun hc => ?_) (fun hc => ?_) <;> first | (exfalso; omega) | contradiction | skip)
            | refine Goal.guardB rfl rfl (fun hc => ?_) (fun hc => ?_)
            | (apply G.load; exact rfl; exact rfl; first | exact LoadOK.old T.one_5 (hk _ (by omega) (by omega)) (by simp) | exact LoadOK.baE T.one_4 0 rfl (by omega) hb | exact LoadOK.one (by first | exact T.one_4 | exact T.one_5) 0 rfl rfl | exact LoadOK.one (by first | exact T.one_4 | exact T.one_5) 1 rfl rfl | exact LoadOK.one (by first | exact T.one_4 | exact T.one_5) 2 rfl rfl | exact LoadOK.one (by first | exact T.one_4 | exact T.one_5) 3 rfl rfl | exact LoadOK.one (by first | exact T.one_4 | exact T.one_5) 4 rfl rfl | exact LoadOK.one (by first | exact T.one_4 | exact T.one_5) 5 rfl rfl | exact LoadOK.one (by first | exact T.one_4 | exact T.one_5) 6 rfl rfl | exact LoadOK.one (by first | exact T.one_4 | exact T.one_5) 7 rfl rfl)
            | (apply G.pickT; exact rfl; exact rfl; exact rfl)
            | (apply G.pickF; exact rfl; exact rfl; exact rfl)
            | (apply G.lss; exact rfl; exact rfl; exact rfl)
            | (apply G.gtr; exact rfl; exact rfl; exact rfl)
            | (apply G.eql; exact rfl; exact rfl; exact rfl)
            | (apply G.neq; exact rfl; exact rfl; exact rfl)
            | (apply G.add; exact rfl; exact rfl; exact rfl; first | exact IntWalk.i64_in _ (by omega) | exact IntWalk.u8_in _ (by omega) | exact IntWalk.u16_in _ (by omega) | exact IntWalk.u32_in _ (by omega) | exact IntWalk.u64_in _ (by omega))
            | (apply G.eqlB; exact rfl; exact T.boo_4; exact rfl; exact rfl)
            | (apply G.neqB; exact rfl; exact T.boo_4; exact rfl; exact rfl)
            | (apply G.rem; exact rfl; exact rfl; exact rfl; (first | decide | omega); exact IntWalk.rem_in _ _ (by omega))
            | (apply G.conv; exact rfl; exact rfl; (first | exact T.int_3 | exact T.int_5); (first | exact T.int_3 | exact T.int_5); first | exact IntWalk.i64_in _ (by omega) | exact IntWalk.u8_in _ (by omega) | exact IntWalk.u16_in _ (by omega) | exact IntWalk.u32_in _ (by omega) | exact IntWalk.u64_in _ (by omega))
            | (apply G.notT; exact rfl; exact rfl)
            | (apply G.notF; exact rfl; exact rfl)
            | (refine G.notD rfl rfl ?_)
            | (apply G.notB; exact rfl; exact rfl)
            | (apply G.extract; exact rfl; exact rfl; exact rfl)
            | (apply G.len; exact rfl; exact rfl; (first | exact T.slc_22 | exact T.slc_34))
            | (refine G.indexAddr1 rfl (by first | exact T.slc_22 | exact T.slc_34) (by first | exact T.sz_4 | exact T.sz_5) rfl rfl _ rfl (by omega) ?_)
            | (refine G.indexAddr1 rfl (by first | exact T.slc_22 | exact T.slc_34) (by first | exact T.sz_4 | exact T.sz_5) rfl rfl _ (Int.toNat_of_nonneg (by omega)).symm (by omega) ?_)
            | (refine Goal.loud rfl ?_; refine Loud.store0 rfl rfl T.sz_4 rfl rfl rfl (by first | exact Nat.le_of_ble_eq_true rfl | exact Nat.le_refl _ | decide | (simp; omega)) rfl ?_)
            | (refine Goal.loud rfl ?_; refine Loud.store1 rfl rfl T.sz_4 rfl rfl rfl (by first | exact Nat.le_of_ble_eq_true rfl | exact Nat.le_refl _ | decide | (simp; omega)) rfl ?_)
            | (refine Goal.loud rfl ?_; refine Loud.store2 rfl rfl T.sz_4 rfl rfl rfl (by first | exact Nat.le_of_ble_eq_true rfl | exact Nat.le_refl _ | decide | (simp; omega)) rfl ?_)
            | (refine Goal.loud rfl ?_; refine Loud.store3 rfl rfl T.sz_4 rfl rfl rfl (by first | exact Nat.le_of_ble_eq_true rfl | exact Nat.le_refl _ | decide | (simp; omega)) rfl ?_)
            | (refine Goal.loud rfl ?_; refine Loud.store4 rfl rfl T.sz_4 rfl rfl rfl (by first | exact Nat.le_of_ble_eq_true rfl | exact Nat.le_refl _ | decide | (simp; omega)) rfl ?_)
            | (refine Goal.loud rfl ?_; refine Loud.store5 rfl rfl T.sz_4 rfl rfl rfl (by first | exact Nat.le_of_ble_eq_true rfl | exact Nat.le_refl _ | decide | (simp; omega)) rfl ?_)
            | (refine Goal.loud rfl ?_; refine Loud.store6 rfl rfl T.sz_4 rfl rfl rfl (by first | exact Nat.le_of_ble_eq_true rfl | exact Nat.le_refl _ | decide | (simp; omega)) rfl ?_)
            | (refine Goal.loud rfl ?_; refine Loud.store7 rfl rfl T.sz_4 rfl rfl rfl (by first | exact Nat.le_of_ble_eq_true rfl | exact Nat.le_refl _ | decide | (simp; omega)) rfl ?_))
          refine Goal.again ⟨j + 1, lr + 1, F ++ [⟨lr + 1, ia l j, j⟩], A2, B2⟩ ⟨by dsimp only; omega, ?_, g2, by dsimp only; omega, ?_⟩ (by dsimp only; omega) ⟨rfl, rfl, rfl, rfl, rfl, rfl, rfl, trivial⟩ (fun _ h => h)
          · dsimp only
            rw [show (j + 1).toNat = j.toNat + 1 by omega, evr_succ, hjj]
            exact h2
          · dsimp only
            rw [show (j + 1).toNat = j.toNat + 1 by omega, keepA_succ, hjj, hb, if_neg (by decide), td_app, td_app, htd]
            rfl
        · skip
          repeat' (first
            | (refine Goal.loud (o := ⟨some 68, _, _, _, _, _⟩) rfl ?_; refine Loud.callM ([_]) (G := B) (addQ hA (ia l j) j (by omega)) rfl rfl rfl rfl T.bod_11 (fun _ h => by first | exact h | simpa only [List.append_eq, List.append_assoc, List.cons_append, List.nil_append, List.append_nil] using h) ?_; intro A2 h2; rw [hE, if_pos rfl, if_pos rfl] at h2; rw [hE, if_pos rfl])
            | (refine Goal.loud (o := ⟨some 41, _, _, _, _, _⟩) rfl ?_; first | refine Loud.makeSlice rfl T.slc_34 T.inf_4 rfl rfl (by decide) rfl rfl rfl rfl (by omega) (by omega) (by omega) (fun b41 => ?_) | refine Loud.makeSlice rfl T.slc_34 T.inf_4 rfl rfl (by decide) rfl rfl (Int.toNat_of_nonneg (by omega)).symm (Int.toNat_of_nonneg (by omega)).symm (by omega) (by omega) (by omega) (fun b41 => ?_))
            | (apply G.move; exact rfl; exact rfl)
            | (apply G.assign; exact rfl; exact rfl)
            | refine Goal.seq (fun _ _ => ?_)
            | refine Goal.next (by assumption) ?_
            | refine Goal.lnil ?_
            | refine Goal.region ?_
            | refine Goal.skip ?_
            | refine Goal.block ?_
            | refine Goal.exit ?_
            | refine Goal.ret ?_
            | refine Goal.then_exit ?_
            | refine Goal.then_ret ?_
            | refine Goal.inBlock_exit ?_
            | refine Goal.inBlock_normal ?_
            | refine Goal.inBlock_ret ?_
            | refine Goal.inBlock_other rfl ?_
            | (apply Goal.condT; exact rfl)
            | (apply Goal.condF; exact rfl)
            | (refine Goal.condD rfl (fun hc => ?_) (fun hc => ?_) <;> first | (exfalso; omega) | contradiction | skip)
            | refine Goal.condB rfl (fun hc => ?_) (fun hc => ?_)
            | refine Goal.guardT rfl rfl ?_
            | refine Goal.guardF rfl rfl rfl rfl ?_
            | refine Goal.guardU rfl rfl rfl ?_
            | (refine Goal.guardD rfl rfl (fun hc => ?_) (fun hc => ?_) <;> first | (exfalso; omega) | contradiction | skip)
            | refine Goal.guardB rfl rfl (fun hc => ?_) (fun hc => ?_)
            | (apply G.load; exact rfl; exact rfl; first | exact LoadOK.old T.one_5 (hk _ (by omega) (by omega)) (by simp) | exact LoadOK.baE T.one_4 0 rfl (by omega) hb | exact LoadOK.one (by first | exact T.one_4 | exact T.one_5) 0 rfl rfl | exact LoadOK.one (by first | exact T.one_4 | exact T.one_5) 1 rfl rfl | exact LoadOK.one (by first | exact T.one_4 | exact T.one_5) 2 rfl rfl | exact LoadOK.one (by first | exact T.one_4 | exact T.one_5) 3 rfl rfl | exact LoadOK.one (by first | exact T.one_4 | exact T.one_5) 4 rfl rfl | exact LoadOK.one (by first | exact T.one_4 | exact T.one_5) 5 rfl rfl | exact LoadOK.one (by first | exact T.one_4 | exact T.one_5) 6 rfl rfl | exact LoadOK.one (by first | exact T.one_4 | exact T.one_5) 7 rfl rfl)
            | (apply G.pickT; exact rfl; exact rfl; exact rfl)
            | (apply G.pickF; exact rfl; exact rfl; exact rfl)
            | (apply G.lss; exact rfl; exact rfl; exact rfl)
            | (apply G.gtr; exact rfl; exact rfl; exact rfl)
            | (apply G.eql; exact rfl; exact rfl; exact rfl)
            | (apply G.neq; exact rfl; exact rfl; exact rfl)
            | (apply G.add; exact rfl; exact rfl; exact rfl; first | exact IntWalk.i64_in _ (by omega) | exact IntWalk.u8_in _ (by omega) | exact IntWalk.u16_in _ (by omega) | exact IntWalk.u32_in _ (by omega) | exact IntWalk.u64_in _ (by omega))
            | (apply G.eqlB; exact rfl; exact T.boo_4; exact rfl; exact rfl)
            | (apply G.neqB; exact rfl; exact T.boo_4; exact rfl; exact rfl)
            | (apply G.rem; exact rfl; exact rfl; exact rfl; (first | decide | omega); exact IntWalk.rem_in _ _ (by omega))
            | (apply G.conv; exact rfl; exact rfl; (first | exact T.int_3 | exact T.int_5); (first | exact T.int_3 | exact T.int_5); first | exact IntWalk.i64_in _ (by omega) | exact IntWalk.u8_in _ (by omega) | exact IntWalk.u16_in _ (by omega) | exact IntWalk.u32_in _ (by omega) | exact IntWalk.u64_in _ (by omega))
            | (apply G.notT; exact rfl; exact rfl)
            | (apply G.notF; exact rfl; exact rfl)
            | (refine G.notD rfl rfl ?_)
            | (apply G.notB; exact rfl; exact rfl)
            | (apply G.extract; exact rfl; exact rfl; exact rfl)
            | (apply G.len; exact rfl; exact rfl; (first | exact T.slc_22 | exact T.slc_34))
            | (refine G.indexAddr1 rfl (by first | exact T.slc_22 | exact T.slc_34) (by first | exact T.sz_4 | exact T.sz_5) rfl rfl _ rfl (by omega) ?_)
            | (refine G.indexAddr1 rfl (by first | exact T.slc_22 | exact T.slc_34) (by first | exact T.sz_4 | exact T.sz_5) rfl rfl _ (Int.toNat_of_nonneg (by omega)).symm (by omega) ?_)
            | (refine Goal.loud rfl ?_; refine Loud.store0 rfl rfl T.sz_4 rfl rfl rfl (by first | exact Nat.le_of_ble_eq_true rfl | exact Nat.le_refl _ | decide | (simp; omega)) rfl ?_)
            | (refine Goal.loud rfl ?_; refine Loud.store1 rfl rfl T.sz_4 rfl rfl rfl (by first | exact Nat.le_of_ble_eq_true rfl | exact Nat.le_refl _ | decide | (simp; omega)) rfl ?_)
            | (refine Goal.loud rfl ?_; refine Loud.store2 rfl rfl T.sz_4 rfl rfl rfl (by first | exact Nat.le_of_ble_eq_true rfl | exact Nat.le_refl _ | decide | (simp; omega)) rfl ?_)
            | (refine Goal.loud rfl ?_; refine Loud.store3 rfl rfl T.sz_4 rfl rfl rfl (by first | exact Nat.le_of_ble_eq_true rfl | exact Nat.le_refl _ | decide | (simp; omega)) rfl ?_)
            | (refine Goal.loud rfl ?_; refine Loud.store4 rfl rfl T.sz_4 rfl rfl rfl (by first | exact Nat.le_of_ble_eq_true rfl | exact Nat.le_refl _ | decide | (simp; omega)) rfl ?_)
            | (refine Goal.loud rfl ?_; refine Loud.store5 rfl rfl T.sz_4 rfl rfl rfl (by first | exact Nat.le_of_ble_eq_true rfl | exact Nat.le_refl _ | decide | (simp; omega)) rfl ?_)
            | (refine Goal.loud rfl ?_; refine Loud.store6 rfl rfl T.sz_4 rfl rfl rfl (by first | exact Nat.le_of_ble_eq_true rfl | exact Nat.le_refl _ | decide | (simp; omega)) rfl ?_)
            | (refine Goal.loud rfl ?_; refine Loud.store7 rfl rfl T.sz_4 rfl rfl rfl (by first | exact Nat.le_of_ble_eq_true rfl | exact Nat.le_refl _ | decide | (simp; omega)) rfl ?_))
          refine Goal.again ⟨j + 1, lr, F, A2, B⟩ ⟨by dsimp only; omega, ?_, hB, by dsimp only; omega, ?_⟩ (by dsimp only; omega) ⟨rfl, rfl, rfl, rfl, rfl, rfl, rfl, trivial⟩ (fun _ h => h)
          · dsimp only
            rw [show (j + 1).toNat = j.toNat + 1 by omega, evr_succ, hjj]
            exact h2
          · dsimp only
            rw [show (j + 1).toNat = j.toNat + 1 by omega, keepA_succ, hjj, hb, if_pos rfl, List.append_nil, htd]
      · obtain hjl : j = l.length := by omega
        rw [show j.toNat = l.length by omega] at hA htd
        repeat' (first
          | (refine Goal.loud (o := ⟨some 41, _, _, _, _, _⟩) rfl ?_; first | refine Loud.makeSlice rfl T.slc_34 T.inf_4 rfl rfl (by decide) rfl rfl rfl rfl (by omega) (by omega) (by omega) (fun b41 => ?_) | refine Loud.makeSlice rfl T.slc_34 T.inf_4 rfl rfl (by decide) rfl rfl (Int.toNat_of_nonneg (by omega)).symm (Int.toNat_of_nonneg (by omega)).symm (by omega) (by omega) (by omega) (fun b41 => ?_))
          | (apply G.move; exact rfl; exact rfl)
          | (apply G.assign; exact rfl; exact rfl)
          | refine Goal.seq (fun _ _ => ?_)
          | refine Goal.next (by assumption) ?_
          | refine Goal.lnil ?_
          | refine Goal.region ?_
          | refine Goal.skip ?_
          | refine Goal.block ?_
          | refine Goal.exit ?_
          | refine Goal.ret ?_
          | refine Goal.then_exit ?_
          | refine Goal.then_ret ?_
          | refine Goal.inBlock_exit ?_
          | refine Goal.inBlock_normal ?_
          | refine Goal.inBlock_ret ?_
          | refine Goal.inBlock_other rfl ?_
          | (apply Goal.condT; exact rfl)
          | (apply Goal.condF; exact rfl)
          | (refine Goal.condD rfl (fun hc => ?_) (fun hc => ?_) <;> first | (exfalso; omega) | contradiction | skip)
          | refine Goal.condB rfl (fun hc => ?_) (fun hc => ?_)
          | refine Goal.guardT rfl rfl ?_
          | refine Goal.guardF rfl rfl rfl rfl ?_
          | refine Goal.guardU rfl rfl rfl ?_
          | (refine Goal.guardD rfl rfl (fun hc => ?_) (fun hc => ?_) <;> first | (exfalso; omega) | contradiction | skip)
          | refine Goal.guardB rfl rfl (fun hc => ?_) (fun hc => ?_)
          | (apply G.load; exact rfl; exact rfl; first | exact LoadOK.one (by first | exact T.one_4 | exact T.one_5) 0 rfl rfl | exact LoadOK.one (by first | exact T.one_4 | exact T.one_5) 1 rfl rfl | exact LoadOK.one (by first | exact T.one_4 | exact T.one_5) 2 rfl rfl | exact LoadOK.one (by first | exact T.one_4 | exact T.one_5) 3 rfl rfl | exact LoadOK.one (by first | exact T.one_4 | exact T.one_5) 4 rfl rfl | exact LoadOK.one (by first | exact T.one_4 | exact T.one_5) 5 rfl rfl | exact LoadOK.one (by first | exact T.one_4 | exact T.one_5) 6 rfl rfl | exact LoadOK.one (by first | exact T.one_4 | exact T.one_5) 7 rfl rfl)
          | (apply G.pickT; exact rfl; exact rfl; exact rfl)
          | (apply G.pickF; exact rfl; exact rfl; exact rfl)
          | (apply G.lss; exact rfl; exact rfl; exact rfl)
          | (apply G.gtr; exact rfl; exact rfl; exact rfl)
          | (apply G.eql; exact rfl; exact rfl; exact rfl)
          | (apply G.neq; exact rfl; exact rfl; exact rfl)
          | (apply G.add; exact rfl; exact rfl; exact rfl; first | exact IntWalk.i64_in _ (by omega) | exact IntWalk.u8_in _ (by omega) | exact IntWalk.u16_in _ (by omega) | exact IntWalk.u32_in _ (by omega) | exact IntWalk.u64_in _ (by omega))
          | (apply G.eqlB; exact rfl; exact T.boo_4; exact rfl; exact rfl)
          | (apply G.neqB; exact rfl; exact T.boo_4; exact rfl; exact rfl)
          | (apply G.rem; exact rfl; exact rfl; exact rfl; (first | decide | omega); exact IntWalk.rem_in _ _ (by omega))
          | (apply G.conv; exact rfl; exact rfl; (first | exact T.int_3 | exact T.int_5); (first | exact T.int_3 | exact T.int_5); first | exact IntWalk.i64_in _ (by omega) | exact IntWalk.u8_in _ (by omega) | exact IntWalk.u16_in _ (by omega) | exact IntWalk.u32_in _ (by omega) | exact IntWalk.u64_in _ (by omega))
          | (apply G.notT; exact rfl; exact rfl)
          | (apply G.notF; exact rfl; exact rfl)
          | (refine G.notD rfl rfl ?_)
          | (apply G.notB; exact rfl; exact rfl)
          | (apply G.extract; exact rfl; exact rfl; exact rfl)
          | (apply G.len; exact rfl; exact rfl; (first | exact T.slc_22 | exact T.slc_34))
          | (refine G.indexAddr1 rfl (by first | exact T.slc_22 | exact T.slc_34) (by first | exact T.sz_4 | exact T.sz_5) rfl rfl _ rfl (by omega) ?_)
          | (refine G.indexAddr1 rfl (by first | exact T.slc_22 | exact T.slc_34) (by first | exact T.sz_4 | exact T.sz_5) rfl rfl _ (Int.toNat_of_nonneg (by omega)).symm (by omega) ?_)
          | (refine Goal.loud rfl ?_; refine Loud.store0 rfl rfl T.sz_4 rfl rfl rfl (by first | exact Nat.le_of_ble_eq_true rfl | exact Nat.le_refl _ | decide | (simp; omega)) rfl ?_)
          | (refine Goal.loud rfl ?_; refine Loud.store1 rfl rfl T.sz_4 rfl rfl rfl (by first | exact Nat.le_of_ble_eq_true rfl | exact Nat.le_refl _ | decide | (simp; omega)) rfl ?_)
          | (refine Goal.loud rfl ?_; refine Loud.store2 rfl rfl T.sz_4 rfl rfl rfl (by first | exact Nat.le_of_ble_eq_true rfl | exact Nat.le_refl _ | decide | (simp; omega)) rfl ?_)
          | (refine Goal.loud rfl ?_; refine Loud.store3 rfl rfl T.sz_4 rfl rfl rfl (by first | exact Nat.le_of_ble_eq_true rfl | exact Nat.le_refl _ | decide | (simp; omega)) rfl ?_)
          | (refine Goal.loud rfl ?_; refine Loud.store4 rfl rfl T.sz_4 rfl rfl rfl (by first | exact Nat.le_of_ble_eq_true rfl | exact Nat.le_refl _ | decide | (simp; omega)) rfl ?_)
          | (refine Goal.loud rfl ?_; refine Loud.store5 rfl rfl T.sz_4 rfl rfl rfl (by first | exact Nat.le_of_ble_eq_true rfl | exact Nat.le_refl _ | decide | (simp; omega)) rfl ?_)
          | (refine Goal.loud rfl ?_; refine Loud.store6 rfl rfl T.sz_4 rfl rfl rfl (by first | exact Nat.le_of_ble_eq_true rfl | exact Nat.le_refl _ | decide | (simp; omega)) rfl ?_)
          | (refine Goal.loud rfl ?_; refine Loud.store7 rfl rfl T.sz_4 rfl rfl rfl (by first | exact Nat.le_of_ble_eq_true rfl | exact Nat.le_refl _ | decide | (simp; omega)) rfl ?_))
        refine Goal.loopP (X := XC) (fun x => [(0, .slice (some ⟨b, o, none⟩) l.length cap), (5, .pointer (some ⟨bq, 0, none⟩)), (6, .pointer (some ⟨br, 0, none⟩)), (90, .slice (some ⟨b41, 0, none⟩) l.length l.length), (91, .int .i64 l.length), (92, .int .i64 x.i)]) (fun x => (b41, .cells (bools out).toArray 4) :: (x.A ++ B))
          (fun x => (0 ≤ x.i ∧ x.i ≤ l.length) ∧ QM bq (keep out x.i (evr l.length (ia l))) 0 j x.A) (fun x => (l.length - x.i).toNat) ⟨0, A⟩ ⟨rfl, rfl, rfl, rfl, rfl, rfl, trivial⟩ (fun _ h => h) ⟨by dsimp only; omega, by dsimp only; rw [keep_zero]; exact hA⟩ ?_
        clear hA
        rintro ⟨i2, A⟩ ⟨hi2, hA⟩
        dsimp only at hi2 hA ⊢
        by_cases h : i2 < l.length
        · cases hb : ba out i2
          · have hks := keep_skip (n := l.length) (t := ia l) hb
            repeat' (first
              | (refine Goal.loud (o := ⟨some 41, _, _, _, _, _⟩) rfl ?_; first | refine Loud.makeSlice rfl T.slc_34 T.inf_4 rfl rfl (by decide) rfl rfl rfl rfl (by omega) (by omega) (by omega) (fun b41 => ?_) | refine Loud.makeSlice rfl T.slc_34 T.inf_4 rfl rfl (by decide) rfl rfl (Int.toNat_of_nonneg (by omega)).symm (Int.toNat_of_nonneg (by omega)).symm (by omega) (by omega) (by omega) (fun b41 => ?_))
              | (apply G.move; exact rfl; exact rfl)
              | (apply G.assign; exact rfl; exact rfl)
              | refine Goal.seq (fun _ _ => ?_)
              | refine Goal.next (by assumption) ?_
              | refine Goal.lnil ?_
              | refine Goal.region ?_
              | refine Goal.skip ?_
              | refine Goal.block ?_
              | refine Goal.exit ?_
              | refine Goal.ret ?_
              | refine Goal.then_exit ?_
              | refine Goal.then_ret ?_
              | refine Goal.inBlock_exit ?_
              | refine Goal.inBlock_normal ?_
              | refine Goal.inBlock_ret ?_
              | refine Goal.inBlock_other rfl ?_
              | (apply Goal.condT; exact rfl)
              | (apply Goal.condF; exact rfl)
              | (refine Goal.condD rfl (fun hc => ?_) (fun hc => ?_) <;> first | (exfalso; omega) | contradiction | skip)
              | refine Goal.condB rfl (fun hc => ?_) (fun hc => ?_)
              | refine Goal.guardT rfl rfl ?_
              | refine Goal.guardF rfl rfl rfl rfl ?_
              | refine Goal.guardU rfl rfl rfl ?_
              | (refine Goal.guardD rfl rfl (fun hc => ?_) (fun hc => ?_) <;> first | (exfalso; omega) | contradiction | skip)
              | refine Goal.guardB rfl rfl (fun hc => ?_) (fun hc => ?_)
              | (apply G.load; exact rfl; exact rfl; first | exact LoadOK.baE T.one_4 0 rfl (by omega) hb | exact LoadOK.one (by first | exact T.one_4 | exact T.one_5) 0 rfl rfl | exact LoadOK.one (by first | exact T.one_4 | exact T.one_5) 1 rfl rfl | exact LoadOK.one (by first | exact T.one_4 | exact T.one_5) 2 rfl rfl | exact LoadOK.one (by first | exact T.one_4 | exact T.one_5) 3 rfl rfl | exact LoadOK.one (by first | exact T.one_4 | exact T.one_5) 4 rfl rfl | exact LoadOK.one (by first | exact T.one_4 | exact T.one_5) 5 rfl rfl | exact LoadOK.one (by first | exact T.one_4 | exact T.one_5) 6 rfl rfl | exact LoadOK.one (by first | exact T.one_4 | exact T.one_5) 7 rfl rfl)
              | (apply G.pickT; exact rfl; exact rfl; exact rfl)
              | (apply G.pickF; exact rfl; exact rfl; exact rfl)
              | (apply G.lss; exact rfl; exact rfl; exact rfl)
              | (apply G.gtr; exact rfl; exact rfl; exact rfl)
              | (apply G.eql; exact rfl; exact rfl; exact rfl)
              | (apply G.neq; exact rfl; exact rfl; exact rfl)
              | (apply G.add; exact rfl; exact rfl; exact rfl; first | exact IntWalk.i64_in _ (by omega) | exact IntWalk.u8_in _ (by omega) | exact IntWalk.u16_in _ (by omega) | exact IntWalk.u32_in _ (by omega) | exact IntWalk.u64_in _ (by omega))
              | (apply G.eqlB; exact rfl; exact T.boo_4; exact rfl; exact rfl)
              | (apply G.neqB; exact rfl; exact T.boo_4; exact rfl; exact rfl)
              | (apply G.rem; exact rfl; exact rfl; exact rfl; (first | decide | omega); exact IntWalk.rem_in _ _ (by omega))
              | (apply G.conv; exact rfl; exact rfl; (first | exact T.int_3 | exact T.int_5); (first | exact T.int_3 | exact T.int_5); first | exact IntWalk.i64_in _ (by omega) | exact IntWalk.u8_in _ (by omega) | exact IntWalk.u16_in _ (by omega) | exact IntWalk.u32_in _ (by omega) | exact IntWalk.u64_in _ (by omega))
              | (apply G.notT; exact rfl; exact rfl)
              | (apply G.notF; exact rfl; exact rfl)
              | (refine G.notD rfl rfl ?_)
              | (apply G.notB; exact rfl; exact rfl)
              | (apply G.extract; exact rfl; exact rfl; exact rfl)
              | (apply G.len; exact rfl; exact rfl; (first | exact T.slc_22 | exact T.slc_34))
              | (refine G.indexAddr1 rfl (by first | exact T.slc_22 | exact T.slc_34) (by first | exact T.sz_4 | exact T.sz_5) rfl rfl _ rfl (by omega) ?_)
              | (refine G.indexAddr1 rfl (by first | exact T.slc_22 | exact T.slc_34) (by first | exact T.sz_4 | exact T.sz_5) rfl rfl _ (Int.toNat_of_nonneg (by omega)).symm (by omega) ?_)
              | (refine Goal.loud rfl ?_; refine Loud.store0 rfl rfl T.sz_4 rfl rfl rfl (by first | exact Nat.le_of_ble_eq_true rfl | exact Nat.le_refl _ | decide | (simp; omega)) rfl ?_)
              | (refine Goal.loud rfl ?_; refine Loud.store1 rfl rfl T.sz_4 rfl rfl rfl (by first | exact Nat.le_of_ble_eq_true rfl | exact Nat.le_refl _ | decide | (simp; omega)) rfl ?_)
              | (refine Goal.loud rfl ?_; refine Loud.store2 rfl rfl T.sz_4 rfl rfl rfl (by first | exact Nat.le_of_ble_eq_true rfl | exact Nat.le_refl _ | decide | (simp; omega)) rfl ?_)
              | (refine Goal.loud rfl ?_; refine Loud.store3 rfl rfl T.sz_4 rfl rfl rfl (by first | exact Nat.le_of_ble_eq_true rfl | exact Nat.le_refl _ | decide | (simp; omega)) rfl ?_)
              | (refine Goal.loud rfl ?_; refine Loud.store4 rfl rfl T.sz_4 rfl rfl rfl (by first | exact Nat.le_of_ble_eq_true rfl | exact Nat.le_refl _ | decide | (simp; omega)) rfl ?_)
              | (refine Goal.loud rfl ?_; refine Loud.store5 rfl rfl T.sz_4 rfl rfl rfl (by first | exact Nat.le_of_ble_eq_true rfl | exact Nat.le_refl _ | decide | (simp; omega)) rfl ?_)
              | (refine Goal.loud rfl ?_; refine Loud.store6 rfl rfl T.sz_4 rfl rfl rfl (by first | exact Nat.le_of_ble_eq_true rfl | exact Nat.le_refl _ | decide | (simp; omega)) rfl ?_)
              | (refine Goal.loud rfl ?_; refine Loud.store7 rfl rfl T.sz_4 rfl rfl rfl (by first | exact Nat.le_of_ble_eq_true rfl | exact Nat.le_refl _ | decide | (simp; omega)) rfl ?_))
            refine Goal.again ⟨i2 + 1, A⟩ ⟨by dsimp only; omega, by dsimp only; rw [hks]; exact hA⟩ (by dsimp only; omega) ⟨rfl, rfl, rfl, rfl, rfl, rfl, trivial⟩ (fun _ h => h)
          · obtain ⟨k1, k2, k3, k4⟩ := keep_step (n := l.length) (t := ia l) ⟨hi2.1, h⟩ hb
            repeat' (first
              | (refine Goal.loud (o := ⟨some 102, _, _, _, _, _⟩) rfl ?_; refine Loud.callM ([_]) (G := B) (cancelQ hA (i2 + 1)) rfl rfl rfl rfl T.bod_14 (fun _ h => by first | exact h | simpa only [List.append_eq, List.append_assoc, List.cons_append, List.nil_append, List.append_nil] using h) ?_; intro A2 h2; rw [k2] at h2; rw [k1, if_pos rfl])
              | (refine Goal.loud (o := ⟨some 108, _, _, _, _, _⟩) rfl ?_; refine Loud.callM ([_]) (G := B) (cancelQ h2 (i2 + 1)) rfl rfl rfl rfl T.bod_14 (fun _ h => by first | exact h | simpa only [List.append_eq, List.append_assoc, List.cons_append, List.nil_append, List.append_nil] using h) ?_; intro A3 h3; rw [k4] at h3; rw [k3, if_neg (by decide)])
              | (refine Goal.loud (o := ⟨some 41, _, _, _, _, _⟩) rfl ?_; first | refine Loud.makeSlice rfl T.slc_34 T.inf_4 rfl rfl (by decide) rfl rfl rfl rfl (by omega) (by omega) (by omega) (fun b41 => ?_) | refine Loud.makeSlice rfl T.slc_34 T.inf_4 rfl rfl (by decide) rfl rfl (Int.toNat_of_nonneg (by omega)).symm (Int.toNat_of_nonneg (by omega)).symm (by omega) (by omega) (by omega) (fun b41 => ?_))
              | (apply G.move; exact rfl; exact rfl)
              | (apply G.assign; exact rfl; exact rfl)
              | refine Goal.seq (fun _ _ => ?_)
              | refine Goal.next (by assumption) ?_
              | refine Goal.lnil ?_
              | refine Goal.region ?_
              | refine Goal.skip ?_
              | refine Goal.block ?_
              | refine Goal.exit ?_
              | refine Goal.ret ?_
              | refine Goal.then_exit ?_
              | refine Goal.then_ret ?_
              | refine Goal.inBlock_exit ?_
              | refine Goal.inBlock_normal ?_
              | refine Goal.inBlock_ret ?_
              | refine Goal.inBlock_other rfl ?_
              | (apply Goal.condT; exact rfl)
              | (apply Goal.condF; exact rfl)
              | (refine Goal.condD rfl (fun hc => ?_) (fun hc => ?_) <;> first | (exfalso; omega) | contradiction | skip)
              | refine Goal.condB rfl (fun hc => ?_) (fun hc => ?_)
              | refine Goal.guardT rfl rfl ?_
              | refine Goal.guardF rfl rfl rfl rfl ?_
              | refine Goal.guardU rfl rfl rfl ?_
              | (refine Goal.guardD rfl rfl (fun hc => ?_) (fun hc => ?_) <;> first | (exfalso; omega) | contradiction | skip)
              | refine Goal.guardB rfl rfl (fun hc => ?_) (fun hc => ?_)
              | (apply G.load; exact rfl; exact rfl; first | exact LoadOK.baE T.one_4 0 rfl (by omega) hb | exact LoadOK.one (by first | exact T.one_4 | exact T.one_5) 0 rfl rfl | exact LoadOK.one (by first | exact T.one_4 | exact T.one_5) 1 rfl rfl | exact LoadOK.one (by first | exact T.one_4 | exact T.one_5) 2 rfl rfl | exact LoadOK.one (by first | exact T.one_4 | exact T.one_5) 3 rfl rfl | exact LoadOK.one (by first | exact T.one_4 | exact T.one_5) 4 rfl rfl | exact LoadOK.one (by first | exact T.one_4 | exact T.one_5) 5 rfl rfl | exact LoadOK.one (by first | exact T.one_4 | exact T.one_5) 6 rfl rfl | exact LoadOK.one (by first | exact T.one_4 | exact T.one_5) 7 rfl rfl)
              | (apply G.pickT; exact rfl; exact rfl; exact rfl)
              | (apply G.pickF; exact rfl; exact rfl; exact rfl)
              | (apply G.lss; exact rfl; exact rfl; exact rfl)
              | (apply G.gtr; exact rfl; exact rfl; exact rfl)
              | (apply G.eql; exact rfl; exact rfl; exact rfl)
              | (apply G.neq; exact rfl; exact rfl; exact rfl)
              | (apply G.add; exact rfl; exact rfl; exact rfl; first | exact IntWalk.i64_in _ (by omega) | exact IntWalk.u8_in _ (by omega) | exact IntWalk.u16_in _ (by omega) | exact IntWalk.u32_in _ (by omega) | exact IntWalk.u64_in _ (by omega))
              | (apply G.eqlB; exact rfl; exact T.boo_4; exact rfl; exact rfl)
              | (apply G.neqB; exact rfl; exact T.boo_4; exact rfl; exact rfl)
              | (apply G.rem; exact rfl; exact rfl; exact rfl; (first | decide | omega); exact IntWalk.rem_in _ _ (by omega))
              | (apply G.conv; exact rfl; exact rfl; (first | exact T.int_3 | exact T.int_5); (first | exact T.int_3 | exact T.int_5); first | exact IntWalk.i64_in _ (by omega) | exact IntWalk.u8_in _ (by omega) | exact IntWalk.u16_in _ (by omega) | exact IntWalk.u32_in _ (by omega) | exact IntWalk.u64_in _ (by omega))
              | (apply G.notT; exact rfl; exact rfl)
              | (apply G.notF; exact rfl; exact rfl)
              | (refine G.notD rfl rfl ?_)
              | (apply G.notB; exact rfl; exact rfl)
              | (apply G.extract; exact rfl; exact rfl; exact rfl)
              | (apply G.len; exact rfl; exact rfl; (first | exact T.slc_22 | exact T.slc_34))
              | (refine G.indexAddr1 rfl (by first | exact T.slc_22 | exact T.slc_34) (by first | exact T.sz_4 | exact T.sz_5) rfl rfl _ rfl (by omega) ?_)
              | (refine G.indexAddr1 rfl (by first | exact T.slc_22 | exact T.slc_34) (by first | exact T.sz_4 | exact T.sz_5) rfl rfl _ (Int.toNat_of_nonneg (by omega)).symm (by omega) ?_)
              | (refine Goal.loud rfl ?_; refine Loud.store0 rfl rfl T.sz_4 rfl rfl rfl (by first | exact Nat.le_of_ble_eq_true rfl | exact Nat.le_refl _ | decide | (simp; omega)) rfl ?_)
              | (refine Goal.loud rfl ?_; refine Loud.store1 rfl rfl T.sz_4 rfl rfl rfl (by first | exact Nat.le_of_ble_eq_true rfl | exact Nat.le_refl _ | decide | (simp; omega)) rfl ?_)
              | (refine Goal.loud rfl ?_; refine Loud.store2 rfl rfl T.sz_4 rfl rfl rfl (by first | exact Nat.le_of_ble_eq_true rfl | exact Nat.le_refl _ | decide | (simp; omega)) rfl ?_)
              | (refine Goal.loud rfl ?_; refine Loud.store3 rfl rfl T.sz_4 rfl rfl rfl (by first | exact Nat.le_of_ble_eq_true rfl | exact Nat.le_refl _ | decide | (simp; omega)) rfl ?_)
              | (refine Goal.loud rfl ?_; refine Loud.store4 rfl rfl T.sz_4 rfl rfl rfl (by first | exact Nat.le_of_ble_eq_true rfl | exact Nat.le_refl _ | decide | (simp; omega)) rfl ?_)
              | (refine Goal.loud rfl ?_; refine Loud.store5 rfl rfl T.sz_4 rfl rfl rfl (by first | exact Nat.le_of_ble_eq_true rfl | exact Nat.le_refl _ | decide | (simp; omega)) rfl ?_)
              | (refine Goal.loud rfl ?_; refine Loud.store6 rfl rfl T.sz_4 rfl rfl rfl (by first | exact Nat.le_of_ble_eq_true rfl | exact Nat.le_refl _ | decide | (simp; omega)) rfl ?_)
              | (refine Goal.loud rfl ?_; refine Loud.store7 rfl rfl T.sz_4 rfl rfl rfl (by first | exact Nat.le_of_ble_eq_true rfl | exact Nat.le_refl _ | decide | (simp; omega)) rfl ?_))
            refine Goal.again ⟨i2 + 1, A3⟩ ⟨by dsimp only; omega, h3⟩ (by dsimp only; omega) ⟨rfl, rfl, rfl, rfl, rfl, rfl, trivial⟩ (fun _ h => h)
        · rw [keep_all (by omega)] at hA
          have hkl := keepA_len (o := out) (n := l.length) (t := ia l)
          repeat' (first
            | (refine Goal.loud (o := ⟨some 41, _, _, _, _, _⟩) rfl ?_; first | refine Loud.makeSlice rfl T.slc_34 T.inf_4 rfl rfl (by decide) rfl rfl rfl rfl (by omega) (by omega) (by omega) (fun b41 => ?_) | refine Loud.makeSlice rfl T.slc_34 T.inf_4 rfl rfl (by decide) rfl rfl (Int.toNat_of_nonneg (by omega)).symm (Int.toNat_of_nonneg (by omega)).symm (by omega) (by omega) (by omega) (fun b41 => ?_))
            | (apply G.move; exact rfl; exact rfl)
            | (apply G.assign; exact rfl; exact rfl)
            | refine Goal.seq (fun _ _ => ?_)
            | refine Goal.next (by assumption) ?_
            | refine Goal.lnil ?_
            | refine Goal.region ?_
            | refine Goal.skip ?_
            | refine Goal.block ?_
            | refine Goal.exit ?_
            | refine Goal.ret ?_
            | refine Goal.then_exit ?_
            | refine Goal.then_ret ?_
            | refine Goal.inBlock_exit ?_
            | refine Goal.inBlock_normal ?_
            | refine Goal.inBlock_ret ?_
            | refine Goal.inBlock_other rfl ?_
            | (apply Goal.condT; exact rfl)
            | (apply Goal.condF; exact rfl)
            | (refine Goal.condD rfl (fun hc => ?_) (fun hc => ?_) <;> first | (exfalso; omega) | contradiction | skip)
            | refine Goal.condB rfl (fun hc => ?_) (fun hc => ?_)
            | refine Goal.guardT rfl rfl ?_
            | refine Goal.guardF rfl rfl rfl rfl ?_
            | refine Goal.guardU rfl rfl rfl ?_
            | (refine Goal.guardD rfl rfl (fun hc => ?_) (fun hc => ?_) <;> first | (exfalso; omega) | contradiction | skip)
            | refine Goal.guardB rfl rfl (fun hc => ?_) (fun hc => ?_)
            | (apply G.load; exact rfl; exact rfl; first | exact LoadOK.one (by first | exact T.one_4 | exact T.one_5) 0 rfl rfl | exact LoadOK.one (by first | exact T.one_4 | exact T.one_5) 1 rfl rfl | exact LoadOK.one (by first | exact T.one_4 | exact T.one_5) 2 rfl rfl | exact LoadOK.one (by first | exact T.one_4 | exact T.one_5) 3 rfl rfl | exact LoadOK.one (by first | exact T.one_4 | exact T.one_5) 4 rfl rfl | exact LoadOK.one (by first | exact T.one_4 | exact T.one_5) 5 rfl rfl | exact LoadOK.one (by first | exact T.one_4 | exact T.one_5) 6 rfl rfl | exact LoadOK.one (by first | exact T.one_4 | exact T.one_5) 7 rfl rfl)
            | (apply G.pickT; exact rfl; exact rfl; exact rfl)
            | (apply G.pickF; exact rfl; exact rfl; exact rfl)
            | (apply G.lss; exact rfl; exact rfl; exact rfl)
            | (apply G.gtr; exact rfl; exact rfl; exact rfl)
            | (apply G.eql; exact rfl; exact rfl; exact rfl)
            | (apply G.neq; exact rfl; exact rfl; exact rfl)
            | (apply G.add; exact rfl; exact rfl; exact rfl; first | exact IntWalk.i64_in _ (by omega) | exact IntWalk.u8_in _ (by omega) | exact IntWalk.u16_in _ (by omega) | exact IntWalk.u32_in _ (by omega) | exact IntWalk.u64_in _ (by omega))
            | (apply G.eqlB; exact rfl; exact T.boo_4; exact rfl; exact rfl)
            | (apply G.neqB; exact rfl; exact T.boo_4; exact rfl; exact rfl)
            | (apply G.rem; exact rfl; exact rfl; exact rfl; (first | decide | omega); exact IntWalk.rem_in _ _ (by omega))
            | (apply G.conv; exact rfl; exact rfl; (first | exact T.int_3 | exact T.int_5); (first | exact T.int_3 | exact T.int_5); first | exact IntWalk.i64_in _ (by omega) | exact IntWalk.u8_in _ (by omega) | exact IntWalk.u16_in _ (by omega) | exact IntWalk.u32_in _ (by omega) | exact IntWalk.u64_in _ (by omega))
            | (apply G.notT; exact rfl; exact rfl)
            | (apply G.notF; exact rfl; exact rfl)
            | (refine G.notD rfl rfl ?_)
            | (apply G.notB; exact rfl; exact rfl)
            | (apply G.extract; exact rfl; exact rfl; exact rfl)
            | (apply G.len; exact rfl; exact rfl; (first | exact T.slc_22 | exact T.slc_34))
            | (refine G.indexAddr1 rfl (by first | exact T.slc_22 | exact T.slc_34) (by first | exact T.sz_4 | exact T.sz_5) rfl rfl _ rfl (by omega) ?_)
            | (refine G.indexAddr1 rfl (by first | exact T.slc_22 | exact T.slc_34) (by first | exact T.sz_4 | exact T.sz_5) rfl rfl _ (Int.toNat_of_nonneg (by omega)).symm (by omega) ?_)
            | (refine Goal.loud rfl ?_; refine Loud.store0 rfl rfl T.sz_4 rfl rfl rfl (by first | exact Nat.le_of_ble_eq_true rfl | exact Nat.le_refl _ | decide | (simp; omega)) rfl ?_)
            | (refine Goal.loud rfl ?_; refine Loud.store1 rfl rfl T.sz_4 rfl rfl rfl (by first | exact Nat.le_of_ble_eq_true rfl | exact Nat.le_refl _ | decide | (simp; omega)) rfl ?_)
            | (refine Goal.loud rfl ?_; refine Loud.store2 rfl rfl T.sz_4 rfl rfl rfl (by first | exact Nat.le_of_ble_eq_true rfl | exact Nat.le_refl _ | decide | (simp; omega)) rfl ?_)
            | (refine Goal.loud rfl ?_; refine Loud.store3 rfl rfl T.sz_4 rfl rfl rfl (by first | exact Nat.le_of_ble_eq_true rfl | exact Nat.le_refl _ | decide | (simp; omega)) rfl ?_)
            | (refine Goal.loud rfl ?_; refine Loud.store4 rfl rfl T.sz_4 rfl rfl rfl (by first | exact Nat.le_of_ble_eq_true rfl | exact Nat.le_refl _ | decide | (simp; omega)) rfl ?_)
            | (refine Goal.loud rfl ?_; refine Loud.store5 rfl rfl T.sz_4 rfl rfl rfl (by first | exact Nat.le_of_ble_eq_true rfl | exact Nat.le_refl _ | decide | (simp; omega)) rfl ?_)
            | (refine Goal.loud rfl ?_; refine Loud.store6 rfl rfl T.sz_4 rfl rfl rfl (by first | exact Nat.le_of_ble_eq_true rfl | exact Nat.le_refl _ | decide | (simp; omega)) rfl ?_)
            | (refine Goal.loud rfl ?_; refine Loud.store7 rfl rfl T.sz_4 rfl rfl rfl (by first | exact Nat.le_of_ble_eq_true rfl | exact Nat.le_refl _ | decide | (simp; omega)) rfl ?_))
          refine Goal.loopP (X := XD) (fun x => [(5, .pointer (some ⟨bq, 0, none⟩)), (6, .pointer (some ⟨br, 0, none⟩)), (115, .int .i64 (l.length + 1)), (116, .int .i64 x.k)]) (fun x => x.A ++ x.B)
            (fun x => (0 ≤ x.k ∧ x.k ≤ l.length + 1) ∧ QM bq x.E x.nq j x.A ∧ QM br x.F x.nr lr x.B ∧ td x.E = td x.F ∧ (x.E.length : Int) ≤ l.length + 1 - x.k) (fun x => (l.length + 1 - x.k).toNat) ⟨0, 0, 0, keepA out (evr l.length (ia l)), F, A, B⟩ ⟨rfl, rfl, rfl, rfl, trivial⟩ (fun _ h => St.drop1 h) ⟨by dsimp only; omega, hA, hB, htd, by dsimp only; omega⟩ ?_
          clear hA hB htd hkl
          rintro ⟨k, nq, nr, E, F, A, B⟩ ⟨hk2, hA, hB, htd, hEl⟩
          dsimp only at hk2 hA hB htd hEl ⊢
          by_cases h : k < l.length + 1
          · skip
            repeat' (first
              | (refine Goal.loud (o := ⟨some 120, _, _, _, _, _⟩) rfl ?_; refine Loud.callM ([]) (G := B) (nextQ hA) rfl rfl rfl rfl T.bod_12 (fun _ h => by first | exact h | simpa only [List.append_eq, List.append_assoc, List.cons_append, List.nil_append, List.append_nil] using h) ?_; rintro ⟨k1, d1, ok1, A2⟩ h2; dsimp only at h2 ⊢)
              | (refine Goal.loud (o := ⟨some 126, _, _, _, _, _⟩) rfl ?_; refine Loud.callE (A2) (nextQ hB) rfl rfl rfl rfl T.bod_12 (fun _ h => h) ?_; rintro ⟨k2, d2, ok2, B2⟩ g2; dsimp only at g2 ⊢; obtain ⟨rfl, rfl, rfl, E', F', n1, n2, e1, e2, e3, e4⟩ := nx_same htd h2 g2)
              | (refine Goal.loud (o := ⟨some 41, _, _, _, _, _⟩) rfl ?_; first | refine Loud.makeSlice rfl T.slc_34 T.inf_4 rfl rfl (by decide) rfl rfl rfl rfl (by omega) (by omega) (by omega) (fun b41 => ?_) | refine Loud.makeSlice rfl T.slc_34 T.inf_4 rfl rfl (by decide) rfl rfl (Int.toNat_of_nonneg (by omega)).symm (Int.toNat_of_nonneg (by omega)).symm (by omega) (by omega) (by omega) (fun b41 => ?_))
              | (apply G.move; exact rfl; exact rfl)
              | (apply G.assign; exact rfl; exact rfl)
              | refine Goal.seq (fun _ _ => ?_)
              | refine Goal.next (by assumption) ?_
              | refine Goal.lnil ?_
              | refine Goal.region ?_
              | refine Goal.skip ?_
              | refine Goal.block ?_
              | refine Goal.exit ?_
              | refine Goal.ret ?_
              | refine Goal.then_exit ?_
              | refine Goal.then_ret ?_
              | refine Goal.inBlock_exit ?_
              | refine Goal.inBlock_normal ?_
              | refine Goal.inBlock_ret ?_
              | refine Goal.inBlock_other rfl ?_
              | (apply Goal.condT; exact rfl)
              | (apply Goal.condF; exact rfl)
              | (refine Goal.condD rfl (fun hc => ?_) (fun hc => ?_) <;> first | (exfalso; omega) | contradiction | skip)
              | refine Goal.condB rfl (fun hc => ?_) (fun hc => ?_)
              | refine Goal.guardT rfl rfl ?_
              | refine Goal.guardF rfl rfl rfl rfl ?_
              | refine Goal.guardU rfl rfl rfl ?_
              | (refine Goal.guardD rfl rfl (fun hc => ?_) (fun hc => ?_) <;> first | (exfalso; omega) | contradiction | skip)
              | refine Goal.guardB rfl rfl (fun hc => ?_) (fun hc => ?_)
              | (apply G.load; exact rfl; exact rfl; first | exact LoadOK.one (by first | exact T.one_4 | exact T.one_5) 0 rfl rfl | exact LoadOK.one (by first | exact T.one_4 | exact T.one_5) 1 rfl rfl | exact LoadOK.one (by first | exact T.one_4 | exact T.one_5) 2 rfl rfl | exact LoadOK.one (by first | exact T.one_4 | exact T.one_5) 3 rfl rfl | exact LoadOK.one (by first | exact T.one_4 | exact T.one_5) 4 rfl rfl | exact LoadOK.one (by first | exact T.one_4 | exact T.one_5) 5 rfl rfl | exact LoadOK.one (by first | exact T.one_4 | exact T.one_5) 6 rfl rfl | exact LoadOK.one (by first | exact T.one_4 | exact T.one_5) 7 rfl rfl)
              | (apply G.pickT; exact rfl; exact rfl; exact rfl)
              | (apply G.pickF; exact rfl; exact rfl; exact rfl)
              | (apply G.lss; exact rfl; exact rfl; exact rfl)
              | (apply G.gtr; exact rfl; exact rfl; exact rfl)
              | (apply G.eql; exact rfl; exact rfl; exact rfl)
              | (apply G.neq; exact rfl; exact rfl; exact rfl)
              | (apply G.add; exact rfl; exact rfl; exact rfl; first | exact IntWalk.i64_in _ (by omega) | exact IntWalk.u8_in _ (by omega) | exact IntWalk.u16_in _ (by omega) | exact IntWalk.u32_in _ (by omega) | exact IntWalk.u64_in _ (by omega))
              | (apply G.eqlB; exact rfl; exact T.boo_4; exact rfl; exact rfl)
              | (apply G.neqB; exact rfl; exact T.boo_4; exact rfl; exact rfl)
              | (apply G.rem; exact rfl; exact rfl; exact rfl; (first | decide | omega); exact IntWalk.rem_in _ _ (by omega))
              | (apply G.conv; exact rfl; exact rfl; (first | exact T.int_3 | exact T.int_5); (first | exact T.int_3 | exact T.int_5); first | exact IntWalk.i64_in _ (by omega) | exact IntWalk.u8_in _ (by omega) | exact IntWalk.u16_in _ (by omega) | exact IntWalk.u32_in _ (by omega) | exact IntWalk.u64_in _ (by omega))
              | (apply G.notT; exact rfl; exact rfl)
              | (apply G.notF; exact rfl; exact rfl)
              | (refine G.notD rfl rfl ?_)
              | (apply G.notB; exact rfl; exact rfl)
              | (apply G.extract; exact rfl; exact rfl; exact rfl)
              | (apply G.len; exact rfl; exact rfl; (first | exact T.slc_22 | exact T.slc_34))
              | (refine G.indexAddr1 rfl (by first | exact T.slc_22 | exact T.slc_34) (by first | exact T.sz_4 | exact T.sz_5) rfl rfl _ rfl (by omega) ?_)
              | (refine G.indexAddr1 rfl (by first | exact T.slc_22 | exact T.slc_34) (by first | exact T.sz_4 | exact T.sz_5) rfl rfl _ (Int.toNat_of_nonneg (by omega)).symm (by omega) ?_)
              | (refine Goal.loud rfl ?_; refine Loud.store0 rfl rfl T.sz_4 rfl rfl rfl (by first | exact Nat.le_of_ble_eq_true rfl | exact Nat.le_refl _ | decide | (simp; omega)) rfl ?_)
              | (refine Goal.loud rfl ?_; refine Loud.store1 rfl rfl T.sz_4 rfl rfl rfl (by first | exact Nat.le_of_ble_eq_true rfl | exact Nat.le_refl _ | decide | (simp; omega)) rfl ?_)
              | (refine Goal.loud rfl ?_; refine Loud.store2 rfl rfl T.sz_4 rfl rfl rfl (by first | exact Nat.le_of_ble_eq_true rfl | exact Nat.le_refl _ | decide | (simp; omega)) rfl ?_)
              | (refine Goal.loud rfl ?_; refine Loud.store3 rfl rfl T.sz_4 rfl rfl rfl (by first | exact Nat.le_of_ble_eq_true rfl | exact Nat.le_refl _ | decide | (simp; omega)) rfl ?_)
              | (refine Goal.loud rfl ?_; refine Loud.store4 rfl rfl T.sz_4 rfl rfl rfl (by first | exact Nat.le_of_ble_eq_true rfl | exact Nat.le_refl _ | decide | (simp; omega)) rfl ?_)
              | (refine Goal.loud rfl ?_; refine Loud.store5 rfl rfl T.sz_4 rfl rfl rfl (by first | exact Nat.le_of_ble_eq_true rfl | exact Nat.le_refl _ | decide | (simp; omega)) rfl ?_)
              | (refine Goal.loud rfl ?_; refine Loud.store6 rfl rfl T.sz_4 rfl rfl rfl (by first | exact Nat.le_of_ble_eq_true rfl | exact Nat.le_refl _ | decide | (simp; omega)) rfl ?_)
              | (refine Goal.loud rfl ?_; refine Loud.store7 rfl rfl T.sz_4 rfl rfl rfl (by first | exact Nat.le_of_ble_eq_true rfl | exact Nat.le_refl _ | decide | (simp; omega)) rfl ?_))
            refine Goal.again ⟨k + 1, n1, n2, E', F', A2, B2⟩ ⟨by dsimp only; omega, e2, e3, e1, by dsimp only; omega⟩ (by dsimp only; omega) ⟨rfl, rfl, rfl, rfl, trivial⟩ (fun _ h => h)
          · have hE0 : E.length = 0 := by omega
            repeat' (first
              | (refine Goal.loud (o := ⟨some 145, _, _, _, _, _⟩) rfl ?_; refine Loud.callM ([]) (G := B) (lenQ hA) rfl rfl rfl rfl T.bod_13 (fun _ h => by first | exact h | simpa only [List.append_eq, List.append_assoc, List.cons_append, List.nil_append, List.append_nil] using h) ?_; rintro ⟨⟩ -)
              | (refine Goal.loud (o := ⟨some 41, _, _, _, _, _⟩) rfl ?_; first | refine Loud.makeSlice rfl T.slc_34 T.inf_4 rfl rfl (by decide) rfl rfl rfl rfl (by omega) (by omega) (by omega) (fun b41 => ?_) | refine Loud.makeSlice rfl T.slc_34 T.inf_4 rfl rfl (by decide) rfl rfl (Int.toNat_of_nonneg (by omega)).symm (Int.toNat_of_nonneg (by omega)).symm (by omega) (by omega) (by omega) (fun b41 => ?_))
              | (apply G.move; exact rfl; exact rfl)
              | (apply G.assign; exact rfl; exact rfl)
              | refine Goal.seq (fun _ _ => ?_)
              | refine Goal.next (by assumption) ?_
              | refine Goal.lnil ?_
              | refine Goal.region ?_
              | refine Goal.skip ?_
              | refine Goal.block ?_
              | refine Goal.exit ?_
              | refine Goal.ret ?_
              | refine Goal.then_exit ?_
              | refine Goal.then_ret ?_
              | refine Goal.inBlock_exit ?_
              | refine Goal.inBlock_normal ?_
              | refine Goal.inBlock_ret ?_
              | refine Goal.inBlock_other rfl ?_
              | (apply Goal.condT; exact rfl)
              | (apply Goal.condF; exact rfl)
              | (refine Goal.condD rfl (fun hc => ?_) (fun hc => ?_) <;> first | (exfalso; omega) | contradiction | skip)
              | refine Goal.condB rfl (fun hc => ?_) (fun hc => ?_)
              | refine Goal.guardT rfl rfl ?_
              | refine Goal.guardF rfl rfl rfl rfl ?_
              | refine Goal.guardU rfl rfl rfl ?_
              | (refine Goal.guardD rfl rfl (fun hc => ?_) (fun hc => ?_) <;> first | (exfalso; omega) | contradiction | skip)
              | refine Goal.guardB rfl rfl (fun hc => ?_) (fun hc => ?_)
              | (apply G.load; exact rfl; exact rfl; first | exact LoadOK.one (by first | exact T.one_4 | exact T.one_5) 0 rfl rfl | exact LoadOK.one (by first | exact T.one_4 | exact T.one_5) 1 rfl rfl | exact LoadOK.one (by first | exact T.one_4 | exact T.one_5) 2 rfl rfl | exact LoadOK.one (by first | exact T.one_4 | exact T.one_5) 3 rfl rfl | exact LoadOK.one (by first | exact T.one_4 | exact T.one_5) 4 rfl rfl | exact LoadOK.one (by first | exact T.one_4 | exact T.one_5) 5 rfl rfl | exact LoadOK.one (by first | exact T.one_4 | exact T.one_5) 6 rfl rfl | exact LoadOK.one (by first | exact T.one_4 | exact T.one_5) 7 rfl rfl)
              | (apply G.pickT; exact rfl; exact rfl; exact rfl)
              | (apply G.pickF; exact rfl; exact rfl; exact rfl)
              | (apply G.lss; exact rfl; exact rfl; exact rfl)
              | (apply G.gtr; exact rfl; exact rfl; exact rfl)
              | (apply G.eql; exact rfl; exact rfl; exact rfl)
              | (apply G.neq; exact rfl; exact rfl; exact rfl)
              | (apply G.add; exact rfl; exact rfl; exact rfl; first | exact IntWalk.i64_in _ (by omega) | exact IntWalk.u8_in _ (by omega) | exact IntWalk.u16_in _ (by omega) | exact IntWalk.u32_in _ (by omega) | exact IntWalk.u64_in _ (by omega))
              | (apply G.eqlB; exact rfl; exact T.boo_4; exact rfl; exact rfl)
              | (apply G.neqB; exact rfl; exact T.boo_4; exact rfl; exact rfl)
              | (apply G.rem; exact rfl; exact rfl; exact rfl; (first | decide | omega); exact IntWalk.rem_in _ _ (by omega))
              | (apply G.conv; exact rfl; exact rfl; (first | exact T.int_3 | exact T.int_5); (first | exact T.int_3 | exact T.int_5); first | exact IntWalk.i64_in _ (by omega) | exact IntWalk.u8_in _ (by omega) | exact IntWalk.u16_in _ (by omega) | exact IntWalk.u32_in _ (by omega) | exact IntWalk.u64_in _ (by omega))
              | (apply G.notT; exact rfl; exact rfl)
              | (apply G.notF; exact rfl; exact rfl)
              | (refine G.notD rfl rfl ?_)
              | (apply G.notB; exact rfl; exact rfl)
              | (apply G.extract; exact rfl; exact rfl; exact rfl)
              | (apply G.len; exact rfl; exact rfl; (first | exact T.slc_22 | exact T.slc_34))
              | (refine G.indexAddr1 rfl (by first | exact T.slc_22 | exact T.slc_34) (by first | exact T.sz_4 | exact T.sz_5) rfl rfl _ rfl (by omega) ?_)
              | (refine G.indexAddr1 rfl (by first | exact T.slc_22 | exact T.slc_34) (by first | exact T.sz_4 | exact T.sz_5) rfl rfl _ (Int.toNat_of_nonneg (by omega)).symm (by omega) ?_)
              | (refine Goal.loud rfl ?_; refine Loud.store0 rfl rfl T.sz_4 rfl rfl rfl (by first | exact Nat.le_of_ble_eq_true rfl | exact Nat.le_refl _ | decide | (simp; omega)) rfl ?_)
              | (refine Goal.loud rfl ?_; refine Loud.store1 rfl rfl T.sz_4 rfl rfl rfl (by first | exact Nat.le_of_ble_eq_true rfl | exact Nat.le_refl _ | decide | (simp; omega)) rfl ?_)
              | (refine Goal.loud rfl ?_; refine Loud.store2 rfl rfl T.sz_4 rfl rfl rfl (by first | exact Nat.le_of_ble_eq_true rfl | exact Nat.le_refl _ | decide | (simp; omega)) rfl ?_)
              | (refine Goal.loud rfl ?_; refine Loud.store3 rfl rfl T.sz_4 rfl rfl rfl (by first | exact Nat.le_of_ble_eq_true rfl | exact Nat.le_refl _ | decide | (simp; omega)) rfl ?_)
              | (refine Goal.loud rfl ?_; refine Loud.store4 rfl rfl T.sz_4 rfl rfl rfl (by first | exact Nat.le_of_ble_eq_true rfl | exact Nat.le_refl _ | decide | (simp; omega)) rfl ?_)
              | (refine Goal.loud rfl ?_; refine Loud.store5 rfl rfl T.sz_4 rfl rfl rfl (by first | exact Nat.le_of_ble_eq_true rfl | exact Nat.le_refl _ | decide | (simp; omega)) rfl ?_)
              | (refine Goal.loud rfl ?_; refine Loud.store6 rfl rfl T.sz_4 rfl rfl rfl (by first | exact Nat.le_of_ble_eq_true rfl | exact Nat.le_refl _ | decide | (simp; omega)) rfl ?_)
              | (refine Goal.loud rfl ?_; refine Loud.store7 rfl rfl T.sz_4 rfl rfl rfl (by first | exact Nat.le_of_ble_eq_true rfl | exact Nat.le_refl _ | decide | (simp; omega)) rfl ?_))
            refine Goal.done (vs := [_]) (by first | exact .inl rfl | exact .inr rfl) Try.results4 ⟨rfl, trivial⟩ rfl (fun w' H => ⟨ret_bool (by simp [hE0]), H.mod⟩)
end Go.Proofs.Ytcekjnfdgbeekaa
