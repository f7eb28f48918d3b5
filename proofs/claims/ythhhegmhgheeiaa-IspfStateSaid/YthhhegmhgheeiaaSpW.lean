/- Package spf: the search. -/
import Derived.Test.YthhhegmhgheeiaaSpV
import Derived.Test.YthhhegmhgheeiaaHpY
namespace Go.Proofs.Ythhhegmhgheeiaa
open Go.Wf
set_option linter.unusedVariables false
/-- A function value that yields, for a node, the slice of its arcs. -/
structure FolOk (f : FuncId) (cs : List Value) (w : World) (n : Int) (fol : Int → List Int) : Prop where
  bod : Bod Try.prog f
  call : ∀ x, 0 ≤ x → x < n → ∃ v, RdV w v (ints (fol x)) ∧ ∀ w', Mod [] w w' → Calls Try.prog f (.int .i64 x :: cs).toArray w' fun e w'' => e = .returned v ∧ Mod [] w' w''
/-- A function value that yields an arc's end. -/
structure EndOk (f : FuncId) (cs : List Value) (w : World) (k : Int) (en : Int → Int) : Prop where
  bod : Bod Try.prog f
  call : ∀ a, 0 ≤ a → a < k → ∀ w', Mod [] w w' → Calls Try.prog f (.int .i64 a :: cs).toArray w' fun e w'' => e = .returned (.int .i64 (en a)) ∧ Mod [] w' w''
/-- The arcs of the search. -/
def GS (tp : Top) (dn : List Bool) (r : Int) (fol : Int → List Int) (en : Int → Int) : Gr := fun x y c => ∃ a ∈ fol y, ba dn a = false ∧ (y = r ∨ tp.over y = false) ∧ (0 ≤ y ∧ y < tp.n) ∧ x = en a ∧ c = tp.co a
structure FolG (tp : Top) (fol : Int → List Int) (en : Int → Int) : Prop where
  arc : ∀ y, 0 ≤ y → y < tp.n → ∀ a ∈ fol y, 0 ≤ a ∧ a < tp.arcs
  len : ∀ y, 0 ≤ y → y < tp.n → (fol y).length ≤ 512
  en : ∀ a, 0 ≤ a → a < tp.arcs → 0 ≤ en a ∧ en a < tp.n
section
variable {tp : Top} {dn : List Bool} {r : Int} {fol : Int → List Int} {en : Int → Int}
theorem GS.ok (ht : tp.Ok) (hg : FolG tp fol en) : GOK tp.n (GS tp dn r fol en) := ⟨fun x y c ⟨a, ha, _, _, hy, hx, hc⟩ => by
  have h1 := hg.arc y hy.1 hy.2 a ha
  obtain ⟨_, _, h3, _⟩ := ht.arc h1
  subst hx hc
  exact ⟨hg.en a h1.1 h1.2, hy, h3.1⟩⟩
theorem GS.cap (ht : tp.Ok) (hg : FolG tp fol en) : ∀ x y c, GS tp dn r fol en x y c → c ≤ 65535 := fun x y c ⟨a, ha, _, _, hy, hx, hc⟩ => by
  obtain ⟨_, _, h3, _⟩ := ht.arc (hg.arc y hy.1 hy.2 a ha)
  subst hc
  exact h3.2
end
structure WI where
  (i : Int) (l : List Int)
structure WM where
  (l : List Int) (m : Int → Option Int) (top : Int) (A : List Blk)
structure WJ where
  (j : Int) (m : Int → Option Int) (A : List Blk)
structure WR where
  (b : Nat) (l : List Int)
theorem ia_all {n : Nat} {v : Int} {l : List Int} (hl : l.length = n) (h : ∀ x : Int, 0 ≤ x → x < n → ia l x = v) : cntN l = if 0 ≤ v then n else 0 := by
  have : l = List.replicate n v := ia_ext (by simp [hl]) fun x x0 x1 => by
    rw [h x x0 (by omega)]
    unfold ia
    rw [List.getD_eq_getElem?_getD, List.getElem?_replicate, if_pos (by omega)]
    rfl
  rw [this]
  have hs : ∀ (k c : Nat), (List.replicate k c).sum = k * c := fun k c => by
    induction k with
    | zero => simp
    | succ k ih => rw [List.replicate_succ, List.sum_cons, ih, Nat.add_mul]; omega
  unfold cntN nn
  rw [List.map_replicate, hs]
  split <;> simp
section
variable {w : World} {tp : Top} {vo vl vd : Value} {dn : List Bool} {r : Int} {f1 f2 : FuncId} {cs1 cs2 : List Value} {fol : Int → List Int} {en : Int → Int}
set_option maxHeartbeats 16000000 in
theorem run_ok (hT : TopR w vo vl tp) (hd : RdV w vd (bools dn)) (ht : tp.Ok) (hf : Fit tp dn) (hr : 0 ≤ r ∧ r < tp.n) (h1 : FolOk f1 cs1 w tp.n fol) (h2 : EndOk f2 cs2 w tp.arcs en) (hg : FolG tp fol en) :
    Calls Try.prog 69 #[.agg #[.int .i64 tp.n, vo, vl, vd, .int .i64 r, .func (.func f1) #[] cs1.toArray, .func (.func f2) #[] cs2.toArray]] w
      fun e w' => ∃ x : WR, DL tp.n r (GS tp dn r fol en) x.l ∧ e = .returned (.slice (some ⟨x.b, 0, none⟩) x.l.length x.l.length) ∧ St w [] w' [(x.b, .cells (ints x.l).toArray 3)] := by
  have hn := ht.n
  have hln := ht.ln
  have hk := GS.ok (dn := dn) (r := r) ht hg
  have hC := GS.cap (dn := dn) (r := r) ht hg
  refine Goal.enter (args := [.agg #[.int .i64 tp.n, vo, vl, vd, .int .i64 r, .func (.func f1) #[] cs1.toArray, .func (.func f2) #[] cs2.toArray]]) Try.func69 rfl Try.ntmps69 rfl (St.nil w) ?_
  repeat' (first | (refine Goal.loud (o := ⟨some 1, _, _, _, _, _⟩) rfl ?_; refine Loud.boxA rfl rfl (fun b1 => ?_)) | (refine Goal.loud (o := ⟨some 19, _, _, _, _, _⟩) rfl ?_; refine Loud.makeSlice rfl T.slc_46 T.inf_3 rfl rfl (by decide) rfl rfl (Int.toNat_of_nonneg (by omega)).symm (Int.toNat_of_nonneg (by omega)).symm (by omega) (by omega) (by omega) (fun b19 => ?_)) | (apply G.move; exact rfl; exact rfl) | (apply G.assign; exact rfl; exact rfl) | refine Goal.seq (fun _ _ => ?_) | refine Goal.next (by assumption) ?_ | refine Goal.lnil ?_ | refine Goal.region ?_ | refine Goal.block ?_ | (apply G.fieldAddr; exact rfl; exact rfl; (first | exact T.fld_25_0 | exact T.fld_95_0)) | (apply G.load; exact rfl; exact rfl; ((refine LoadOK.one ?_ 0 rfl rfl); exact T.one_3)) | (apply G.len; exact rfl; exact rfl; exact T.slc_46))
  refine Goal.loopP (X := WI) (fun x => [(1, .pointer (some ⟨b1, 0, none⟩)), (3, .slice (some ⟨b19, 0, none⟩) tp.n.toNat tp.n.toNat), (21, .int .i64 tp.n), (22, .int .i64 x.i)]) (fun x => (b19, .cells (ints x.l).toArray 3) :: [(b1, .cells #[.int .i64 tp.n, vo, vl, vd, .int .i64 r, .func (.func f1) #[] cs1.toArray, .func (.func f2) #[] cs2.toArray] 95)])
    (fun x => (0 ≤ x.i ∧ x.i ≤ tp.n) ∧ (x.l.length : Int) = tp.n ∧ ∀ j : Int, 0 ≤ j → j < x.i → ia x.l j = -1) (fun x => (tp.n - x.i).toNat) ⟨0, List.replicate tp.n.toNat 0⟩ ⟨rfl, rfl, ?_, rfl, trivial⟩ (fun _ h => by rw [← rep_ints]; exact h) ⟨by dsimp only; omega, by simp; omega, fun j j0 j1 => by dsimp only at j1; omega⟩ ?_
  · exact congrArg (fun z : Int => some (Value.int .i64 z)) (by omega)
  rintro ⟨i, l⟩ ⟨hi, hll, hm1⟩
  dsimp only at hi hll hm1 ⊢
  by_cases h : i < tp.n
  · skip
    repeat' (first | (apply G.move; exact rfl; exact rfl) | (apply G.assign; exact rfl; exact rfl) | refine Goal.seq (fun _ _ => ?_) | refine Goal.next (by assumption) ?_ | refine Goal.lnil ?_ | refine Goal.region ?_ | refine Goal.skip ?_ | refine Goal.block ?_ | refine Goal.inBlock_normal ?_ | (refine Goal.condD rfl (fun hc => ?_) (fun hc => ?_) <;> first | (exfalso; omega) | skip) | (apply G.lss; exact rfl; exact rfl; exact rfl) | (apply G.add; exact rfl; exact rfl; exact rfl; exact IntWalk.i64_in _ (by omega)) | (refine G.indexAddr1 rfl T.slc_46 T.sz_3 rfl rfl _ (Int.toNat_of_nonneg (by omega)).symm (by omega) ?_) | (refine Goal.loud rfl ?_; refine Loud.store0 rfl rfl T.sz_3 rfl rfl rfl (by rw [List.size_toArray, ints_len]; omega) (wr_ints (by omega)) ?_))
    refine Goal.again ⟨i + 1, l.set i.toNat (-1)⟩ ⟨by dsimp only; omega, by simp [hll], fun j j0 j1 => ?_⟩ (by dsimp only; omega) ⟨rfl, rfl, rfl, rfl, trivial⟩ (fun _ h => h)
    dsimp only at j1 ⊢
    rw [ia_upd (by omega) (by omega)]
    by_cases e : i = j
    · rw [if_pos e]
    · rw [if_neg e]; exact hm1 j j0 (by omega)
  · obtain hil : i = tp.n := by omega
    subst hil
    have hcz := ia_all (n := tp.n.toNat) (v := -1) (by omega) (fun x x0 x1 => hm1 x x0 (by omega))
    rw [if_neg (by decide)] at hcz
    repeat' (first | (refine Goal.loud (o := ⟨some 33, _, _, _, _, _⟩) rfl ?_; apply Loud.callN; exact rfl; exact rfl; exact rfl; exact rfl; exact T.bod_83; exact (fun w' H => new_ok tp.n (by omega) w'); rintro ⟨bh, bk, bp, A1⟩ g1; dsimp only at g1 ⊢) | (refine Goal.loud (o := ⟨some 39, _, _, _, _, _⟩) rfl ?_; refine Loud.callE ([_, _]) (set_ok g1 (by omega) r 0) rfl rfl rfl rfl T.bod_84 (fun _ h => h) ?_; intro A2 g2) | (apply G.move; exact rfl; exact rfl) | (apply G.assign; exact rfl; exact rfl) | refine Goal.seq (fun _ _ => ?_) | refine Goal.next (by assumption) ?_ | refine Goal.lnil ?_ | refine Goal.region ?_ | refine Goal.block ?_ | refine Goal.exit ?_ | refine Goal.then_exit ?_ | refine Goal.inBlock_exit ?_ | (refine Goal.condD rfl (fun hc => ?_) (fun hc => ?_) <;> first | (exfalso; omega) | skip) | (apply G.fieldAddr; exact rfl; exact rfl; (first | exact T.fld_25_0 | exact T.fld_95_0 | exact T.fld_95_2)) | (apply G.load; exact rfl; exact rfl; ((refine LoadOK.one ?_ 1 rfl rfl); exact T.one_3)) | (apply G.lss; exact rfl; exact rfl; exact rfl) | (apply G.extract; exact rfl; exact rfl; exact rfl))
    rw [if_pos (by omega)] at g2 ⊢
    refine Goal.loopP (X := WM) (fun x => [(1, .pointer (some ⟨b1, 0, none⟩)), (3, .slice (some ⟨b19, 0, none⟩) tp.n.toNat tp.n.toNat), (5, .pointer (some ⟨bh, 0, none⟩))]) (fun x => (b19, .cells (ints x.l).toArray 3) :: (b1, .cells #[.int .i64 tp.n, vo, vl, vd, .int .i64 r, .func (.func f1) #[] cs1.toArray, .func (.func f2) #[] cs2.toArray] 95) :: x.A)
      (fun x => (x.l.length : Int) = tp.n ∧ HpA bh bk bp tp.n.toNat x.m x.A ∧ Dij tp.n r (GS tp dn r fol en) (Known (ia x.l)) x.top (ia x.l) x.m ∧ x.top ≤ 65535 * cntN x.l) (fun x => (tp.n - cntN x.l).toNat) ⟨l, upd (fun _ => none) r (some 0), 0, A2⟩ ⟨rfl, rfl, rfl, trivial⟩ (fun _ h => h)
      ⟨hll, g2, Dij.start hk hr (fun x a b => hm1 x a b), by dsimp only; omega⟩ ?_
    clear g1 g2 hll hm1 hcz
    rintro ⟨l, m, top, A⟩ ⟨hll, hA, hD, htop⟩
    dsimp only at hll hA hD htop ⊢
    have hcl := cntN_le l
    repeat' (first | (refine Goal.loud (o := ⟨some 42, _, _, _, _, _⟩) rfl ?_; refine Loud.callE ([_, _]) (pop_ok hA (by omega)) rfl rfl rfl rfl T.bod_85 (fun _ h => h) ?_; rintro ⟨i, k, ok, A3⟩ ⟨hp, h3⟩; dsimp only at hp h3 ⊢) | (apply G.move; exact rfl; exact rfl) | (apply G.assign; exact rfl; exact rfl) | refine Goal.seq (fun _ _ => ?_) | refine Goal.next (by assumption) ?_ | refine Goal.lnil ?_ | refine Goal.region ?_ | refine Goal.skip ?_ | refine Goal.block ?_ | refine Goal.ret ?_ | refine Goal.then_ret ?_ | refine Goal.inBlock_ret ?_ | refine Goal.condB rfl (fun hc => ?_) (fun hc => ?_) | (apply G.notB; exact rfl; exact rfl) | (apply G.extract; exact rfl; exact rfl; exact rfl))
    · rcases hp with ⟨rfl, _, _, hno⟩ | ⟨h0, _⟩
      · refine Goal.done (vs := [_]) (by first | exact .inl rfl | exact .inr rfl) Try.results69 ⟨rfl, trivial⟩ rfl (fun w' H => ⟨⟨b19, l⟩, ⟨hll, Dij.done hk hr hD (fun x a b => hno x a (by omega))⟩, by dsimp only; rw [show l.length = tp.n.toNat by omega], H.sub (List.Sublist.cons_cons _ (List.nil_sublist _))⟩)
      · rw [h0] at hc; cases hc
    · rcases hp with ⟨h0, _⟩ | ⟨rfl, i0, i1, hm, hmin⟩
      · rw [h0] at hc; cases hc
      · rw [if_pos rfl] at h3
        have hin : 0 ≤ i ∧ i < tp.n := by omega
        have hkl := hD.key_le hC (by decide) hk hin hm
        have hdom := hD.dom i k hin.1 hin.2 hm
        have ht0 := hD.top0
        have hD2 := (hD.pop hk hin hm (fun x k' a b hx => by have := hmin x k' a (by omega) hx; omega)).congr hk hr (D2 := ia (l.set i.toNat k)) (fun x a b => by
          rw [ia_upd (by omega) (by omega)]
          by_cases e : i = x
          · rw [if_pos e, if_pos e.symm]
          · rw [if_neg e, if_neg (fun h => e h.symm)])
        have hset : ∀ x : Int, 0 ≤ x → x < tp.n → ia (l.set i.toNat k) x = if i = x then k else ia l x := fun x a b => ia_upd (by omega) (by omega)
        have hcn := cntN_new (l := l) (i := i) (v := k) (by omega) (by omega) (by omega)
        have hcl2 := cntN_le (l.set i.toNat k)
        rw [List.length_set] at hcl2
        have hovl := ht.ov
        repeat' (first | (refine Goal.cut (x := Code.seq (Code.region 13 _ _) _) (X := Unit) (fun _ => [(1, .pointer (some ⟨b1, 0, none⟩)), (3, .slice (some ⟨b19, 0, none⟩) tp.n.toNat tp.n.toNat), (5, .pointer (some ⟨bh, 0, none⟩)), (7, .int .i64 i), (8, .int .i64 k)]) (fun _ => (b19, .cells (ints (l.set i.toNat k)).toArray 3) :: (b1, .cells #[.int .i64 tp.n, vo, vl, vd, .int .i64 r, .func (.func f1) #[] cs1.toArray, .func (.func f2) #[] cs2.toArray] 95) :: A3) (fun _ => i = r ∨ tp.over i = false) ?_ ?_) | refine Goal.next (by assumption) ?_ | refine Goal.lnil ?_ | (refine G.indexAddr1 rfl T.slc_46 T.sz_3 rfl rfl _ (Int.toNat_of_nonneg (by omega)).symm (by omega) ?_) | (refine Goal.loud rfl ?_; refine Loud.store0 rfl rfl T.sz_3 rfl rfl rfl (by rw [List.size_toArray, ints_len]; omega) (wr_ints (by omega)) ?_))
        · intro K hkk
          by_cases hir : i = r
          · skip
            repeat' (first | (apply G.move; exact rfl; exact rfl) | refine Goal.seq (fun _ _ => ?_) | refine Goal.next (by assumption) ?_ | refine Goal.lnil ?_ | refine Goal.region ?_ | refine Goal.skip ?_ | (apply Goal.condF; exact rfl) | refine Goal.guardF rfl rfl rfl rfl ?_ | (refine Goal.guardD rfl rfl (fun hc => ?_) (fun hc => ?_) <;> first | (exfalso; omega) | skip) | (apply G.fieldAddr; exact rfl; exact rfl; (exact T.fld_95_2)) | (apply G.load; exact rfl; exact rfl; ((refine LoadOK.one ?_ 1 rfl rfl); exact T.one_3)) | (apply G.pickF; exact rfl; exact rfl; exact rfl) | (apply G.neq; exact rfl; exact rfl; exact rfl))
            exact Goal.meet hkk () (.inl hir) ⟨rfl, rfl, rfl, rfl, rfl, trivial⟩ (fun _ h => h)
          · cases hov : tp.over i
            · skip
              repeat' (first | (refine Goal.loud (o := ⟨some 61, _, _, _, _, _⟩) rfl ?_; apply Loud.call0; exact rfl; exact rfl; exact rfl; exact rfl; exact T.bod_86; exact (fun w' H => over_ok (hT.keep H.mod) (by omega) (by omega)); rw [hov]) | (apply G.move; exact rfl; exact rfl) | refine Goal.seq (fun _ _ => ?_) | refine Goal.next (by assumption) ?_ | refine Goal.lnil ?_ | refine Goal.region ?_ | refine Goal.skip ?_ | (apply Goal.condF; exact rfl) | refine Goal.guardT rfl rfl ?_ | (refine Goal.guardD rfl rfl (fun hc => ?_) (fun hc => ?_) <;> first | (exfalso; omega) | skip) | (apply G.fieldAddr; exact rfl; exact rfl; (first | exact T.fld_95_0 | exact T.fld_95_2)) | (apply G.load; exact rfl; exact rfl; first | ((refine LoadOK.one ?_ 1 rfl rfl); exact T.one_3) | exact ag3 T.agg_25 1 rfl rfl rfl rfl) | (apply G.pickT; exact rfl; exact rfl; exact rfl) | (apply G.neq; exact rfl; exact rfl; exact rfl))
              exact Goal.meet hkk () (.inr hov) ⟨rfl, rfl, rfl, rfl, rfl, trivial⟩ (fun _ h => h)
            · skip
              repeat' (first | (refine Goal.loud (o := ⟨some 61, _, _, _, _, _⟩) rfl ?_; apply Loud.call0; exact rfl; exact rfl; exact rfl; exact rfl; exact T.bod_86; exact (fun w' H => over_ok (hT.keep H.mod) (by omega) (by omega)); rw [hov]) | (apply G.move; exact rfl; exact rfl) | refine Goal.seq (fun _ _ => ?_) | refine Goal.next (by assumption) ?_ | refine Goal.lnil ?_ | refine Goal.region ?_ | refine Goal.exit ?_ | refine Goal.then_exit ?_ | refine Goal.inBlock_exit ?_ | (apply Goal.condT; exact rfl) | refine Goal.guardT rfl rfl ?_ | (refine Goal.guardD rfl rfl (fun hc => ?_) (fun hc => ?_) <;> first | (exfalso; omega) | skip) | (apply G.fieldAddr; exact rfl; exact rfl; (first | exact T.fld_95_0 | exact T.fld_95_2)) | (apply G.load; exact rfl; exact rfl; first | ((refine LoadOK.one ?_ 1 rfl rfl); exact T.one_3) | exact ag3 T.agg_25 1 rfl rfl rfl rfl) | (apply G.pickT; exact rfl; exact rfl; exact rfl) | (apply G.neq; exact rfl; exact rfl; exact rfl))
              refine Goal.again ⟨l.set i.toNat k, upd m i none, k, A3⟩ ⟨by dsimp only; rw [List.length_set]; exact hll, h3, hD2.sub (fun x y c hgg hy => ?_), by dsimp only; rw [hcn]; omega⟩ (by dsimp only; rw [hcn]; omega) ⟨rfl, rfl, rfl, trivial⟩ (fun _ h => h)
              obtain ⟨a, ha, q1, q2, q3, q4⟩ := hgg
              unfold Known at hy
              dsimp only at hy ⊢
              rw [hset y q3.1 q3.2] at hy
              by_cases e : i = y
              · subst e
                rcases q2 with q2 | q2
                · exact absurd q2 hir
                · rw [hov] at q2; cases q2
              · rw [if_neg e] at hy; exact hy
        · rintro ⟨⟩ hok
          obtain ⟨v66, hrd, hcall⟩ := h1.call i hin.1 hin.2
          obtain ⟨af, cf, rfl, _⟩ := id hrd
          rw [ints_len] at hrd hcall
          have hfl := hg.len i hin.1 hin.2
          repeat' (first | (refine Goal.loud (o := ⟨some 66, _, _, _, _, _⟩) rfl ?_; refine Loud.call0 (v := .slice af (fol i).length cf) rfl rfl rfl rfl h1.bod (fun w' H => hcall w' H.mod) ?_) | (apply G.move; exact rfl; exact rfl) | refine Goal.seq (fun _ _ => ?_) | refine Goal.next (by assumption) ?_ | refine Goal.lnil ?_ | refine Goal.region ?_ | refine Goal.block ?_ | (apply G.fieldAddr; exact rfl; exact rfl; (exact T.fld_95_3)) | (apply G.load; exact rfl; exact rfl; ((refine LoadOK.one ?_ 1 rfl rfl); exact T.one_56)) | (apply G.len; exact rfl; exact rfl; exact T.slc_46))
          refine Goal.loopP (X := WJ) (fun x => [(1, .pointer (some ⟨b1, 0, none⟩)), (3, .slice (some ⟨b19, 0, none⟩) tp.n.toNat tp.n.toNat), (5, .pointer (some ⟨bh, 0, none⟩)), (8, .int .i64 k), (66, .slice af (fol i).length cf), (67, .int .i64 (fol i).length), (68, .int .i64 x.j)]) (fun x => (b19, .cells (ints (l.set i.toNat k)).toArray 3) :: (b1, .cells #[.int .i64 tp.n, vo, vl, vd, .int .i64 r, .func (.func f1) #[] cs1.toArray, .func (.func f2) #[] cs2.toArray] 95) :: x.A)
            (fun x => (0 ≤ x.j ∧ x.j ≤ (fol i).length) ∧ HpA bh bk bp tp.n.toNat x.m x.A ∧ Dij tp.n r (GS tp dn r fol en) (fun x' z c => 0 ≤ ia l z ∨ (z = i ∧ ∃ q : Int, (0 ≤ q ∧ q < x.j) ∧ ba dn (ia (fol i) q) = false ∧ x' = en (ia (fol i) q) ∧ c = tp.co (ia (fol i) q))) k (ia (l.set i.toNat k)) x.m) (fun x => ((fol i).length - x.j).toNat) ⟨0, upd m i none, A3⟩ ⟨rfl, rfl, rfl, rfl, rfl, rfl, rfl, trivial⟩ (fun _ h => h)
            ⟨by dsimp only; omega, h3, hD2.sub (fun x y c hgg hy => ?_)⟩ ?_
          · rcases hy with hy | ⟨_, q, hq, _⟩
            · exact hy
            · dsimp only at hq; omega
          · clear h3 hD2
            rintro ⟨j, m2, A⟩ ⟨hj, hA, hD⟩
            dsimp only at hj hA hD ⊢
            by_cases hjl : j < (fol i).length
            · obtain ⟨b, o, rfl, hcell⟩ := rd_nums hrd (by omega)
              have hmem := mem_ia (l := fol i) (i := j) ⟨hj.1, hjl⟩
              have har := hg.arc i hin.1 hin.2 _ hmem
              have hen := hg.en _ har.1 har.2
              obtain ⟨_, _, hco, _⟩ := ht.arc har
              have hstep : ∀ P' : Gr, (∀ x z c, P' x z c → (0 ≤ ia l z ∨ (z = i ∧ ∃ q : Int, (0 ≤ q ∧ q < j) ∧ ba dn (ia (fol i) q) = false ∧ x = en (ia (fol i) q) ∧ c = tp.co (ia (fol i) q))) ∨ (ba dn (ia (fol i) j) = false ∧ x = en (ia (fol i) j) ∧ z = i ∧ c = tp.co (ia (fol i) j)) ) → True := fun _ _ => trivial
              have hnext : ∀ x z c, (0 ≤ ia l z ∨ (z = i ∧ ∃ q : Int, (0 ≤ q ∧ q < j + 1) ∧ ba dn (ia (fol i) q) = false ∧ x = en (ia (fol i) q) ∧ c = tp.co (ia (fol i) q))) → (0 ≤ ia l z ∨ (z = i ∧ ∃ q : Int, (0 ≤ q ∧ q < j) ∧ ba dn (ia (fol i) q) = false ∧ x = en (ia (fol i) q) ∧ c = tp.co (ia (fol i) q))) ∨ (ba dn (ia (fol i) j) = false ∧ x = en (ia (fol i) j) ∧ z = i ∧ c = tp.co (ia (fol i) j)) := fun x z c hp => by
                rcases hp with hp | ⟨hz, q, hq, g1, g2, g3⟩
                · exact .inl (.inl hp)
                · by_cases e : q = j
                  · subst e; exact .inr ⟨g1, g2, hz, g3⟩
                  · exact .inl (.inr ⟨hz, q, by omega, g1, g2, g3⟩)
              clear hstep
              generalize haa : ia (fol i) j = a at hmem har hen hco hnext
              have hdm : dn.length = 0 ∨ (0 ≤ a ∧ a < dn.length) := by
                rcases hf with e | e
                · exact .inl e
                · exact .inr (by omega)
              have hdl : dn.length ≤ 1048576 := by
                rcases hf with e | e
                · omega
                · unfold Top.arcs at e; omega
              have hgx : ba dn a = false → GS tp dn r fol en (en a) i (tp.co a) := fun hup => ⟨a, hmem, hup, hok, hin, rfl, rfl⟩
              have hDi : ia (l.set i.toNat k) i = k := by rw [hset i hin.1 hin.2, if_pos rfl]
              have hroot : ia (l.set i.toNat k) r = 0 := by
                rcases hD.root with e | ⟨_, e⟩
                · exact e
                · have := (e i hin.1 hin.2).1; omega
              have hce := hcell j hj.1 hjl
              rw [haa] at hce
              have hover := hD.neg (en a) hen.1 hen.2
              cases hup : ba dn a
              · by_cases hx : 0 ≤ ia (l.set i.toNat k) (en a)
                · skip
                  repeat' (first | (refine Goal.loud (o := ⟨some 75, _, _, _, _, _⟩) rfl ?_; refine Loud.call0 (v := .int .i64 (en a)) rfl rfl rfl rfl h2.bod (fun w' H => h2.call a har.1 har.2 w' H.mod) ?_) | (refine Goal.loud (o := ⟨some 79, _, _, _, _, _⟩) rfl ?_; apply Loud.call0; exact rfl; exact rfl; exact rfl; exact rfl; exact T.bod_87; exact (fun w' H => down_ok (hd.keep H.mod) hdm hdl); rw [hup]) | (apply G.move; exact rfl; exact rfl) | (apply G.assign; exact rfl; exact rfl) | refine Goal.seq (fun _ _ => ?_) | refine Goal.next (by assumption) ?_ | refine Goal.lnil ?_ | refine Goal.region ?_ | refine Goal.skip ?_ | refine Goal.block ?_ | refine Goal.exit ?_ | refine Goal.then_exit ?_ | refine Goal.inBlock_exit ?_ | (refine Goal.condD rfl (fun hc => ?_) (fun hc => ?_) <;> first | (exfalso; omega) | skip) | refine Goal.guardT rfl rfl ?_ | (apply G.fieldAddr; exact rfl; exact rfl; (first | exact T.fld_95_1 | exact T.fld_95_4)) | (apply G.load; exact rfl; exact rfl; first | exact LoadOK.old T.one_3 hce (by simp) | exact LoadOK.ia (l := l.set i.toNat k) (i := en a) T.one_3 0 rfl (by rw [List.length_set]; omega) | ((refine LoadOK.one ?_ 1 rfl rfl); first | exact T.one_22 | exact T.one_93)) | (apply G.pickF; exact rfl; exact rfl; exact rfl) | (apply G.lss; exact rfl; exact rfl; exact rfl) | (apply G.geq; exact rfl; exact rfl; exact rfl) | (apply G.add; exact rfl; exact rfl; exact rfl; exact IntWalk.i64_in _ (by omega)) | (refine G.indexAddr1 rfl T.slc_46 T.sz_3 rfl rfl _ (Int.toNat_of_nonneg (by omega)).symm (by omega) ?_))
                  refine Goal.again ⟨j + 1, m2, A⟩ ⟨by dsimp only; omega, hA, (hD.skip hk (hgx hup) hDi hx).sub (fun x y c hgg hp => (hnext x y c hp).imp id (fun h => ⟨h.2.1, h.2.2.1, h.2.2.2⟩))⟩ (by dsimp only; omega) ⟨rfl, rfl, rfl, rfl, rfl, rfl, rfl, trivial⟩ (fun _ h => h)
                · cases hm2 : m2 (en a) with
                  | none =>
                    have hkv : keyV tp.n.toNat m2 (en a) = (0, false) := by unfold keyV; rw [if_pos (by omega), hm2]
                    repeat' (first | (refine Goal.loud (o := ⟨some 75, _, _, _, _, _⟩) rfl ?_; refine Loud.call0 (v := .int .i64 (en a)) rfl rfl rfl rfl h2.bod (fun w' H => h2.call a har.1 har.2 w' H.mod) ?_) | (refine Goal.loud (o := ⟨some 79, _, _, _, _, _⟩) rfl ?_; apply Loud.call0; exact rfl; exact rfl; exact rfl; exact rfl; exact T.bod_87; exact (fun w' H => down_ok (hd.keep H.mod) hdm hdl); rw [hup]) | (refine Goal.loud (o := ⟨some 91, _, _, _, _, _⟩) rfl ?_; apply Loud.call0; exact rfl; exact rfl; exact rfl; exact rfl; exact T.bod_52; exact (fun w' H => cost_ok (hT.keep H.mod) har (by omega))) | (refine Goal.loud (o := ⟨some 96, _, _, _, _, _⟩) rfl ?_; refine Loud.callE ([_, _]) (key_ok hA (en a)) rfl rfl rfl rfl T.bod_88 (fun _ h => h) ?_; rintro ⟨⟩ -; rw [hkv]) | (refine Goal.loud (o := ⟨some 109, _, _, _, _, _⟩) rfl ?_; refine Loud.callE ([_, _]) (set_ok hA (by omega) (en a) (k + tp.co a)) rfl rfl rfl rfl T.bod_84 (fun _ h => h) ?_; intro A4 h4; rw [if_pos (by omega)] at h4) | (apply G.move; exact rfl; exact rfl) | (apply G.assign; exact rfl; exact rfl) | refine Goal.seq (fun _ _ => ?_) | refine Goal.next (by assumption) ?_ | refine Goal.lnil ?_ | refine Goal.region ?_ | refine Goal.skip ?_ | refine Goal.block ?_ | refine Goal.inBlock_normal ?_ | (apply Goal.condT; exact rfl) | (refine Goal.condD rfl (fun hc => ?_) (fun hc => ?_) <;> first | (exfalso; omega) | skip) | refine Goal.guardT rfl rfl ?_ | refine Goal.guardF rfl rfl rfl rfl ?_ | (apply G.fieldAddr; exact rfl; exact rfl; (first | exact T.fld_95_0 | exact T.fld_95_1 | exact T.fld_95_4)) | (apply G.load; exact rfl; exact rfl; first | exact LoadOK.old T.one_3 hce (by simp) | exact LoadOK.ia (l := l.set i.toNat k) (i := en a) T.one_3 0 rfl (by rw [List.length_set]; omega) | ((refine LoadOK.one ?_ 1 rfl rfl); first | exact T.one_22 | exact T.one_93) | exact ag3 T.agg_25 1 rfl rfl rfl rfl) | (apply G.pickT; exact rfl; exact rfl; exact rfl) | (apply G.pickF; exact rfl; exact rfl; exact rfl) | (apply G.lss; exact rfl; exact rfl; exact rfl) | (apply G.geq; exact rfl; exact rfl; exact rfl) | (apply G.add; exact rfl; exact rfl; exact rfl; exact IntWalk.i64_in _ (by omega)) | (apply G.notF; exact rfl; exact rfl) | (apply G.extract; exact rfl; exact rfl; exact rfl) | (refine G.indexAddr1 rfl T.slc_46 T.sz_3 rfl rfl _ (Int.toNat_of_nonneg (by omega)).symm (by omega) ?_))
                    refine Goal.again ⟨j + 1, upd m2 (en a) (some (k + tp.co a)), A4⟩ ⟨by dsimp only; omega, h4, (hD.offer hk hroot (hgx hup) hDi (by omega) (fun k' h => by rw [hm2] at h; cases h)).sub (fun x y c hgg hp => (hnext x y c hp).imp id (fun h => ⟨h.2.1, h.2.2.1, h.2.2.2⟩))⟩ (by dsimp only; omega) ⟨rfl, rfl, rfl, rfl, rfl, rfl, rfl, trivial⟩ (fun _ h => h)
                  | some k' =>
                    have hkv : keyV tp.n.toNat m2 (en a) = (k', true) := by unfold keyV; rw [if_pos (by omega), hm2]
                    by_cases hlt : k + tp.co a < k'
                    · skip
                      repeat' (first | (refine Goal.loud (o := ⟨some 75, _, _, _, _, _⟩) rfl ?_; refine Loud.call0 (v := .int .i64 (en a)) rfl rfl rfl rfl h2.bod (fun w' H => h2.call a har.1 har.2 w' H.mod) ?_) | (refine Goal.loud (o := ⟨some 79, _, _, _, _, _⟩) rfl ?_; apply Loud.call0; exact rfl; exact rfl; exact rfl; exact rfl; exact T.bod_87; exact (fun w' H => down_ok (hd.keep H.mod) hdm hdl); rw [hup]) | (refine Goal.loud (o := ⟨some 91, _, _, _, _, _⟩) rfl ?_; apply Loud.call0; exact rfl; exact rfl; exact rfl; exact rfl; exact T.bod_52; exact (fun w' H => cost_ok (hT.keep H.mod) har (by omega))) | (refine Goal.loud (o := ⟨some 96, _, _, _, _, _⟩) rfl ?_; refine Loud.callE ([_, _]) (key_ok hA (en a)) rfl rfl rfl rfl T.bod_88 (fun _ h => h) ?_; rintro ⟨⟩ -; rw [hkv]) | (refine Goal.loud (o := ⟨some 109, _, _, _, _, _⟩) rfl ?_; refine Loud.callE ([_, _]) (set_ok hA (by omega) (en a) (k + tp.co a)) rfl rfl rfl rfl T.bod_84 (fun _ h => h) ?_; intro A4 h4; rw [if_pos (by omega)] at h4) | (apply G.move; exact rfl; exact rfl) | (apply G.assign; exact rfl; exact rfl) | refine Goal.seq (fun _ _ => ?_) | refine Goal.next (by assumption) ?_ | refine Goal.lnil ?_ | refine Goal.region ?_ | refine Goal.skip ?_ | refine Goal.block ?_ | refine Goal.inBlock_normal ?_ | (refine Goal.condD rfl (fun hc => ?_) (fun hc => ?_) <;> first | (exfalso; omega) | skip) | refine Goal.guardT rfl rfl ?_ | (apply G.fieldAddr; exact rfl; exact rfl; (first | exact T.fld_95_0 | exact T.fld_95_1 | exact T.fld_95_4)) | (apply G.load; exact rfl; exact rfl; first | exact LoadOK.old T.one_3 hce (by simp) | exact LoadOK.ia (l := l.set i.toNat k) (i := en a) T.one_3 0 rfl (by rw [List.length_set]; omega) | ((refine LoadOK.one ?_ 1 rfl rfl); first | exact T.one_22 | exact T.one_93) | exact ag3 T.agg_25 1 rfl rfl rfl rfl) | (apply G.pickF; exact rfl; exact rfl; exact rfl) | (apply G.lss; exact rfl; exact rfl; exact rfl) | (apply G.geq; exact rfl; exact rfl; exact rfl) | (apply G.add; exact rfl; exact rfl; exact rfl; exact IntWalk.i64_in _ (by omega)) | (apply G.notT; exact rfl; exact rfl) | (apply G.extract; exact rfl; exact rfl; exact rfl) | (refine G.indexAddr1 rfl T.slc_46 T.sz_3 rfl rfl _ (Int.toNat_of_nonneg (by omega)).symm (by omega) ?_))
                      refine Goal.again ⟨j + 1, upd m2 (en a) (some (k + tp.co a)), A4⟩ ⟨by dsimp only; omega, h4, (hD.offer hk hroot (hgx hup) hDi (by omega) (fun k'' h => by rw [hm2] at h; injection h with h; omega)).sub (fun x y c hgg hp => (hnext x y c hp).imp id (fun h => ⟨h.2.1, h.2.2.1, h.2.2.2⟩))⟩ (by dsimp only; omega) ⟨rfl, rfl, rfl, rfl, rfl, rfl, rfl, trivial⟩ (fun _ h => h)
                    · skip
                      repeat' (first | (refine Goal.loud (o := ⟨some 75, _, _, _, _, _⟩) rfl ?_; refine Loud.call0 (v := .int .i64 (en a)) rfl rfl rfl rfl h2.bod (fun w' H => h2.call a har.1 har.2 w' H.mod) ?_) | (refine Goal.loud (o := ⟨some 79, _, _, _, _, _⟩) rfl ?_; apply Loud.call0; exact rfl; exact rfl; exact rfl; exact rfl; exact T.bod_87; exact (fun w' H => down_ok (hd.keep H.mod) hdm hdl); rw [hup]) | (refine Goal.loud (o := ⟨some 91, _, _, _, _, _⟩) rfl ?_; apply Loud.call0; exact rfl; exact rfl; exact rfl; exact rfl; exact T.bod_52; exact (fun w' H => cost_ok (hT.keep H.mod) har (by omega))) | (refine Goal.loud (o := ⟨some 96, _, _, _, _, _⟩) rfl ?_; refine Loud.callE ([_, _]) (key_ok hA (en a)) rfl rfl rfl rfl T.bod_88 (fun _ h => h) ?_; rintro ⟨⟩ -; rw [hkv]) | (apply G.move; exact rfl; exact rfl) | (apply G.assign; exact rfl; exact rfl) | refine Goal.seq (fun _ _ => ?_) | refine Goal.next (by assumption) ?_ | refine Goal.lnil ?_ | refine Goal.region ?_ | refine Goal.skip ?_ | refine Goal.block ?_ | refine Goal.inBlock_normal ?_ | (refine Goal.condD rfl (fun hc => ?_) (fun hc => ?_) <;> first | (exfalso; omega) | skip) | refine Goal.guardT rfl rfl ?_ | (apply G.fieldAddr; exact rfl; exact rfl; (first | exact T.fld_95_0 | exact T.fld_95_1 | exact T.fld_95_4)) | (apply G.load; exact rfl; exact rfl; first | exact LoadOK.old T.one_3 hce (by simp) | exact LoadOK.ia (l := l.set i.toNat k) (i := en a) T.one_3 0 rfl (by rw [List.length_set]; omega) | ((refine LoadOK.one ?_ 1 rfl rfl); first | exact T.one_22 | exact T.one_93) | exact ag3 T.agg_25 1 rfl rfl rfl rfl) | (apply G.pickF; exact rfl; exact rfl; exact rfl) | (apply G.lss; exact rfl; exact rfl; exact rfl) | (apply G.geq; exact rfl; exact rfl; exact rfl) | (apply G.add; exact rfl; exact rfl; exact rfl; exact IntWalk.i64_in _ (by omega)) | (apply G.notT; exact rfl; exact rfl) | (apply G.extract; exact rfl; exact rfl; exact rfl) | (refine G.indexAddr1 rfl T.slc_46 T.sz_3 rfl rfl _ (Int.toNat_of_nonneg (by omega)).symm (by omega) ?_))
                      refine Goal.again ⟨j + 1, m2, A⟩ ⟨by dsimp only; omega, hA, (hD.worse hk (hgx hup) hDi hm2 (by omega)).sub (fun x y c hgg hp => (hnext x y c hp).imp id (fun h => ⟨h.2.1, h.2.2.1, h.2.2.2⟩))⟩ (by dsimp only; omega) ⟨rfl, rfl, rfl, rfl, rfl, rfl, rfl, trivial⟩ (fun _ h => h)
              · skip
                repeat' (first | (refine Goal.loud (o := ⟨some 75, _, _, _, _, _⟩) rfl ?_; refine Loud.call0 (v := .int .i64 (en a)) rfl rfl rfl rfl h2.bod (fun w' H => h2.call a har.1 har.2 w' H.mod) ?_) | (refine Goal.loud (o := ⟨some 79, _, _, _, _, _⟩) rfl ?_; apply Loud.call0; exact rfl; exact rfl; exact rfl; exact rfl; exact T.bod_87; exact (fun w' H => down_ok (hd.keep H.mod) hdm hdl); rw [hup]) | (apply G.move; exact rfl; exact rfl) | (apply G.assign; exact rfl; exact rfl) | refine Goal.seq (fun _ _ => ?_) | refine Goal.next (by assumption) ?_ | refine Goal.lnil ?_ | refine Goal.region ?_ | refine Goal.skip ?_ | refine Goal.block ?_ | refine Goal.exit ?_ | refine Goal.then_exit ?_ | refine Goal.inBlock_exit ?_ | (apply Goal.condT; exact rfl) | (refine Goal.condD rfl (fun hc => ?_) (fun hc => ?_) <;> first | (exfalso; omega) | skip) | refine Goal.guardF rfl rfl rfl rfl ?_ | (apply G.fieldAddr; exact rfl; exact rfl; (first | exact T.fld_95_1 | exact T.fld_95_4)) | (apply G.load; exact rfl; exact rfl; first | exact LoadOK.old T.one_3 hce (by simp) | ((refine LoadOK.one ?_ 1 rfl rfl); first | exact T.one_22 | exact T.one_93)) | (apply G.pickT; exact rfl; exact rfl; exact rfl) | (apply G.lss; exact rfl; exact rfl; exact rfl) | (apply G.add; exact rfl; exact rfl; exact rfl; exact IntWalk.i64_in _ (by omega)) | (refine G.indexAddr1 rfl T.slc_46 T.sz_3 rfl rfl _ (Int.toNat_of_nonneg (by omega)).symm (by omega) ?_))
                refine Goal.again ⟨j + 1, m2, A⟩ ⟨by dsimp only; omega, hA, hD.sub (fun x y c hgg hp => (hnext x y c hp).elim id (fun h => by rw [hup] at h; cases h.1))⟩ (by dsimp only; omega) ⟨rfl, rfl, rfl, rfl, rfl, rfl, rfl, trivial⟩ (fun _ h => h)
            · obtain hjj : j = (fol i).length := by omega
              subst hjj
              repeat' (first | refine Goal.seq (fun _ _ => ?_) | refine Goal.next (by assumption) ?_ | refine Goal.lnil ?_ | refine Goal.region ?_ | refine Goal.exit ?_ | refine Goal.then_exit ?_ | refine Goal.inBlock_exit ?_ | refine Goal.inBlock_normal ?_ | (refine Goal.condD rfl (fun hc => ?_) (fun hc => ?_) <;> first | (exfalso; omega) | skip) | (apply G.lss; exact rfl; exact rfl; exact rfl))
              refine Goal.again ⟨l.set i.toNat k, m2, k, A⟩ ⟨by dsimp only; rw [List.length_set]; exact hll, hA, hD.sub (fun x y c hgg hy => ?_), by dsimp only; rw [hcn]; omega⟩ (by dsimp only; rw [hcn]; omega) ⟨rfl, rfl, rfl, trivial⟩ (fun _ h => h)
              obtain ⟨a, ha, q1, q2, q3, q4, q5⟩ := hgg
              unfold Known at hy
              dsimp only at hy ⊢
              rw [hset y q3.1 q3.2] at hy
              by_cases e : i = y
              · subst e
                obtain ⟨q, hq, rfl⟩ := List.getElem_of_mem ha
                refine .inr ⟨rfl, (q : Int), by omega, ?_⟩
                rw [← ia_at (i := (q : Int)) (by omega)]
                exact ⟨q1, q4, q5⟩
              · rw [if_neg e] at hy; exact .inl hy
end
end Go.Proofs.Ythhhegmhgheeiaa
