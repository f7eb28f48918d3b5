/- The heap of the program: an item is moved to where it belongs. -/
import Derived.Test.YthhhegmhgheeiaaHpM
namespace Go.Proofs.Ythhhegmhgheeiaa
open Go.Wf
set_option linter.unusedVariables false
structure SX where
  (p : Int) (Pl O : List Int)
structure SY where
  (least kid : Int)
section
variable {n bh bk bp bo l cap : Nat} {rest : List Value} {K Pl O : List Int}
/-- What settle leaves. -/
def SameHeld (n : Nat) (Pl Pl' : List Int) : Prop := ∀ i : Int, 0 ≤ i → i < n → (ia Pl' i = 0 ↔ ia Pl i = 0)
set_option maxHeartbeats 2000000 in
theorem settle_ok (hI : Inv n K Pl O) (hO : O.length = l) (hl : l ≤ 65536) (p : Int) (hp : 0 ≤ p ∧ p < l) (hU : Up K l (ia O) p) :
    MCalls Try.prog 92 [.pointer (some ⟨bh, 0, none⟩), .int .i64 p] (HL n bh bk bp bo l cap rest K Pl O) (fun x : List Int × List Int => Inv n K x.1 x.2 ∧ x.2.length = l ∧ Hord K l (ia x.2) ∧ SameHeld n Pl x.1) (fun _ => .tuple #[]) (fun x => HL n bh bk bp bo l cap rest K x.1 x.2) := .mk fun w hw => by
  refine Goal.enter (args := [.pointer (some ⟨bh, 0, none⟩), .int .i64 p]) Try.func92 rfl Try.ntmps92 rfl (hw) ?_
  refine Goal.cut (X := SX) (fun x => [(0, .pointer (some ⟨bh, 0, none⟩)), (1, .int .i64 x.p)]) (fun x => HL n bh bk bp bo l cap rest K x.Pl x.O)
    (fun x => Inv n K x.Pl x.O ∧ x.O.length = l ∧ (0 ≤ x.p ∧ x.p < l) ∧ Down K l (ia x.O) x.p ∧ SameHeld n Pl x.Pl) ?_ ?_
  · intro KK hKK
    refine Goal.block ?_
    refine Goal.loopP (X := SX) (fun x => [(0, .pointer (some ⟨bh, 0, none⟩)), (1, .int .i64 x.p)]) (fun x => HL n bh bk bp bo l cap rest K x.Pl x.O)
      (fun x => Inv n K x.Pl x.O ∧ x.O.length = l ∧ (0 ≤ x.p ∧ x.p < l) ∧ Up K l (ia x.O) x.p ∧ SameHeld n Pl x.Pl) (fun x => x.p.toNat) ⟨p, Pl, O⟩ ⟨rfl, rfl, trivial⟩ (fun _ h => h) ⟨hI, hO, hp, hU, fun _ _ _ => Iff.rfl⟩ ?_
    rintro ⟨p', Pl', O'⟩ ⟨hI', hO', hp', hU', hS'⟩
    dsimp only at hI' hO' hp' hU' hS' ⊢
    by_cases h0 : 0 < p'
    · have hq : 0 ≤ (p' - 1) / 2 ∧ (p' - 1) / 2 < l := by omega
      have b1 := hI'.el p' hp'.1 (by omega)
      have b2 := hI'.el ((p' - 1) / 2) hq.1 (by omega)
      repeat' (first | (refine Goal.loud (o := ⟨some 14, _, _, _, _, _⟩) rfl ?_; refine Loud.callM [] (before_ok hI'.hK hI'.hP hO' p' ((p' - 1) / 2) hp' hq b1 b2) rfl rfl rfl rfl T.bod_94 (fun _ h => h) ?_; rintro ⟨⟩ -) | (refine Goal.loud (o := ⟨some 21, _, _, _, _, _⟩) rfl ?_; refine Loud.callM [] (swap_ok hI'.hK hI'.hP hO' p' ((p' - 1) / 2) hp' hq hl b1 b2) rfl rfl rfl rfl T.bod_95 (fun _ h => h) ?_; rintro ⟨⟩ -) | (apply G.move; exact rfl; exact rfl) | (apply G.assign; exact rfl; exact rfl) | refine Goal.seq (fun _ _ => ?_) | refine Goal.next (by assumption) ?_ | refine Goal.lnil ?_ | refine Goal.region ?_ | refine Goal.skip ?_ | refine Goal.block ?_ | refine Goal.exit ?_ | refine Goal.then_exit ?_ | refine Goal.inBlock_exit ?_ | refine Goal.inBlock_normal ?_ | (refine Goal.condD rfl (fun hc => ?_) (fun hc => ?_) <;> skip) | refine Goal.guardT rfl rfl ?_ | (refine Goal.guardD rfl rfl (fun hc => ?_) (fun hc => ?_) <;> first | (exfalso; omega) | skip) | (apply G.pickT; exact rfl; exact rfl; exact rfl) | (apply G.gtr; exact rfl; exact rfl; exact rfl) | (apply G.sub; exact rfl; exact rfl; exact rfl; exact IntWalk.i64_in _ (by omega)) | (apply G.quo; exact rfl; exact rfl; exact rfl; (decide); exact IntWalk.i64_quo _ _ (by omega)))
      · obtain ⟨i1, i2⟩ := hI'.swap (p := p') (q := (p' - 1) / 2) (by omega) (by omega)
        refine Goal.again ⟨(p' - 1) / 2, _, _⟩ ⟨i1, by rw [swO_len]; exact hO', hq, ?_, fun i h1 h2 => (i2 i h1 h2).trans (hS' i h1 h2)⟩ (by dsimp only; omega) ⟨rfl, rfl, trivial⟩ (fun _ h => h)
        exact up_step ⟨h0, by omega⟩ rfl (fun x x0 xl => swO_at (by omega) (by omega) x x0 (by omega)) hU' hc
      · refine Goal.meet hKK ⟨p', Pl', O'⟩ ⟨hI', hO', hp', up_done hp' (.inr hc) hU', hS'⟩ ⟨rfl, rfl, trivial⟩ (fun _ h => h)
    · skip
      repeat' (first | (apply G.move; exact rfl; exact rfl) | refine Goal.seq (fun _ _ => ?_) | refine Goal.next (by assumption) ?_ | refine Goal.lnil ?_ | refine Goal.region ?_ | refine Goal.exit ?_ | refine Goal.then_exit ?_ | refine Goal.inBlock_exit ?_ | (apply Goal.condF; exact rfl) | refine Goal.guardF rfl rfl rfl rfl ?_ | (refine Goal.guardD rfl rfl (fun hc => ?_) (fun hc => ?_) <;> first | (exfalso; omega) | skip) | (apply G.pickF; exact rfl; exact rfl; exact rfl) | (apply G.gtr; exact rfl; exact rfl; exact rfl))
      refine Goal.meet hKK ⟨p', Pl', O'⟩ ⟨hI', hO', hp', up_done hp' (.inl (show p' = 0 by omega)) hU', hS'⟩ ⟨rfl, rfl, trivial⟩ (fun _ h => h)
  · rintro ⟨p0, Pl0, O0⟩ ⟨hI0, hO0, hp0, hD0, hS0⟩
    dsimp only at hI0 hO0 hp0 hD0 hS0 ⊢
    refine Goal.block ?_
    refine Goal.loopP (X := SX) (fun x => [(0, .pointer (some ⟨bh, 0, none⟩)), (1, .int .i64 x.p)]) (fun x => HL n bh bk bp bo l cap rest K x.Pl x.O)
      (fun x => Inv n K x.Pl x.O ∧ x.O.length = l ∧ (0 ≤ x.p ∧ x.p < l) ∧ Down K l (ia x.O) x.p ∧ SameHeld n Pl x.Pl) (fun x => (l - x.p).toNat) ⟨p0, Pl0, O0⟩ ⟨rfl, rfl, trivial⟩ (fun _ h => h) ⟨hI0, hO0, hp0, hD0, hS0⟩ ?_
    rintro ⟨p', Pl', O'⟩ ⟨hI', hO', hp', hD', hS'⟩
    dsimp only at hI' hO' hp' hD' hS' ⊢
    repeat' (first | (apply G.move; exact rfl; exact rfl) | (apply G.assign; exact rfl; exact rfl) | refine Goal.seq (fun _ _ => ?_) | refine Goal.next (by assumption) ?_ | refine Goal.lnil ?_ | refine Goal.region ?_ | refine Goal.block ?_ | (apply G.add; exact rfl; exact rfl; exact rfl; exact IntWalk.i64_in _ (by omega)) | (apply G.mul; exact rfl; exact rfl; exact rfl; exact IntWalk.i64_in _ (by omega)))
    refine Goal.loopP (X := SY) (fun x => [(0, .pointer (some ⟨bh, 0, none⟩)), (1, .int .i64 p'), (4, .int .i64 x.least), (5, .int .i64 x.kid)]) (fun x => HL n bh bk bp bo l cap rest K Pl' O')
      (fun x => (2 * p' + 1 ≤ x.kid ∧ x.kid ≤ 2 * p' + 3) ∧ (x.least = p' ∨ (par x.least = p' ∧ 0 < x.least ∧ x.least < l ∧ less K (ia O' x.least) (ia O' p'))) ∧ ∀ d : Int, 0 < d → d < l → par d = p' → d < x.kid → ¬ less K (ia O' d) (ia O' x.least))
      (fun x => (2 * p' + 3 - x.kid).toNat) ⟨p', 2 * p' + 1⟩ ⟨rfl, rfl, rfl, rfl, trivial⟩ (fun _ h => h) ⟨by dsimp only; omega, .inl rfl, fun d d0 dl hd hk => by unfold par at hd; dsimp only at hk; omega⟩ ?_
    rintro ⟨least, kid⟩ ⟨hk, hle, hmin⟩
    dsimp only at hk hle hmin ⊢
    have hl1 : 0 ≤ least ∧ least < l := by omega
    repeat' (first | (refine Goal.loud (o := ⟨some 48, _, _, _, _, _⟩) rfl ?_; refine Loud.callM [] (before_ok hI'.hK hI'.hP hO' kid least (by omega) hl1 (hI'.el _ (by omega) (by omega)) (hI'.el _ (by omega) (by omega))) rfl rfl rfl rfl T.bod_94 (fun _ h => h) ?_; rintro ⟨⟩ -) | (refine Goal.loud (o := ⟨some 56, _, _, _, _, _⟩) rfl ?_; refine Loud.callM [] (swap_ok hI'.hK hI'.hP hO' p' least hp' hl1 hl (hI'.el _ (by omega) (by omega)) (hI'.el _ (by omega) (by omega))) rfl rfl rfl rfl T.bod_95 (fun _ h => h) ?_; rintro ⟨⟩ -) | (apply G.move; exact rfl; exact rfl) | (apply G.assign; exact rfl; exact rfl) | refine Goal.seq (fun _ _ => ?_) | refine Goal.next (by assumption) ?_ | refine Goal.lnil ?_ | refine Goal.region ?_ | refine Goal.skip ?_ | refine Goal.block ?_ | refine Goal.exit ?_ | refine Goal.ret ?_ | refine Goal.then_exit ?_ | refine Goal.then_ret ?_ | refine Goal.inBlock_exit ?_ | refine Goal.inBlock_normal ?_ | refine Goal.inBlock_ret ?_ | (apply Goal.condF; exact rfl) | (refine Goal.condD rfl (fun hc => ?_) (fun hc => ?_) <;> skip) | refine Goal.guardT rfl rfl ?_ | refine Goal.guardF rfl rfl rfl rfl ?_ | (refine Goal.guardD rfl rfl (fun hc => ?_) (fun hc => ?_) <;> skip) | (apply G.fieldAddr; exact rfl; exact rfl; exact T.fld_114_2) | (apply G.load; exact rfl; exact rfl; ((refine LoadOK.one ?_ 0 rfl rfl); exact T.one_46)) | (apply G.pickT; exact rfl; exact rfl; exact rfl) | (apply G.pickF; exact rfl; exact rfl; exact rfl) | (apply G.lss; exact rfl; exact rfl; exact rfl) | (apply G.leq; exact rfl; exact rfl; exact rfl) | (apply G.eql; exact rfl; exact rfl; exact rfl) | (apply G.add; exact rfl; exact rfl; exact rfl; exact IntWalk.i64_in _ (by omega)) | (apply G.mul; exact rfl; exact rfl; exact rfl; exact IntWalk.i64_in _ (by omega)) | (apply G.len; exact rfl; exact rfl; exact T.slc_46) | (apply G.nilCheckP; exact rfl; exact rfl))
    · refine Goal.again ⟨kid, kid + 1⟩ ⟨by dsimp only; omega, .inr ⟨by dsimp only; unfold par; omega, by dsimp only; omega, by assumption, ?_⟩, fun d d0 dl hd hk' => ?_⟩ (by dsimp only; omega) ⟨rfl, rfl, rfl, rfl, trivial⟩ (fun _ h => h)
      · dsimp only
        have hc' := hc
        rcases hle with e | ⟨_, _, _, h4⟩
        · rw [e] at hc'; exact hc'
        · unfold less at hc' h4 ⊢; omega
      · dsimp only at hk' ⊢
        by_cases e : d = kid
        · subst e; unfold less; omega
        · exact less_trans (hmin d d0 dl hd (by omega)) (less_asymm hc)
    · refine Goal.again ⟨least, kid + 1⟩ ⟨by dsimp only; omega, hle, fun d d0 dl hd hk' => ?_⟩ (by dsimp only; omega) ⟨rfl, rfl, rfl, rfl, trivial⟩ (fun _ h => h)
      dsimp only at hk' ⊢
      by_cases e : d = kid
      · subst e; exact hc
      · exact hmin d d0 dl hd (by omega)
    · subst hc
      refine Goal.done (vs := []) (by first | exact .inl rfl | exact .inr rfl) Try.results92 trivial rfl (fun w' H => ⟨(Pl', O'), ⟨hI', hO', down_done hD' fun d d0 dl hd => hmin d d0 dl hd (by omega), hS'⟩, rfl, H⟩)
    · obtain ⟨i1, i2⟩ := hI'.swap (p := p') (q := least) (by omega) (by omega)
      obtain ⟨h1, h2, h3, h4⟩ : par least = p' ∧ 0 < least ∧ least < l ∧ less K (ia O' least) (ia O' p') := hle.resolve_left hc
      refine Goal.again ⟨least, _, _⟩ ⟨i1, by rw [swO_len]; exact hO', hl1, ?_, fun i h1 h2 => (i2 i h1 h2).trans (hS' i h1 h2)⟩ (by dsimp only; unfold par at h1; omega) ⟨rfl, rfl, trivial⟩ (fun _ h => h)
      exact down_step hp'.1 ⟨h2, h3⟩ h1 (fun x x0 xl => swO_at (by omega) (by omega) x x0 (by omega)) hD' h4 (fun d d0 dl hd => hmin d d0 dl hd (by unfold par at hd; omega))
    · subst hc
      refine Goal.done (vs := []) (by first | exact .inl rfl | exact .inr rfl) Try.results92 trivial rfl (fun w' H => ⟨(Pl', O'), ⟨hI', hO', down_done hD' fun d d0 dl hd => hmin d d0 dl hd (by unfold par at hd; omega), hS'⟩, rfl, H⟩)
    · obtain ⟨i1, i2⟩ := hI'.swap (p := p') (q := least) (by omega) (by omega)
      obtain ⟨h1, h2, h3, h4⟩ : par least = p' ∧ 0 < least ∧ least < l ∧ less K (ia O' least) (ia O' p') := hle.resolve_left hc
      refine Goal.again ⟨least, _, _⟩ ⟨i1, by rw [swO_len]; exact hO', hl1, ?_, fun i h1 h2 => (i2 i h1 h2).trans (hS' i h1 h2)⟩ (by dsimp only; unfold par at h1; omega) ⟨rfl, rfl, trivial⟩ (fun _ h => h)
      exact down_step hp'.1 ⟨h2, h3⟩ h1 (fun x x0 xl => swO_at (by omega) (by omega) x x0 (by omega)) hD' h4 (fun d d0 dl hd => hmin d d0 dl hd (by unfold par at hd; omega))
end
end Go.Proofs.Ythhhegmhgheeiaa
