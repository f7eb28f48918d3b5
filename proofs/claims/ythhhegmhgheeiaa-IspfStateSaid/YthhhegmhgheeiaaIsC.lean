/- Package ispf: offers. -/
import Derived.Test.YthhhegmhgheeiaaIsB
namespace Go.Proofs.Ythhhegmhgheeiaa
open Go.Wf
set_option linter.unusedVariables false
section
variable {w : World} {S : List Nat} {bx bs b1 b2 bh bk bp cs : Nat} {tp : Top} {dn : List Bool} {d x v : Int} {vo vl vd : Value} {l : List Int} {m : Int → Option Int} {A : List Blk}
set_option maxHeartbeats 8000000 in
theorem offer_ok (hA : HpA bh bk bp tp.n.toNat m A) (H0 : St w S w A) (hS : TrS tp dn d) (hll : (l.length : Int) = tp.n)
    (hq : ∀ w', Mod S w w' → w'.cell? ⟨b2, 0, none⟩ = some (.pointer (some ⟨bh, 0, none⟩))) (hbc : ∀ w', Mod S w w' → w'.cell? ⟨b1, 0, none⟩ = some (.pointer (some ⟨bx, 0, none⟩)))
    (hR : ∀ w', Mod S w w' → TrC w' bx tp dn d vo vl vd (.slice (some ⟨bs, 0, none⟩) l.length cs)) (hs : ∀ w', Mod S w w' → RdV w' (.slice (some ⟨bs, 0, none⟩) l.length cs) (ints l)) (hx : 0 ≤ x ∧ x < tp.n) :
    Calls Try.prog 90 #[.int .i64 x, .int .i64 v, .pointer (some ⟨b1, 0, none⟩), .pointer (some ⟨b2, 0, none⟩)] w
      fun e w' => ∃ A' : List Blk, HpA bh bk bp tp.n.toNat (offM d (ia l) m x v) A' ∧ e = .returned (.tuple #[]) ∧ St w S w' A' := by
  have ht := hS.ok
  have hn := ht.n
  obtain ⟨bb, ob, eb, hka⟩ := rd_anyI hs (by omega)
  injection eb with eb
  injection eb with e1 e2 _
  subst e1 e2
  have hcx := hka x hx.1 (by omega)
  clear hka
  by_cases hno : x = d ∨ v < 0 ∨ (0 ≤ ia l x ∧ ia l x ≤ v)
  · have e : offM d (ia l) m x v = m := by unfold offM; rw [if_pos hno]
    rw [e]
    refine Goal.enter (args := [.int .i64 x, .int .i64 v, .pointer (some ⟨b1, 0, none⟩), .pointer (some ⟨b2, 0, none⟩)]) Try.func90 rfl Try.ntmps90 rfl (H0) ?_
    repeat' (first | (apply G.move; exact rfl; exact rfl) | refine Goal.seq (fun _ _ => ?_) | refine Goal.next (by assumption) ?_ | refine Goal.lnil ?_ | refine Goal.region ?_ | refine Goal.ret ?_ | refine Goal.then_ret ?_ | (apply Goal.condT; exact rfl) | (refine Goal.condD rfl (fun hc => ?_) (fun hc => ?_) <;> first | (exfalso; omega) | skip) | refine Goal.guardT rfl rfl ?_ | refine Goal.guardF rfl rfl rfl rfl ?_ | refine Goal.guardU rfl rfl rfl ?_ | (refine Goal.guardD rfl rfl (fun hc => ?_) (fun hc => ?_) <;> first | (exfalso; omega) | skip) | (apply G.fieldAddr; exact rfl; exact rfl; (first | exact T.fld_100_0 | exact T.fld_77_2 | exact T.fld_77_3)) | (apply G.load; exact rfl; exact rfl; first | exact LoadOK.anyQ T.one_30 hbc | exact LoadOK.anyQ T.one_3 (fun w' hm => (hR w' hm).cr) | exact LoadOK.anyQ T.one_46 (fun w' hm => (hR w' hm).cs) | exact LoadOK.anyQ T.one_3 hcx) | (apply G.pickT; exact rfl; exact rfl; exact rfl) | (apply G.pickF; exact rfl; exact rfl; exact rfl) | (apply G.lss; exact rfl; exact rfl; exact rfl) | (apply G.leq; exact rfl; exact rfl; exact rfl) | (apply G.geq; exact rfl; exact rfl; exact rfl) | (apply G.eql; exact rfl; exact rfl; exact rfl) | (apply G.nilCheckP; exact rfl; exact rfl) | (refine G.indexAddr1 rfl T.slc_46 T.sz_3 rfl rfl _ (Int.toNat_of_nonneg (by omega)).symm (by omega) ?_))
    all_goals first
      | (exfalso; omega)
      | (refine Goal.done (vs := []) (by first | exact .inl rfl | exact .inr rfl) Try.results90 trivial rfl (fun w' H => ⟨A, hA, rfl, H⟩))
  · have h1 : x ≠ d := fun q => hno (.inl q)
    have h2 : 0 ≤ v := Decidable.byContradiction fun q => hno (.inr (.inl (by omega)))
    have h3 : ia l x < 0 ∨ v < ia l x := Decidable.byContradiction fun q => hno (.inr (.inr (by omega)))
    cases hm : m x with
    | none =>
      have e : offM d (ia l) m x v = upd m x (some v) := by unfold offM; rw [if_neg hno, hm]
      have hkv : keyV tp.n.toNat m x = (0, false) := by unfold keyV; rw [if_pos (by omega), hm]
      rw [e]
      refine Goal.enter (args := [.int .i64 x, .int .i64 v, .pointer (some ⟨b1, 0, none⟩), .pointer (some ⟨b2, 0, none⟩)]) Try.func90 rfl Try.ntmps90 rfl (H0) ?_
      repeat' (first | (refine Goal.loud (o := ⟨some 45, _, _, _, _, _⟩) rfl ?_; refine Loud.callE ([]) (key_ok hA x) rfl rfl rfl rfl T.bod_88 (fun _ h => h) ?_; rintro ⟨⟩ -; rw [hkv]) | (refine Goal.loud (o := ⟨some 58, _, _, _, _, _⟩) rfl ?_; refine Loud.callE ([]) (set_ok hA (by omega) x v) rfl rfl rfl rfl T.bod_84 (fun _ h => h) ?_; intro A2 g2; rw [if_pos (by omega)] at g2 ⊢) | (apply G.move; exact rfl; exact rfl) | (apply G.assign; exact rfl; exact rfl) | refine Goal.seq (fun _ _ => ?_) | refine Goal.next (by assumption) ?_ | refine Goal.lnil ?_ | refine Goal.region ?_ | refine Goal.skip ?_ | (apply Goal.condT; exact rfl) | (apply Goal.condF; exact rfl) | (refine Goal.condD rfl (fun hc => ?_) (fun hc => ?_) <;> first | (exfalso; omega) | skip) | refine Goal.guardT rfl rfl ?_ | refine Goal.guardF rfl rfl rfl rfl ?_ | (refine Goal.guardD rfl rfl (fun hc => ?_) (fun hc => ?_) <;> first | (exfalso; omega) | skip) | (apply G.fieldAddr; exact rfl; exact rfl; (first | exact T.fld_100_0 | exact T.fld_77_2 | exact T.fld_77_3)) | (apply G.load; exact rfl; exact rfl; first | exact LoadOK.anyQ T.one_30 hbc | exact LoadOK.anyQ T.one_3 (fun w' hm => (hR w' hm).cr) | exact LoadOK.anyQ T.one_46 (fun w' hm => (hR w' hm).cs) | exact LoadOK.anyQ T.one_104 hq | exact LoadOK.anyQ T.one_3 hcx) | (apply G.pickT; exact rfl; exact rfl; exact rfl) | (apply G.pickF; exact rfl; exact rfl; exact rfl) | (apply G.lss; exact rfl; exact rfl; exact rfl) | (apply G.leq; exact rfl; exact rfl; exact rfl) | (apply G.geq; exact rfl; exact rfl; exact rfl) | (apply G.eql; exact rfl; exact rfl; exact rfl) | (apply G.notF; exact rfl; exact rfl) | (apply G.extract; exact rfl; exact rfl; exact rfl) | (apply G.nilCheckP; exact rfl; exact rfl) | (refine G.indexAddr1 rfl T.slc_46 T.sz_3 rfl rfl _ (Int.toNat_of_nonneg (by omega)).symm (by omega) ?_))
      all_goals first
        | (exfalso; omega)
        | (refine Goal.done (vs := []) (by first | exact .inl rfl | exact .inr rfl) Try.results90 trivial rfl (fun w' H => ⟨A2, g2, rfl, H⟩))
    | some k =>
      have hkv : keyV tp.n.toNat m x = (k, true) := by unfold keyV; rw [if_pos (by omega), hm]
      by_cases hlt : v < k
      · have e : offM d (ia l) m x v = upd m x (some v) := by unfold offM; rw [if_neg hno, hm]; simp only [if_pos hlt]
        rw [e]
        refine Goal.enter (args := [.int .i64 x, .int .i64 v, .pointer (some ⟨b1, 0, none⟩), .pointer (some ⟨b2, 0, none⟩)]) Try.func90 rfl Try.ntmps90 rfl (H0) ?_
        repeat' (first | (refine Goal.loud (o := ⟨some 45, _, _, _, _, _⟩) rfl ?_; refine Loud.callE ([]) (key_ok hA x) rfl rfl rfl rfl T.bod_88 (fun _ h => h) ?_; rintro ⟨⟩ -; rw [hkv]) | (refine Goal.loud (o := ⟨some 58, _, _, _, _, _⟩) rfl ?_; refine Loud.callE ([]) (set_ok hA (by omega) x v) rfl rfl rfl rfl T.bod_84 (fun _ h => h) ?_; intro A2 g2; rw [if_pos (by omega)] at g2 ⊢) | (apply G.move; exact rfl; exact rfl) | (apply G.assign; exact rfl; exact rfl) | refine Goal.seq (fun _ _ => ?_) | refine Goal.next (by assumption) ?_ | refine Goal.lnil ?_ | refine Goal.region ?_ | refine Goal.skip ?_ | (apply Goal.condF; exact rfl) | (refine Goal.condD rfl (fun hc => ?_) (fun hc => ?_) <;> first | (exfalso; omega) | skip) | refine Goal.guardT rfl rfl ?_ | refine Goal.guardF rfl rfl rfl rfl ?_ | (refine Goal.guardD rfl rfl (fun hc => ?_) (fun hc => ?_) <;> first | (exfalso; omega) | skip) | (apply G.fieldAddr; exact rfl; exact rfl; (first | exact T.fld_100_0 | exact T.fld_77_2 | exact T.fld_77_3)) | (apply G.load; exact rfl; exact rfl; first | exact LoadOK.anyQ T.one_30 hbc | exact LoadOK.anyQ T.one_3 (fun w' hm => (hR w' hm).cr) | exact LoadOK.anyQ T.one_46 (fun w' hm => (hR w' hm).cs) | exact LoadOK.anyQ T.one_104 hq | exact LoadOK.anyQ T.one_3 hcx) | (apply G.pickT; exact rfl; exact rfl; exact rfl) | (apply G.pickF; exact rfl; exact rfl; exact rfl) | (apply G.lss; exact rfl; exact rfl; exact rfl) | (apply G.leq; exact rfl; exact rfl; exact rfl) | (apply G.geq; exact rfl; exact rfl; exact rfl) | (apply G.eql; exact rfl; exact rfl; exact rfl) | (apply G.notT; exact rfl; exact rfl) | (apply G.extract; exact rfl; exact rfl; exact rfl) | (apply G.nilCheckP; exact rfl; exact rfl) | (refine G.indexAddr1 rfl T.slc_46 T.sz_3 rfl rfl _ (Int.toNat_of_nonneg (by omega)).symm (by omega) ?_))
        all_goals first
          | (exfalso; omega)
          | (refine Goal.done (vs := []) (by first | exact .inl rfl | exact .inr rfl) Try.results90 trivial rfl (fun w' H => ⟨A2, g2, rfl, H⟩))
      · have e : offM d (ia l) m x v = m := by unfold offM; rw [if_neg hno, hm]; simp only [if_neg hlt]
        rw [e]
        refine Goal.enter (args := [.int .i64 x, .int .i64 v, .pointer (some ⟨b1, 0, none⟩), .pointer (some ⟨b2, 0, none⟩)]) Try.func90 rfl Try.ntmps90 rfl (H0) ?_
        repeat' (first | (refine Goal.loud (o := ⟨some 45, _, _, _, _, _⟩) rfl ?_; refine Loud.callE ([]) (key_ok hA x) rfl rfl rfl rfl T.bod_88 (fun _ h => h) ?_; rintro ⟨⟩ -; rw [hkv]) | (apply G.move; exact rfl; exact rfl) | (apply G.assign; exact rfl; exact rfl) | refine Goal.seq (fun _ _ => ?_) | refine Goal.next (by assumption) ?_ | refine Goal.lnil ?_ | refine Goal.region ?_ | refine Goal.skip ?_ | (apply Goal.condF; exact rfl) | (refine Goal.condD rfl (fun hc => ?_) (fun hc => ?_) <;> first | (exfalso; omega) | skip) | refine Goal.guardT rfl rfl ?_ | refine Goal.guardF rfl rfl rfl rfl ?_ | (refine Goal.guardD rfl rfl (fun hc => ?_) (fun hc => ?_) <;> first | (exfalso; omega) | skip) | (apply G.fieldAddr; exact rfl; exact rfl; (first | exact T.fld_100_0 | exact T.fld_77_2 | exact T.fld_77_3)) | (apply G.load; exact rfl; exact rfl; first | exact LoadOK.anyQ T.one_30 hbc | exact LoadOK.anyQ T.one_3 (fun w' hm => (hR w' hm).cr) | exact LoadOK.anyQ T.one_46 (fun w' hm => (hR w' hm).cs) | exact LoadOK.anyQ T.one_104 hq | exact LoadOK.anyQ T.one_3 hcx) | (apply G.pickT; exact rfl; exact rfl; exact rfl) | (apply G.pickF; exact rfl; exact rfl; exact rfl) | (apply G.lss; exact rfl; exact rfl; exact rfl) | (apply G.leq; exact rfl; exact rfl; exact rfl) | (apply G.geq; exact rfl; exact rfl; exact rfl) | (apply G.eql; exact rfl; exact rfl; exact rfl) | (apply G.notT; exact rfl; exact rfl) | (apply G.extract; exact rfl; exact rfl; exact rfl) | (apply G.nilCheckP; exact rfl; exact rfl) | (refine G.indexAddr1 rfl T.slc_46 T.sz_3 rfl rfl _ (Int.toNat_of_nonneg (by omega)).symm (by omega) ?_))
        all_goals first
          | (exfalso; omega)
          | (refine Goal.done (vs := []) (by first | exact .inl rfl | exact .inr rfl) Try.results90 trivial rfl (fun w' H => ⟨A, hA, rfl, H⟩))
end
end Go.Proofs.Ythhhegmhgheeiaa
