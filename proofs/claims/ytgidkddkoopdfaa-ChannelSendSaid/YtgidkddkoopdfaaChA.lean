/- The binary search of the library, by its predicate's contract. -/
import Derived.Test.YtgidkddkoopdfaaTypes
import Derived.Test.YtgidkddkoopdfaaCore3
namespace Go.Proofs.Ytgidkddkoopdfaa
open Go.Wf
set_option linter.unusedVariables false
def pr (a : Int × Int) : List Value := [.int .i64 a.1, .int .i64 a.2]
theorem pr_len (a : Int × Int) : (pr a).length = 2 := rfl
theorem pr_one (a : Int × Int) : (pr a).all Value.oneCell' = true := rfl
structure SI where
  (i j : Int)
set_option maxHeartbeats 1000000 in
theorem search_ok {f : FuncId} {cs : List Value} {A : List Blk} {p : Int → Bool} (m : Int) (hm : 0 ≤ m ∧ m ≤ 4611686018427387904) (hb : Bod Try.prog f)
    (hcl : ∀ i : Int, 0 ≤ i → i < m → MCalls Try.prog f (.int .i64 i :: cs) A (fun _ : Unit => True) (fun _ => .bool (p i)) (fun _ => A))
    (hp : ∀ i j : Int, 0 ≤ i → i ≤ j → j < m → p i = true → p j = true) :
    MCalls Try.prog 32 [.int .i64 m, .func (.func f) #[] cs.toArray] A (fun r : Int => (0 ≤ r ∧ r ≤ m) ∧ (∀ k : Int, 0 ≤ k → k < r → p k = false) ∧ (∀ k : Int, r ≤ k → k < m → p k = true)) (fun r => .int .i64 r) (fun _ => A) := .mk fun w hw => by
  refine Goal.enter (args := [.int .i64 m, .func (.func f) #[] cs.toArray]) Try.func32 rfl Try.ntmps32 rfl (hw) ?_
  repeat' (first
    | (apply G.move; exact rfl; exact rfl)
    | (apply G.assign; exact rfl; exact rfl)
    | refine Goal.seq (fun _ _ => ?_)
    | refine Goal.next (by assumption) ?_
    | refine Goal.lnil ?_
    | refine Goal.region ?_
    | refine Goal.skip ?_
    | refine Goal.block ?_
    | refine Goal.exit ?_
    | refine Goal.ret ?_
    | refine Goal.then_exit ?_
    | refine Goal.then_ret ?_
    | refine Goal.inBlock_exit ?_
    | refine Goal.inBlock_normal ?_
    | refine Goal.inBlock_ret ?_
    | refine Goal.inBlock_other rfl ?_
    | (apply Goal.condT; exact rfl)
    | (apply Goal.condF; exact rfl)
    | (refine Goal.condD rfl (fun hc => ?_) (fun hc => ?_) <;> first | (exfalso; omega) | contradiction | skip)
    | refine Goal.condB rfl (fun hc => ?_) (fun hc => ?_)
    | (apply G.lss; exact rfl; exact rfl; exact rfl)
    | (apply G.add; exact rfl; exact rfl; exact rfl; first | exact IntWalk.i64_in _ (by omega) | exact IntWalk.u8_in _ (by omega) | exact IntWalk.u16_in _ (by omega) | exact IntWalk.u32_in _ (by omega) | exact IntWalk.u64_in _ (by omega))
    | (refine Goal.quiet rfl (Run.shr1 (by decide) rfl rfl rfl) ?_)
    | (apply G.conv; exact rfl; exact rfl; (first | exact T.int_3 | exact T.int_62); (first | exact T.int_3 | exact T.int_62); first | exact IntWalk.i64_in _ (by omega) | exact IntWalk.u8_in _ (by omega) | exact IntWalk.u16_in _ (by omega) | exact IntWalk.u32_in _ (by omega) | exact IntWalk.u64_in _ (by omega))
    | (apply G.notT; exact rfl; exact rfl)
    | (apply G.notF; exact rfl; exact rfl)
    | (refine G.notD rfl rfl ?_)
    | (apply G.notB; exact rfl; exact rfl))
  refine Goal.loopP (X := SI) (fun x => [(1, .func (.func f) #[] cs.toArray), (5, .int .i64 x.i), (6, .int .i64 x.j)]) (fun _ => A)
    (fun x => (0 ≤ x.i ∧ x.i ≤ x.j ∧ x.j ≤ m) ∧ (∀ k : Int, 0 ≤ k → k < x.i → p k = false) ∧ (∀ k : Int, x.j ≤ k → k < m → p k = true)) (fun x => (x.j - x.i).toNat) ⟨0, m⟩ ⟨rfl, rfl, rfl, trivial⟩ (fun _ h => h)
    ⟨by dsimp only; omega, fun k k0 k1 => by dsimp only at k1; omega, fun k k0 k1 => by dsimp only at k0; omega⟩ ?_
  rintro ⟨i, j⟩ ⟨hij, hl, hr⟩
  dsimp only at hij hl hr ⊢
  by_cases h : i < j
  · cases hq : p ((i + j) / 2)
    · skip
      repeat' (first
        | (refine Goal.loud (o := ⟨some 20, _, _, _, _, _⟩) rfl ?_; refine Loud.callM [] (A := A) (G := []) (hcl ((i + j) / 2) (by omega) (by omega)) rfl rfl rfl (by simp) hb (fun _ h => by simpa using h) ?_; rintro ⟨⟩ -; rw [hq])
        | (apply G.move; exact rfl; exact rfl)
        | (apply G.assign; exact rfl; exact rfl)
        | refine Goal.seq (fun _ _ => ?_)
        | refine Goal.next (by assumption) ?_
        | refine Goal.lnil ?_
        | refine Goal.region ?_
        | refine Goal.skip ?_
        | refine Goal.block ?_
        | refine Goal.exit ?_
        | refine Goal.ret ?_
        | refine Goal.then_exit ?_
        | refine Goal.then_ret ?_
        | refine Goal.inBlock_exit ?_
        | refine Goal.inBlock_normal ?_
        | refine Goal.inBlock_ret ?_
        | refine Goal.inBlock_other rfl ?_
        | (apply Goal.condT; exact rfl)
        | (apply Goal.condF; exact rfl)
        | (refine Goal.condD rfl (fun hc => ?_) (fun hc => ?_) <;> first | (exfalso; omega) | contradiction | skip)
        | refine Goal.condB rfl (fun hc => ?_) (fun hc => ?_)
        | (apply G.lss; exact rfl; exact rfl; exact rfl)
        | (apply G.add; exact rfl; exact rfl; exact rfl; first | exact IntWalk.i64_in _ (by omega) | exact IntWalk.u8_in _ (by omega) | exact IntWalk.u16_in _ (by omega) | exact IntWalk.u32_in _ (by omega) | exact IntWalk.u64_in _ (by omega))
        | (refine Goal.quiet rfl (Run.shr1 (by decide) rfl rfl rfl) ?_)
        | (apply G.conv; exact rfl; exact rfl; (first | exact T.int_3 | exact T.int_62); (first | exact T.int_3 | exact T.int_62); first | exact IntWalk.i64_in _ (by omega) | exact IntWalk.u8_in _ (by omega) | exact IntWalk.u16_in _ (by omega) | exact IntWalk.u32_in _ (by omega) | exact IntWalk.u64_in _ (by omega))
        | (apply G.notT; exact rfl; exact rfl)
        | (apply G.notF; exact rfl; exact rfl)
        | (refine G.notD rfl rfl ?_)
        | (apply G.notB; exact rfl; exact rfl))
      refine Goal.again ⟨(i + j) / 2 + 1, j⟩ ⟨by dsimp only; omega, fun k k0 k1 => ?_, hr⟩ (by dsimp only; omega) ⟨rfl, rfl, rfl, trivial⟩ (fun _ h => by simpa using h)
      dsimp only at k1
      cases hk : p k
      · rfl
      · rw [hp k ((i + j) / 2) k0 (by omega) (by omega) hk] at hq; cases hq
    · skip
      repeat' (first
        | (refine Goal.loud (o := ⟨some 20, _, _, _, _, _⟩) rfl ?_; refine Loud.callM [] (A := A) (G := []) (hcl ((i + j) / 2) (by omega) (by omega)) rfl rfl rfl (by simp) hb (fun _ h => by simpa using h) ?_; rintro ⟨⟩ -; rw [hq])
        | (apply G.move; exact rfl; exact rfl)
        | (apply G.assign; exact rfl; exact rfl)
        | refine Goal.seq (fun _ _ => ?_)
        | refine Goal.next (by assumption) ?_
        | refine Goal.lnil ?_
        | refine Goal.region ?_
        | refine Goal.skip ?_
        | refine Goal.block ?_
        | refine Goal.exit ?_
        | refine Goal.ret ?_
        | refine Goal.then_exit ?_
        | refine Goal.then_ret ?_
        | refine Goal.inBlock_exit ?_
        | refine Goal.inBlock_normal ?_
        | refine Goal.inBlock_ret ?_
        | refine Goal.inBlock_other rfl ?_
        | (apply Goal.condT; exact rfl)
        | (apply Goal.condF; exact rfl)
        | (refine Goal.condD rfl (fun hc => ?_) (fun hc => ?_) <;> first | (exfalso; omega) | contradiction | skip)
        | refine Goal.condB rfl (fun hc => ?_) (fun hc => ?_)
        | (apply G.lss; exact rfl; exact rfl; exact rfl)
        | (apply G.add; exact rfl; exact rfl; exact rfl; first | exact IntWalk.i64_in _ (by omega) | exact IntWalk.u8_in _ (by omega) | exact IntWalk.u16_in _ (by omega) | exact IntWalk.u32_in _ (by omega) | exact IntWalk.u64_in _ (by omega))
        | (refine Goal.quiet rfl (Run.shr1 (by decide) rfl rfl rfl) ?_)
        | (apply G.conv; exact rfl; exact rfl; (first | exact T.int_3 | exact T.int_62); (first | exact T.int_3 | exact T.int_62); first | exact IntWalk.i64_in _ (by omega) | exact IntWalk.u8_in _ (by omega) | exact IntWalk.u16_in _ (by omega) | exact IntWalk.u32_in _ (by omega) | exact IntWalk.u64_in _ (by omega))
        | (apply G.notT; exact rfl; exact rfl)
        | (apply G.notF; exact rfl; exact rfl)
        | (refine G.notD rfl rfl ?_)
        | (apply G.notB; exact rfl; exact rfl))
      refine Goal.again ⟨i, (i + j) / 2⟩ ⟨by dsimp only; omega, hl, fun k k0 k1 => ?_⟩ (by dsimp only; omega) ⟨rfl, rfl, rfl, trivial⟩ (fun _ h => by simpa using h)
      dsimp only at k0
      exact hp ((i + j) / 2) k (by omega) k0 k1 hq
  · obtain rfl : i = j := by omega
    repeat' (first
      | (apply G.move; exact rfl; exact rfl)
      | (apply G.assign; exact rfl; exact rfl)
      | refine Goal.seq (fun _ _ => ?_)
      | refine Goal.next (by assumption) ?_
      | refine Goal.lnil ?_
      | refine Goal.region ?_
      | refine Goal.skip ?_
      | refine Goal.block ?_
      | refine Goal.exit ?_
      | refine Goal.ret ?_
      | refine Goal.then_exit ?_
      | refine Goal.then_ret ?_
      | refine Goal.inBlock_exit ?_
      | refine Goal.inBlock_normal ?_
      | refine Goal.inBlock_ret ?_
      | refine Goal.inBlock_other rfl ?_
      | (apply Goal.condT; exact rfl)
      | (apply Goal.condF; exact rfl)
      | (refine Goal.condD rfl (fun hc => ?_) (fun hc => ?_) <;> first | (exfalso; omega) | contradiction | skip)
      | refine Goal.condB rfl (fun hc => ?_) (fun hc => ?_)
      | (apply G.lss; exact rfl; exact rfl; exact rfl)
      | (apply G.add; exact rfl; exact rfl; exact rfl; first | exact IntWalk.i64_in _ (by omega) | exact IntWalk.u8_in _ (by omega) | exact IntWalk.u16_in _ (by omega) | exact IntWalk.u32_in _ (by omega) | exact IntWalk.u64_in _ (by omega))
      | (refine Goal.quiet rfl (Run.shr1 (by decide) rfl rfl rfl) ?_)
      | (apply G.conv; exact rfl; exact rfl; (first | exact T.int_3 | exact T.int_62); (first | exact T.int_3 | exact T.int_62); first | exact IntWalk.i64_in _ (by omega) | exact IntWalk.u8_in _ (by omega) | exact IntWalk.u16_in _ (by omega) | exact IntWalk.u32_in _ (by omega) | exact IntWalk.u64_in _ (by omega))
      | (apply G.notT; exact rfl; exact rfl)
      | (apply G.notF; exact rfl; exact rfl)
      | (refine G.notD rfl rfl ?_)
      | (apply G.notB; exact rfl; exact rfl))
    refine Goal.done (vs := [_]) (by first | exact .inl rfl | exact .inr rfl) Try.results32 ⟨rfl, trivial⟩ rfl (fun w' H => ⟨i, ⟨by omega, hl, hr⟩, rfl, H⟩)
end Go.Proofs.Ytgidkddkoopdfaa
