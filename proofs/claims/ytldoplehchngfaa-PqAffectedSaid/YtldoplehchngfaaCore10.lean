/- More rules: sets of at most 64 numbers as the bits of a uint64. -/
import Derived.Test.YtldoplehchngfaaCore9
import Derived.Laws.Bits64b
import Derived.Laws.Shifts
namespace Go.Wf
open Go.RowKit
set_option linter.unusedVariables false
theorem shr_lt {m i : Nat} (h : m < 18446744073709551616) : m >>> i < 18446744073709551616 := Nat.lt_of_le_of_lt (by rw [Nat.shiftRight_eq_div_pow]; exact Nat.div_le_self _ _) h
theorem two_lt {i : Nat} (h : i < 64) : 2 ^ i < 18446744073709551616 := Nat.pow_lt_pow_right (a := 2) (by decide) h
theorem or_lt {a b : Nat} (ha : a < 18446744073709551616) (hb : b < 18446744073709551616) : a ||| b < 18446744073709551616 := Nat.or_lt_two_pow (n := 64) ha hb
section
variable {P : Program} {n : Nat} {w0 : World} {S : List Nat} {F : Fr} {L : List Blk} {g : Option (Nat × Bool)} {d : Option Tmp} {x y : Operand} {T T' ty : TypeId} {ps : String} {af : Array Edge}
theorem Run.shrB {m : Nat} {i : Int} (hx : ev F x = some (.int .u64 (m : Int))) (hy : ev F y = some (.int .i64 i)) (hi : 0 ≤ i ∧ i < 64) : Run P n w0 S F L ⟨d, .binOp .shr T x y T', ty, ps, af, g⟩ (.int .u64 ((m >>> i.toNat : Nat) : Int)) := Run.of fun ρ hρ w _ => by
  have e : (m : Int) / 2 ^ i.toNat = ((m >>> i.toNat : Nat) : Int) := by rw [Nat.shiftRight_eq_div_pow]; norm_cast
  have h64 : i ≤ (IntKind.u64.bits : Int) := by show i ≤ 64; omega
  simp [execOp, hρ _ _ hx, hρ _ _ hy, e, go_sem]
theorem Run.shl1B {i : Int} (hx : ev F x = some (.int .u64 1)) (hy : ev F y = some (.int .i64 i)) (hi : 0 ≤ i ∧ i < 64) : Run P n w0 S F L ⟨d, .binOp .shl T x y T', ty, ps, af, g⟩ (.int .u64 ((2 ^ i.toNat : Nat) : Int)) := Run.of fun ρ hρ w _ => by
  have hlt := two_lt (i := i.toNat) (by omega)
  have e : IntKind.u64.wrap (1 * 2 ^ i.toNat) = ((2 ^ i.toNat : Nat) : Int) := by
    have : (1 : Int) * 2 ^ i.toNat = ((2 ^ i.toNat : Nat) : Int) := by rw [Int.one_mul]; norm_cast
    rw [this]
    generalize 2 ^ i.toNat = q at hlt
    exact IntWalk.u64_in _ (by omega)
  have h64 : i ≤ (IntKind.u64.bits : Int) := by show i ≤ 64; omega
  have hs : Op.shift .shl .u64 1 .i64 i = pure (.int .u64 ((2 ^ i.toNat : Nat) : Int)) := by rw [shift_shl .u64 .i64 1 i hi.1 h64, e]
  simp only [execOp, hρ _ _ hx, hρ _ _ hy, binOp_shl, hs, eqGuard, go_sem]
  rfl
theorem Run.and1B {q : Nat} (hx : ev F x = some (.int .u64 (q : Int))) (hy : ev F y = some (.int .u64 1)) (hq : q < 18446744073709551616) : Run P n w0 S F L ⟨d, .binOp .and T x y T', ty, ps, af, g⟩ (.int .u64 ((q % 2 : Nat) : Int)) := Run.int2 hx hy fun w => by
  have e : bits .and .u64 (q : Int) 1 = ((q % 2 : Nat) : Int) := by
    have := bits_and_u64_nat q 1 hq (by decide)
    rw [Nat.and_one_is_mod] at this
    exact this
  rw [binOp_and, intBits_and, Sem.run_pure, e]
theorem Run.orB {a b : Nat} (hx : ev F x = some (.int .u64 (a : Int))) (hy : ev F y = some (.int .u64 (b : Int))) (ha : a < 18446744073709551616) (hb : b < 18446744073709551616) : Run P n w0 S F L ⟨d, .binOp .or T x y T', ty, ps, af, g⟩ (.int .u64 ((a ||| b : Nat) : Int)) := Run.int2 hx hy fun w => by
  rw [binOp_or, intBits_or, Sem.run_pure, bits_or_u64_nat a b ha hb]
end
end Go.Wf
namespace Go.Proofs.Ytldoplehchngfaa
open Go.Wf
/-- The numbers below a bound that have a property, in order. -/
def selL (n : Nat) (p : Int → Bool) : List Int := ((List.range n).map fun k : Nat => (k : Int)).filter p
theorem selL_succ (n : Nat) (p : Int → Bool) : selL (n + 1) p = selL n p ++ if p n = true then [(n : Int)] else [] := by
  unfold selL
  rw [List.range_succ, List.map_append, List.filter_append, List.map_singleton]
  congr 1
  cases h : p n <;> simp [h]
theorem selL_next {n : Int} (h : 0 ≤ n) (p : Int → Bool) : selL (n + 1).toNat p = selL n.toNat p ++ if p n = true then [n] else [] := by
  rw [show (n + 1).toNat = n.toNat + 1 by omega, selL_succ, Int.toNat_of_nonneg h]
theorem mem_selL {n : Nat} {p : Int → Bool} {x : Int} : x ∈ selL n p ↔ (0 ≤ x ∧ x < n) ∧ p x = true := by
  unfold selL
  rw [List.mem_filter, List.mem_map]
  constructor
  · rintro ⟨⟨k, hk, rfl⟩, h⟩
    rw [List.mem_range] at hk
    exact ⟨by omega, h⟩
  · rintro ⟨⟨h0, h1⟩, h⟩
    exact ⟨⟨x.toNat, by rw [List.mem_range]; omega, by omega⟩, h⟩
theorem selL_len (n : Nat) (p : Int → Bool) : (selL n p).length ≤ n := by
  unfold selL
  refine Nat.le_trans (List.length_filter_le _ _) ?_
  simp
theorem selL_ext {n m : Nat} {p q : Int → Bool} (hnm : n ≤ m) (h1 : ∀ k : Int, 0 ≤ k → k < n → p k = q k) (h2 : ∀ k : Int, n ≤ k → k < m → p k = false) : selL m p = selL n q := by
  induction m with
  | zero =>
    obtain rfl : n = 0 := by omega
    rfl
  | succ m ih =>
    by_cases e : n = m + 1
    · subst e
      unfold selL
      refine List.filter_congr fun x hx => ?_
      rw [List.mem_map] at hx
      obtain ⟨k, hk, rfl⟩ := hx
      rw [List.mem_range] at hk
      exact h1 k (by omega) (by omega)
    · rw [selL_succ, h2 m (by omega) (by omega), ih (by omega) (fun k k0 k1 => h2 k k0 (by omega))]
      simp
theorem bit_shr (m i : Nat) : (m >>> i) % 2 = 1 ↔ m.testBit i = true := by
  rw [Nat.testBit_eq_decide_div_mod_eq, Nat.shiftRight_eq_div_pow, decide_eq_true_eq]
theorem bit_or_two {m i k : Nat} : (m ||| 2 ^ i).testBit k = (m.testBit k || decide (i = k)) := by
  rw [Nat.testBit_or, Nat.testBit_two_pow]
end Go.Proofs.Ytldoplehchngfaa
