/- More rules: exclusive or with 1; slices of slices of numbers. -/
import Derived.Test.YthhhegmhgheeiaaCore7
import Derived.Laws.Entries
namespace Go.Wf
open Go.RowKit
set_option linter.unusedVariables false
theorem xor1_nat (a : Nat) : a ^^^ 1 = if a % 2 = 0 then a + 1 else a - 1 := by
  have h1 : (a ^^^ 1) / 2 = a / 2 := by rw [Nat.xor_div_two]; simp
  have h2 : (a ^^^ 1) % 2 = (a + 1) % 2 := by
    have := Nat.testBit_xor a 1 0
    simp only [Nat.testBit_zero] at this
    have e : (1 % 2 = 1) := rfl
    rcases Nat.mod_two_eq_zero_or_one a with h | h <;> rcases Nat.mod_two_eq_zero_or_one (a ^^^ 1) with g | g <;> simp only [h, g] at this ⊢ <;> first | omega | (exact absurd this (by decide))
  split <;> omega
theorem bits_xor1 {a : Int} (h0 : 0 ≤ a) (h1 : a < 4611686018427387904) : bits .xor .i64 a 1 = if a % 2 = 0 then a + 1 else a - 1 := by
  obtain ⟨n, rfl⟩ := Int.eq_ofNat_of_zero_le h0
  have e1 : (BitVec.ofInt 64 (n : Int)).toNat = n := by
    rw [BitVec.ofInt_natCast, BitVec.toNat_ofNat]; exact Nat.mod_eq_of_lt (by omega)
  have e2 : (BitVec.ofInt 64 (1 : Int)).toNat = 1 := by decide
  have e3 : bits .xor .i64 (n : Int) 1 = IntKind.i64.wrap ((BitVec.ofInt 64 (n : Int) ^^^ BitVec.ofInt 64 1).toNat : Int) := rfl
  rw [e3, BitVec.toNat_xor, e1, e2, xor1_nat, IntWalk.i64_in _ (by split <;> omega)]
  split <;> split <;> omega
section
variable {P : Program} {n : Nat} {w0 : World} {S : List Nat} {F : Fr} {L : List Blk} {g : Option (Nat × Bool)} {d : Option Tmp} {x y : Operand} {T T' ty : TypeId} {ps : String} {af : Array Edge}
theorem Run.xor1 {a c : Int} (hx : ev F x = some (.int .i64 a)) (hy : ev F y = some (.int .i64 1)) (ha : 0 ≤ a ∧ a < 4611686018427387904) (hc : (if a % 2 = 0 then a + 1 else a - 1) = c) : Run P n w0 S F L ⟨d, .binOp .xor T x y T', ty, ps, af, g⟩ (.int .i64 c) := Run.int2 hx hy fun w => by
  subst hc
  rw [← bits_xor1 ha.1 ha.2, binOp_xor, intBits_xor, Sem.run_pure]
end
/-- Lists of numbers in slices of their own: their values, what they hold, their blocks. -/
inductive InnI (E : Nat) : List Value → List (List Int) → List Blk → Prop where
  | nil : InnI E [] [] []
  | cons {v : Value} {l : List Int} {A : List Blk} {vs : List Value} {ls : List (List Int)} {B : List Blk} (h : Sl v E 1 l.length (ints l) A) (r : InnI E vs ls B) : InnI E (v :: vs) (l :: ls) (A ++ B)
section
variable {E : Nat} {vs : List Value} {ls : List (List Int)} {B : List Blk}
theorem InnI.len (h : InnI E vs ls B) : vs.length = ls.length := by
  induction h with
  | nil => rfl
  | cons _ _ ih => simp [ih]
theorem InnI.split (h : InnI E vs ls B) : ∀ {i : Nat}, (hi : i < ls.length) → ∃ (v : Value) (B1 A B2 : List Blk), vs[i]? = some v ∧ B = B1 ++ (A ++ B2) ∧ Sl v E 1 ls[i].length (ints ls[i]) A ∧
    ∀ v' l' A', Sl v' E 1 (List.length l') (ints l') A' → InnI E (vs.set i v') (ls.set i l') (B1 ++ (A' ++ B2)) := by
  induction h with
  | nil => intro i hi; simp at hi
  | cons h r ih =>
    intro i hi
    cases i with
    | zero => exact ⟨_, [], _, _, rfl, rfl, h, fun v' l' A' h' => by rw [List.nil_append]; exact .cons h' r⟩
    | succ i =>
      obtain ⟨v, B1, A, B2, h1, h2, h3, h4⟩ := ih (i := i) (by simpa using hi)
      refine ⟨v, _ ++ B1, A, B2, by simpa using h1, by rw [h2, List.append_assoc], by simpa using h3, fun v' l' A' h' => ?_⟩
      rw [List.append_assoc]
      exact .cons h (h4 v' l' A' h')
theorem InnI.nils (E n : Nat) : InnI E (List.replicate n (.slice none 0 0)) (List.replicate n []) [] := by
  induction n with
  | zero => exact .nil
  | succ n ih => exact .cons (A := []) (Sl.nil _ 1) ih
theorem InnI.rd (h : InnI E vs ls B) {w : World} (ho : Own w B) {i : Nat} (hi : i < ls.length) : ∃ v, vs[i]? = some v ∧ RdV w v (ints ls[i]) := by
  obtain ⟨v, B1, A, B2, h1, h2, h3, _⟩ := h.split hi
  subst h2
  exact ⟨v, h1, RdV.of_sl h3 (Own.append.1 (Own.append.1 ho).2).1⟩
end
/-- A slice of slices of numbers that is only read. -/
def RdLL (w : World) (v : Value) (ls : List (List Int)) : Prop := ∃ (b cap : Nat) (vs : List Value), v = .slice (some ⟨b, 0, none⟩) ls.length cap ∧ vs.length = ls.length ∧
  ∀ i : Nat, ∀ h : i < ls.length, ∃ u, vs[i]? = some u ∧ w.cell? ⟨b, i, none⟩ = some u ∧ RdV w u (ints ls[i])
theorem RdLL.keep {w w' : World} {v : Value} {ls : List (List Int)} (h : RdLL w v ls) (hm : Mod [] w w') : RdLL w' v ls := by
  obtain ⟨b, cap, vs, rfl, hl, h⟩ := h
  refine ⟨b, cap, vs, rfl, hl, fun i hi => ?_⟩
  obtain ⟨u, h1, h2, h3⟩ := h i hi
  exact ⟨u, h1, hm.cell h2 (by simp), h3.keep hm⟩
theorem RdLL.of_own {w : World} {E b T : Nat} {vs : List Value} {ls : List (List Int)} {B : List Blk} (h : InnI E vs ls B) (ho : Own w ((b, .cells vs.toArray T) :: B)) : RdLL w (.slice (some ⟨b, 0, none⟩) ls.length ls.length) ls := by
  refine ⟨b, ls.length, vs, rfl, h.len, fun i hi => ?_⟩
  obtain ⟨u, h1, h2⟩ := h.rd ho.2 hi
  exact ⟨u, h1, cell_of_blk ho.1 (by simpa using h1), h2⟩
theorem wr_vals {vs : List Value} {i : Int} {v : Value} (h : 0 ≤ i ∧ i < vs.length) : wr vs.toArray (0 + i.toNat) [v] = (vs.set i.toNat v).toArray := by
  rw [wr_list (by omega)]
theorem rep_vals (k : Nat) (v : Value) : rep k [v] = List.replicate k v := by
  induction k with
  | zero => rfl
  | succ k ih => simp only [rep, List.replicate_succ, List.flatten_cons] at ih ⊢; rw [ih]; rfl
end Go.Wf
