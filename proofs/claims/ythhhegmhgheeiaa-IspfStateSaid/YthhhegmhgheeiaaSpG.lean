/- The document's square and what paths over it are; lists and paths read from memory. -/
import Derived.Test.YthhhegmhgheeiaaSpR
import Derived.Test.YthhhegmhgheeiaaCheck
namespace Go.Proofs.Ythhhegmhgheeiaa
open Go.Wf
set_option linter.unusedVariables false
def sqL : List Lk := [⟨0, 1, 1, 1, 0, 1, 0⟩, ⟨1, 2, 1, 1, 0, 1, 0⟩, ⟨2, 3, 1, 1, 0, 1, 0⟩, ⟨3, 0, 1, 1, 0, 1, 0⟩]
def sqo (ov : List Bool) : Top := ⟨4, ov, sqL⟩
def sq : Top := sqo []
def sq2 : Top := sqo [false, true, false, false]
theorem sq_at : ∀ i : Int, 0 ≤ i → i < 4 → sqL.take (i + 1).toNat = sqL.take i.toNat ++ [⟨i, (i + 1) % 4, 1, 1, 0, 1, 0⟩] := fun i i0 i1 => by
  have : i = 0 ∨ i = 1 ∨ i = 2 ∨ i = 3 := by omega
  rcases this with rfl | rfl | rfl | rfl <;> rfl
section
variable {w0 w : World} {S : List Nat} {L : List Blk} {v : Value} {A : List Blk}
theorem sqT (H : St w0 S w L) (hS : Sl v 39 7 sqL.length (Els lkc sqL) A) (hm : ∀ p ∈ A, p ∈ L) : TopR w (.slice none 0 0) v sq :=
  ⟨RdV.nil w, RdE.of_sl (fun _ => rfl) hS (Own.mk fun _ h => H.own.get (hm _ h))⟩
theorem sqT2 (H : St w0 S w L) (hS : Sl v 39 7 sqL.length (Els lkc sqL) A) (hm : ∀ p ∈ A, p ∈ L) {b E : Nat} (hb : (b, Obj.cells (bools [false, true, false, false]).toArray E) ∈ L) : TopR w (.slice (some ⟨b, 0, none⟩) 4 4) v sq2 :=
  ⟨RdV.of_lit (vs := bools [false, true, false, false]) (H.get hb), RdE.of_sl (fun _ => rfl) hS (Own.mk fun _ h => H.own.get (hm _ h))⟩
theorem rdm (H : St w0 S w L) {b E : Nat} {l : List Int} (hb : (b, Obj.cells (ints l).toArray E) ∈ L) : RdV w (.slice (some ⟨b, 0, none⟩) l.length l.length) (ints l) := by
  have := RdV.of_lit (vs := ints l) (H.get hb)
  rwa [ints_len] at this
theorem rds (H : St w0 S w L) {E n : Nat} {l : List Int} (hS : Sl v E 1 n (ints l) A) (hm : ∀ p ∈ A, p ∈ L) : RdV w v (ints l) := RdV.of_sl hS (Own.mk fun _ h => H.own.get (hm _ h))
theorem same_yes {va vb : Value} {l : List Int} (ha : RdV w va (ints l)) (hb : RdV w vb (ints l)) (hl : l.length ≤ 4294967296) : Calls Try.prog 22 #[va, vb] w fun e w' => e = .returned (.bool true) ∧ Mod [] w w' :=
  (same_ok ha hb hl hl).mono fun e w' h => by rwa [decide_eq_true rfl] at h
end
theorem sq_ok : sq.Ok := by decide
theorem sq2_ok : sq2.Ok := by decide
theorem sq_dl {l : List Int} (h : DL 4 2 (GD sq [] 2) l) : l = [2, 1, 0, 1] := DL.one (GD.ok sq_ok) h (dlB_spec (T := sq) (dn := []) (by decide))
theorem sq2_dl {l : List Int} (h : DL 4 2 (GD sq2 [] 2) l) : l = [2, 1, 0, 1] := DL.one (GD.ok sq2_ok) h (dlB_spec (T := sq2) (dn := []) (by decide))
structure PV where
  (v : Value) (A : List Blk)
theorem sq_dist {w : World} {vo vl : Value} (hT : TopR w vo vl sq) : Calls Try.prog 38 #[.agg #[.int .i64 4, vo, vl], .slice none 0 0, .int .i64 2] w fun e w' => ∃ b : Nat, True ∧ e = .returned (.tuple #[.slice (some ⟨b, 0, none⟩) 4 4, .int .i64 0]) ∧ St w [] w' [(b, .cells (ints [2, 1, 0, 1]).toArray 3)] :=
  (dist_ok (tp := sq) (dn := []) (d := 2) hT (RdV.nil w) sq_ok (.inl rfl) (by decide)).mono fun e w' ⟨⟨b, l⟩, hl, he, H⟩ => by
    dsimp only at hl he H
    obtain rfl := sq_dl hl
    exact ⟨b, trivial, he, H⟩
theorem sq2_dist {w : World} {vo vl : Value} (hT : TopR w vo vl sq2) : Calls Try.prog 38 #[.agg #[.int .i64 4, vo, vl], .slice none 0 0, .int .i64 2] w fun e w' => ∃ b : Nat, True ∧ e = .returned (.tuple #[.slice (some ⟨b, 0, none⟩) 4 4, .int .i64 0]) ∧ St w [] w' [(b, .cells (ints [2, 1, 0, 1]).toArray 3)] :=
  (dist_ok (tp := sq2) (dn := []) (d := 2) hT (RdV.nil w) sq2_ok (.inl rfl) (by decide)).mono fun e w' ⟨⟨b, l⟩, hl, he, H⟩ => by
    dsimp only at hl he H
    obtain rfl := sq2_dl hl
    exact ⟨b, trivial, he, H⟩
theorem chk_zero {tp : Top} {dn : List Bool} {ns : List Int} (h : chk tp dn ns = 0) : tp.Ok ∧ Fit tp dn ∧ ∀ x ∈ ns, 0 ≤ x ∧ x < tp.n := by
  unfold chk at h
  by_cases h1 : tp.Ok ∧ Fit tp dn
  · rw [if_pos h1] at h
    by_cases h2 : ∀ x ∈ ns, 0 ≤ x ∧ x < tp.n
    · exact ⟨h1.1, h1.2, h2⟩
    · rw [if_neg h2] at h; cases h
  · rw [if_neg h1] at h; cases h
/-- A link of seven numbers. -/
def toLk (a : Int × Int × Int × Int × Int × Int × Int) : Lk := ⟨a.1, a.2.1, a.2.2.1, a.2.2.2.1, a.2.2.2.2.1, a.2.2.2.2.2.1, a.2.2.2.2.2.2⟩
end Go.Proofs.Ythhhegmhgheeiaa
