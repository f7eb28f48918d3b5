/- More rules: the built-in min and max of two integers. -/
import Derived.Test.YtlnbogggaajfbaaCore2
import Derived.Lib.MinMax
namespace Go.Wf
section
variable {P : Program} {n : Nat} {w0 : World} {S : List Nat} {F : Fr} {L : List Blk} {x y : Operand} {d : Option Tmp} {ty t1 t2 : TypeId} {ps : String} {af : Array Edge} {g : Option (Nat × Bool)} {k : IntKind} {a b : Int}
theorem Run.max2 (hx : ev F x = some (.int k a)) (hy : ev F y = some (.int k b)) :
    Run P n w0 S F L ⟨d, .call { callee := .builtin .max, args := #[x, y], argTypes := #[t1, t2] }, ty, ps, af, g⟩ (.int k (max a b)) := Run.of fun ρ hρ w _ => by
  simp [hρ _ _ hx, hρ _ _ hy, Go.Lib.run_max_ints, go_sem]
theorem Run.min2 (hx : ev F x = some (.int k a)) (hy : ev F y = some (.int k b)) :
    Run P n w0 S F L ⟨d, .call { callee := .builtin .min, args := #[x, y], argTypes := #[t1, t2] }, ty, ps, af, g⟩ (.int k (min a b)) := Run.of fun ρ hρ w _ => by
  simp [hρ _ _ hx, hρ _ _ hy, Go.Lib.run_min_ints, go_sem]
end
end Go.Wf
