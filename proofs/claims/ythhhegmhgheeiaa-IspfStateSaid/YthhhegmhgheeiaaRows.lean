/-
  No cell of these rows narrows 'for every input' (looked for: loops, veiled, ifaces, maps, wideKeys, modest, calm, conditions, laid).
  DERIVED. THE GIVEN ROWS OF THIS SEAT. 8 by the template 'for every input the law returns true; each argument reads behind the call as it read before'; 0 by the template 'total and deterministic' (their statements: YthhhegmhgheeiaaTotals.lean).
  GIVEN WITH THE SEED: the statements are not yours to turn. If you find one false, say at which input.
  Laid BY PROGRAM, IN A SANDBOX (cutbox-rows.mjs): the forced cells as the released guide's own fill.sh prints them over the translation b017e39f2b3bedc2… (all of the seat's roots in one cut). By AI agents, Wed Nov 11 2026. No macro, syntax, notation, axiom, sorry.
-/
import Derived.Test.YthhhegmhgheeiaaChecked
import GoSem.Claim
import GoSem.ClaimJoined
import GoSem.ClaimMapViews
import Derived.JoinedTies
import Derived.KernelRfl
namespace Go.Proofs.Ythhhegmhgheeiaa
/- THE CELL 'sum', in the pinned program and in every row, IS THE sha256 OF THE DUMP (.gsa) THAT YthhhegmhgheeiaaProg.lean LOADS. Nothing in Lean hashes anything: it is a label: what it is worth is what the hold of that sum in a sandbox is worth. -/
noncomputable def Try.pinned : Pinned := { name := "ythhhegmhgheeiaa", sum := "b017e39f2b3bedc24109d7bd2793664d9b4f7d7c090aa3189e575fadf8693e77", checked := Try.checked }
namespace Rows
def none {H : Type} : Left H := { results := [], args := [] }

/-- 'waypointlaw13.IspfState': WHATEVER THE INPUT: true; the input reads as it did. -/
def ispfStateSpec : ChangeSpec := { name := "ispfState", fn := fun _ => fun
  | [d1, d2, d3, d4] => { results := [.lit (.bool true)], args := [d1, d2, d3, d4] }
  | _ => none }
def ispfStateRow : OpenClaim := { program := "ythhhegmhgheeiaa", sum := "b017e39f2b3bedc24109d7bd2793664d9b4f7d7c090aa3189e575fadf8693e77", func := "waypoint/waypointlaw13.IspfState", spec := "ispfState", unfollowed := true, recurses := true, apart := false }
def IspfStateSaid : Prop := ispfStateRow.holds Try.pinned (OpenSpec.ofChange ispfStateSpec)

/-- ITS FALSE NEIGHBOUR: 'it returns false'. Refute it at one input. -/
def ispfStateWrong : ChangeSpec := { name := "ispfState", fn := fun _ => fun
  | [d1, d2, d3, d4] => { results := [.lit (.bool false)], args := [d1, d2, d3, d4] }
  | _ => none }
def IspfStateWrongFalsely : Prop := ispfStateRow.holds Try.pinned (OpenSpec.ofChange ispfStateWrong)

/-- 'waypointlaw13.IspfNil': WHATEVER THE INPUT: true; the input reads as it did. -/
def ispfNilSpec : ChangeSpec := { name := "ispfNil", fn := fun _ => fun
  | [d] => { results := [.lit (.bool true)], args := [d] }
  | _ => none }
def ispfNilRow : OpenClaim := { program := "ythhhegmhgheeiaa", sum := "b017e39f2b3bedc24109d7bd2793664d9b4f7d7c090aa3189e575fadf8693e77", func := "waypoint/waypointlaw13.IspfNil", spec := "ispfNil", unfollowed := true, recurses := true, apart := false }
def IspfNilSaid : Prop := ispfNilRow.holds Try.pinned (OpenSpec.ofChange ispfNilSpec)

/-- ITS FALSE NEIGHBOUR: 'it returns false'. Refute it at one input. -/
def ispfNilWrong : ChangeSpec := { name := "ispfNil", fn := fun _ => fun
  | [d] => { results := [.lit (.bool false)], args := [d] }
  | _ => none }
def IspfNilWrongFalsely : Prop := ispfNilRow.holds Try.pinned (OpenSpec.ofChange ispfNilWrong)

/-- 'waypointlaw13.IspfNew': WHATEVER THE INPUT: true; the input reads as it did. -/
def ispfNewSpec : ChangeSpec := { name := "ispfNew", fn := fun _ => fun
  | [d1, d2, d3] => { results := [.lit (.bool true)], args := [d1, d2, d3] }
  | _ => none }
def ispfNewRow : OpenClaim := { program := "ythhhegmhgheeiaa", sum := "b017e39f2b3bedc24109d7bd2793664d9b4f7d7c090aa3189e575fadf8693e77", func := "waypoint/waypointlaw13.IspfNew", spec := "ispfNew", unfollowed := true, recurses := true, apart := false }
def IspfNewSaid : Prop := ispfNewRow.holds Try.pinned (OpenSpec.ofChange ispfNewSpec)

/-- ITS FALSE NEIGHBOUR: 'it returns false'. Refute it at one input. -/
def ispfNewWrong : ChangeSpec := { name := "ispfNew", fn := fun _ => fun
  | [d1, d2, d3] => { results := [.lit (.bool false)], args := [d1, d2, d3] }
  | _ => none }
def IspfNewWrongFalsely : Prop := ispfNewRow.holds Try.pinned (OpenSpec.ofChange ispfNewWrong)

/-- 'waypointlaw13.IspfIdle': WHATEVER THE INPUT: true; the input reads as it did. -/
def ispfIdleSpec : ChangeSpec := { name := "ispfIdle", fn := fun _ => fun
  | [d1, d2, d3, d4] => { results := [.lit (.bool true)], args := [d1, d2, d3, d4] }
  | _ => none }
def ispfIdleRow : OpenClaim := { program := "ythhhegmhgheeiaa", sum := "b017e39f2b3bedc24109d7bd2793664d9b4f7d7c090aa3189e575fadf8693e77", func := "waypoint/waypointlaw13.IspfIdle", spec := "ispfIdle", unfollowed := true, recurses := true, apart := false }
def IspfIdleSaid : Prop := ispfIdleRow.holds Try.pinned (OpenSpec.ofChange ispfIdleSpec)

/-- ITS FALSE NEIGHBOUR: 'it returns false'. Refute it at one input. -/
def ispfIdleWrong : ChangeSpec := { name := "ispfIdle", fn := fun _ => fun
  | [d1, d2, d3, d4] => { results := [.lit (.bool false)], args := [d1, d2, d3, d4] }
  | _ => none }
def IspfIdleWrongFalsely : Prop := ispfIdleRow.holds Try.pinned (OpenSpec.ofChange ispfIdleWrong)

/-- 'waypointlaw27.PostconvIncremental': WHATEVER THE INPUT: true; the input reads as it did. -/
def postconvIncrementalSpec : ChangeSpec := { name := "postconvIncremental", fn := fun _ => fun
  | [d] => { results := [.lit (.bool true)], args := [d] }
  | _ => none }
def postconvIncrementalRow : OpenClaim := { program := "ythhhegmhgheeiaa", sum := "b017e39f2b3bedc24109d7bd2793664d9b4f7d7c090aa3189e575fadf8693e77", func := "waypoint/waypointlaw27.PostconvIncremental", spec := "postconvIncremental", unfollowed := true, recurses := true, apart := false }
def PostconvIncrementalSaid : Prop := postconvIncrementalRow.holds Try.pinned (OpenSpec.ofChange postconvIncrementalSpec)

/-- ITS FALSE NEIGHBOUR: 'it returns false'. Refute it at one input. -/
def postconvIncrementalWrong : ChangeSpec := { name := "postconvIncremental", fn := fun _ => fun
  | [d] => { results := [.lit (.bool false)], args := [d] }
  | _ => none }
def PostconvIncrementalWrongFalsely : Prop := postconvIncrementalRow.holds Try.pinned (OpenSpec.ofChange postconvIncrementalWrong)

/-- 'waypointlaw13.IspfChanges': WHATEVER THE INPUT: true; the input reads as it did. -/
def ispfChangesSpec : ChangeSpec := { name := "ispfChanges", fn := fun _ => fun
  | [d1, d2, d3, d4] => { results := [.lit (.bool true)], args := [d1, d2, d3, d4] }
  | _ => none }
def ispfChangesRow : OpenClaim := { program := "ythhhegmhgheeiaa", sum := "b017e39f2b3bedc24109d7bd2793664d9b4f7d7c090aa3189e575fadf8693e77", func := "waypoint/waypointlaw13.IspfChanges", spec := "ispfChanges", unfollowed := true, recurses := true, apart := false }
def IspfChangesSaid : Prop := ispfChangesRow.holds Try.pinned (OpenSpec.ofChange ispfChangesSpec)

/-- ITS FALSE NEIGHBOUR: 'it returns false'. Refute it at one input. -/
def ispfChangesWrong : ChangeSpec := { name := "ispfChanges", fn := fun _ => fun
  | [d1, d2, d3, d4] => { results := [.lit (.bool false)], args := [d1, d2, d3, d4] }
  | _ => none }
def IspfChangesWrongFalsely : Prop := ispfChangesRow.holds Try.pinned (OpenSpec.ofChange ispfChangesWrong)

/-- 'waypointlaw13.IspfUndone': WHATEVER THE INPUT: true; the input reads as it did. -/
def ispfUndoneSpec : ChangeSpec := { name := "ispfUndone", fn := fun _ => fun
  | [d1, d2, d3, d4] => { results := [.lit (.bool true)], args := [d1, d2, d3, d4] }
  | _ => none }
def ispfUndoneRow : OpenClaim := { program := "ythhhegmhgheeiaa", sum := "b017e39f2b3bedc24109d7bd2793664d9b4f7d7c090aa3189e575fadf8693e77", func := "waypoint/waypointlaw13.IspfUndone", spec := "ispfUndone", unfollowed := true, recurses := true, apart := false }
def IspfUndoneSaid : Prop := ispfUndoneRow.holds Try.pinned (OpenSpec.ofChange ispfUndoneSpec)

/-- ITS FALSE NEIGHBOUR: 'it returns false'. Refute it at one input. -/
def ispfUndoneWrong : ChangeSpec := { name := "ispfUndone", fn := fun _ => fun
  | [d1, d2, d3, d4] => { results := [.lit (.bool false)], args := [d1, d2, d3, d4] }
  | _ => none }
def IspfUndoneWrongFalsely : Prop := ispfUndoneRow.holds Try.pinned (OpenSpec.ofChange ispfUndoneWrong)

/-- 'waypointlaw13.IspfAnyOrder': WHATEVER THE INPUT: true; the input reads as it did. -/
def ispfAnyOrderSpec : ChangeSpec := { name := "ispfAnyOrder", fn := fun _ => fun
  | [d1, d2, d3, d4] => { results := [.lit (.bool true)], args := [d1, d2, d3, d4] }
  | _ => none }
def ispfAnyOrderRow : OpenClaim := { program := "ythhhegmhgheeiaa", sum := "b017e39f2b3bedc24109d7bd2793664d9b4f7d7c090aa3189e575fadf8693e77", func := "waypoint/waypointlaw13.IspfAnyOrder", spec := "ispfAnyOrder", unfollowed := true, recurses := true, apart := false }
def IspfAnyOrderSaid : Prop := ispfAnyOrderRow.holds Try.pinned (OpenSpec.ofChange ispfAnyOrderSpec)

/-- ITS FALSE NEIGHBOUR: 'it returns false'. Refute it at one input. -/
def ispfAnyOrderWrong : ChangeSpec := { name := "ispfAnyOrder", fn := fun _ => fun
  | [d1, d2, d3, d4] => { results := [.lit (.bool false)], args := [d1, d2, d3, d4] }
  | _ => none }
def IspfAnyOrderWrongFalsely : Prop := ispfAnyOrderRow.holds Try.pinned (OpenSpec.ofChange ispfAnyOrderWrong)

/- THE SECOND FORM. 'bulk': how many values and letters a reading holds, each counted each time it is reached (what is shared counts as often as it is met; a slice's spare places count too). A statement '..UptoSaid' is the law's where the arguments, and the package variables that the reading takes, are together of bulk at most 1048576: NARROWER than '..Said'. Prove '..Said' where nothing that the law and all that it calls make is longer than what came in: it says more and counts as full. Else prove '..UptoSaid'. A law counts once. -/
mutual
def uptoBulk {H : Type} : DataW H → Nat
  | .lit (.string bytes) => bytes.length + 1
  | .lit _ => 1
  | .nil => 1
  | .ptr d => uptoBulk d + 1
  | .slice elems spare => uptoBulkAll elems + uptoBulkAll spare + 1
  | .agg parts => uptoBulkAll parts + 1
  | .iface _ d => uptoBulk d + 1
  | .map entries => uptoBulkEntries entries + 1
  | .held _ => 1
def uptoBulkAll {H : Type} : List (DataW H) → Nat
  | [] => 0
  | d :: r => uptoBulk d + uptoBulkAll r
def uptoBulkEntries {H : Type} : List (Lit × DataW H) → Nat
  | [] => 0
  | x :: r => uptoBulkEntry x + uptoBulkEntries r
def uptoBulkEntry {H : Type} : Lit × DataW H → Nat
  | (.string bytes, d) => bytes.length + uptoBulk d + 1
  | (_, d) => uptoBulk d + 1
 end
def uptoSmall : (H : Type) → List (DataW H) → Bool := fun _ ds => decide (uptoBulkAll ds ≤ 1048576)
def OpenSpec.upto (s : _root_.Go.ChangeSpec) : _root_.Go.OpenSpec := { _root_.Go.OpenSpec.ofChange s with cond := some uptoSmall }

/-- 'waypointlaw13.IspfState', WHERE WHAT IT READS IS OF BULK AT MOST 1048576: true; the input reads as it did. -/
def ispfStateUptoRow : OpenClaim := { program := "ythhhegmhgheeiaa", sum := "b017e39f2b3bedc24109d7bd2793664d9b4f7d7c090aa3189e575fadf8693e77", func := "waypoint/waypointlaw13.IspfState", spec := "ispfState", unfollowed := true, recurses := true, apart := false, narrowed := true }
def IspfStateUptoSaid : Prop := ispfStateUptoRow.holds Try.pinned (OpenSpec.upto ispfStateSpec)

/-- 'waypointlaw13.IspfNil', WHERE WHAT IT READS IS OF BULK AT MOST 1048576: true; the input reads as it did. -/
def ispfNilUptoRow : OpenClaim := { program := "ythhhegmhgheeiaa", sum := "b017e39f2b3bedc24109d7bd2793664d9b4f7d7c090aa3189e575fadf8693e77", func := "waypoint/waypointlaw13.IspfNil", spec := "ispfNil", unfollowed := true, recurses := true, apart := false, narrowed := true }
def IspfNilUptoSaid : Prop := ispfNilUptoRow.holds Try.pinned (OpenSpec.upto ispfNilSpec)

/-- 'waypointlaw13.IspfNew', WHERE WHAT IT READS IS OF BULK AT MOST 1048576: true; the input reads as it did. -/
def ispfNewUptoRow : OpenClaim := { program := "ythhhegmhgheeiaa", sum := "b017e39f2b3bedc24109d7bd2793664d9b4f7d7c090aa3189e575fadf8693e77", func := "waypoint/waypointlaw13.IspfNew", spec := "ispfNew", unfollowed := true, recurses := true, apart := false, narrowed := true }
def IspfNewUptoSaid : Prop := ispfNewUptoRow.holds Try.pinned (OpenSpec.upto ispfNewSpec)

/-- 'waypointlaw13.IspfIdle', WHERE WHAT IT READS IS OF BULK AT MOST 1048576: true; the input reads as it did. -/
def ispfIdleUptoRow : OpenClaim := { program := "ythhhegmhgheeiaa", sum := "b017e39f2b3bedc24109d7bd2793664d9b4f7d7c090aa3189e575fadf8693e77", func := "waypoint/waypointlaw13.IspfIdle", spec := "ispfIdle", unfollowed := true, recurses := true, apart := false, narrowed := true }
def IspfIdleUptoSaid : Prop := ispfIdleUptoRow.holds Try.pinned (OpenSpec.upto ispfIdleSpec)

/-- 'waypointlaw27.PostconvIncremental', WHERE WHAT IT READS IS OF BULK AT MOST 1048576: true; the input reads as it did. -/
def postconvIncrementalUptoRow : OpenClaim := { program := "ythhhegmhgheeiaa", sum := "b017e39f2b3bedc24109d7bd2793664d9b4f7d7c090aa3189e575fadf8693e77", func := "waypoint/waypointlaw27.PostconvIncremental", spec := "postconvIncremental", unfollowed := true, recurses := true, apart := false, narrowed := true }
def PostconvIncrementalUptoSaid : Prop := postconvIncrementalUptoRow.holds Try.pinned (OpenSpec.upto postconvIncrementalSpec)

/-- 'waypointlaw13.IspfChanges', WHERE WHAT IT READS IS OF BULK AT MOST 1048576: true; the input reads as it did. -/
def ispfChangesUptoRow : OpenClaim := { program := "ythhhegmhgheeiaa", sum := "b017e39f2b3bedc24109d7bd2793664d9b4f7d7c090aa3189e575fadf8693e77", func := "waypoint/waypointlaw13.IspfChanges", spec := "ispfChanges", unfollowed := true, recurses := true, apart := false, narrowed := true }
def IspfChangesUptoSaid : Prop := ispfChangesUptoRow.holds Try.pinned (OpenSpec.upto ispfChangesSpec)

/-- 'waypointlaw13.IspfUndone', WHERE WHAT IT READS IS OF BULK AT MOST 1048576: true; the input reads as it did. -/
def ispfUndoneUptoRow : OpenClaim := { program := "ythhhegmhgheeiaa", sum := "b017e39f2b3bedc24109d7bd2793664d9b4f7d7c090aa3189e575fadf8693e77", func := "waypoint/waypointlaw13.IspfUndone", spec := "ispfUndone", unfollowed := true, recurses := true, apart := false, narrowed := true }
def IspfUndoneUptoSaid : Prop := ispfUndoneUptoRow.holds Try.pinned (OpenSpec.upto ispfUndoneSpec)

/-- 'waypointlaw13.IspfAnyOrder', WHERE WHAT IT READS IS OF BULK AT MOST 1048576: true; the input reads as it did. -/
def ispfAnyOrderUptoRow : OpenClaim := { program := "ythhhegmhgheeiaa", sum := "b017e39f2b3bedc24109d7bd2793664d9b4f7d7c090aa3189e575fadf8693e77", func := "waypoint/waypointlaw13.IspfAnyOrder", spec := "ispfAnyOrder", unfollowed := true, recurses := true, apart := false, narrowed := true }
def IspfAnyOrderUptoSaid : Prop := ispfAnyOrderUptoRow.holds Try.pinned (OpenSpec.upto ispfAnyOrderSpec)

end Rows
end Go.Proofs.Ythhhegmhgheeiaa
