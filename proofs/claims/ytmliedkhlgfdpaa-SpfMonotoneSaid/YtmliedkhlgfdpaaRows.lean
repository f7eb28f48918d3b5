/-
  No cell of these rows narrows 'for every input' (looked for: loops, veiled, ifaces, maps, wideKeys, modest, calm, conditions, laid).
  DERIVED. THE GIVEN ROWS OF THIS SEAT. 8 by the template 'for every input the law returns true; each argument reads behind the call as it read before'; 0 by the template 'total and deterministic' (their statements: YtmliedkhlgfdpaaTotals.lean).
  GIVEN WITH THE SEED: the statements are not yours to turn. If you find one false, say at which input.
  Laid BY PROGRAM, IN A SANDBOX (cutbox-rows.mjs): the forced cells as the released guide's own fill.sh prints them over the translation 23ddb5927dfa1da3… (all of the seat's roots in one cut). By AI agents, Wed Nov 11 2026. No macro, syntax, notation, axiom, sorry.
-/
import Derived.Test.YtmliedkhlgfdpaaChecked
import GoSem.Claim
import GoSem.ClaimJoined
import GoSem.ClaimMapViews
import Derived.JoinedTies
import Derived.KernelRfl
namespace Go.Proofs.Ytmliedkhlgfdpaa
/- THE CELL 'sum', in the pinned program and in every row, IS THE sha256 OF THE DUMP (.gsa) THAT YtmliedkhlgfdpaaProg.lean LOADS. Nothing in Lean hashes anything: it is a label: what it is worth is what the hold of that sum in a sandbox is worth. -/
noncomputable def Try.pinned : Pinned := { name := "ytmliedkhlgfdpaa", sum := "23ddb5927dfa1da39069931365842407f6b25ccf990f1839897c71215ef60ff9", checked := Try.checked }
namespace Rows
def none {H : Type} : Left H := { results := [], args := [] }

/-- 'waypointlaw11.SpfDist': WHATEVER THE INPUT: true; the input reads as it did. -/
def spfDistSpec : ChangeSpec := { name := "spfDist", fn := fun _ => fun
  | [d1, d2, d3] => { results := [.lit (.bool true)], args := [d1, d2, d3] }
  | _ => none }
def spfDistRow : OpenClaim := { program := "ytmliedkhlgfdpaa", sum := "23ddb5927dfa1da39069931365842407f6b25ccf990f1839897c71215ef60ff9", func := "waypoint/waypointlaw11.SpfDist", spec := "spfDist", unfollowed := true, recurses := true, apart := false }
def SpfDistSaid : Prop := spfDistRow.holds Try.pinned (OpenSpec.ofChange spfDistSpec)

/-- ITS FALSE NEIGHBOUR: 'it returns false'. Refute it at one input. -/
def spfDistWrong : ChangeSpec := { name := "spfDist", fn := fun _ => fun
  | [d1, d2, d3] => { results := [.lit (.bool false)], args := [d1, d2, d3] }
  | _ => none }
def SpfDistWrongFalsely : Prop := spfDistRow.holds Try.pinned (OpenSpec.ofChange spfDistWrong)

/-- 'waypointlaw11.SpfPath': WHATEVER THE INPUT: true; the input reads as it did. -/
def spfPathSpec : ChangeSpec := { name := "spfPath", fn := fun _ => fun
  | [d1, d2, d3] => { results := [.lit (.bool true)], args := [d1, d2, d3] }
  | _ => none }
def spfPathRow : OpenClaim := { program := "ytmliedkhlgfdpaa", sum := "23ddb5927dfa1da39069931365842407f6b25ccf990f1839897c71215ef60ff9", func := "waypoint/waypointlaw11.SpfPath", spec := "spfPath", unfollowed := true, recurses := true, apart := false }
def SpfPathSaid : Prop := spfPathRow.holds Try.pinned (OpenSpec.ofChange spfPathSpec)

/-- ITS FALSE NEIGHBOUR: 'it returns false'. Refute it at one input. -/
def spfPathWrong : ChangeSpec := { name := "spfPath", fn := fun _ => fun
  | [d1, d2, d3] => { results := [.lit (.bool false)], args := [d1, d2, d3] }
  | _ => none }
def SpfPathWrongFalsely : Prop := spfPathRow.holds Try.pinned (OpenSpec.ofChange spfPathWrong)

/-- 'waypointlaw11.SpfLeast': WHATEVER THE INPUT: true; the input reads as it did. -/
def spfLeastSpec : ChangeSpec := { name := "spfLeast", fn := fun _ => fun
  | [d1, d2, d3, d4] => { results := [.lit (.bool true)], args := [d1, d2, d3, d4] }
  | _ => none }
def spfLeastRow : OpenClaim := { program := "ytmliedkhlgfdpaa", sum := "23ddb5927dfa1da39069931365842407f6b25ccf990f1839897c71215ef60ff9", func := "waypoint/waypointlaw11.SpfLeast", spec := "spfLeast", unfollowed := true, recurses := true, apart := false }
def SpfLeastSaid : Prop := spfLeastRow.holds Try.pinned (OpenSpec.ofChange spfLeastSpec)

/-- ITS FALSE NEIGHBOUR: 'it returns false'. Refute it at one input. -/
def spfLeastWrong : ChangeSpec := { name := "spfLeast", fn := fun _ => fun
  | [d1, d2, d3, d4] => { results := [.lit (.bool false)], args := [d1, d2, d3, d4] }
  | _ => none }
def SpfLeastWrongFalsely : Prop := spfLeastRow.holds Try.pinned (OpenSpec.ofChange spfLeastWrong)

/-- 'waypointlaw11.SpfWitness': WHATEVER THE INPUT: true; the input reads as it did. -/
def spfWitnessSpec : ChangeSpec := { name := "spfWitness", fn := fun _ => fun
  | [d1, d2, d3] => { results := [.lit (.bool true)], args := [d1, d2, d3] }
  | _ => none }
def spfWitnessRow : OpenClaim := { program := "ytmliedkhlgfdpaa", sum := "23ddb5927dfa1da39069931365842407f6b25ccf990f1839897c71215ef60ff9", func := "waypoint/waypointlaw11.SpfWitness", spec := "spfWitness", unfollowed := true, recurses := true, apart := false }
def SpfWitnessSaid : Prop := spfWitnessRow.holds Try.pinned (OpenSpec.ofChange spfWitnessSpec)

/-- ITS FALSE NEIGHBOUR: 'it returns false'. Refute it at one input. -/
def spfWitnessWrong : ChangeSpec := { name := "spfWitness", fn := fun _ => fun
  | [d1, d2, d3] => { results := [.lit (.bool false)], args := [d1, d2, d3] }
  | _ => none }
def SpfWitnessWrongFalsely : Prop := spfWitnessRow.holds Try.pinned (OpenSpec.ofChange spfWitnessWrong)

/-- 'waypointlaw11.SpfMonotone': WHATEVER THE INPUT: true; the input reads as it did. -/
def spfMonotoneSpec : ChangeSpec := { name := "spfMonotone", fn := fun _ => fun
  | [d1, d2, d3, d4] => { results := [.lit (.bool true)], args := [d1, d2, d3, d4] }
  | _ => none }
def spfMonotoneRow : OpenClaim := { program := "ytmliedkhlgfdpaa", sum := "23ddb5927dfa1da39069931365842407f6b25ccf990f1839897c71215ef60ff9", func := "waypoint/waypointlaw11.SpfMonotone", spec := "spfMonotone", unfollowed := true, recurses := true, apart := false }
def SpfMonotoneSaid : Prop := spfMonotoneRow.holds Try.pinned (OpenSpec.ofChange spfMonotoneSpec)

/-- ITS FALSE NEIGHBOUR: 'it returns false'. Refute it at one input. -/
def spfMonotoneWrong : ChangeSpec := { name := "spfMonotone", fn := fun _ => fun
  | [d1, d2, d3, d4] => { results := [.lit (.bool false)], args := [d1, d2, d3, d4] }
  | _ => none }
def SpfMonotoneWrongFalsely : Prop := spfMonotoneRow.holds Try.pinned (OpenSpec.ofChange spfMonotoneWrong)

/-- 'waypointlaw11.SpfFrom': WHATEVER THE INPUT: true; the input reads as it did. -/
def spfFromSpec : ChangeSpec := { name := "spfFrom", fn := fun _ => fun
  | [d1, d2, d3] => { results := [.lit (.bool true)], args := [d1, d2, d3] }
  | _ => none }
def spfFromRow : OpenClaim := { program := "ytmliedkhlgfdpaa", sum := "23ddb5927dfa1da39069931365842407f6b25ccf990f1839897c71215ef60ff9", func := "waypoint/waypointlaw11.SpfFrom", spec := "spfFrom", unfollowed := true, recurses := true, apart := false }
def SpfFromSaid : Prop := spfFromRow.holds Try.pinned (OpenSpec.ofChange spfFromSpec)

/-- ITS FALSE NEIGHBOUR: 'it returns false'. Refute it at one input. -/
def spfFromWrong : ChangeSpec := { name := "spfFrom", fn := fun _ => fun
  | [d1, d2, d3] => { results := [.lit (.bool false)], args := [d1, d2, d3] }
  | _ => none }
def SpfFromWrongFalsely : Prop := spfFromRow.holds Try.pinned (OpenSpec.ofChange spfFromWrong)

/-- 'waypointlaw11.SpfBoth': WHATEVER THE INPUT: true; the input reads as it did. -/
def spfBothSpec : ChangeSpec := { name := "spfBoth", fn := fun _ => fun
  | [d1, d2] => { results := [.lit (.bool true)], args := [d1, d2] }
  | _ => none }
def spfBothRow : OpenClaim := { program := "ytmliedkhlgfdpaa", sum := "23ddb5927dfa1da39069931365842407f6b25ccf990f1839897c71215ef60ff9", func := "waypoint/waypointlaw11.SpfBoth", spec := "spfBoth", unfollowed := true, recurses := true, apart := false }
def SpfBothSaid : Prop := spfBothRow.holds Try.pinned (OpenSpec.ofChange spfBothSpec)

/-- ITS FALSE NEIGHBOUR: 'it returns false'. Refute it at one input. -/
def spfBothWrong : ChangeSpec := { name := "spfBoth", fn := fun _ => fun
  | [d1, d2] => { results := [.lit (.bool false)], args := [d1, d2] }
  | _ => none }
def SpfBothWrongFalsely : Prop := spfBothRow.holds Try.pinned (OpenSpec.ofChange spfBothWrong)

/-- 'waypointlaw11.SpfReversed': WHATEVER THE INPUT: true; the input reads as it did. -/
def spfReversedSpec : ChangeSpec := { name := "spfReversed", fn := fun _ => fun
  | [d1, d2, d3] => { results := [.lit (.bool true)], args := [d1, d2, d3] }
  | _ => none }
def spfReversedRow : OpenClaim := { program := "ytmliedkhlgfdpaa", sum := "23ddb5927dfa1da39069931365842407f6b25ccf990f1839897c71215ef60ff9", func := "waypoint/waypointlaw11.SpfReversed", spec := "spfReversed", unfollowed := true, recurses := true, apart := false }
def SpfReversedSaid : Prop := spfReversedRow.holds Try.pinned (OpenSpec.ofChange spfReversedSpec)

/-- ITS FALSE NEIGHBOUR: 'it returns false'. Refute it at one input. -/
def spfReversedWrong : ChangeSpec := { name := "spfReversed", fn := fun _ => fun
  | [d1, d2, d3] => { results := [.lit (.bool false)], args := [d1, d2, d3] }
  | _ => none }
def SpfReversedWrongFalsely : Prop := spfReversedRow.holds Try.pinned (OpenSpec.ofChange spfReversedWrong)

/- THE SECOND FORM. 'bulk': how many values and letters a reading holds, each counted each time it is reached (what is shared counts as often as it is met; a slice's spare places count too). A statement '..UptoSaid' is the law's where the arguments, and the package variables that the reading takes, are together of bulk at most 1048576: NARROWER than '..Said'. Prove '..Said' where nothing that the law and all that it calls make is longer than what came in: it says more and counts as full. Else prove '..UptoSaid'. A law counts once. -/
mutual
def uptoBulk {H : Type} : DataW H → Nat
  | .lit (.string bytes) => bytes.length + 1
  | .lit _ => 1
  | .nil => 1
  | .ptr d => uptoBulk d + 1
  | .slice elems spare => uptoBulkAll elems + uptoBulkAll spare + 1
  | .agg parts => uptoBulkAll parts + 1
  | .iface _ d => uptoBulk d + 1
  | .map entries => uptoBulkEntries entries + 1
  | .held _ => 1
def uptoBulkAll {H : Type} : List (DataW H) → Nat
  | [] => 0
  | d :: r => uptoBulk d + uptoBulkAll r
def uptoBulkEntries {H : Type} : List (Lit × DataW H) → Nat
  | [] => 0
  | x :: r => uptoBulkEntry x + uptoBulkEntries r
def uptoBulkEntry {H : Type} : Lit × DataW H → Nat
  | (.string bytes, d) => bytes.length + uptoBulk d + 1
  | (_, d) => uptoBulk d + 1
 end
def uptoSmall : (H : Type) → List (DataW H) → Bool := fun _ ds => decide (uptoBulkAll ds ≤ 1048576)
def OpenSpec.upto (s : _root_.Go.ChangeSpec) : _root_.Go.OpenSpec := { _root_.Go.OpenSpec.ofChange s with cond := some uptoSmall }

/-- 'waypointlaw11.SpfDist', WHERE WHAT IT READS IS OF BULK AT MOST 1048576: true; the input reads as it did. -/
def spfDistUptoRow : OpenClaim := { program := "ytmliedkhlgfdpaa", sum := "23ddb5927dfa1da39069931365842407f6b25ccf990f1839897c71215ef60ff9", func := "waypoint/waypointlaw11.SpfDist", spec := "spfDist", unfollowed := true, recurses := true, apart := false, narrowed := true }
def SpfDistUptoSaid : Prop := spfDistUptoRow.holds Try.pinned (OpenSpec.upto spfDistSpec)

/-- 'waypointlaw11.SpfPath', WHERE WHAT IT READS IS OF BULK AT MOST 1048576: true; the input reads as it did. -/
def spfPathUptoRow : OpenClaim := { program := "ytmliedkhlgfdpaa", sum := "23ddb5927dfa1da39069931365842407f6b25ccf990f1839897c71215ef60ff9", func := "waypoint/waypointlaw11.SpfPath", spec := "spfPath", unfollowed := true, recurses := true, apart := false, narrowed := true }
def SpfPathUptoSaid : Prop := spfPathUptoRow.holds Try.pinned (OpenSpec.upto spfPathSpec)

/-- 'waypointlaw11.SpfLeast', WHERE WHAT IT READS IS OF BULK AT MOST 1048576: true; the input reads as it did. -/
def spfLeastUptoRow : OpenClaim := { program := "ytmliedkhlgfdpaa", sum := "23ddb5927dfa1da39069931365842407f6b25ccf990f1839897c71215ef60ff9", func := "waypoint/waypointlaw11.SpfLeast", spec := "spfLeast", unfollowed := true, recurses := true, apart := false, narrowed := true }
def SpfLeastUptoSaid : Prop := spfLeastUptoRow.holds Try.pinned (OpenSpec.upto spfLeastSpec)

/-- 'waypointlaw11.SpfWitness', WHERE WHAT IT READS IS OF BULK AT MOST 1048576: true; the input reads as it did. -/
def spfWitnessUptoRow : OpenClaim := { program := "ytmliedkhlgfdpaa", sum := "23ddb5927dfa1da39069931365842407f6b25ccf990f1839897c71215ef60ff9", func := "waypoint/waypointlaw11.SpfWitness", spec := "spfWitness", unfollowed := true, recurses := true, apart := false, narrowed := true }
def SpfWitnessUptoSaid : Prop := spfWitnessUptoRow.holds Try.pinned (OpenSpec.upto spfWitnessSpec)

/-- 'waypointlaw11.SpfMonotone', WHERE WHAT IT READS IS OF BULK AT MOST 1048576: true; the input reads as it did. -/
def spfMonotoneUptoRow : OpenClaim := { program := "ytmliedkhlgfdpaa", sum := "23ddb5927dfa1da39069931365842407f6b25ccf990f1839897c71215ef60ff9", func := "waypoint/waypointlaw11.SpfMonotone", spec := "spfMonotone", unfollowed := true, recurses := true, apart := false, narrowed := true }
def SpfMonotoneUptoSaid : Prop := spfMonotoneUptoRow.holds Try.pinned (OpenSpec.upto spfMonotoneSpec)

/-- 'waypointlaw11.SpfFrom', WHERE WHAT IT READS IS OF BULK AT MOST 1048576: true; the input reads as it did. -/
def spfFromUptoRow : OpenClaim := { program := "ytmliedkhlgfdpaa", sum := "23ddb5927dfa1da39069931365842407f6b25ccf990f1839897c71215ef60ff9", func := "waypoint/waypointlaw11.SpfFrom", spec := "spfFrom", unfollowed := true, recurses := true, apart := false, narrowed := true }
def SpfFromUptoSaid : Prop := spfFromUptoRow.holds Try.pinned (OpenSpec.upto spfFromSpec)

/-- 'waypointlaw11.SpfBoth', WHERE WHAT IT READS IS OF BULK AT MOST 1048576: true; the input reads as it did. -/
def spfBothUptoRow : OpenClaim := { program := "ytmliedkhlgfdpaa", sum := "23ddb5927dfa1da39069931365842407f6b25ccf990f1839897c71215ef60ff9", func := "waypoint/waypointlaw11.SpfBoth", spec := "spfBoth", unfollowed := true, recurses := true, apart := false, narrowed := true }
def SpfBothUptoSaid : Prop := spfBothUptoRow.holds Try.pinned (OpenSpec.upto spfBothSpec)

/-- 'waypointlaw11.SpfReversed', WHERE WHAT IT READS IS OF BULK AT MOST 1048576: true; the input reads as it did. -/
def spfReversedUptoRow : OpenClaim := { program := "ytmliedkhlgfdpaa", sum := "23ddb5927dfa1da39069931365842407f6b25ccf990f1839897c71215ef60ff9", func := "waypoint/waypointlaw11.SpfReversed", spec := "spfReversed", unfollowed := true, recurses := true, apart := false, narrowed := true }
def SpfReversedUptoSaid : Prop := spfReversedUptoRow.holds Try.pinned (OpenSpec.upto spfReversedSpec)

end Rows
end Go.Proofs.Ytmliedkhlgfdpaa
