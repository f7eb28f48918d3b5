/-
  No cell of these rows narrows 'for every input' (looked for: loops, veiled, ifaces, maps, wideKeys, modest, calm, conditions, laid).
  DERIVED. THE GIVEN ROWS OF THIS SEAT. 6 by the template 'for every input the law returns true; each argument reads behind the call as it read before'; 0 by the template 'total and deterministic' (their statements: YtlnbogggaajfbaaTotals.lean).
  GIVEN WITH THE SEED: the statements are not yours to turn. If you find one false, say at which input.
  Laid BY PROGRAM, IN A SANDBOX (cutbox-rows.mjs): the forced cells as the released guide's own fill.sh prints them over the translation 5c569359a74d0f5c… (all of the seat's roots in one cut). By AI agents, Wed Nov 11 2026. No macro, syntax, notation, axiom, sorry.
-/
import Derived.Test.YtlnbogggaajfbaaChecked
import GoSem.Claim
import GoSem.ClaimJoined
import GoSem.ClaimMapViews
import Derived.JoinedTies
import Derived.KernelRfl
namespace Go.Proofs.Ytlnbogggaajfbaa
/- THE CELL 'sum', in the pinned program and in every row, IS THE sha256 OF THE DUMP (.gsa) THAT YtlnbogggaajfbaaProg.lean LOADS. Nothing in Lean hashes anything: it is a label: what it is worth is what the hold of that sum in a sandbox is worth. -/
noncomputable def Try.pinned : Pinned := { name := "ytlnbogggaajfbaa", sum := "5c569359a74d0f5cb6485e7424adb645242e46d3463372efa3dc5f779b44bbd3", checked := Try.checked }
namespace Rows
def none {H : Type} : Left H := { results := [], args := [] }

/-- 'waypointlaw37.StagesTicks': WHATEVER THE INPUT: true; the input reads as it did. -/
def stagesTicksSpec : ChangeSpec := { name := "stagesTicks", fn := fun _ => fun
  | [d1, d2, d3] => { results := [.lit (.bool true)], args := [d1, d2, d3] }
  | _ => none }
def stagesTicksRow : OpenClaim := { program := "ytlnbogggaajfbaa", sum := "5c569359a74d0f5cb6485e7424adb645242e46d3463372efa3dc5f779b44bbd3", func := "waypoint/waypointlaw37.StagesTicks", spec := "stagesTicks", apart := false }
def StagesTicksSaid : Prop := stagesTicksRow.holds Try.pinned (OpenSpec.ofChange stagesTicksSpec)

/-- ITS FALSE NEIGHBOUR: 'it returns false'. Refute it at one input. -/
def stagesTicksWrong : ChangeSpec := { name := "stagesTicks", fn := fun _ => fun
  | [d1, d2, d3] => { results := [.lit (.bool false)], args := [d1, d2, d3] }
  | _ => none }
def StagesTicksWrongFalsely : Prop := stagesTicksRow.holds Try.pinned (OpenSpec.ofChange stagesTicksWrong)

/-- 'waypointlaw37.StagesOrder': WHATEVER THE INPUT: true; the input reads as it did. -/
def stagesOrderSpec : ChangeSpec := { name := "stagesOrder", fn := fun _ => fun
  | [d1, d2, d3] => { results := [.lit (.bool true)], args := [d1, d2, d3] }
  | _ => none }
def stagesOrderRow : OpenClaim := { program := "ytlnbogggaajfbaa", sum := "5c569359a74d0f5cb6485e7424adb645242e46d3463372efa3dc5f779b44bbd3", func := "waypoint/waypointlaw37.StagesOrder", spec := "stagesOrder", apart := false }
def StagesOrderSaid : Prop := stagesOrderRow.holds Try.pinned (OpenSpec.ofChange stagesOrderSpec)

/-- ITS FALSE NEIGHBOUR: 'it returns false'. Refute it at one input. -/
def stagesOrderWrong : ChangeSpec := { name := "stagesOrder", fn := fun _ => fun
  | [d1, d2, d3] => { results := [.lit (.bool false)], args := [d1, d2, d3] }
  | _ => none }
def StagesOrderWrongFalsely : Prop := stagesOrderRow.holds Try.pinned (OpenSpec.ofChange stagesOrderWrong)

/-- 'waypointlaw37.StagesAdd': WHATEVER THE INPUT: true; the input reads as it did. -/
def stagesAddSpec : ChangeSpec := { name := "stagesAdd", fn := fun _ => fun
  | [d1, d2, d3] => { results := [.lit (.bool true)], args := [d1, d2, d3] }
  | _ => none }
def stagesAddRow : OpenClaim := { program := "ytlnbogggaajfbaa", sum := "5c569359a74d0f5cb6485e7424adb645242e46d3463372efa3dc5f779b44bbd3", func := "waypoint/waypointlaw37.StagesAdd", spec := "stagesAdd", apart := false }
def StagesAddSaid : Prop := stagesAddRow.holds Try.pinned (OpenSpec.ofChange stagesAddSpec)

/-- ITS FALSE NEIGHBOUR: 'it returns false'. Refute it at one input. -/
def stagesAddWrong : ChangeSpec := { name := "stagesAdd", fn := fun _ => fun
  | [d1, d2, d3] => { results := [.lit (.bool false)], args := [d1, d2, d3] }
  | _ => none }
def StagesAddWrongFalsely : Prop := stagesAddRow.holds Try.pinned (OpenSpec.ofChange stagesAddWrong)

/-- 'waypointlaw37.StagesApart': WHATEVER THE INPUT: true; the input reads as it did. -/
def stagesApartSpec : ChangeSpec := { name := "stagesApart", fn := fun _ => fun
  | [d1, d2, d3] => { results := [.lit (.bool true)], args := [d1, d2, d3] }
  | _ => none }
def stagesApartRow : OpenClaim := { program := "ytlnbogggaajfbaa", sum := "5c569359a74d0f5cb6485e7424adb645242e46d3463372efa3dc5f779b44bbd3", func := "waypoint/waypointlaw37.StagesApart", spec := "stagesApart", apart := false }
def StagesApartSaid : Prop := stagesApartRow.holds Try.pinned (OpenSpec.ofChange stagesApartSpec)

/-- ITS FALSE NEIGHBOUR: 'it returns false'. Refute it at one input. -/
def stagesApartWrong : ChangeSpec := { name := "stagesApart", fn := fun _ => fun
  | [d1, d2, d3] => { results := [.lit (.bool false)], args := [d1, d2, d3] }
  | _ => none }
def StagesApartWrongFalsely : Prop := stagesApartRow.holds Try.pinned (OpenSpec.ofChange stagesApartWrong)

/-- 'waypointlaw37.StagesValid': WHATEVER THE INPUT: true; the input reads as it did. -/
def stagesValidSpec : ChangeSpec := { name := "stagesValid", fn := fun _ => fun
  | [d1, d2, d3] => { results := [.lit (.bool true)], args := [d1, d2, d3] }
  | _ => none }
def stagesValidRow : OpenClaim := { program := "ytlnbogggaajfbaa", sum := "5c569359a74d0f5cb6485e7424adb645242e46d3463372efa3dc5f779b44bbd3", func := "waypoint/waypointlaw37.StagesValid", spec := "stagesValid", apart := false }
def StagesValidSaid : Prop := stagesValidRow.holds Try.pinned (OpenSpec.ofChange stagesValidSpec)

/-- ITS FALSE NEIGHBOUR: 'it returns false'. Refute it at one input. -/
def stagesValidWrong : ChangeSpec := { name := "stagesValid", fn := fun _ => fun
  | [d1, d2, d3] => { results := [.lit (.bool false)], args := [d1, d2, d3] }
  | _ => none }
def StagesValidWrongFalsely : Prop := stagesValidRow.holds Try.pinned (OpenSpec.ofChange stagesValidWrong)

/-- 'waypointlaw37.StagesChange': WHATEVER THE INPUT: true; the input reads as it did. -/
def stagesChangeSpec : ChangeSpec := { name := "stagesChange", fn := fun _ => fun
  | [d1, d2] => { results := [.lit (.bool true)], args := [d1, d2] }
  | _ => none }
def stagesChangeRow : OpenClaim := { program := "ytlnbogggaajfbaa", sum := "5c569359a74d0f5cb6485e7424adb645242e46d3463372efa3dc5f779b44bbd3", func := "waypoint/waypointlaw37.StagesChange", spec := "stagesChange", apart := false }
def StagesChangeSaid : Prop := stagesChangeRow.holds Try.pinned (OpenSpec.ofChange stagesChangeSpec)

/-- ITS FALSE NEIGHBOUR: 'it returns false'. Refute it at one input. -/
def stagesChangeWrong : ChangeSpec := { name := "stagesChange", fn := fun _ => fun
  | [d1, d2] => { results := [.lit (.bool false)], args := [d1, d2] }
  | _ => none }
def StagesChangeWrongFalsely : Prop := stagesChangeRow.holds Try.pinned (OpenSpec.ofChange stagesChangeWrong)

/- THE SECOND FORM. 'bulk': how many values and letters a reading holds, each counted each time it is reached (what is shared counts as often as it is met; a slice's spare places count too). A statement '..UptoSaid' is the law's where the arguments, and the package variables that the reading takes, are together of bulk at most 1048576: NARROWER than '..Said'. Prove '..Said' where nothing that the law and all that it calls make is longer than what came in: it says more and counts as full. Else prove '..UptoSaid'. A law counts once. -/
mutual
def uptoBulk {H : Type} : DataW H → Nat
  | .lit (.string bytes) => bytes.length + 1
  | .lit _ => 1
  | .nil => 1
  | .ptr d => uptoBulk d + 1
  | .slice elems spare => uptoBulkAll elems + uptoBulkAll spare + 1
  | .agg parts => uptoBulkAll parts + 1
  | .iface _ d => uptoBulk d + 1
  | .map entries => uptoBulkEntries entries + 1
  | .held _ => 1
def uptoBulkAll {H : Type} : List (DataW H) → Nat
  | [] => 0
  | d :: r => uptoBulk d + uptoBulkAll r
def uptoBulkEntries {H : Type} : List (Lit × DataW H) → Nat
  | [] => 0
  | x :: r => uptoBulkEntry x + uptoBulkEntries r
def uptoBulkEntry {H : Type} : Lit × DataW H → Nat
  | (.string bytes, d) => bytes.length + uptoBulk d + 1
  | (_, d) => uptoBulk d + 1
 end
def uptoSmall : (H : Type) → List (DataW H) → Bool := fun _ ds => decide (uptoBulkAll ds ≤ 1048576)
def OpenSpec.upto (s : _root_.Go.ChangeSpec) : _root_.Go.OpenSpec := { _root_.Go.OpenSpec.ofChange s with cond := some uptoSmall }

/-- 'waypointlaw37.StagesTicks', WHERE WHAT IT READS IS OF BULK AT MOST 1048576: true; the input reads as it did. -/
def stagesTicksUptoRow : OpenClaim := { program := "ytlnbogggaajfbaa", sum := "5c569359a74d0f5cb6485e7424adb645242e46d3463372efa3dc5f779b44bbd3", func := "waypoint/waypointlaw37.StagesTicks", spec := "stagesTicks", apart := false, narrowed := true }
def StagesTicksUptoSaid : Prop := stagesTicksUptoRow.holds Try.pinned (OpenSpec.upto stagesTicksSpec)

/-- 'waypointlaw37.StagesOrder', WHERE WHAT IT READS IS OF BULK AT MOST 1048576: true; the input reads as it did. -/
def stagesOrderUptoRow : OpenClaim := { program := "ytlnbogggaajfbaa", sum := "5c569359a74d0f5cb6485e7424adb645242e46d3463372efa3dc5f779b44bbd3", func := "waypoint/waypointlaw37.StagesOrder", spec := "stagesOrder", apart := false, narrowed := true }
def StagesOrderUptoSaid : Prop := stagesOrderUptoRow.holds Try.pinned (OpenSpec.upto stagesOrderSpec)

/-- 'waypointlaw37.StagesAdd', WHERE WHAT IT READS IS OF BULK AT MOST 1048576: true; the input reads as it did. -/
def stagesAddUptoRow : OpenClaim := { program := "ytlnbogggaajfbaa", sum := "5c569359a74d0f5cb6485e7424adb645242e46d3463372efa3dc5f779b44bbd3", func := "waypoint/waypointlaw37.StagesAdd", spec := "stagesAdd", apart := false, narrowed := true }
def StagesAddUptoSaid : Prop := stagesAddUptoRow.holds Try.pinned (OpenSpec.upto stagesAddSpec)

/-- 'waypointlaw37.StagesApart', WHERE WHAT IT READS IS OF BULK AT MOST 1048576: true; the input reads as it did. -/
def stagesApartUptoRow : OpenClaim := { program := "ytlnbogggaajfbaa", sum := "5c569359a74d0f5cb6485e7424adb645242e46d3463372efa3dc5f779b44bbd3", func := "waypoint/waypointlaw37.StagesApart", spec := "stagesApart", apart := false, narrowed := true }
def StagesApartUptoSaid : Prop := stagesApartUptoRow.holds Try.pinned (OpenSpec.upto stagesApartSpec)

/-- 'waypointlaw37.StagesValid', WHERE WHAT IT READS IS OF BULK AT MOST 1048576: true; the input reads as it did. -/
def stagesValidUptoRow : OpenClaim := { program := "ytlnbogggaajfbaa", sum := "5c569359a74d0f5cb6485e7424adb645242e46d3463372efa3dc5f779b44bbd3", func := "waypoint/waypointlaw37.StagesValid", spec := "stagesValid", apart := false, narrowed := true }
def StagesValidUptoSaid : Prop := stagesValidUptoRow.holds Try.pinned (OpenSpec.upto stagesValidSpec)

/-- 'waypointlaw37.StagesChange', WHERE WHAT IT READS IS OF BULK AT MOST 1048576: true; the input reads as it did. -/
def stagesChangeUptoRow : OpenClaim := { program := "ytlnbogggaajfbaa", sum := "5c569359a74d0f5cb6485e7424adb645242e46d3463372efa3dc5f779b44bbd3", func := "waypoint/waypointlaw37.StagesChange", spec := "stagesChange", apart := false, narrowed := true }
def StagesChangeUptoSaid : Prop := stagesChangeUptoRow.holds Try.pinned (OpenSpec.upto stagesChangeSpec)

end Rows
end Go.Proofs.Ytlnbogggaajfbaa
