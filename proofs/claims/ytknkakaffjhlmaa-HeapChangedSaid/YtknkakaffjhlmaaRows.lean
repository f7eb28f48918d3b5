/-
  No cell of these rows narrows 'for every input' (looked for: loops, veiled, ifaces, maps, wideKeys, modest, calm, conditions, laid).
  DERIVED. THE GIVEN ROWS OF THIS SEAT. 5 by the template 'for every input the law returns true; each argument reads behind the call as it read before'; 0 by the template 'total and deterministic' (their statements: YtknkakaffjhlmaaTotals.lean).
  GIVEN WITH THE SEED: the statements are not yours to turn. If you find one false, say at which input.
  Laid BY PROGRAM, IN A SANDBOX (cutbox-rows.mjs): the forced cells as the released guide's own fill.sh prints them over the translation befc011dabeeafee… (all of the seat's roots in one cut). By AI agents, Wed Nov 11 2026. No macro, syntax, notation, axiom, sorry.
-/
import Derived.Test.YtknkakaffjhlmaaChecked
import GoSem.Claim
import GoSem.ClaimJoined
import GoSem.ClaimMapViews
import Derived.JoinedTies
import Derived.KernelRfl
namespace Go.Proofs.Ytknkakaffjhlmaa
/- THE CELL 'sum', in the pinned program and in every row, IS THE sha256 OF THE DUMP (.gsa) THAT YtknkakaffjhlmaaProg.lean LOADS. Nothing in Lean hashes anything: it is a label: what it is worth is what the hold of that sum in a sandbox is worth. -/
noncomputable def Try.pinned : Pinned := { name := "ytknkakaffjhlmaa", sum := "befc011dabeeafee2f5a6f44c762deb64438dd60fe2c44f79226f494c7956e48", checked := Try.checked }
namespace Rows
def none {H : Type} : Left H := { results := [], args := [] }

/-- 'waypointlaw03.HeapSorts': WHATEVER THE INPUT: true; the input reads as it did. -/
def heapSortsSpec : ChangeSpec := { name := "heapSorts", fn := fun _ => fun
  | [d] => { results := [.lit (.bool true)], args := [d] }
  | _ => none }
def heapSortsRow : OpenClaim := { program := "ytknkakaffjhlmaa", sum := "befc011dabeeafee2f5a6f44c762deb64438dd60fe2c44f79226f494c7956e48", func := "waypoint/waypointlaw03.HeapSorts", spec := "heapSorts", apart := false }
def HeapSortsSaid : Prop := heapSortsRow.holds Try.pinned (OpenSpec.ofChange heapSortsSpec)

/-- ITS FALSE NEIGHBOUR: 'it returns false'. Refute it at one input. -/
def heapSortsWrong : ChangeSpec := { name := "heapSorts", fn := fun _ => fun
  | [d] => { results := [.lit (.bool false)], args := [d] }
  | _ => none }
def HeapSortsWrongFalsely : Prop := heapSortsRow.holds Try.pinned (OpenSpec.ofChange heapSortsWrong)

/-- 'waypointlaw03.HeapChanged': WHATEVER THE INPUT: true; the input reads as it did. -/
def heapChangedSpec : ChangeSpec := { name := "heapChanged", fn := fun _ => fun
  | [d1, d2, d3] => { results := [.lit (.bool true)], args := [d1, d2, d3] }
  | _ => none }
def heapChangedRow : OpenClaim := { program := "ytknkakaffjhlmaa", sum := "befc011dabeeafee2f5a6f44c762deb64438dd60fe2c44f79226f494c7956e48", func := "waypoint/waypointlaw03.HeapChanged", spec := "heapChanged", apart := false }
def HeapChangedSaid : Prop := heapChangedRow.holds Try.pinned (OpenSpec.ofChange heapChangedSpec)

/-- ITS FALSE NEIGHBOUR: 'it returns false'. Refute it at one input. -/
def heapChangedWrong : ChangeSpec := { name := "heapChanged", fn := fun _ => fun
  | [d1, d2, d3] => { results := [.lit (.bool false)], args := [d1, d2, d3] }
  | _ => none }
def HeapChangedWrongFalsely : Prop := heapChangedRow.holds Try.pinned (OpenSpec.ofChange heapChangedWrong)

/-- 'waypointlaw03.HeapSizes': WHATEVER THE INPUT: true; the input reads as it did. -/
def heapSizesSpec : ChangeSpec := { name := "heapSizes", fn := fun _ => fun
  | [d] => { results := [.lit (.bool true)], args := [d] }
  | _ => none }
def heapSizesRow : OpenClaim := { program := "ytknkakaffjhlmaa", sum := "befc011dabeeafee2f5a6f44c762deb64438dd60fe2c44f79226f494c7956e48", func := "waypoint/waypointlaw03.HeapSizes", spec := "heapSizes", apart := false }
def HeapSizesSaid : Prop := heapSizesRow.holds Try.pinned (OpenSpec.ofChange heapSizesSpec)

/-- ITS FALSE NEIGHBOUR: 'it returns false'. Refute it at one input. -/
def heapSizesWrong : ChangeSpec := { name := "heapSizes", fn := fun _ => fun
  | [d] => { results := [.lit (.bool false)], args := [d] }
  | _ => none }
def HeapSizesWrongFalsely : Prop := heapSizesRow.holds Try.pinned (OpenSpec.ofChange heapSizesWrong)

/-- 'waypointlaw03.HeapCalls': WHATEVER THE INPUT: true; the input reads as it did. -/
def heapCallsSpec : ChangeSpec := { name := "heapCalls", fn := fun _ => fun
  | [d1, d2] => { results := [.lit (.bool true)], args := [d1, d2] }
  | _ => none }
def heapCallsRow : OpenClaim := { program := "ytknkakaffjhlmaa", sum := "befc011dabeeafee2f5a6f44c762deb64438dd60fe2c44f79226f494c7956e48", func := "waypoint/waypointlaw03.HeapCalls", spec := "heapCalls", apart := false }
def HeapCallsSaid : Prop := heapCallsRow.holds Try.pinned (OpenSpec.ofChange heapCallsSpec)

/-- ITS FALSE NEIGHBOUR: 'it returns false'. Refute it at one input. -/
def heapCallsWrong : ChangeSpec := { name := "heapCalls", fn := fun _ => fun
  | [d1, d2] => { results := [.lit (.bool false)], args := [d1, d2] }
  | _ => none }
def HeapCallsWrongFalsely : Prop := heapCallsRow.holds Try.pinned (OpenSpec.ofChange heapCallsWrong)

/-- 'waypointlaw03.HeapNil': WHATEVER THE INPUT: true; the input reads as it did. -/
def heapNilSpec : ChangeSpec := { name := "heapNil", fn := fun _ => fun
  | [d] => { results := [.lit (.bool true)], args := [d] }
  | _ => none }
def heapNilRow : OpenClaim := { program := "ytknkakaffjhlmaa", sum := "befc011dabeeafee2f5a6f44c762deb64438dd60fe2c44f79226f494c7956e48", func := "waypoint/waypointlaw03.HeapNil", spec := "heapNil", apart := false }
def HeapNilSaid : Prop := heapNilRow.holds Try.pinned (OpenSpec.ofChange heapNilSpec)

/-- ITS FALSE NEIGHBOUR: 'it returns false'. Refute it at one input. -/
def heapNilWrong : ChangeSpec := { name := "heapNil", fn := fun _ => fun
  | [d] => { results := [.lit (.bool false)], args := [d] }
  | _ => none }
def HeapNilWrongFalsely : Prop := heapNilRow.holds Try.pinned (OpenSpec.ofChange heapNilWrong)

/- THE SECOND FORM. 'bulk': how many values and letters a reading holds, each counted each time it is reached (what is shared counts as often as it is met; a slice's spare places count too). A statement '..UptoSaid' is the law's where the arguments, and the package variables that the reading takes, are together of bulk at most 1048576: NARROWER than '..Said'. Prove '..Said' where nothing that the law and all that it calls make is longer than what came in: it says more and counts as full. Else prove '..UptoSaid'. A law counts once. -/
mutual
def uptoBulk {H : Type} : DataW H → Nat
  | .lit (.string bytes) => bytes.length + 1
  | .lit _ => 1
  | .nil => 1
  | .ptr d => uptoBulk d + 1
  | .slice elems spare => uptoBulkAll elems + uptoBulkAll spare + 1
  | .agg parts => uptoBulkAll parts + 1
  | .iface _ d => uptoBulk d + 1
  | .map entries => uptoBulkEntries entries + 1
  | .held _ => 1
def uptoBulkAll {H : Type} : List (DataW H) → Nat
  | [] => 0
  | d :: r => uptoBulk d + uptoBulkAll r
def uptoBulkEntries {H : Type} : List (Lit × DataW H) → Nat
  | [] => 0
  | x :: r => uptoBulkEntry x + uptoBulkEntries r
def uptoBulkEntry {H : Type} : Lit × DataW H → Nat
  | (.string bytes, d) => bytes.length + uptoBulk d + 1
  | (_, d) => uptoBulk d + 1
 end
def uptoSmall : (H : Type) → List (DataW H) → Bool := fun _ ds => decide (uptoBulkAll ds ≤ 1048576)
def OpenSpec.upto (s : _root_.Go.ChangeSpec) : _root_.Go.OpenSpec := { _root_.Go.OpenSpec.ofChange s with cond := some uptoSmall }

/-- 'waypointlaw03.HeapSorts', WHERE WHAT IT READS IS OF BULK AT MOST 1048576: true; the input reads as it did. -/
def heapSortsUptoRow : OpenClaim := { program := "ytknkakaffjhlmaa", sum := "befc011dabeeafee2f5a6f44c762deb64438dd60fe2c44f79226f494c7956e48", func := "waypoint/waypointlaw03.HeapSorts", spec := "heapSorts", apart := false, narrowed := true }
def HeapSortsUptoSaid : Prop := heapSortsUptoRow.holds Try.pinned (OpenSpec.upto heapSortsSpec)

/-- 'waypointlaw03.HeapChanged', WHERE WHAT IT READS IS OF BULK AT MOST 1048576: true; the input reads as it did. -/
def heapChangedUptoRow : OpenClaim := { program := "ytknkakaffjhlmaa", sum := "befc011dabeeafee2f5a6f44c762deb64438dd60fe2c44f79226f494c7956e48", func := "waypoint/waypointlaw03.HeapChanged", spec := "heapChanged", apart := false, narrowed := true }
def HeapChangedUptoSaid : Prop := heapChangedUptoRow.holds Try.pinned (OpenSpec.upto heapChangedSpec)

/-- 'waypointlaw03.HeapSizes', WHERE WHAT IT READS IS OF BULK AT MOST 1048576: true; the input reads as it did. -/
def heapSizesUptoRow : OpenClaim := { program := "ytknkakaffjhlmaa", sum := "befc011dabeeafee2f5a6f44c762deb64438dd60fe2c44f79226f494c7956e48", func := "waypoint/waypointlaw03.HeapSizes", spec := "heapSizes", apart := false, narrowed := true }
def HeapSizesUptoSaid : Prop := heapSizesUptoRow.holds Try.pinned (OpenSpec.upto heapSizesSpec)

/-- 'waypointlaw03.HeapCalls', WHERE WHAT IT READS IS OF BULK AT MOST 1048576: true; the input reads as it did. -/
def heapCallsUptoRow : OpenClaim := { program := "ytknkakaffjhlmaa", sum := "befc011dabeeafee2f5a6f44c762deb64438dd60fe2c44f79226f494c7956e48", func := "waypoint/waypointlaw03.HeapCalls", spec := "heapCalls", apart := false, narrowed := true }
def HeapCallsUptoSaid : Prop := heapCallsUptoRow.holds Try.pinned (OpenSpec.upto heapCallsSpec)

/-- 'waypointlaw03.HeapNil', WHERE WHAT IT READS IS OF BULK AT MOST 1048576: true; the input reads as it did. -/
def heapNilUptoRow : OpenClaim := { program := "ytknkakaffjhlmaa", sum := "befc011dabeeafee2f5a6f44c762deb64438dd60fe2c44f79226f494c7956e48", func := "waypoint/waypointlaw03.HeapNil", spec := "heapNil", apart := false, narrowed := true }
def HeapNilUptoSaid : Prop := heapNilUptoRow.holds Try.pinned (OpenSpec.upto heapNilSpec)

end Rows
end Go.Proofs.Ytknkakaffjhlmaa
