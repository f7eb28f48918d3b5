/-
  No cell of these rows narrows 'for every input' (looked for: loops, veiled, ifaces, maps, wideKeys, modest, calm, conditions, laid).
  DERIVED. THE GIVEN ROWS OF THIS SEAT. 6 by the template 'for every input the law returns true; each argument reads behind the call as it read before'; 0 by the template 'total and deterministic' (their statements: YtcekjnfdgbeekaaTotals.lean).
  GIVEN WITH THE SEED: the statements are not yours to turn. If you find one false, say at which input.
  Laid BY PROGRAM, IN A SANDBOX (cutbox-rows.mjs): the forced cells as the released guide's own fill.sh prints them over the translation ad5542738a89ba72… (all of the seat's roots in one cut). By AI agents, Wed Nov 11 2026. No macro, syntax, notation, axiom, sorry.
-/
import Derived.Test.YtcekjnfdgbeekaaChecked
import GoSem.Claim
import GoSem.ClaimJoined
import GoSem.ClaimMapViews
import Derived.JoinedTies
import Derived.KernelRfl
namespace Go.Proofs.Ytcekjnfdgbeekaa
/- THE CELL 'sum', in the pinned program and in every row, IS THE sha256 OF THE DUMP (.gsa) THAT YtcekjnfdgbeekaaProg.lean LOADS. Nothing in Lean hashes anything: it is a label: what it is worth is what the hold of that sum in a sandbox is worth. -/
noncomputable def Try.pinned : Pinned := { name := "ytcekjnfdgbeekaa", sum := "ad5542738a89ba72b19014ea602e94ddb680be57c2ce9884e04607f15d8b8060", checked := Try.checked }
namespace Rows
def none {H : Type} : Left H := { results := [], args := [] }

/-- 'waypointlaw51.EventsChain': WHATEVER THE INPUT: true; the input reads as it did. -/
def eventsChainSpec : ChangeSpec := { name := "eventsChain", fn := fun _ => fun
  | [d1, d2] => { results := [.lit (.bool true)], args := [d1, d2] }
  | _ => none }
def eventsChainRow : OpenClaim := { program := "ytcekjnfdgbeekaa", sum := "ad5542738a89ba72b19014ea602e94ddb680be57c2ce9884e04607f15d8b8060", func := "waypoint/waypointlaw51.EventsChain", spec := "eventsChain", unfollowed := true, recurses := true, apart := false }
def EventsChainSaid : Prop := eventsChainRow.holds Try.pinned (OpenSpec.ofChange eventsChainSpec)

/-- ITS FALSE NEIGHBOUR: 'it returns false'. Refute it at one input. -/
def eventsChainWrong : ChangeSpec := { name := "eventsChain", fn := fun _ => fun
  | [d1, d2] => { results := [.lit (.bool false)], args := [d1, d2] }
  | _ => none }
def EventsChainWrongFalsely : Prop := eventsChainRow.holds Try.pinned (OpenSpec.ofChange eventsChainWrong)

/-- 'waypointlaw51.EventsCancelled': WHATEVER THE INPUT: true; the input reads as it did. -/
def eventsCancelledSpec : ChangeSpec := { name := "eventsCancelled", fn := fun _ => fun
  | [d1, d2] => { results := [.lit (.bool true)], args := [d1, d2] }
  | _ => none }
def eventsCancelledRow : OpenClaim := { program := "ytcekjnfdgbeekaa", sum := "ad5542738a89ba72b19014ea602e94ddb680be57c2ce9884e04607f15d8b8060", func := "waypoint/waypointlaw51.EventsCancelled", spec := "eventsCancelled", unfollowed := true, recurses := true, apart := false }
def EventsCancelledSaid : Prop := eventsCancelledRow.holds Try.pinned (OpenSpec.ofChange eventsCancelledSpec)

/-- ITS FALSE NEIGHBOUR: 'it returns false'. Refute it at one input. -/
def eventsCancelledWrong : ChangeSpec := { name := "eventsCancelled", fn := fun _ => fun
  | [d1, d2] => { results := [.lit (.bool false)], args := [d1, d2] }
  | _ => none }
def EventsCancelledWrongFalsely : Prop := eventsCancelledRow.holds Try.pinned (OpenSpec.ofChange eventsCancelledWrong)

/-- 'waypointlaw51.EventsLimits': WHATEVER THE INPUT: true; the input reads as it did. -/
def eventsLimitsSpec : ChangeSpec := { name := "eventsLimits", fn := fun _ => fun
  | [d1, d2] => { results := [.lit (.bool true)], args := [d1, d2] }
  | _ => none }
def eventsLimitsRow : OpenClaim := { program := "ytcekjnfdgbeekaa", sum := "ad5542738a89ba72b19014ea602e94ddb680be57c2ce9884e04607f15d8b8060", func := "waypoint/waypointlaw51.EventsLimits", spec := "eventsLimits", unfollowed := true, recurses := true, apart := false }
def EventsLimitsSaid : Prop := eventsLimitsRow.holds Try.pinned (OpenSpec.ofChange eventsLimitsSpec)

/-- ITS FALSE NEIGHBOUR: 'it returns false'. Refute it at one input. -/
def eventsLimitsWrong : ChangeSpec := { name := "eventsLimits", fn := fun _ => fun
  | [d1, d2] => { results := [.lit (.bool false)], args := [d1, d2] }
  | _ => none }
def EventsLimitsWrongFalsely : Prop := eventsLimitsRow.holds Try.pinned (OpenSpec.ofChange eventsLimitsWrong)

/-- 'waypointlaw51.EventsSorted': WHATEVER THE INPUT: true; the input reads as it did. -/
def eventsSortedSpec : ChangeSpec := { name := "eventsSorted", fn := fun _ => fun
  | [d] => { results := [.lit (.bool true)], args := [d] }
  | _ => none }
def eventsSortedRow : OpenClaim := { program := "ytcekjnfdgbeekaa", sum := "ad5542738a89ba72b19014ea602e94ddb680be57c2ce9884e04607f15d8b8060", func := "waypoint/waypointlaw51.EventsSorted", spec := "eventsSorted", unfollowed := true, recurses := true, apart := false }
def EventsSortedSaid : Prop := eventsSortedRow.holds Try.pinned (OpenSpec.ofChange eventsSortedSpec)

/-- ITS FALSE NEIGHBOUR: 'it returns false'. Refute it at one input. -/
def eventsSortedWrong : ChangeSpec := { name := "eventsSorted", fn := fun _ => fun
  | [d] => { results := [.lit (.bool false)], args := [d] }
  | _ => none }
def EventsSortedWrongFalsely : Prop := eventsSortedRow.holds Try.pinned (OpenSpec.ofChange eventsSortedWrong)

/-- 'waypointlaw51.EventsCalls': WHATEVER THE INPUT: true; the input reads as it did. -/
def eventsCallsSpec : ChangeSpec := { name := "eventsCalls", fn := fun _ => fun
  | [d] => { results := [.lit (.bool true)], args := [d] }
  | _ => none }
def eventsCallsRow : OpenClaim := { program := "ytcekjnfdgbeekaa", sum := "ad5542738a89ba72b19014ea602e94ddb680be57c2ce9884e04607f15d8b8060", func := "waypoint/waypointlaw51.EventsCalls", spec := "eventsCalls", unfollowed := true, recurses := true, apart := false }
def EventsCallsSaid : Prop := eventsCallsRow.holds Try.pinned (OpenSpec.ofChange eventsCallsSpec)

/-- ITS FALSE NEIGHBOUR: 'it returns false'. Refute it at one input. -/
def eventsCallsWrong : ChangeSpec := { name := "eventsCalls", fn := fun _ => fun
  | [d] => { results := [.lit (.bool false)], args := [d] }
  | _ => none }
def EventsCallsWrongFalsely : Prop := eventsCallsRow.holds Try.pinned (OpenSpec.ofChange eventsCallsWrong)

/-- 'waypointlaw51.EventsNil': WHATEVER THE INPUT: true; the input reads as it did. -/
def eventsNilSpec : ChangeSpec := { name := "eventsNil", fn := fun _ => fun
  | [d] => { results := [.lit (.bool true)], args := [d] }
  | _ => none }
def eventsNilRow : OpenClaim := { program := "ytcekjnfdgbeekaa", sum := "ad5542738a89ba72b19014ea602e94ddb680be57c2ce9884e04607f15d8b8060", func := "waypoint/waypointlaw51.EventsNil", spec := "eventsNil", unfollowed := true, recurses := true, apart := false }
def EventsNilSaid : Prop := eventsNilRow.holds Try.pinned (OpenSpec.ofChange eventsNilSpec)

/-- ITS FALSE NEIGHBOUR: 'it returns false'. Refute it at one input. -/
def eventsNilWrong : ChangeSpec := { name := "eventsNil", fn := fun _ => fun
  | [d] => { results := [.lit (.bool false)], args := [d] }
  | _ => none }
def EventsNilWrongFalsely : Prop := eventsNilRow.holds Try.pinned (OpenSpec.ofChange eventsNilWrong)

/- THE SECOND FORM. 'bulk': how many values and letters a reading holds, each counted each time it is reached (what is shared counts as often as it is met; a slice's spare places count too). A statement '..UptoSaid' is the law's where the arguments, and the package variables that the reading takes, are together of bulk at most 1048576: NARROWER than '..Said'. Prove '..Said' where nothing that the law and all that it calls make is longer than what came in: it says more and counts as full. Else prove '..UptoSaid'. A law counts once. -/
mutual
def uptoBulk {H : Type} : DataW H → Nat
  | .lit (.string bytes) => bytes.length + 1
  | .lit _ => 1
  | .nil => 1
  | .ptr d => uptoBulk d + 1
  | .slice elems spare => uptoBulkAll elems + uptoBulkAll spare + 1
  | .agg parts => uptoBulkAll parts + 1
  | .iface _ d => uptoBulk d + 1
  | .map entries => uptoBulkEntries entries + 1
  | .held _ => 1
def uptoBulkAll {H : Type} : List (DataW H) → Nat
  | [] => 0
  | d :: r => uptoBulk d + uptoBulkAll r
def uptoBulkEntries {H : Type} : List (Lit × DataW H) → Nat
  | [] => 0
  | x :: r => uptoBulkEntry x + uptoBulkEntries r
def uptoBulkEntry {H : Type} : Lit × DataW H → Nat
  | (.string bytes, d) => bytes.length + uptoBulk d + 1
  | (_, d) => uptoBulk d + 1
 end
def uptoSmall : (H : Type) → List (DataW H) → Bool := fun _ ds => decide (uptoBulkAll ds ≤ 1048576)
def OpenSpec.upto (s : _root_.Go.ChangeSpec) : _root_.Go.OpenSpec := { _root_.Go.OpenSpec.ofChange s with cond := some uptoSmall }

/-- 'waypointlaw51.EventsChain', WHERE WHAT IT READS IS OF BULK AT MOST 1048576: true; the input reads as it did. -/
def eventsChainUptoRow : OpenClaim := { program := "ytcekjnfdgbeekaa", sum := "ad5542738a89ba72b19014ea602e94ddb680be57c2ce9884e04607f15d8b8060", func := "waypoint/waypointlaw51.EventsChain", spec := "eventsChain", unfollowed := true, recurses := true, apart := false, narrowed := true }
def EventsChainUptoSaid : Prop := eventsChainUptoRow.holds Try.pinned (OpenSpec.upto eventsChainSpec)

/-- 'waypointlaw51.EventsCancelled', WHERE WHAT IT READS IS OF BULK AT MOST 1048576: true; the input reads as it did. -/
def eventsCancelledUptoRow : OpenClaim := { program := "ytcekjnfdgbeekaa", sum := "ad5542738a89ba72b19014ea602e94ddb680be57c2ce9884e04607f15d8b8060", func := "waypoint/waypointlaw51.EventsCancelled", spec := "eventsCancelled", unfollowed := true, recurses := true, apart := false, narrowed := true }
def EventsCancelledUptoSaid : Prop := eventsCancelledUptoRow.holds Try.pinned (OpenSpec.upto eventsCancelledSpec)

/-- 'waypointlaw51.EventsLimits', WHERE WHAT IT READS IS OF BULK AT MOST 1048576: true; the input reads as it did. -/
def eventsLimitsUptoRow : OpenClaim := { program := "ytcekjnfdgbeekaa", sum := "ad5542738a89ba72b19014ea602e94ddb680be57c2ce9884e04607f15d8b8060", func := "waypoint/waypointlaw51.EventsLimits", spec := "eventsLimits", unfollowed := true, recurses := true, apart := false, narrowed := true }
def EventsLimitsUptoSaid : Prop := eventsLimitsUptoRow.holds Try.pinned (OpenSpec.upto eventsLimitsSpec)

/-- 'waypointlaw51.EventsSorted', WHERE WHAT IT READS IS OF BULK AT MOST 1048576: true; the input reads as it did. -/
def eventsSortedUptoRow : OpenClaim := { program := "ytcekjnfdgbeekaa", sum := "ad5542738a89ba72b19014ea602e94ddb680be57c2ce9884e04607f15d8b8060", func := "waypoint/waypointlaw51.EventsSorted", spec := "eventsSorted", unfollowed := true, recurses := true, apart := false, narrowed := true }
def EventsSortedUptoSaid : Prop := eventsSortedUptoRow.holds Try.pinned (OpenSpec.upto eventsSortedSpec)

/-- 'waypointlaw51.EventsCalls', WHERE WHAT IT READS IS OF BULK AT MOST 1048576: true; the input reads as it did. -/
def eventsCallsUptoRow : OpenClaim := { program := "ytcekjnfdgbeekaa", sum := "ad5542738a89ba72b19014ea602e94ddb680be57c2ce9884e04607f15d8b8060", func := "waypoint/waypointlaw51.EventsCalls", spec := "eventsCalls", unfollowed := true, recurses := true, apart := false, narrowed := true }
def EventsCallsUptoSaid : Prop := eventsCallsUptoRow.holds Try.pinned (OpenSpec.upto eventsCallsSpec)

/-- 'waypointlaw51.EventsNil', WHERE WHAT IT READS IS OF BULK AT MOST 1048576: true; the input reads as it did. -/
def eventsNilUptoRow : OpenClaim := { program := "ytcekjnfdgbeekaa", sum := "ad5542738a89ba72b19014ea602e94ddb680be57c2ce9884e04607f15d8b8060", func := "waypoint/waypointlaw51.EventsNil", spec := "eventsNil", unfollowed := true, recurses := true, apart := false, narrowed := true }
def EventsNilUptoSaid : Prop := eventsNilUptoRow.holds Try.pinned (OpenSpec.upto eventsNilSpec)

end Rows
end Go.Proofs.Ytcekjnfdgbeekaa
