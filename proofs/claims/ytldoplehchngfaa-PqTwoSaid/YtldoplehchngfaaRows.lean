/-
  No cell of these rows narrows 'for every input' (looked for: loops, veiled, ifaces, maps, wideKeys, modest, calm, conditions, laid).
  DERIVED. THE GIVEN ROWS OF THIS SEAT. 11 by the template 'for every input the law returns true; each argument reads behind the call as it read before'; 0 by the template 'total and deterministic' (their statements: YtldoplehchngfaaTotals.lean).
  GIVEN WITH THE SEED: the statements are not yours to turn. If you find one false, say at which input.
  Laid BY PROGRAM, IN A SANDBOX (cutbox-rows.mjs): the forced cells as the released guide's own fill.sh prints them over the translation 034ec95f67a20281… (all of the seat's roots in one cut). By AI agents, Wed Nov 11 2026. No macro, syntax, notation, axiom, sorry.
-/
import Derived.Test.YtldoplehchngfaaChecked
import GoSem.Claim
import GoSem.ClaimJoined
import GoSem.ClaimMapViews
import Derived.JoinedTies
import Derived.KernelRfl
namespace Go.Proofs.Ytldoplehchngfaa
/- THE CELL 'sum', in the pinned program and in every row, IS THE sha256 OF THE DUMP (.gsa) THAT YtldoplehchngfaaProg.lean LOADS. Nothing in Lean hashes anything: it is a label: what it is worth is what the hold of that sum in a sandbox is worth. -/
noncomputable def Try.pinned : Pinned := { name := "ytldoplehchngfaa", sum := "034ec95f67a202814d8f3bbb9052647d822b62964d88218b44580154a3bfc97b", checked := Try.checked }
namespace Rows
def none {H : Type} : Left H := { results := [], args := [] }

/-- 'waypointlaw27.PostconvPath': WHATEVER THE INPUT: true; the input reads as it did. -/
def postconvPathSpec : ChangeSpec := { name := "postconvPath", fn := fun _ => fun
  | [d] => { results := [.lit (.bool true)], args := [d] }
  | _ => none }
def postconvPathRow : OpenClaim := { program := "ytldoplehchngfaa", sum := "034ec95f67a202814d8f3bbb9052647d822b62964d88218b44580154a3bfc97b", func := "waypoint/waypointlaw27.PostconvPath", spec := "postconvPath", unfollowed := true, recurses := true, apart := false }
def PostconvPathSaid : Prop := postconvPathRow.holds Try.pinned (OpenSpec.ofChange postconvPathSpec)

/-- ITS FALSE NEIGHBOUR: 'it returns false'. Refute it at one input. -/
def postconvPathWrong : ChangeSpec := { name := "postconvPath", fn := fun _ => fun
  | [d] => { results := [.lit (.bool false)], args := [d] }
  | _ => none }
def PostconvPathWrongFalsely : Prop := postconvPathRow.holds Try.pinned (OpenSpec.ofChange postconvPathWrong)

/-- 'waypointlaw27.PostconvExtra': WHATEVER THE INPUT: true; the input reads as it did. -/
def postconvExtraSpec : ChangeSpec := { name := "postconvExtra", fn := fun _ => fun
  | [d] => { results := [.lit (.bool true)], args := [d] }
  | _ => none }
def postconvExtraRow : OpenClaim := { program := "ytldoplehchngfaa", sum := "034ec95f67a202814d8f3bbb9052647d822b62964d88218b44580154a3bfc97b", func := "waypoint/waypointlaw27.PostconvExtra", spec := "postconvExtra", unfollowed := true, recurses := true, apart := false }
def PostconvExtraSaid : Prop := postconvExtraRow.holds Try.pinned (OpenSpec.ofChange postconvExtraSpec)

/-- ITS FALSE NEIGHBOUR: 'it returns false'. Refute it at one input. -/
def postconvExtraWrong : ChangeSpec := { name := "postconvExtra", fn := fun _ => fun
  | [d] => { results := [.lit (.bool false)], args := [d] }
  | _ => none }
def PostconvExtraWrongFalsely : Prop := postconvExtraRow.holds Try.pinned (OpenSpec.ofChange postconvExtraWrong)

/-- 'waypointlaw27.PostconvParts': WHATEVER THE INPUT: true; the input reads as it did. -/
def postconvPartsSpec : ChangeSpec := { name := "postconvParts", fn := fun _ => fun
  | [d] => { results := [.lit (.bool true)], args := [d] }
  | _ => none }
def postconvPartsRow : OpenClaim := { program := "ytldoplehchngfaa", sum := "034ec95f67a202814d8f3bbb9052647d822b62964d88218b44580154a3bfc97b", func := "waypoint/waypointlaw27.PostconvParts", spec := "postconvParts", unfollowed := true, recurses := true, apart := false }
def PostconvPartsSaid : Prop := postconvPartsRow.holds Try.pinned (OpenSpec.ofChange postconvPartsSpec)

/-- ITS FALSE NEIGHBOUR: 'it returns false'. Refute it at one input. -/
def postconvPartsWrong : ChangeSpec := { name := "postconvParts", fn := fun _ => fun
  | [d] => { results := [.lit (.bool false)], args := [d] }
  | _ => none }
def PostconvPartsWrongFalsely : Prop := postconvPartsRow.holds Try.pinned (OpenSpec.ofChange postconvPartsWrong)

/-- 'waypointlaw27.PostconvMore': WHATEVER THE INPUT: true; the input reads as it did. -/
def postconvMoreSpec : ChangeSpec := { name := "postconvMore", fn := fun _ => fun
  | [d1, d2] => { results := [.lit (.bool true)], args := [d1, d2] }
  | _ => none }
def postconvMoreRow : OpenClaim := { program := "ytldoplehchngfaa", sum := "034ec95f67a202814d8f3bbb9052647d822b62964d88218b44580154a3bfc97b", func := "waypoint/waypointlaw27.PostconvMore", spec := "postconvMore", unfollowed := true, recurses := true, apart := false }
def PostconvMoreSaid : Prop := postconvMoreRow.holds Try.pinned (OpenSpec.ofChange postconvMoreSpec)

/-- ITS FALSE NEIGHBOUR: 'it returns false'. Refute it at one input. -/
def postconvMoreWrong : ChangeSpec := { name := "postconvMore", fn := fun _ => fun
  | [d1, d2] => { results := [.lit (.bool false)], args := [d1, d2] }
  | _ => none }
def PostconvMoreWrongFalsely : Prop := postconvMoreRow.holds Try.pinned (OpenSpec.ofChange postconvMoreWrong)

/-- 'waypointlaw27.PostconvSafe': WHATEVER THE INPUT: true; the input reads as it did. -/
def postconvSafeSpec : ChangeSpec := { name := "postconvSafe", fn := fun _ => fun
  | [d] => { results := [.lit (.bool true)], args := [d] }
  | _ => none }
def postconvSafeRow : OpenClaim := { program := "ytldoplehchngfaa", sum := "034ec95f67a202814d8f3bbb9052647d822b62964d88218b44580154a3bfc97b", func := "waypoint/waypointlaw27.PostconvSafe", spec := "postconvSafe", unfollowed := true, recurses := true, apart := false }
def PostconvSafeSaid : Prop := postconvSafeRow.holds Try.pinned (OpenSpec.ofChange postconvSafeSpec)

/-- ITS FALSE NEIGHBOUR: 'it returns false'. Refute it at one input. -/
def postconvSafeWrong : ChangeSpec := { name := "postconvSafe", fn := fun _ => fun
  | [d] => { results := [.lit (.bool false)], args := [d] }
  | _ => none }
def PostconvSafeWrongFalsely : Prop := postconvSafeRow.holds Try.pinned (OpenSpec.ofChange postconvSafeWrong)

/-- 'waypointlaw26.PqAffected': WHATEVER THE INPUT: true; the input reads as it did. -/
def pqAffectedSpec : ChangeSpec := { name := "pqAffected", fn := fun _ => fun
  | [d] => { results := [.lit (.bool true)], args := [d] }
  | _ => none }
def pqAffectedRow : OpenClaim := { program := "ytldoplehchngfaa", sum := "034ec95f67a202814d8f3bbb9052647d822b62964d88218b44580154a3bfc97b", func := "waypoint/waypointlaw26.PqAffected", spec := "pqAffected", unfollowed := true, recurses := true, apart := false }
def PqAffectedSaid : Prop := pqAffectedRow.holds Try.pinned (OpenSpec.ofChange pqAffectedSpec)

/-- ITS FALSE NEIGHBOUR: 'it returns false'. Refute it at one input. -/
def pqAffectedWrong : ChangeSpec := { name := "pqAffected", fn := fun _ => fun
  | [d] => { results := [.lit (.bool false)], args := [d] }
  | _ => none }
def PqAffectedWrongFalsely : Prop := pqAffectedRow.holds Try.pinned (OpenSpec.ofChange pqAffectedWrong)

/-- 'waypointlaw26.PqParts': WHATEVER THE INPUT: true; the input reads as it did. -/
def pqPartsSpec : ChangeSpec := { name := "pqParts", fn := fun _ => fun
  | [d] => { results := [.lit (.bool true)], args := [d] }
  | _ => none }
def pqPartsRow : OpenClaim := { program := "ytldoplehchngfaa", sum := "034ec95f67a202814d8f3bbb9052647d822b62964d88218b44580154a3bfc97b", func := "waypoint/waypointlaw26.PqParts", spec := "pqParts", unfollowed := true, recurses := true, apart := false }
def PqPartsSaid : Prop := pqPartsRow.holds Try.pinned (OpenSpec.ofChange pqPartsSpec)

/-- ITS FALSE NEIGHBOUR: 'it returns false'. Refute it at one input. -/
def pqPartsWrong : ChangeSpec := { name := "pqParts", fn := fun _ => fun
  | [d] => { results := [.lit (.bool false)], args := [d] }
  | _ => none }
def PqPartsWrongFalsely : Prop := pqPartsRow.holds Try.pinned (OpenSpec.ofChange pqPartsWrong)

/-- 'waypointlaw26.PqStays': WHATEVER THE INPUT: true; the input reads as it did. -/
def pqStaysSpec : ChangeSpec := { name := "pqStays", fn := fun _ => fun
  | [d] => { results := [.lit (.bool true)], args := [d] }
  | _ => none }
def pqStaysRow : OpenClaim := { program := "ytldoplehchngfaa", sum := "034ec95f67a202814d8f3bbb9052647d822b62964d88218b44580154a3bfc97b", func := "waypoint/waypointlaw26.PqStays", spec := "pqStays", unfollowed := true, recurses := true, apart := false }
def PqStaysSaid : Prop := pqStaysRow.holds Try.pinned (OpenSpec.ofChange pqStaysSpec)

/-- ITS FALSE NEIGHBOUR: 'it returns false'. Refute it at one input. -/
def pqStaysWrong : ChangeSpec := { name := "pqStays", fn := fun _ => fun
  | [d] => { results := [.lit (.bool false)], args := [d] }
  | _ => none }
def PqStaysWrongFalsely : Prop := pqStaysRow.holds Try.pinned (OpenSpec.ofChange pqStaysWrong)

/-- 'waypointlaw26.PqTwo': WHATEVER THE INPUT: true; the input reads as it did. -/
def pqTwoSpec : ChangeSpec := { name := "pqTwo", fn := fun _ => fun
  | [d1, d2, d3] => { results := [.lit (.bool true)], args := [d1, d2, d3] }
  | _ => none }
def pqTwoRow : OpenClaim := { program := "ytldoplehchngfaa", sum := "034ec95f67a202814d8f3bbb9052647d822b62964d88218b44580154a3bfc97b", func := "waypoint/waypointlaw26.PqTwo", spec := "pqTwo", unfollowed := true, recurses := true, apart := false }
def PqTwoSaid : Prop := pqTwoRow.holds Try.pinned (OpenSpec.ofChange pqTwoSpec)

/-- ITS FALSE NEIGHBOUR: 'it returns false'. Refute it at one input. -/
def pqTwoWrong : ChangeSpec := { name := "pqTwo", fn := fun _ => fun
  | [d1, d2, d3] => { results := [.lit (.bool false)], args := [d1, d2, d3] }
  | _ => none }
def PqTwoWrongFalsely : Prop := pqTwoRow.holds Try.pinned (OpenSpec.ofChange pqTwoWrong)

/-- 'waypointlaw26.PqExtended': WHATEVER THE INPUT: true; the input reads as it did. -/
def pqExtendedSpec : ChangeSpec := { name := "pqExtended", fn := fun _ => fun
  | [d] => { results := [.lit (.bool true)], args := [d] }
  | _ => none }
def pqExtendedRow : OpenClaim := { program := "ytldoplehchngfaa", sum := "034ec95f67a202814d8f3bbb9052647d822b62964d88218b44580154a3bfc97b", func := "waypoint/waypointlaw26.PqExtended", spec := "pqExtended", unfollowed := true, recurses := true, apart := false }
def PqExtendedSaid : Prop := pqExtendedRow.holds Try.pinned (OpenSpec.ofChange pqExtendedSpec)

/-- ITS FALSE NEIGHBOUR: 'it returns false'. Refute it at one input. -/
def pqExtendedWrong : ChangeSpec := { name := "pqExtended", fn := fun _ => fun
  | [d] => { results := [.lit (.bool false)], args := [d] }
  | _ => none }
def PqExtendedWrongFalsely : Prop := pqExtendedRow.holds Try.pinned (OpenSpec.ofChange pqExtendedWrong)

/-- 'waypointlaw26.PqUses': WHATEVER THE INPUT: true; the input reads as it did. -/
def pqUsesSpec : ChangeSpec := { name := "pqUses", fn := fun _ => fun
  | [d] => { results := [.lit (.bool true)], args := [d] }
  | _ => none }
def pqUsesRow : OpenClaim := { program := "ytldoplehchngfaa", sum := "034ec95f67a202814d8f3bbb9052647d822b62964d88218b44580154a3bfc97b", func := "waypoint/waypointlaw26.PqUses", spec := "pqUses", unfollowed := true, recurses := true, apart := false }
def PqUsesSaid : Prop := pqUsesRow.holds Try.pinned (OpenSpec.ofChange pqUsesSpec)

/-- ITS FALSE NEIGHBOUR: 'it returns false'. Refute it at one input. -/
def pqUsesWrong : ChangeSpec := { name := "pqUses", fn := fun _ => fun
  | [d] => { results := [.lit (.bool false)], args := [d] }
  | _ => none }
def PqUsesWrongFalsely : Prop := pqUsesRow.holds Try.pinned (OpenSpec.ofChange pqUsesWrong)

/- THE SECOND FORM. 'bulk': how many values and letters a reading holds, each counted each time it is reached (what is shared counts as often as it is met; a slice's spare places count too). A statement '..UptoSaid' is the law's where the arguments, and the package variables that the reading takes, are together of bulk at most 1048576: NARROWER than '..Said'. Prove '..Said' where nothing that the law and all that it calls make is longer than what came in: it says more and counts as full. Else prove '..UptoSaid'. A law counts once. -/
mutual
def uptoBulk {H : Type} : DataW H → Nat
  | .lit (.string bytes) => bytes.length + 1
  | .lit _ => 1
  | .nil => 1
  | .ptr d => uptoBulk d + 1
  | .slice elems spare => uptoBulkAll elems + uptoBulkAll spare + 1
  | .agg parts => uptoBulkAll parts + 1
  | .iface _ d => uptoBulk d + 1
  | .map entries => uptoBulkEntries entries + 1
  | .held _ => 1
def uptoBulkAll {H : Type} : List (DataW H) → Nat
  | [] => 0
  | d :: r => uptoBulk d + uptoBulkAll r
def uptoBulkEntries {H : Type} : List (Lit × DataW H) → Nat
  | [] => 0
  | x :: r => uptoBulkEntry x + uptoBulkEntries r
def uptoBulkEntry {H : Type} : Lit × DataW H → Nat
  | (.string bytes, d) => bytes.length + uptoBulk d + 1
  | (_, d) => uptoBulk d + 1
 end
def uptoSmall : (H : Type) → List (DataW H) → Bool := fun _ ds => decide (uptoBulkAll ds ≤ 1048576)
def OpenSpec.upto (s : _root_.Go.ChangeSpec) : _root_.Go.OpenSpec := { _root_.Go.OpenSpec.ofChange s with cond := some uptoSmall }

/-- 'waypointlaw27.PostconvPath', WHERE WHAT IT READS IS OF BULK AT MOST 1048576: true; the input reads as it did. -/
def postconvPathUptoRow : OpenClaim := { program := "ytldoplehchngfaa", sum := "034ec95f67a202814d8f3bbb9052647d822b62964d88218b44580154a3bfc97b", func := "waypoint/waypointlaw27.PostconvPath", spec := "postconvPath", unfollowed := true, recurses := true, apart := false, narrowed := true }
def PostconvPathUptoSaid : Prop := postconvPathUptoRow.holds Try.pinned (OpenSpec.upto postconvPathSpec)

/-- 'waypointlaw27.PostconvExtra', WHERE WHAT IT READS IS OF BULK AT MOST 1048576: true; the input reads as it did. -/
def postconvExtraUptoRow : OpenClaim := { program := "ytldoplehchngfaa", sum := "034ec95f67a202814d8f3bbb9052647d822b62964d88218b44580154a3bfc97b", func := "waypoint/waypointlaw27.PostconvExtra", spec := "postconvExtra", unfollowed := true, recurses := true, apart := false, narrowed := true }
def PostconvExtraUptoSaid : Prop := postconvExtraUptoRow.holds Try.pinned (OpenSpec.upto postconvExtraSpec)

/-- 'waypointlaw27.PostconvParts', WHERE WHAT IT READS IS OF BULK AT MOST 1048576: true; the input reads as it did. -/
def postconvPartsUptoRow : OpenClaim := { program := "ytldoplehchngfaa", sum := "034ec95f67a202814d8f3bbb9052647d822b62964d88218b44580154a3bfc97b", func := "waypoint/waypointlaw27.PostconvParts", spec := "postconvParts", unfollowed := true, recurses := true, apart := false, narrowed := true }
def PostconvPartsUptoSaid : Prop := postconvPartsUptoRow.holds Try.pinned (OpenSpec.upto postconvPartsSpec)

/-- 'waypointlaw27.PostconvMore', WHERE WHAT IT READS IS OF BULK AT MOST 1048576: true; the input reads as it did. -/
def postconvMoreUptoRow : OpenClaim := { program := "ytldoplehchngfaa", sum := "034ec95f67a202814d8f3bbb9052647d822b62964d88218b44580154a3bfc97b", func := "waypoint/waypointlaw27.PostconvMore", spec := "postconvMore", unfollowed := true, recurses := true, apart := false, narrowed := true }
def PostconvMoreUptoSaid : Prop := postconvMoreUptoRow.holds Try.pinned (OpenSpec.upto postconvMoreSpec)

/-- 'waypointlaw27.PostconvSafe', WHERE WHAT IT READS IS OF BULK AT MOST 1048576: true; the input reads as it did. -/
def postconvSafeUptoRow : OpenClaim := { program := "ytldoplehchngfaa", sum := "034ec95f67a202814d8f3bbb9052647d822b62964d88218b44580154a3bfc97b", func := "waypoint/waypointlaw27.PostconvSafe", spec := "postconvSafe", unfollowed := true, recurses := true, apart := false, narrowed := true }
def PostconvSafeUptoSaid : Prop := postconvSafeUptoRow.holds Try.pinned (OpenSpec.upto postconvSafeSpec)

/-- 'waypointlaw26.PqAffected', WHERE WHAT IT READS IS OF BULK AT MOST 1048576: true; the input reads as it did. -/
def pqAffectedUptoRow : OpenClaim := { program := "ytldoplehchngfaa", sum := "034ec95f67a202814d8f3bbb9052647d822b62964d88218b44580154a3bfc97b", func := "waypoint/waypointlaw26.PqAffected", spec := "pqAffected", unfollowed := true, recurses := true, apart := false, narrowed := true }
def PqAffectedUptoSaid : Prop := pqAffectedUptoRow.holds Try.pinned (OpenSpec.upto pqAffectedSpec)

/-- 'waypointlaw26.PqParts', WHERE WHAT IT READS IS OF BULK AT MOST 1048576: true; the input reads as it did. -/
def pqPartsUptoRow : OpenClaim := { program := "ytldoplehchngfaa", sum := "034ec95f67a202814d8f3bbb9052647d822b62964d88218b44580154a3bfc97b", func := "waypoint/waypointlaw26.PqParts", spec := "pqParts", unfollowed := true, recurses := true, apart := false, narrowed := true }
def PqPartsUptoSaid : Prop := pqPartsUptoRow.holds Try.pinned (OpenSpec.upto pqPartsSpec)

/-- 'waypointlaw26.PqStays', WHERE WHAT IT READS IS OF BULK AT MOST 1048576: true; the input reads as it did. -/
def pqStaysUptoRow : OpenClaim := { program := "ytldoplehchngfaa", sum := "034ec95f67a202814d8f3bbb9052647d822b62964d88218b44580154a3bfc97b", func := "waypoint/waypointlaw26.PqStays", spec := "pqStays", unfollowed := true, recurses := true, apart := false, narrowed := true }
def PqStaysUptoSaid : Prop := pqStaysUptoRow.holds Try.pinned (OpenSpec.upto pqStaysSpec)

/-- 'waypointlaw26.PqTwo', WHERE WHAT IT READS IS OF BULK AT MOST 1048576: true; the input reads as it did. -/
def pqTwoUptoRow : OpenClaim := { program := "ytldoplehchngfaa", sum := "034ec95f67a202814d8f3bbb9052647d822b62964d88218b44580154a3bfc97b", func := "waypoint/waypointlaw26.PqTwo", spec := "pqTwo", unfollowed := true, recurses := true, apart := false, narrowed := true }
def PqTwoUptoSaid : Prop := pqTwoUptoRow.holds Try.pinned (OpenSpec.upto pqTwoSpec)

/-- 'waypointlaw26.PqExtended', WHERE WHAT IT READS IS OF BULK AT MOST 1048576: true; the input reads as it did. -/
def pqExtendedUptoRow : OpenClaim := { program := "ytldoplehchngfaa", sum := "034ec95f67a202814d8f3bbb9052647d822b62964d88218b44580154a3bfc97b", func := "waypoint/waypointlaw26.PqExtended", spec := "pqExtended", unfollowed := true, recurses := true, apart := false, narrowed := true }
def PqExtendedUptoSaid : Prop := pqExtendedUptoRow.holds Try.pinned (OpenSpec.upto pqExtendedSpec)

/-- 'waypointlaw26.PqUses', WHERE WHAT IT READS IS OF BULK AT MOST 1048576: true; the input reads as it did. -/
def pqUsesUptoRow : OpenClaim := { program := "ytldoplehchngfaa", sum := "034ec95f67a202814d8f3bbb9052647d822b62964d88218b44580154a3bfc97b", func := "waypoint/waypointlaw26.PqUses", spec := "pqUses", unfollowed := true, recurses := true, apart := false, narrowed := true }
def PqUsesUptoSaid : Prop := pqUsesUptoRow.holds Try.pinned (OpenSpec.upto pqUsesSpec)

end Rows
end Go.Proofs.Ytldoplehchngfaa
