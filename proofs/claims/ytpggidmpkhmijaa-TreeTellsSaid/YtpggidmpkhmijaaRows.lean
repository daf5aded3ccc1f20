/-
  No cell of these rows narrows 'for every input' (looked for: loops, veiled, ifaces, maps, wideKeys, modest, calm, conditions, laid).
  DERIVED. THE GIVEN ROWS OF THIS SEAT. 5 by the template 'for every input the law returns true; each argument reads behind the call as it read before'; 0 by the template 'total and deterministic' (their statements: YtpggidmpkhmijaaTotals.lean).
  GIVEN WITH THE SEED: the statements are not yours to turn. If you find one false, say at which input.
  Laid BY PROGRAM, IN A SANDBOX (cutbox-rows.mjs): the forced cells as the released guide's own fill.sh prints them over the translation 151052f37350f230… (all of the seat's roots in one cut). By AI agents, Wed Nov 11 2026. No macro, syntax, notation, axiom, sorry.
-/
import Derived.Test.YtpggidmpkhmijaaChecked
import GoSem.Claim
import GoSem.ClaimJoined
import GoSem.ClaimMapViews
import Derived.JoinedTies
import Derived.KernelRfl
namespace Go.Proofs.Ytpggidmpkhmijaa
/- THE CELL 'sum', in the pinned program and in every row, IS THE sha256 OF THE DUMP (.gsa) THAT YtpggidmpkhmijaaProg.lean LOADS. Nothing in Lean hashes anything: it is a label: what it is worth is what the hold of that sum in a sandbox is worth. -/
noncomputable def Try.pinned : Pinned := { name := "ytpggidmpkhmijaa", sum := "151052f37350f2304217add59c71dc95aa13eecc59fec66ba9bf199b7e28ee3e", checked := Try.checked }
namespace Rows
def none {H : Type} : Left H := { results := [], args := [] }

/-- 'runnellaw4.TreeOvers': WHATEVER THE INPUT: true; the input reads as it did. -/
def treeOversSpec : ChangeSpec := { name := "treeOvers", fn := fun _ => fun
  | [d1, d2] => { results := [.lit (.bool true)], args := [d1, d2] }
  | _ => none }
def treeOversRow : OpenClaim := { program := "ytpggidmpkhmijaa", sum := "151052f37350f2304217add59c71dc95aa13eecc59fec66ba9bf199b7e28ee3e", func := "runnel/runnellaw4.TreeOvers", spec := "treeOvers", unfollowed := true, recurses := true, apart := false }
def TreeOversSaid : Prop := treeOversRow.holds Try.pinned (OpenSpec.ofChange treeOversSpec)

/-- ITS FALSE NEIGHBOUR: 'it returns false'. Refute it at one input. -/
def treeOversWrong : ChangeSpec := { name := "treeOvers", fn := fun _ => fun
  | [d1, d2] => { results := [.lit (.bool false)], args := [d1, d2] }
  | _ => none }
def TreeOversWrongFalsely : Prop := treeOversRow.holds Try.pinned (OpenSpec.ofChange treeOversWrong)

/-- 'runnellaw4.TreeBuilds': WHATEVER THE INPUT: true; the input reads as it did. -/
def treeBuildsSpec : ChangeSpec := { name := "treeBuilds", fn := fun _ => fun
  | [d1, d2, d3] => { results := [.lit (.bool true)], args := [d1, d2, d3] }
  | _ => none }
def treeBuildsRow : OpenClaim := { program := "ytpggidmpkhmijaa", sum := "151052f37350f2304217add59c71dc95aa13eecc59fec66ba9bf199b7e28ee3e", func := "runnel/runnellaw4.TreeBuilds", spec := "treeBuilds", unfollowed := true, recurses := true, apart := false }
def TreeBuildsSaid : Prop := treeBuildsRow.holds Try.pinned (OpenSpec.ofChange treeBuildsSpec)

/-- ITS FALSE NEIGHBOUR: 'it returns false'. Refute it at one input. -/
def treeBuildsWrong : ChangeSpec := { name := "treeBuilds", fn := fun _ => fun
  | [d1, d2, d3] => { results := [.lit (.bool false)], args := [d1, d2, d3] }
  | _ => none }
def TreeBuildsWrongFalsely : Prop := treeBuildsRow.holds Try.pinned (OpenSpec.ofChange treeBuildsWrong)

/-- 'runnellaw4.TreeDepths': WHATEVER THE INPUT: true; the input reads as it did. -/
def treeDepthsSpec : ChangeSpec := { name := "treeDepths", fn := fun _ => fun
  | [d1, d2] => { results := [.lit (.bool true)], args := [d1, d2] }
  | _ => none }
def treeDepthsRow : OpenClaim := { program := "ytpggidmpkhmijaa", sum := "151052f37350f2304217add59c71dc95aa13eecc59fec66ba9bf199b7e28ee3e", func := "runnel/runnellaw4.TreeDepths", spec := "treeDepths", unfollowed := true, recurses := true, apart := false }
def TreeDepthsSaid : Prop := treeDepthsRow.holds Try.pinned (OpenSpec.ofChange treeDepthsSpec)

/-- ITS FALSE NEIGHBOUR: 'it returns false'. Refute it at one input. -/
def treeDepthsWrong : ChangeSpec := { name := "treeDepths", fn := fun _ => fun
  | [d1, d2] => { results := [.lit (.bool false)], args := [d1, d2] }
  | _ => none }
def TreeDepthsWrongFalsely : Prop := treeDepthsRow.holds Try.pinned (OpenSpec.ofChange treeDepthsWrong)

/-- 'runnellaw4.TreeParents': WHATEVER THE INPUT: true; the input reads as it did. -/
def treeParentsSpec : ChangeSpec := { name := "treeParents", fn := fun _ => fun
  | [d] => { results := [.lit (.bool true)], args := [d] }
  | _ => none }
def treeParentsRow : OpenClaim := { program := "ytpggidmpkhmijaa", sum := "151052f37350f2304217add59c71dc95aa13eecc59fec66ba9bf199b7e28ee3e", func := "runnel/runnellaw4.TreeParents", spec := "treeParents", inPlace := ["internal/bytealg.IndexByteString", "internal/bytealg.IndexString"], unfollowed := true, recurses := true, named := ["internal/bytealg.MaxLen"], apart := false }
def TreeParentsSaid : Prop := treeParentsRow.holds Try.pinned (OpenSpec.ofChange treeParentsSpec)

/-- ITS FALSE NEIGHBOUR: 'it returns false'. Refute it at one input. -/
def treeParentsWrong : ChangeSpec := { name := "treeParents", fn := fun _ => fun
  | [d] => { results := [.lit (.bool false)], args := [d] }
  | _ => none }
def TreeParentsWrongFalsely : Prop := treeParentsRow.holds Try.pinned (OpenSpec.ofChange treeParentsWrong)

/-- 'runnellaw4.TreeTells': WHATEVER THE INPUT: true; the input reads as it did. -/
def treeTellsSpec : ChangeSpec := { name := "treeTells", fn := fun _ => fun
  | [d1, d2] => { results := [.lit (.bool true)], args := [d1, d2] }
  | _ => none }
def treeTellsRow : OpenClaim := { program := "ytpggidmpkhmijaa", sum := "151052f37350f2304217add59c71dc95aa13eecc59fec66ba9bf199b7e28ee3e", func := "runnel/runnellaw4.TreeTells", spec := "treeTells", inPlace := ["internal/bytealg.IndexByteString", "internal/bytealg.IndexString"], unfollowed := true, recurses := true, named := ["internal/bytealg.MaxLen"], apart := false }
def TreeTellsSaid : Prop := treeTellsRow.holds Try.pinned (OpenSpec.ofChange treeTellsSpec)

/-- ITS FALSE NEIGHBOUR: 'it returns false'. Refute it at one input. -/
def treeTellsWrong : ChangeSpec := { name := "treeTells", fn := fun _ => fun
  | [d1, d2] => { results := [.lit (.bool false)], args := [d1, d2] }
  | _ => none }
def TreeTellsWrongFalsely : Prop := treeTellsRow.holds Try.pinned (OpenSpec.ofChange treeTellsWrong)

/- THE SECOND FORM. 'bulk': how many values and letters a reading holds, each counted each time it is reached (what is shared counts as often as it is met; a slice's spare places count too). A statement '..UptoSaid' is the law's where the arguments, and the package variables that the reading takes, are together of bulk at most 1048576: NARROWER than '..Said'. Prove '..Said' where nothing that the law and all that it calls make is longer than what came in: it says more and counts as full. Else prove '..UptoSaid'. A law counts once. -/
mutual
def uptoBulk {H : Type} : DataW H → Nat
  | .lit (.string bytes) => bytes.length + 1
  | .lit _ => 1
  | .nil => 1
  | .ptr d => uptoBulk d + 1
  | .slice elems spare => uptoBulkAll elems + uptoBulkAll spare + 1
  | .agg parts => uptoBulkAll parts + 1
  | .iface _ d => uptoBulk d + 1
  | .map entries => uptoBulkEntries entries + 1
  | .held _ => 1
def uptoBulkAll {H : Type} : List (DataW H) → Nat
  | [] => 0
  | d :: r => uptoBulk d + uptoBulkAll r
def uptoBulkEntries {H : Type} : List (Lit × DataW H) → Nat
  | [] => 0
  | x :: r => uptoBulkEntry x + uptoBulkEntries r
def uptoBulkEntry {H : Type} : Lit × DataW H → Nat
  | (.string bytes, d) => bytes.length + uptoBulk d + 1
  | (_, d) => uptoBulk d + 1
 end
def uptoSmall : (H : Type) → List (DataW H) → Bool := fun _ ds => decide (uptoBulkAll ds ≤ 1048576)
def OpenSpec.upto (s : _root_.Go.ChangeSpec) : _root_.Go.OpenSpec := { _root_.Go.OpenSpec.ofChange s with cond := some uptoSmall }

/-- 'runnellaw4.TreeOvers', WHERE WHAT IT READS IS OF BULK AT MOST 1048576: true; the input reads as it did. -/
def treeOversUptoRow : OpenClaim := { program := "ytpggidmpkhmijaa", sum := "151052f37350f2304217add59c71dc95aa13eecc59fec66ba9bf199b7e28ee3e", func := "runnel/runnellaw4.TreeOvers", spec := "treeOvers", unfollowed := true, recurses := true, apart := false, narrowed := true }
def TreeOversUptoSaid : Prop := treeOversUptoRow.holds Try.pinned (OpenSpec.upto treeOversSpec)

/-- 'runnellaw4.TreeBuilds', WHERE WHAT IT READS IS OF BULK AT MOST 1048576: true; the input reads as it did. -/
def treeBuildsUptoRow : OpenClaim := { program := "ytpggidmpkhmijaa", sum := "151052f37350f2304217add59c71dc95aa13eecc59fec66ba9bf199b7e28ee3e", func := "runnel/runnellaw4.TreeBuilds", spec := "treeBuilds", unfollowed := true, recurses := true, apart := false, narrowed := true }
def TreeBuildsUptoSaid : Prop := treeBuildsUptoRow.holds Try.pinned (OpenSpec.upto treeBuildsSpec)

/-- 'runnellaw4.TreeDepths', WHERE WHAT IT READS IS OF BULK AT MOST 1048576: true; the input reads as it did. -/
def treeDepthsUptoRow : OpenClaim := { program := "ytpggidmpkhmijaa", sum := "151052f37350f2304217add59c71dc95aa13eecc59fec66ba9bf199b7e28ee3e", func := "runnel/runnellaw4.TreeDepths", spec := "treeDepths", unfollowed := true, recurses := true, apart := false, narrowed := true }
def TreeDepthsUptoSaid : Prop := treeDepthsUptoRow.holds Try.pinned (OpenSpec.upto treeDepthsSpec)

/-- 'runnellaw4.TreeParents', WHERE WHAT IT READS IS OF BULK AT MOST 1048576: true; the input reads as it did. -/
def treeParentsUptoRow : OpenClaim := { program := "ytpggidmpkhmijaa", sum := "151052f37350f2304217add59c71dc95aa13eecc59fec66ba9bf199b7e28ee3e", func := "runnel/runnellaw4.TreeParents", spec := "treeParents", inPlace := ["internal/bytealg.IndexByteString", "internal/bytealg.IndexString"], unfollowed := true, recurses := true, named := ["internal/bytealg.MaxLen"], apart := false, narrowed := true }
def TreeParentsUptoSaid : Prop := treeParentsUptoRow.holds Try.pinned (OpenSpec.upto treeParentsSpec)

/-- 'runnellaw4.TreeTells', WHERE WHAT IT READS IS OF BULK AT MOST 1048576: true; the input reads as it did. -/
def treeTellsUptoRow : OpenClaim := { program := "ytpggidmpkhmijaa", sum := "151052f37350f2304217add59c71dc95aa13eecc59fec66ba9bf199b7e28ee3e", func := "runnel/runnellaw4.TreeTells", spec := "treeTells", inPlace := ["internal/bytealg.IndexByteString", "internal/bytealg.IndexString"], unfollowed := true, recurses := true, named := ["internal/bytealg.MaxLen"], apart := false, narrowed := true }
def TreeTellsUptoSaid : Prop := treeTellsUptoRow.holds Try.pinned (OpenSpec.upto treeTellsSpec)

end Rows
end Go.Proofs.Ytpggidmpkhmijaa
