/-
  No cell of these rows narrows 'for every input' (looked for: loops, veiled, ifaces, maps, wideKeys, modest, calm, conditions, laid).
  DERIVED. THE GIVEN ROWS OF THIS SEAT. 7 by the template 'for every input the law returns true; each argument reads behind the call as it read before'; 0 by the template 'total and deterministic' (their statements: YthlgnbeoanafbaaTotals.lean).
  GIVEN WITH THE SEED: the statements are not yours to turn. If you find one false, say at which input.
  Laid BY PROGRAM, IN A SANDBOX (cutbox-rows.mjs): the forced cells as the released guide's own fill.sh prints them over the translation ed592c671ddb0312… (all of the seat's roots in one cut). By AI agents, Wed Nov 11 2026. No macro, syntax, notation, axiom, sorry.
-/
import Derived.Test.YthlgnbeoanafbaaChecked
import GoSem.Claim
import GoSem.ClaimJoined
import GoSem.ClaimMapViews
import Derived.JoinedTies
import Derived.KernelRfl
namespace Go.Proofs.Ythlgnbeoanafbaa
/- THE CELL 'sum', in the pinned program and in every row, IS THE sha256 OF THE DUMP (.gsa) THAT YthlgnbeoanafbaaProg.lean LOADS. Nothing in Lean hashes anything: it is a label: what it is worth is what the hold of that sum in a sandbox is worth. -/
noncomputable def Try.pinned : Pinned := { name := "ythlgnbeoanafbaa", sum := "ed592c671ddb0312869abbe42d68e314a0789315022a25b7227012ab1e1434cb", checked := Try.checked }
namespace Rows
def none {H : Type} : Left H := { results := [], args := [] }

/-- 'hopmeshlaw32.FlowWindows': WHATEVER THE INPUT: true; the input reads as it did. -/
def flowWindowsSpec : ChangeSpec := { name := "flowWindows", fn := fun _ => fun
  | [d1, d2] => { results := [.lit (.bool true)], args := [d1, d2] }
  | _ => none }
def flowWindowsRow : OpenClaim := { program := "ythlgnbeoanafbaa", sum := "ed592c671ddb0312869abbe42d68e314a0789315022a25b7227012ab1e1434cb", func := "hopmesh/hopmeshlaw32.FlowWindows", spec := "flowWindows", unfollowed := true, recurses := true, apart := false }
def FlowWindowsSaid : Prop := flowWindowsRow.holds Try.pinned (OpenSpec.ofChange flowWindowsSpec)

/-- ITS FALSE NEIGHBOUR: 'it returns false'. Refute it at one input. -/
def flowWindowsWrong : ChangeSpec := { name := "flowWindows", fn := fun _ => fun
  | [d1, d2] => { results := [.lit (.bool false)], args := [d1, d2] }
  | _ => none }
def FlowWindowsWrongFalsely : Prop := flowWindowsRow.holds Try.pinned (OpenSpec.ofChange flowWindowsWrong)

/-- 'hopmeshlaw32.FlowFollows': WHATEVER THE INPUT: true; the input reads as it did. -/
def flowFollowsSpec : ChangeSpec := { name := "flowFollows", fn := fun _ => fun
  | [d1, d2, d3] => { results := [.lit (.bool true)], args := [d1, d2, d3] }
  | _ => none }
def flowFollowsRow : OpenClaim := { program := "ythlgnbeoanafbaa", sum := "ed592c671ddb0312869abbe42d68e314a0789315022a25b7227012ab1e1434cb", func := "hopmesh/hopmeshlaw32.FlowFollows", spec := "flowFollows", unfollowed := true, recurses := true, apart := false }
def FlowFollowsSaid : Prop := flowFollowsRow.holds Try.pinned (OpenSpec.ofChange flowFollowsSpec)

/-- ITS FALSE NEIGHBOUR: 'it returns false'. Refute it at one input. -/
def flowFollowsWrong : ChangeSpec := { name := "flowFollows", fn := fun _ => fun
  | [d1, d2, d3] => { results := [.lit (.bool false)], args := [d1, d2, d3] }
  | _ => none }
def FlowFollowsWrongFalsely : Prop := flowFollowsRow.holds Try.pinned (OpenSpec.ofChange flowFollowsWrong)

/-- 'hopmeshlaw32.FlowLeast': WHATEVER THE INPUT: true; the input reads as it did. -/
def flowLeastSpec : ChangeSpec := { name := "flowLeast", fn := fun _ => fun
  | [d1, d2] => { results := [.lit (.bool true)], args := [d1, d2] }
  | _ => none }
def flowLeastRow : OpenClaim := { program := "ythlgnbeoanafbaa", sum := "ed592c671ddb0312869abbe42d68e314a0789315022a25b7227012ab1e1434cb", func := "hopmesh/hopmeshlaw32.FlowLeast", spec := "flowLeast", unfollowed := true, recurses := true, apart := false }
def FlowLeastSaid : Prop := flowLeastRow.holds Try.pinned (OpenSpec.ofChange flowLeastSpec)

/-- ITS FALSE NEIGHBOUR: 'it returns false'. Refute it at one input. -/
def flowLeastWrong : ChangeSpec := { name := "flowLeast", fn := fun _ => fun
  | [d1, d2] => { results := [.lit (.bool false)], args := [d1, d2] }
  | _ => none }
def FlowLeastWrongFalsely : Prop := flowLeastRow.holds Try.pinned (OpenSpec.ofChange flowLeastWrong)

/-- 'hopmeshlaw32.FlowChecks': WHATEVER THE INPUT: true; the input reads as it did. -/
def flowChecksSpec : ChangeSpec := { name := "flowChecks", fn := fun _ => fun
  | [d1, d2, d3] => { results := [.lit (.bool true)], args := [d1, d2, d3] }
  | _ => none }
def flowChecksRow : OpenClaim := { program := "ythlgnbeoanafbaa", sum := "ed592c671ddb0312869abbe42d68e314a0789315022a25b7227012ab1e1434cb", func := "hopmesh/hopmeshlaw32.FlowChecks", spec := "flowChecks", unfollowed := true, recurses := true, apart := false }
def FlowChecksSaid : Prop := flowChecksRow.holds Try.pinned (OpenSpec.ofChange flowChecksSpec)

/-- ITS FALSE NEIGHBOUR: 'it returns false'. Refute it at one input. -/
def flowChecksWrong : ChangeSpec := { name := "flowChecks", fn := fun _ => fun
  | [d1, d2, d3] => { results := [.lit (.bool false)], args := [d1, d2, d3] }
  | _ => none }
def FlowChecksWrongFalsely : Prop := flowChecksRow.holds Try.pinned (OpenSpec.ofChange flowChecksWrong)

/-- 'hopmeshlaw32.FlowCounts': WHATEVER THE INPUT: true; the input reads as it did. -/
def flowCountsSpec : ChangeSpec := { name := "flowCounts", fn := fun _ => fun
  | [d1, d2] => { results := [.lit (.bool true)], args := [d1, d2] }
  | _ => none }
def flowCountsRow : OpenClaim := { program := "ythlgnbeoanafbaa", sum := "ed592c671ddb0312869abbe42d68e314a0789315022a25b7227012ab1e1434cb", func := "hopmesh/hopmeshlaw32.FlowCounts", spec := "flowCounts", unfollowed := true, recurses := true, apart := false }
def FlowCountsSaid : Prop := flowCountsRow.holds Try.pinned (OpenSpec.ofChange flowCountsSpec)

/-- ITS FALSE NEIGHBOUR: 'it returns false'. Refute it at one input. -/
def flowCountsWrong : ChangeSpec := { name := "flowCounts", fn := fun _ => fun
  | [d1, d2] => { results := [.lit (.bool false)], args := [d1, d2] }
  | _ => none }
def FlowCountsWrongFalsely : Prop := flowCountsRow.holds Try.pinned (OpenSpec.ofChange flowCountsWrong)

/-- 'hopmeshlaw32.FlowFrames': WHATEVER THE INPUT: true; the input reads as it did. -/
def flowFramesSpec : ChangeSpec := { name := "flowFrames", fn := fun _ => fun
  | [d1, d2, d3, d4] => { results := [.lit (.bool true)], args := [d1, d2, d3, d4] }
  | _ => none }
def flowFramesRow : OpenClaim := { program := "ythlgnbeoanafbaa", sum := "ed592c671ddb0312869abbe42d68e314a0789315022a25b7227012ab1e1434cb", func := "hopmesh/hopmeshlaw32.FlowFrames", spec := "flowFrames", unfollowed := true, recurses := true, apart := false }
def FlowFramesSaid : Prop := flowFramesRow.holds Try.pinned (OpenSpec.ofChange flowFramesSpec)

/-- ITS FALSE NEIGHBOUR: 'it returns false'. Refute it at one input. -/
def flowFramesWrong : ChangeSpec := { name := "flowFrames", fn := fun _ => fun
  | [d1, d2, d3, d4] => { results := [.lit (.bool false)], args := [d1, d2, d3, d4] }
  | _ => none }
def FlowFramesWrongFalsely : Prop := flowFramesRow.holds Try.pinned (OpenSpec.ofChange flowFramesWrong)

/-- 'hopmeshlaw32.FlowSplits': WHATEVER THE INPUT: true; the input reads as it did. -/
def flowSplitsSpec : ChangeSpec := { name := "flowSplits", fn := fun _ => fun
  | [d1, d2, d3, d4] => { results := [.lit (.bool true)], args := [d1, d2, d3, d4] }
  | _ => none }
def flowSplitsRow : OpenClaim := { program := "ythlgnbeoanafbaa", sum := "ed592c671ddb0312869abbe42d68e314a0789315022a25b7227012ab1e1434cb", func := "hopmesh/hopmeshlaw32.FlowSplits", spec := "flowSplits", unfollowed := true, recurses := true, apart := false }
def FlowSplitsSaid : Prop := flowSplitsRow.holds Try.pinned (OpenSpec.ofChange flowSplitsSpec)

/-- ITS FALSE NEIGHBOUR: 'it returns false'. Refute it at one input. -/
def flowSplitsWrong : ChangeSpec := { name := "flowSplits", fn := fun _ => fun
  | [d1, d2, d3, d4] => { results := [.lit (.bool false)], args := [d1, d2, d3, d4] }
  | _ => none }
def FlowSplitsWrongFalsely : Prop := flowSplitsRow.holds Try.pinned (OpenSpec.ofChange flowSplitsWrong)

/- THE SECOND FORM. 'bulk': how many values and letters a reading holds, each counted each time it is reached (what is shared counts as often as it is met; a slice's spare places count too). A statement '..UptoSaid' is the law's where the arguments, and the package variables that the reading takes, are together of bulk at most 1048576: NARROWER than '..Said'. Prove '..Said' where nothing that the law and all that it calls make is longer than what came in: it says more and counts as full. Else prove '..UptoSaid'. A law counts once. -/
mutual
def uptoBulk {H : Type} : DataW H → Nat
  | .lit (.string bytes) => bytes.length + 1
  | .lit _ => 1
  | .nil => 1
  | .ptr d => uptoBulk d + 1
  | .slice elems spare => uptoBulkAll elems + uptoBulkAll spare + 1
  | .agg parts => uptoBulkAll parts + 1
  | .iface _ d => uptoBulk d + 1
  | .map entries => uptoBulkEntries entries + 1
  | .held _ => 1
def uptoBulkAll {H : Type} : List (DataW H) → Nat
  | [] => 0
  | d :: r => uptoBulk d + uptoBulkAll r
def uptoBulkEntries {H : Type} : List (Lit × DataW H) → Nat
  | [] => 0
  | x :: r => uptoBulkEntry x + uptoBulkEntries r
def uptoBulkEntry {H : Type} : Lit × DataW H → Nat
  | (.string bytes, d) => bytes.length + uptoBulk d + 1
  | (_, d) => uptoBulk d + 1
 end
def uptoSmall : (H : Type) → List (DataW H) → Bool := fun _ ds => decide (uptoBulkAll ds ≤ 1048576)
def OpenSpec.upto (s : _root_.Go.ChangeSpec) : _root_.Go.OpenSpec := { _root_.Go.OpenSpec.ofChange s with cond := some uptoSmall }

/-- 'hopmeshlaw32.FlowWindows', WHERE WHAT IT READS IS OF BULK AT MOST 1048576: true; the input reads as it did. -/
def flowWindowsUptoRow : OpenClaim := { program := "ythlgnbeoanafbaa", sum := "ed592c671ddb0312869abbe42d68e314a0789315022a25b7227012ab1e1434cb", func := "hopmesh/hopmeshlaw32.FlowWindows", spec := "flowWindows", unfollowed := true, recurses := true, apart := false, narrowed := true }
def FlowWindowsUptoSaid : Prop := flowWindowsUptoRow.holds Try.pinned (OpenSpec.upto flowWindowsSpec)

/-- 'hopmeshlaw32.FlowFollows', WHERE WHAT IT READS IS OF BULK AT MOST 1048576: true; the input reads as it did. -/
def flowFollowsUptoRow : OpenClaim := { program := "ythlgnbeoanafbaa", sum := "ed592c671ddb0312869abbe42d68e314a0789315022a25b7227012ab1e1434cb", func := "hopmesh/hopmeshlaw32.FlowFollows", spec := "flowFollows", unfollowed := true, recurses := true, apart := false, narrowed := true }
def FlowFollowsUptoSaid : Prop := flowFollowsUptoRow.holds Try.pinned (OpenSpec.upto flowFollowsSpec)

/-- 'hopmeshlaw32.FlowLeast', WHERE WHAT IT READS IS OF BULK AT MOST 1048576: true; the input reads as it did. -/
def flowLeastUptoRow : OpenClaim := { program := "ythlgnbeoanafbaa", sum := "ed592c671ddb0312869abbe42d68e314a0789315022a25b7227012ab1e1434cb", func := "hopmesh/hopmeshlaw32.FlowLeast", spec := "flowLeast", unfollowed := true, recurses := true, apart := false, narrowed := true }
def FlowLeastUptoSaid : Prop := flowLeastUptoRow.holds Try.pinned (OpenSpec.upto flowLeastSpec)

/-- 'hopmeshlaw32.FlowChecks', WHERE WHAT IT READS IS OF BULK AT MOST 1048576: true; the input reads as it did. -/
def flowChecksUptoRow : OpenClaim := { program := "ythlgnbeoanafbaa", sum := "ed592c671ddb0312869abbe42d68e314a0789315022a25b7227012ab1e1434cb", func := "hopmesh/hopmeshlaw32.FlowChecks", spec := "flowChecks", unfollowed := true, recurses := true, apart := false, narrowed := true }
def FlowChecksUptoSaid : Prop := flowChecksUptoRow.holds Try.pinned (OpenSpec.upto flowChecksSpec)

/-- 'hopmeshlaw32.FlowCounts', WHERE WHAT IT READS IS OF BULK AT MOST 1048576: true; the input reads as it did. -/
def flowCountsUptoRow : OpenClaim := { program := "ythlgnbeoanafbaa", sum := "ed592c671ddb0312869abbe42d68e314a0789315022a25b7227012ab1e1434cb", func := "hopmesh/hopmeshlaw32.FlowCounts", spec := "flowCounts", unfollowed := true, recurses := true, apart := false, narrowed := true }
def FlowCountsUptoSaid : Prop := flowCountsUptoRow.holds Try.pinned (OpenSpec.upto flowCountsSpec)

/-- 'hopmeshlaw32.FlowFrames', WHERE WHAT IT READS IS OF BULK AT MOST 1048576: true; the input reads as it did. -/
def flowFramesUptoRow : OpenClaim := { program := "ythlgnbeoanafbaa", sum := "ed592c671ddb0312869abbe42d68e314a0789315022a25b7227012ab1e1434cb", func := "hopmesh/hopmeshlaw32.FlowFrames", spec := "flowFrames", unfollowed := true, recurses := true, apart := false, narrowed := true }
def FlowFramesUptoSaid : Prop := flowFramesUptoRow.holds Try.pinned (OpenSpec.upto flowFramesSpec)

/-- 'hopmeshlaw32.FlowSplits', WHERE WHAT IT READS IS OF BULK AT MOST 1048576: true; the input reads as it did. -/
def flowSplitsUptoRow : OpenClaim := { program := "ythlgnbeoanafbaa", sum := "ed592c671ddb0312869abbe42d68e314a0789315022a25b7227012ab1e1434cb", func := "hopmesh/hopmeshlaw32.FlowSplits", spec := "flowSplits", unfollowed := true, recurses := true, apart := false, narrowed := true }
def FlowSplitsUptoSaid : Prop := flowSplitsUptoRow.holds Try.pinned (OpenSpec.upto flowSplitsSpec)

end Rows
end Go.Proofs.Ythlgnbeoanafbaa
