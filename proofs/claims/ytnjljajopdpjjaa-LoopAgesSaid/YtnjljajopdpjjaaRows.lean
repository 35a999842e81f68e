/-
  No cell of these rows narrows 'for every input' (looked for: loops, veiled, ifaces, maps, wideKeys, modest, calm, conditions, laid).
  DERIVED. THE GIVEN ROWS OF THIS SEAT. 8 by the template 'for every input the law returns true; each argument reads behind the call as it read before'; 0 by the template 'total and deterministic' (their statements: YtnjljajopdpjjaaTotals.lean).
  GIVEN WITH THE SEED: the statements are not yours to turn. If you find one false, say at which input.
  Laid BY PROGRAM, IN A SANDBOX (cutbox-rows.mjs): the forced cells as the released guide's own fill.sh prints them over the translation 7cf28fbf3fe7484e… (all of the seat's roots in one cut). By AI agents, Wed Nov 11 2026. No macro, syntax, notation, axiom, sorry.
-/
import Derived.Test.YtnjljajopdpjjaaChecked
import GoSem.Claim
import GoSem.ClaimJoined
import GoSem.ClaimMapViews
import Derived.JoinedTies
import Derived.KernelRfl
namespace Go.Proofs.Ytnjljajopdpjjaa
/- THE CELL 'sum', in the pinned program and in every row, IS THE sha256 OF THE DUMP (.gsa) THAT YtnjljajopdpjjaaProg.lean LOADS. Nothing in Lean hashes anything: it is a label: what it is worth is what the hold of that sum in a sandbox is worth. -/
noncomputable def Try.pinned : Pinned := { name := "ytnjljajopdpjjaa", sum := "7cf28fbf3fe7484ec79b6f058c16812beb6203accb59b8fc9c680ca111bb9c71", checked := Try.checked }
namespace Rows
def none {H : Type} : Left H := { results := [], args := [] }

/-- 'hopmeshlaw50.LoopEarlier': WHATEVER THE INPUT: true; the input reads as it did. -/
def loopEarlierSpec : ChangeSpec := { name := "loopEarlier", fn := fun _ => fun
  | [d1, d2, d3, d4, d5] => { results := [.lit (.bool true)], args := [d1, d2, d3, d4, d5] }
  | _ => none }
def loopEarlierRow : OpenClaim := { program := "ytnjljajopdpjjaa", sum := "7cf28fbf3fe7484ec79b6f058c16812beb6203accb59b8fc9c680ca111bb9c71", func := "hopmesh/hopmeshlaw50.LoopEarlier", spec := "loopEarlier", unfollowed := true, recurses := true, apart := false }
def LoopEarlierSaid : Prop := loopEarlierRow.holds Try.pinned (OpenSpec.ofChange loopEarlierSpec)

/-- ITS FALSE NEIGHBOUR: 'it returns false'. Refute it at one input. -/
def loopEarlierWrong : ChangeSpec := { name := "loopEarlier", fn := fun _ => fun
  | [d1, d2, d3, d4, d5] => { results := [.lit (.bool false)], args := [d1, d2, d3, d4, d5] }
  | _ => none }
def LoopEarlierWrongFalsely : Prop := loopEarlierRow.holds Try.pinned (OpenSpec.ofChange loopEarlierWrong)

/-- 'hopmeshlaw50.LoopAges': WHATEVER THE INPUT: true; the input reads as it did. -/
def loopAgesSpec : ChangeSpec := { name := "loopAges", fn := fun _ => fun
  | [d1, d2, d3, d4, d5] => { results := [.lit (.bool true)], args := [d1, d2, d3, d4, d5] }
  | _ => none }
def loopAgesRow : OpenClaim := { program := "ytnjljajopdpjjaa", sum := "7cf28fbf3fe7484ec79b6f058c16812beb6203accb59b8fc9c680ca111bb9c71", func := "hopmesh/hopmeshlaw50.LoopAges", spec := "loopAges", unfollowed := true, recurses := true, apart := false }
def LoopAgesSaid : Prop := loopAgesRow.holds Try.pinned (OpenSpec.ofChange loopAgesSpec)

/-- ITS FALSE NEIGHBOUR: 'it returns false'. Refute it at one input. -/
def loopAgesWrong : ChangeSpec := { name := "loopAges", fn := fun _ => fun
  | [d1, d2, d3, d4, d5] => { results := [.lit (.bool false)], args := [d1, d2, d3, d4, d5] }
  | _ => none }
def LoopAgesWrongFalsely : Prop := loopAgesRow.holds Try.pinned (OpenSpec.ofChange loopAgesWrong)

/-- 'hopmeshlaw50.LoopReached': WHATEVER THE INPUT: true; the input reads as it did. -/
def loopReachedSpec : ChangeSpec := { name := "loopReached", fn := fun _ => fun
  | [d1, d2] => { results := [.lit (.bool true)], args := [d1, d2] }
  | _ => none }
def loopReachedRow : OpenClaim := { program := "ytnjljajopdpjjaa", sum := "7cf28fbf3fe7484ec79b6f058c16812beb6203accb59b8fc9c680ca111bb9c71", func := "hopmesh/hopmeshlaw50.LoopReached", spec := "loopReached", unfollowed := true, recurses := true, apart := false }
def LoopReachedSaid : Prop := loopReachedRow.holds Try.pinned (OpenSpec.ofChange loopReachedSpec)

/-- ITS FALSE NEIGHBOUR: 'it returns false'. Refute it at one input. -/
def loopReachedWrong : ChangeSpec := { name := "loopReached", fn := fun _ => fun
  | [d1, d2] => { results := [.lit (.bool false)], args := [d1, d2] }
  | _ => none }
def LoopReachedWrongFalsely : Prop := loopReachedRow.holds Try.pinned (OpenSpec.ofChange loopReachedWrong)

/-- 'hopmeshlaw50.LoopSamples': WHATEVER THE INPUT: true; the input reads as it did. -/
def loopSamplesSpec : ChangeSpec := { name := "loopSamples", fn := fun _ => fun
  | [d1, d2, d3] => { results := [.lit (.bool true)], args := [d1, d2, d3] }
  | _ => none }
def loopSamplesRow : OpenClaim := { program := "ytnjljajopdpjjaa", sum := "7cf28fbf3fe7484ec79b6f058c16812beb6203accb59b8fc9c680ca111bb9c71", func := "hopmesh/hopmeshlaw50.LoopSamples", spec := "loopSamples", unfollowed := true, recurses := true, apart := false }
def LoopSamplesSaid : Prop := loopSamplesRow.holds Try.pinned (OpenSpec.ofChange loopSamplesSpec)

/-- ITS FALSE NEIGHBOUR: 'it returns false'. Refute it at one input. -/
def loopSamplesWrong : ChangeSpec := { name := "loopSamples", fn := fun _ => fun
  | [d1, d2, d3] => { results := [.lit (.bool false)], args := [d1, d2, d3] }
  | _ => none }
def LoopSamplesWrongFalsely : Prop := loopSamplesRow.holds Try.pinned (OpenSpec.ofChange loopSamplesWrong)

/-- 'hopmeshlaw50.LoopSplits': WHATEVER THE INPUT: true; the input reads as it did. -/
def loopSplitsSpec : ChangeSpec := { name := "loopSplits", fn := fun _ => fun
  | [d1, d2] => { results := [.lit (.bool true)], args := [d1, d2] }
  | _ => none }
def loopSplitsRow : OpenClaim := { program := "ytnjljajopdpjjaa", sum := "7cf28fbf3fe7484ec79b6f058c16812beb6203accb59b8fc9c680ca111bb9c71", func := "hopmesh/hopmeshlaw50.LoopSplits", spec := "loopSplits", unfollowed := true, recurses := true, apart := false }
def LoopSplitsSaid : Prop := loopSplitsRow.holds Try.pinned (OpenSpec.ofChange loopSplitsSpec)

/-- ITS FALSE NEIGHBOUR: 'it returns false'. Refute it at one input. -/
def loopSplitsWrong : ChangeSpec := { name := "loopSplits", fn := fun _ => fun
  | [d1, d2] => { results := [.lit (.bool false)], args := [d1, d2] }
  | _ => none }
def LoopSplitsWrongFalsely : Prop := loopSplitsRow.holds Try.pinned (OpenSpec.ofChange loopSplitsWrong)

/-- 'hopmeshlaw50.LoopWide': WHATEVER THE INPUT: true; the input reads as it did. -/
def loopWideSpec : ChangeSpec := { name := "loopWide", fn := fun _ => fun
  | [d1, d2] => { results := [.lit (.bool true)], args := [d1, d2] }
  | _ => none }
def loopWideRow : OpenClaim := { program := "ytnjljajopdpjjaa", sum := "7cf28fbf3fe7484ec79b6f058c16812beb6203accb59b8fc9c680ca111bb9c71", func := "hopmesh/hopmeshlaw50.LoopWide", spec := "loopWide", unfollowed := true, recurses := true, apart := false }
def LoopWideSaid : Prop := loopWideRow.holds Try.pinned (OpenSpec.ofChange loopWideSpec)

/-- ITS FALSE NEIGHBOUR: 'it returns false'. Refute it at one input. -/
def loopWideWrong : ChangeSpec := { name := "loopWide", fn := fun _ => fun
  | [d1, d2] => { results := [.lit (.bool false)], args := [d1, d2] }
  | _ => none }
def LoopWideWrongFalsely : Prop := loopWideRow.holds Try.pinned (OpenSpec.ofChange loopWideWrong)

/-- 'hopmeshlaw50.LoopBound': WHATEVER THE INPUT: true; the input reads as it did. -/
def loopBoundSpec : ChangeSpec := { name := "loopBound", fn := fun _ => fun
  | [d1, d2, d3, d4, d5] => { results := [.lit (.bool true)], args := [d1, d2, d3, d4, d5] }
  | _ => none }
def loopBoundRow : OpenClaim := { program := "ytnjljajopdpjjaa", sum := "7cf28fbf3fe7484ec79b6f058c16812beb6203accb59b8fc9c680ca111bb9c71", func := "hopmesh/hopmeshlaw50.LoopBound", spec := "loopBound", unfollowed := true, recurses := true, apart := false }
def LoopBoundSaid : Prop := loopBoundRow.holds Try.pinned (OpenSpec.ofChange loopBoundSpec)

/-- ITS FALSE NEIGHBOUR: 'it returns false'. Refute it at one input. -/
def loopBoundWrong : ChangeSpec := { name := "loopBound", fn := fun _ => fun
  | [d1, d2, d3, d4, d5] => { results := [.lit (.bool false)], args := [d1, d2, d3, d4, d5] }
  | _ => none }
def LoopBoundWrongFalsely : Prop := loopBoundRow.holds Try.pinned (OpenSpec.ofChange loopBoundWrong)

/-- 'hopmeshlaw50.LoopChecks': WHATEVER THE INPUT: true; the input reads as it did. -/
def loopChecksSpec : ChangeSpec := { name := "loopChecks", fn := fun _ => fun
  | [d1, d2] => { results := [.lit (.bool true)], args := [d1, d2] }
  | _ => none }
def loopChecksRow : OpenClaim := { program := "ytnjljajopdpjjaa", sum := "7cf28fbf3fe7484ec79b6f058c16812beb6203accb59b8fc9c680ca111bb9c71", func := "hopmesh/hopmeshlaw50.LoopChecks", spec := "loopChecks", unfollowed := true, recurses := true, apart := false }
def LoopChecksSaid : Prop := loopChecksRow.holds Try.pinned (OpenSpec.ofChange loopChecksSpec)

/-- ITS FALSE NEIGHBOUR: 'it returns false'. Refute it at one input. -/
def loopChecksWrong : ChangeSpec := { name := "loopChecks", fn := fun _ => fun
  | [d1, d2] => { results := [.lit (.bool false)], args := [d1, d2] }
  | _ => none }
def LoopChecksWrongFalsely : Prop := loopChecksRow.holds Try.pinned (OpenSpec.ofChange loopChecksWrong)

/- THE SECOND FORM. 'bulk': how many values and letters a reading holds, each counted each time it is reached (what is shared counts as often as it is met; a slice's spare places count too). A statement '..UptoSaid' is the law's where the arguments, and the package variables that the reading takes, are together of bulk at most 1048576: NARROWER than '..Said'. Prove '..Said' where nothing that the law and all that it calls make is longer than what came in: it says more and counts as full. Else prove '..UptoSaid'. A law counts once. -/
mutual
def uptoBulk {H : Type} : DataW H → Nat
  | .lit (.string bytes) => bytes.length + 1
  | .lit _ => 1
  | .nil => 1
  | .ptr d => uptoBulk d + 1
  | .slice elems spare => uptoBulkAll elems + uptoBulkAll spare + 1
  | .agg parts => uptoBulkAll parts + 1
  | .iface _ d => uptoBulk d + 1
  | .map entries => uptoBulkEntries entries + 1
  | .held _ => 1
def uptoBulkAll {H : Type} : List (DataW H) → Nat
  | [] => 0
  | d :: r => uptoBulk d + uptoBulkAll r
def uptoBulkEntries {H : Type} : List (Lit × DataW H) → Nat
  | [] => 0
  | x :: r => uptoBulkEntry x + uptoBulkEntries r
def uptoBulkEntry {H : Type} : Lit × DataW H → Nat
  | (.string bytes, d) => bytes.length + uptoBulk d + 1
  | (_, d) => uptoBulk d + 1
 end
def uptoSmall : (H : Type) → List (DataW H) → Bool := fun _ ds => decide (uptoBulkAll ds ≤ 1048576)
def OpenSpec.upto (s : _root_.Go.ChangeSpec) : _root_.Go.OpenSpec := { _root_.Go.OpenSpec.ofChange s with cond := some uptoSmall }

/-- 'hopmeshlaw50.LoopEarlier', WHERE WHAT IT READS IS OF BULK AT MOST 1048576: true; the input reads as it did. -/
def loopEarlierUptoRow : OpenClaim := { program := "ytnjljajopdpjjaa", sum := "7cf28fbf3fe7484ec79b6f058c16812beb6203accb59b8fc9c680ca111bb9c71", func := "hopmesh/hopmeshlaw50.LoopEarlier", spec := "loopEarlier", unfollowed := true, recurses := true, apart := false, narrowed := true }
def LoopEarlierUptoSaid : Prop := loopEarlierUptoRow.holds Try.pinned (OpenSpec.upto loopEarlierSpec)

/-- 'hopmeshlaw50.LoopAges', WHERE WHAT IT READS IS OF BULK AT MOST 1048576: true; the input reads as it did. -/
def loopAgesUptoRow : OpenClaim := { program := "ytnjljajopdpjjaa", sum := "7cf28fbf3fe7484ec79b6f058c16812beb6203accb59b8fc9c680ca111bb9c71", func := "hopmesh/hopmeshlaw50.LoopAges", spec := "loopAges", unfollowed := true, recurses := true, apart := false, narrowed := true }
def LoopAgesUptoSaid : Prop := loopAgesUptoRow.holds Try.pinned (OpenSpec.upto loopAgesSpec)

/-- 'hopmeshlaw50.LoopReached', WHERE WHAT IT READS IS OF BULK AT MOST 1048576: true; the input reads as it did. -/
def loopReachedUptoRow : OpenClaim := { program := "ytnjljajopdpjjaa", sum := "7cf28fbf3fe7484ec79b6f058c16812beb6203accb59b8fc9c680ca111bb9c71", func := "hopmesh/hopmeshlaw50.LoopReached", spec := "loopReached", unfollowed := true, recurses := true, apart := false, narrowed := true }
def LoopReachedUptoSaid : Prop := loopReachedUptoRow.holds Try.pinned (OpenSpec.upto loopReachedSpec)

/-- 'hopmeshlaw50.LoopSamples', WHERE WHAT IT READS IS OF BULK AT MOST 1048576: true; the input reads as it did. -/
def loopSamplesUptoRow : OpenClaim := { program := "ytnjljajopdpjjaa", sum := "7cf28fbf3fe7484ec79b6f058c16812beb6203accb59b8fc9c680ca111bb9c71", func := "hopmesh/hopmeshlaw50.LoopSamples", spec := "loopSamples", unfollowed := true, recurses := true, apart := false, narrowed := true }
def LoopSamplesUptoSaid : Prop := loopSamplesUptoRow.holds Try.pinned (OpenSpec.upto loopSamplesSpec)

/-- 'hopmeshlaw50.LoopSplits', WHERE WHAT IT READS IS OF BULK AT MOST 1048576: true; the input reads as it did. -/
def loopSplitsUptoRow : OpenClaim := { program := "ytnjljajopdpjjaa", sum := "7cf28fbf3fe7484ec79b6f058c16812beb6203accb59b8fc9c680ca111bb9c71", func := "hopmesh/hopmeshlaw50.LoopSplits", spec := "loopSplits", unfollowed := true, recurses := true, apart := false, narrowed := true }
def LoopSplitsUptoSaid : Prop := loopSplitsUptoRow.holds Try.pinned (OpenSpec.upto loopSplitsSpec)

/-- 'hopmeshlaw50.LoopWide', WHERE WHAT IT READS IS OF BULK AT MOST 1048576: true; the input reads as it did. -/
def loopWideUptoRow : OpenClaim := { program := "ytnjljajopdpjjaa", sum := "7cf28fbf3fe7484ec79b6f058c16812beb6203accb59b8fc9c680ca111bb9c71", func := "hopmesh/hopmeshlaw50.LoopWide", spec := "loopWide", unfollowed := true, recurses := true, apart := false, narrowed := true }
def LoopWideUptoSaid : Prop := loopWideUptoRow.holds Try.pinned (OpenSpec.upto loopWideSpec)

/-- 'hopmeshlaw50.LoopBound', WHERE WHAT IT READS IS OF BULK AT MOST 1048576: true; the input reads as it did. -/
def loopBoundUptoRow : OpenClaim := { program := "ytnjljajopdpjjaa", sum := "7cf28fbf3fe7484ec79b6f058c16812beb6203accb59b8fc9c680ca111bb9c71", func := "hopmesh/hopmeshlaw50.LoopBound", spec := "loopBound", unfollowed := true, recurses := true, apart := false, narrowed := true }
def LoopBoundUptoSaid : Prop := loopBoundUptoRow.holds Try.pinned (OpenSpec.upto loopBoundSpec)

/-- 'hopmeshlaw50.LoopChecks', WHERE WHAT IT READS IS OF BULK AT MOST 1048576: true; the input reads as it did. -/
def loopChecksUptoRow : OpenClaim := { program := "ytnjljajopdpjjaa", sum := "7cf28fbf3fe7484ec79b6f058c16812beb6203accb59b8fc9c680ca111bb9c71", func := "hopmesh/hopmeshlaw50.LoopChecks", spec := "loopChecks", unfollowed := true, recurses := true, apart := false, narrowed := true }
def LoopChecksUptoSaid : Prop := loopChecksUptoRow.holds Try.pinned (OpenSpec.upto loopChecksSpec)

end Rows
end Go.Proofs.Ytnjljajopdpjjaa
