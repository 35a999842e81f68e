-- Written by wip/xprint.py, a program of this claim's own, over the kit's print program. Lean checks it.
import Derived.Test.YtfbekkmmafkmpaaPXx28
import Derived.Test.YtfbekkmmafkmpaaXO
namespace Go.Proofs.Ytfbekkmmafkmpaa.PX
open Go.RowKit
/-- The one plain statement that is left of the law. -/
def hopmeshlaw29_AllocateSettles.Pure : Prop := ∀ (a0 : Int) (a1 : Int) (a2 : Int) (a3 : Int) (l4 : List S39) (l5 : List S37), (Lit.int .i64 a0).wf = true → (Lit.int .i64 a1).wf = true → (Lit.int .i64 a2).wf = true → (Lit.int .i64 a3).wf = true → l4.length ≤ 9223372036854775807 → (∀ x ∈ l4, G39 x) → l5.length ≤ 9223372036854775807 → (∀ x ∈ l5, G37 x) → ∃ k, hopmeshlaw29_AllocateSettles.f k a0 a1 a2 a3 l4 l5 = some true
end Go.Proofs.Ytfbekkmmafkmpaa.PX
