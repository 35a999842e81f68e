-- Written by wip/xprint.py, a program of this claim's own, over the kit's print program. Lean checks it.
import Derived.Test.YtfbekkmmafkmpaaPXx30
import Derived.Test.YtfbekkmmafkmpaaXO
namespace Go.Proofs.Ytfbekkmmafkmpaa.PX
open Go.RowKit
/-- The one plain statement that is left of the law. -/
def hopmeshlaw29_AllocateLists.Pure : Prop := ∀ (l0 : List S39) (a1 : Int) (a2 : Bool) (a3 : Bool), l0.length ≤ 9223372036854775807 → (∀ x ∈ l0, G39 x) → (Lit.int .i64 a1).wf = true → ∃ k, hopmeshlaw29_AllocateLists.f k l0 a1 a2 a3 = some true
end Go.Proofs.Ytfbekkmmafkmpaa.PX
