-- Written by wip/xprint.py, a program of this claim's own, over the kit's print program. Lean checks it.
import Derived.Test.YthlgnbeoanafbaaPXx5
import Derived.Test.YthlgnbeoanafbaaXO
namespace Go.Proofs.Ythlgnbeoanafbaa.PX
open Go.RowKit
/-- The one plain statement that is left of the law. -/
def hopmeshlaw32_FlowChecks.Pure : Prop := ∀ (a0 : Int) (l1 : List S23) (a2 : Int), (Lit.int .i64 a0).wf = true → l1.length ≤ 9223372036854775807 → (∀ x ∈ l1, G23 x) → (Lit.int .i64 a2).wf = true → ∃ k, hopmeshlaw32_FlowChecks.f k a0 l1 a2 = some true
end Go.Proofs.Ythlgnbeoanafbaa.PX
