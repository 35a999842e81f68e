-- Written by wip/xprint.py, a program of this claim's own, over the kit's print program. Lean checks it.
import Derived.Test.YthlgnbeoanafbaaPXx22
import Derived.Test.YthlgnbeoanafbaaXO
namespace Go.Proofs.Ythlgnbeoanafbaa.PX
open Go.RowKit
/-- The one plain statement that is left of the law. -/
def hopmeshlaw32_FlowLeast.Pure : Prop := ∀ (l0 : List S23) (a1 : Int), l0.length ≤ 9223372036854775807 → (∀ x ∈ l0, G23 x) → (Lit.int .u16 a1).wf = true → ∃ k, hopmeshlaw32_FlowLeast.f k l0 a1 = some true
end Go.Proofs.Ythlgnbeoanafbaa.PX
