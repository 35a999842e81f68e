-- Written by wip/xprint.py, a program of this claim's own, over the kit's print program. Lean checks it.
import Derived.Test.YthlgnbeoanafbaaPXx36
import Derived.Test.YthlgnbeoanafbaaXO
namespace Go.Proofs.Ythlgnbeoanafbaa.PX
open Go.RowKit
/-- The one plain statement that is left of the law. -/
def hopmeshlaw32_FlowSplits.Pure : Prop := ∀ (a0 : S23) (a1 : Int) (a2 : Int) (a3 : Int), G23 a0 → (Lit.int .u16 a1).wf = true → (Lit.int .u16 a2).wf = true → (Lit.int .u16 a3).wf = true → ∃ k, hopmeshlaw32_FlowSplits.f k a0.f0 a0.f1 a0.f2 a0.f3 a0.f4 a0.f5 a1 a2 a3 = some true
end Go.Proofs.Ythlgnbeoanafbaa.PX
