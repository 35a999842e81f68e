-- Written by wip/xprint.py, a program of this claim's own, over the kit's print program. Lean checks it.
import Derived.Test.YtnjljajopdpjjaaPXx41
import Derived.Test.YtnjljajopdpjjaaXO
namespace Go.Proofs.Ytnjljajopdpjjaa.PX
open Go.RowKit
/-- The one plain statement that is left of the law. -/
def hopmeshlaw50_LoopWide.Pure : Prop := ∀ (a0 : S23) (a1 : S25), G23 a0 → G25 a1 → ∃ k, hopmeshlaw50_LoopWide.f k a0.f0 a0.f1 a0.f2 a0.f3 a0.f4 a0.f5 a0.f6 a1.f0 a1.f1 = some true
end Go.Proofs.Ytnjljajopdpjjaa.PX
