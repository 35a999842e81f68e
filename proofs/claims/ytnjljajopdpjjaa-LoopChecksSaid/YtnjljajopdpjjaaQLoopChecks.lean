-- Written by wip/xprint.py, a program of this claim's own, over the kit's print program. Lean checks it.
import Derived.Test.YtnjljajopdpjjaaPXx43
import Derived.Test.YtnjljajopdpjjaaXO
namespace Go.Proofs.Ytnjljajopdpjjaa.PX
open Go.RowKit
/-- The one plain statement that is left of the law. -/
def hopmeshlaw50_LoopChecks.Pure : Prop := ∀ (a0 : Int) (l1 : List S23), (Lit.int .i64 a0).wf = true → l1.length ≤ 9223372036854775807 → (∀ x ∈ l1, G23 x) → ∃ k, hopmeshlaw50_LoopChecks.f k a0 l1 = some true
end Go.Proofs.Ytnjljajopdpjjaa.PX
