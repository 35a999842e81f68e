-- Written by wip/xprint.py, a program of this claim's own, over the kit's print program. Lean checks it.
import Derived.Test.YtnjljajopdpjjaaPXx29
import Derived.Test.YtnjljajopdpjjaaXO
namespace Go.Proofs.Ytnjljajopdpjjaa.PX
open Go.RowKit
/-- The one plain statement that is left of the law. -/
def hopmeshlaw50_LoopAges.Pure : Prop := ∀ (a0 : S23) (a1 : S25) (l2 : List S34) (a3 : Int) (a4 : Int), G23 a0 → G25 a1 → l2.length ≤ 9223372036854775807 → (∀ x ∈ l2, G34 x) → (Lit.int .i64 a3).wf = true → (Lit.int .i64 a4).wf = true → ∃ k, hopmeshlaw50_LoopAges.f k a0.f0 a0.f1 a0.f2 a0.f3 a0.f4 a0.f5 a0.f6 a1.f0 a1.f1 l2 a3 a4 = some true
end Go.Proofs.Ytnjljajopdpjjaa.PX
