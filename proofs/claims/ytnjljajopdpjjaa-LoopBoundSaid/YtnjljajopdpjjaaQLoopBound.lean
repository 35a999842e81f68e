-- Written by wip/xprint.py, a program of this claim's own, over the kit's print program. Lean checks it.
import Derived.Test.YtnjljajopdpjjaaPXx41
import Derived.Test.YtnjljajopdpjjaaXO
namespace Go.Proofs.Ytnjljajopdpjjaa.PX
open Go.RowKit
/-- The one plain statement that is left of the law. -/
def hopmeshlaw50_LoopBound.Pure : Prop := ∀ (a0 : S23) (a1 : S25) (a2 : Int) (l3 : List Int) (l4 : List Int), G23 a0 → G25 a1 → (Lit.int .u8 a2).wf = true → l3.length ≤ 9223372036854775807 → (∀ x ∈ l3, (Lit.int .u8 x).wf = true) → l4.length ≤ 9223372036854775807 → (∀ x ∈ l4, (Lit.int .u8 x).wf = true) → ∃ k, hopmeshlaw50_LoopBound.f k a0.f0 a0.f1 a0.f2 a0.f3 a0.f4 a0.f5 a0.f6 a1.f0 a1.f1 a2 l3 l4 = some true
end Go.Proofs.Ytnjljajopdpjjaa.PX
