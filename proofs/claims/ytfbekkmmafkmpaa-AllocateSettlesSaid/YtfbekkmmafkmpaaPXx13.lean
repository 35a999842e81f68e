-- Written by wip/xprint.py, a program of this claim's own, over the kit's print program. Lean checks it.
import Derived.Test.YtfbekkmmafkmpaaPXx0
namespace Go.Proofs.Ytfbekkmmafkmpaa.PX
open Go.RowKit Go.Proofs.YtfbekkmmafkmpaaW.PrintWords Go.Proofs.YtfbekkmmafkmpaaW.PrintLast Go.Proofs.YtfbekkmmafkmpaaW.PrintMore
attribute [local go_sem] max2_int min2_int max_two min_two max_three min_three max_four min_four   -- for this text's walks alone
set_option linter.unusedVariables false
set_option linter.unusedSimpArgs false

/-! ### hopmeshref29_Few: function 11 -/
def hopmeshref29_Few.f (l0 : List (S39)) : Option (Bool) := some (decide ((l0.length : Int) ≤ 70))
set_option maxHeartbeats 8000000 in
set_option maxRecDepth 100000 in
theorem hopmeshref29_Few.calls (A0 : Option Addr) (c0 : Nat) (l0 : List (S39)) (r : Bool) (w : World) (hr0 : Kd.C k39 w A0 l0.length l0) (hc0 : l0.length ≤ c0) (h : hopmeshref29_Few.f l0 = some r) :
    Calls Try.prog 11 #[.slice A0 l0.length c0] w fun e w' => e = .returned (.bool r) ∧ Drawn0 w w' := by
  have HR0 := Aside0.mk hr0
  have HC0 := Aside0.mk hc0
  clear hr0 hc0
  have H : (some (decide ((l0.length : Int) ≤ 70))) = some r := h
  clear h
  obtain rfl := Option.some.inj H
  go_enter Try.func11, Try.ntmps11
  go_wp2
  go_ret
  exact ⟨by first | rfl | (simp; done) | (simp [*]; done), by repeat (first | exact Drawn0.refl _ | apply Drawn0.step)⟩

end Go.Proofs.Ytfbekkmmafkmpaa.PX
