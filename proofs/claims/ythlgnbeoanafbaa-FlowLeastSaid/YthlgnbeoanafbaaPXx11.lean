-- Written by wip/xprint.py, a program of this claim's own, over the kit's print program. Lean checks it.
import Derived.Test.YthlgnbeoanafbaaPXx0
import Derived.Test.YthlgnbeoanafbaaPXx10
namespace Go.Proofs.Ythlgnbeoanafbaa.PX
open Go.RowKit Go.Proofs.YthlgnbeoanafbaaW.PrintWords Go.Proofs.YthlgnbeoanafbaaW.PrintLast Go.Proofs.YthlgnbeoanafbaaW.PrintMore
attribute [local go_sem] max2_int min2_int max_two min_two max_three min_three max_four min_four   -- for this text's walks alone
set_option linter.unusedVariables false
set_option linter.unusedSimpArgs false

/-! ### api_Flow_17: function 17, by hand -/
set_option maxHeartbeats 8000000 in
set_option maxRecDepth 100000 in
theorem containsFlow (A : Option Addr) (c : Nat) (l : List S23) (g : FuncId) (fn : Func) (cap : Array Value) (pred : Nat → Bool) (Inv : Nat → World → Prop) (w : World)
    (hf : Try.prog.funcs[g]? = some fn) (hname : (fn.name == "runtime.NumGoroutine") = false) (hb : fn.body.isSome = true) (hlen : l.length ≤ 140737488351232)
    (h0 : Inv 0 w) (hR : ∀ i w', Inv i w' → Kd.C k23 w' A l.length l)
    (hstep : ∀ i w', i < l.length → (∀ j, j < i → pred j = false) → Inv i w' → Calls Try.prog g (#[flowV (rd_T23 l i)] ++ cap) w' fun e w'' => e = .returned (.bool (pred i)) ∧ Inv (i + 1) w'') :
    Calls Try.prog 17 #[.slice A l.length c, .func (.func g) #[] cap] w fun e w' => ∃ r : Int, e = .returned (.bool (decide (0 ≤ r))) ∧ Found l.length pred Inv r w' := by
  have H := Aside0.mk (indexFlow A c l g fn cap pred Inv w hf hname hb hlen h0 hR hstep)
  clear hf hname hb hlen h0 hR hstep
  go_enter Try.func17, Try.ntmps17
  go_wp2_with (go_at_call 35; refine H.out.mono ?_; rintro e w1 ⟨r, rfl, hr⟩; have HR := Aside0.mk hr; clear hr)
  go_ret
  exact ⟨r, rfl, HR.out⟩

end Go.Proofs.Ythlgnbeoanafbaa.PX
