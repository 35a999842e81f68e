/- Words of this session's own for the walks: a call of a function value whose function and captured values are letters. -/
import Derived.Test.YtfbekkmmafkmpaaProg
import Derived.Test.YtfbekkmmafkmpaaWWords
import Derived.Test.YtfbekkmmafkmpaaWLast
import Derived.Test.YtfbekkmmafkmpaaWMore
import Derived.Deep.Light
namespace Go.Proofs.Ytfbekkmmafkmpaa
open Go.RowKit Go.Proofs.YtfbekkmmafkmpaaW.PrintWords Go.Proofs.YtfbekkmmafkmpaaW.PrintLast Go.Proofs.YtfbekkmmafkmpaaW.PrintMore

/-- A call of a function value in a plain region: the value is known to be function f with what it captured. -/
theorem goesV_ {P : Program} {ops : Array Oper} {rest : List Oper} {Q : Exit → Act → World → Prop} {oi : Oper} {a : Act} {w : World} (N : Option Tmp) (hd : oi.dst = N) (hg : oi.guard = none) {t : Operand} {f : FuncId} {fn : Func} {cap : Array Value} {ats : Array Operand} {ts : Array TypeId}
    (hf : P.funcs[f]? = some fn) (hname : (fn.name == "runtime.NumGoroutine") = false) (hb : fn.body.isSome = true) (args : Array Value)
    (hop : oi.op = .call { callee := .value t, args := ats, argTypes := ts }) (ht : a.eval t = .func (.func f) #[] cap) (hargs : ats.map a.eval = args)
    (h : Calls P f (args ++ cap) w fun e w' => ∃ v, e = .returned v ∧ wpList P ops Q rest (a.put N v) w') : wpList P ops Q (oi :: rest) a w := by
  refine wpList_plain hg fun K hK => ?_
  have he := enters_ hf hname hb (args ++ cap) w
  have hrun : (execOp a.eval oi).run P w = .ok (.enter f (args ++ cap)) w := by
    unfold execOp
    simp [hop, resolve, Deferred.ofValue, invoke, ht, hargs, he]
  unfold Oper.wp
  rw [hrun, Oper.upon_enter]
  refine h.mono fun e w'' hh => ?_
  obtain ⟨v, rfl, hk⟩ := hh
  subst hd
  exact hK _ _ hk
end Go.Proofs.Ytfbekkmmafkmpaa
