/- FlowWindows: Window and Due of the program answer as the reference does, at every flow and frame. -/
import Derived.Test.YthlgnbeoanafbaaQFlowWindows
import Derived.Test.YthlgnbeoanafbaaS
namespace Go.Proofs.Ythlgnbeoanafbaa.Pure
open Go.RowKit Go.Proofs.Ythlgnbeoanafbaa.PX Go.Proofs.Ythlgnbeoanafbaa.S Go.Proofs.YthlgnbeoanafbaaW.PrintWords

theorem FlowWindows : hopmeshlaw32_FlowWindows.Pure := by
  intro x a _ _
  refine Ev.rounds ?_
  unfold hopmeshlaw32_FlowWindows.f
  refine Ev.bind ev_awake ?_
  simp only [if_true, window_eq, due_eq, Option.bind_some]
  refine Ev.bind (ev1 (fun k => ref_window_eq k _ _ _ _ _ _ _)) ?_
  refine Ev.bind (ev1 (fun k => ref_due_eq k _ _ _ _ _ _ _)) ?_
  simp only [if_true, beq_self_eq_true]
  exact Ev.now true

end Go.Proofs.Ythlgnbeoanafbaa.Pure
