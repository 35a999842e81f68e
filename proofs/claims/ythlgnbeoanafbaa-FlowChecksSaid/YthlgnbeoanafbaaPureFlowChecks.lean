/- FlowChecks: Check returns the first fault of any flows, Hyper the hyperperiod or the error, Find the index, as the reference says. -/
import Derived.Test.YthlgnbeoanafbaaQFlowChecks
import Derived.Test.YthlgnbeoanafbaaT
namespace Go.Proofs.Ythlgnbeoanafbaa.Pure
open Go.RowKit Go.Proofs.Ythlgnbeoanafbaa.PX Go.Proofs.Ythlgnbeoanafbaa.S Go.Proofs.YthlgnbeoanafbaaW.PrintWords

theorem FlowChecks : hopmeshlaw32_FlowChecks.Pure := by
  intro n l id _ _ _ _
  refine Ev.rounds ?_
  unfold hopmeshlaw32_FlowChecks.f
  refine Ev.bind ev_awake ?_
  simp only [if_true]
  by_cases hl : (l.length : Int) > 20
  · simp only [if_pos hl]
    exact Ev.now true
  · simp only [if_neg hl]
    obtain ⟨c, c1, c2⟩ := check_both n l
    obtain ⟨h, h1, h2⟩ := hyper_both l
    obtain ⟨f, f1, f2⟩ := find_both l (by omega) id
    refine Ev.bind c1 (Ev.bind c2 (Ev.bind h1 (Ev.bind h2 ?_)))
    simp only [if_true, f1, Option.bind_some]
    refine Ev.bind f2 ?_
    simp only [beq_self_eq_true]
    exact Ev.now true

end Go.Proofs.Ythlgnbeoanafbaa.Pure
