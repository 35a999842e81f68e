/- FlowFrames: Current and Frames return the frames of any slots of any flow, or the errors, as the reference says. -/
import Derived.Test.YthlgnbeoanafbaaQFlowFrames
import Derived.Test.YthlgnbeoanafbaaU
namespace Go.Proofs.Ythlgnbeoanafbaa.Pure
open Go.RowKit Go.Proofs.Ythlgnbeoanafbaa.PX Go.Proofs.Ythlgnbeoanafbaa.S Go.Proofs.YthlgnbeoanafbaaW.PrintWords

theorem FlowFrames : hopmeshlaw32_FlowFrames.Pure := by
  intro x s a b _ hs _ _
  have hs := bounds_i64 hs
  refine Ev.rounds ?_
  unfold hopmeshlaw32_FlowFrames.f
  refine Ev.bind ev_awake ?_
  simp only [if_true, current_eq _ _ _ _ _ _ s hs, Option.bind_some, frames_eq]
  refine Ev.bind (ref_current_ev _ _ _ _ _ _ s hs) ?_
  refine Ev.bind (ref_frames_ev _ _ _ _ _ _ a b) ?_
  simp only [if_true, beq_self_eq_true]
  exact Ev.bind (equal_ev _ (Nat.le_trans (frm_length _ _ _ _ _ _ _ _) (by omega))) (Ev.now true)

end Go.Proofs.Ythlgnbeoanafbaa.Pure
