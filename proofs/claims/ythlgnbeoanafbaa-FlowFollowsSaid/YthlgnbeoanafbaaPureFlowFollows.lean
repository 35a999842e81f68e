/- FlowFollows: windows follow one another without gaps, have as many slots as the Period, contain what is due; each slot from the Phase on belongs to the window of its current frame. -/
import Derived.Test.YthlgnbeoanafbaaQFlowFollows
import Derived.Test.YthlgnbeoanafbaaS
namespace Go.Proofs.Ythlgnbeoanafbaa.Pure
open Go.RowKit Go.Proofs.Ythlgnbeoanafbaa.PX Go.Proofs.Ythlgnbeoanafbaa.S Go.Proofs.YthlgnbeoanafbaaW.PrintWords

theorem wf_u16 {n : Int} (h : (Lit.int .u16 n).wf = true) : 0 ≤ n ∧ n ≤ 65535 := by
  simp only [Lit.wf, Bool.and_eq_true, decide_eq_true_eq] at h
  exact h

theorem current_eq (x0 x1 x2 x3 x4 x5 a : Int) (h : -9223372036854775808 ≤ a ∧ a ≤ 9223372036854775807) : flow_Current.f x0 x1 x2 x3 x4 x5 a = some (if fault 32 x0 x1 x2 x3 x4 x5 = 0 ∧ x4 ≤ a ∧ a ≤ 1099511627776 then ((a - x4) / x3, true) else (0, false)) := by
  unfold flow_Current.f
  rw [alone_eq]
  simp only [Option.bind_some]
  by_cases hf : fault 32 x0 x1 x2 x3 x4 x5 = 0
  · have hg := fault_zero hf
    unfold S.Good at hg
    rw [if_pos hf]
    by_cases h1 : a < x4
    · rw [if_pos h1, if_neg (by omega)]
    · rw [if_neg h1]
      by_cases h2 : a > 1099511627776
      · rw [if_pos h2, if_neg (by omega)]
      · rw [if_neg h2, if_neg (by omega), if_pos ⟨hf, by omega, by omega⟩, w64 (n := a - x4) (by omega), Int.tdiv_eq_ediv_of_nonneg (by omega)]
        have h3 := Int.ediv_le_self (a := a - x4) x3 (by omega)
        have h4 : 0 ≤ (a - x4) / x3 := Int.ediv_nonneg (by omega) (by omega)
        rw [w64 (by omega)]
  · rw [if_neg hf, if_neg (by intro h; exact hf h.1)]

theorem FlowFollows : hopmeshlaw32_FlowFollows.Pure := by
  intro x a b _ ha hb
  have ha := wf_u16 ha
  have hb := wf_u16 hb
  refine Ev.rounds ?_
  unfold hopmeshlaw32_FlowFollows.f
  refine Ev.bind ev_awake ?_
  simp only [if_true, window_eq, due_eq, Option.bind_some]
  rw [w64 (n := a) (by omega), w64 (n := a + 1) (by omega)]
  unfold S.win S.due
  by_cases hf : fault 32 x.f0 x.f1 x.f2 x.f3 x.f4 x.f5 = 0
  · have hg := fault_zero hf
    unfold S.Good at hg
    have hm : 0 ≤ a * x.f3 ∧ a * x.f3 ≤ 65535 * 512 := ⟨Int.mul_nonneg ha.1 (by omega), Int.mul_le_mul ha.2 (by omega) (by omega) (by omega)⟩
    have hm1 : (a + 1) * x.f3 = a * x.f3 + x.f3 := by rw [Int.add_mul, Int.one_mul]
    have hr : InR x.f3 x.f4 a := by unfold S.InR; omega
    have hr1 : InR x.f3 x.f4 (a + 1) := by unfold S.InR; omega
    simp only [if_pos hf, if_pos hr, if_pos hr1, if_true, hm1]
    have hq : 0 ≤ Int.tmod b x.f3 ∧ Int.tmod b x.f3 < x.f3 := by
      rw [Int.tmod_eq_emod_of_nonneg hb.1]
      exact ⟨Int.emod_nonneg _ (by omega), Int.emod_lt_of_pos _ (by omega)⟩
    generalize hy : a * x.f3 = y at *
    refine ev1 fun k => ?_
    rw [w64 (n := x.f4 + y + x.f3 - 1 + 1) (by omega), if_pos (by omega), w64 (n := x.f4 + y + x.f3 - 1 - (x.f4 + y)) (by omega), w64 (by omega), if_pos (by omega), if_neg (by omega), if_neg (by omega),
      w64 (n := x.f4 + y + x.f5 - 1 - (x.f4 + y)) (by omega), w64 (by omega)]
    have e5 : (x.f4 + y + x.f5 - 1 - (x.f4 + y) + 1 != x.f5) = false := by rw [bne_eq_false_iff_eq]; omega
    rw [e5]
    simp only [hopmeshlaw32_FlowFollows.j0]
    rw [if_neg (by decide), if_neg (by omega), w64 (n := b) (by omega), w64 (n := x.f4 + y + Int.tmod b x.f3) (by omega), w64 (n := x.f4 - 1) (by omega), current_eq _ _ _ _ _ _ _ (by omega), current_eq _ _ _ _ _ _ _ (by omega)]
    rw [if_pos ⟨hf, by omega, by omega⟩, if_neg (by omega)]
    simp only [Option.bind_some, if_true]
    have hd : (x.f4 + y + Int.tmod b x.f3 - x.f4) / x.f3 = a := by
      have : x.f4 + y + Int.tmod b x.f3 - x.f4 = Int.tmod b x.f3 + a * x.f3 := by omega
      rw [this, Int.add_mul_ediv_right _ _ (by omega), Int.ediv_eq_zero_of_lt hq.1 hq.2]
      omega
    rw [hd, if_pos rfl, if_neg (by decide)]
    rfl
  · simp only [if_neg hf]
    exact Ev.now true

end Go.Proofs.Ythlgnbeoanafbaa.Pure
