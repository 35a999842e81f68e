-- Written by wip/xprint.py, a program of this claim's own, over the kit's print program. Lean checks it.
import Derived.Test.YthlgnbeoanafbaaPXx0
namespace Go.Proofs.Ythlgnbeoanafbaa.PX
open Go.RowKit Go.Proofs.YthlgnbeoanafbaaW.PrintWords Go.Proofs.YthlgnbeoanafbaaW.PrintLast Go.Proofs.YthlgnbeoanafbaaW.PrintMore
attribute [local go_sem] max2_int min2_int max_two min_two max_three min_three max_four min_four   -- for this text's walks alone
set_option linter.unusedVariables false
set_option linter.unusedSimpArgs false

/-! ### flow_Frames_1: function 40, by hand -/
/-- How many frames are released ahead of a slot. -/
def aheadOf (phase period slot : Int) : Int := ((if slot - phase < 0 then 0 else slot - phase) + period - 1) / period
theorem aheadOf_bd {phase period slot : Int} (h0 : 0 ≤ slot) (h1 : slot ≤ 1099511627776) (h2 : 0 ≤ phase) (h3 : phase ≤ 512) (h4 : 1 ≤ period) (h5 : period ≤ 512) : 0 ≤ aheadOf phase period slot ∧ aheadOf phase period slot ≤ 1099511628288 := by
  unfold aheadOf
  have h : 0 ≤ (if slot - phase < 0 then 0 else slot - phase) ∧ (if slot - phase < 0 then 0 else slot - phase) ≤ 1099511627776 := by split <;> omega
  generalize (if slot - phase < 0 then 0 else slot - phase) = x at *
  refine ⟨Int.ediv_nonneg (by omega) (by omega), ?_⟩
  have := Int.ediv_le_self (a := x + period - 1) period (by omega)
  omega
set_option maxHeartbeats 8000000 in
set_option maxRecDepth 100000 in
theorem framesAhead (f : S23) (slot : Int) (b : Nat) (w : World) (h0 : 0 ≤ slot) (h1 : slot ≤ 1099511627776) (h2 : 0 ≤ f.f4) (h3 : f.f4 ≤ 512) (h4 : 1 ≤ f.f3) (h5 : f.f3 ≤ 512)
    (hblk : w.heap[b]? = some (.cells #[.int .i64 f.f0, .int .i64 f.f1, .int .i64 f.f2, .int .i64 f.f3, .int .i64 f.f4, .int .i64 f.f5] 23 (0, 0))) :
    Calls Try.prog 40 #[.int .i64 slot, .pointer (some ⟨b, 0, none⟩)] w fun e w' => e = .returned (.int .i64 (aheadOf f.f4 f.f3 slot)) ∧ w = w' := by
  have hu := Try.underlying23
  have hc3 : w.cell? ⟨b, 3, none⟩ = some (.int .i64 f.f3) := (blk_cell hblk 3).trans rfl
  have hc4 : w.cell? ⟨b, 4, none⟩ = some (.int .i64 f.f4) := (blk_cell hblk 4).trans rfl
  have hz1 : (f.f3 == 0) = false := beq_eq_false_iff_ne.mpr (by omega)
  have hz2 : ¬ f.f3 = 0 := by omega
  clear hblk
  by_cases hs : slot - f.f4 < 0
  · have HA : Aside0 (aheadOf f.f4 f.f3 slot = (f.f3 - 1) / f.f3) := ⟨by unfold aheadOf; rw [if_pos hs, Int.zero_add]⟩
    go_enter Try.func40, Try.ntmps40
    go_wp2
    go_ret
    exact ⟨by rw [HA.out]; rfl, rfl⟩
  · have HA : Aside0 (aheadOf f.f4 f.f3 slot = (slot - f.f4 + f.f3 - 1) / f.f3) := ⟨by unfold aheadOf; rw [if_neg hs]⟩
    go_enter Try.func40, Try.ntmps40
    go_wp2
    go_ret
    exact ⟨by rw [HA.out]; rfl, rfl⟩

/-! ### hopmeshlaw32_FlowLeast_1: function 18, by hand -/
set_option maxHeartbeats 8000000 in
set_option maxRecDepth 100000 in
theorem leastStep (f : S23) (n : Int) (b : Nat) (w : World) (hn : 0 ≤ n) (hn2 : n ≤ 65535) (hp : 1 ≤ f.f3) (hp2 : f.f3 ≤ 512) (hblk : w.heap[b]? = some (.cells #[.int .i64 n] 3 (0, 0))) :
    Calls Try.prog 18 #[.agg #[.int .i64 f.f0, .int .i64 f.f1, .int .i64 f.f2, .int .i64 f.f3, .int .i64 f.f4, .int .i64 f.f5], .pointer (some ⟨b, 0, none⟩)] w fun e w' =>
      e = .returned (.bool (n % f.f3 != 0)) ∧ Below w.heap.size w w' := by
  have hu := Try.underlying23
  have hc : (w.alloc (.cells #[.int .i64 f.f0, .int .i64 f.f1, .int .i64 f.f2, .int .i64 f.f3, .int .i64 f.f4, .int .i64 f.f5] 23)).cell? ⟨b, 0, none⟩ = some (.int .i64 n) := (blk_cell (blk_alloc hblk _) 0).trans rfl
  have hz1 : (f.f3 == 0) = false := beq_eq_false_iff_ne.mpr (by omega)
  have hz2 : ¬ f.f3 = 0 := by omega
  clear hblk
  go_enter Try.func18, Try.ntmps18
  go_wp2
  go_ret
  exact ⟨rfl, below_alloc (Below.refl _ _) _⟩

end Go.Proofs.Ythlgnbeoanafbaa.PX
