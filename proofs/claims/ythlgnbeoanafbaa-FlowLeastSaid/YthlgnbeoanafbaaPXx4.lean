-- Written by wip/xprint.py, a program of this claim's own, over the kit's print program. Lean checks it.
import Derived.Test.YthlgnbeoanafbaaPXx0
namespace Go.Proofs.Ythlgnbeoanafbaa.PX
open Go.RowKit Go.Proofs.YthlgnbeoanafbaaW.PrintWords Go.Proofs.YthlgnbeoanafbaaW.PrintLast Go.Proofs.YthlgnbeoanafbaaW.PrintMore
attribute [local go_sem] max2_int min2_int max_two min_two max_three min_three max_four min_four   -- for this text's walks alone
set_option linter.unusedVariables false
set_option linter.unusedSimpArgs false

/-! ### flow_check: function 36 -/
def flow_check.f (a0 : Int) (a1_0 : Int) (a1_1 : Int) (a1_2 : Int) (a1_3 : Int) (a1_4 : Int) (a1_5 : Int) : Option (Int) := if a1_0 < 0 then some 2 else if a1_0 > 255 then some 2 else if ¬ (0 ≤ a1_1 ∧ a1_1 < a0) then some 2 else if ¬ (0 ≤ a1_2 ∧ a1_2 < a0) then some 2 else if a1_3 < 1 then some 2 else if a1_3 > 512 then some 2 else if a1_4 < 0 then some 2 else if a1_4 ≥ a1_3 then some 2 else if a1_5 < 1 then some 2 else if a1_5 > a1_3 then some 2 else if a1_1 = a1_2 then some 1 else some 0
theorem flow_check.node (nodes n : Int) (a : Addr) (w : World) (hc : w.cell? a = some (.int .i64 nodes)) :
    Calls Try.prog 42 #[.int .i64 n, .pointer (some a)] w fun e w' => e = .returned (.bool (decide (0 ≤ n ∧ n < nodes))) ∧ w = w' := by
  by_cases h0 : 0 ≤ n
  · by_cases h1 : n < nodes
    · have b0 : decide (0 ≤ n) = true := decide_eq_true h0
      have b1 : decide (n < nodes) = true := decide_eq_true h1
      go_enter Try.func42, Try.ntmps42
      go_wp2
      go_ret
      exact ⟨by simp [h0, h1], rfl⟩
    · have b0 : decide (0 ≤ n) = true := decide_eq_true h0
      have b1 : decide (n < nodes) = false := decide_eq_false h1
      go_enter Try.func42, Try.ntmps42
      go_wp2
      go_ret
      exact ⟨by simp [h1], rfl⟩
  · have b0 : decide (0 ≤ n) = false := decide_eq_false h0
    go_enter Try.func42, Try.ntmps42
    go_wp2
    go_ret
    exact ⟨by simp [h0], rfl⟩
set_option maxHeartbeats 8000000 in
set_option maxRecDepth 100000 in
theorem flow_check.calls (a0 : Int) (a1_0 : Int) (a1_1 : Int) (a1_2 : Int) (a1_3 : Int) (a1_4 : Int) (a1_5 : Int) (r : Int) (w : World) (h : flow_check.f a0 a1_0 a1_1 a1_2 a1_3 a1_4 a1_5 = some r) :
    Calls Try.prog 36 #[.int .i64 a0, .agg #[.int .i64 a1_0, .int .i64 a1_1, .int .i64 a1_2, .int .i64 a1_3, .int .i64 a1_4, .int .i64 a1_5]] w fun e w' => e = .returned (.int .i64 r) ∧ Below w.heap.size w w' := by
  have hcl : (r = 2 ∧ ¬ (0 ≤ a1_0 ∧ a1_0 ≤ 255 ∧ 0 ≤ a1_1 ∧ a1_1 < a0 ∧ 0 ≤ a1_2 ∧ a1_2 < a0 ∧ 1 ≤ a1_3 ∧ a1_3 ≤ 512 ∧ 0 ≤ a1_4 ∧ a1_4 < a1_3 ∧ 1 ≤ a1_5 ∧ a1_5 ≤ a1_3)) ∨
      ((0 ≤ a1_0 ∧ a1_0 ≤ 255 ∧ 0 ≤ a1_1 ∧ a1_1 < a0 ∧ 0 ≤ a1_2 ∧ a1_2 < a0 ∧ 1 ≤ a1_3 ∧ a1_3 ≤ 512 ∧ 0 ≤ a1_4 ∧ a1_4 < a1_3 ∧ 1 ≤ a1_5 ∧ a1_5 ≤ a1_3) ∧ (r = 1 ∧ a1_1 = a1_2 ∨ r = 0 ∧ ¬ a1_1 = a1_2)) := by
    unfold flow_check.f at h
    repeat' split at h
    all_goals (have h := Option.some.inj h; omega)
  have HCL := Aside0.mk hcl
  clear hcl h
  have hmf : ∀ (fn : Fn) (first cap : Array Value) (w : World), (Instr.makeFunc fn first cap).run Try.prog w = .ok (.func fn first cap) w := fun _ _ _ _ => rfl
  have hu := Try.underlying23
  go_enter Try.func36, Try.ntmps36
  go_wp2
  all_goals go_ret
  all_goals (refine ⟨?_, by repeat (first | exact Below.refl _ _ | apply below_alloc)⟩; clear hmf hu; have hcl := HCL.out; clear HCL; go_light; simp only [Bool.not_eq_eq_eq_not, Bool.not_false, Bool.not_true, decide_eq_true_eq, decide_eq_false_iff_not, beq_iff_eq, beq_eq_false_iff_ne, ne_eq] at *)
  all_goals first | (have e : r = 2 := (by omega); subst e; rfl) | (have e : r = 1 := (by omega); subst e; rfl) | (have e : r = 0 := (by omega); subst e; rfl)

end Go.Proofs.Ythlgnbeoanafbaa.PX
