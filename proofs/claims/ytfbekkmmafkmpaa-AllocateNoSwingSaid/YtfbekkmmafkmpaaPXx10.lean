-- Written by wip/xprint.py, a program of this claim's own, over the kit's print program. Lean checks it.
import Derived.Test.YtfbekkmmafkmpaaPXx0
namespace Go.Proofs.Ytfbekkmmafkmpaa.PX
open Go.RowKit Go.Proofs.YtfbekkmmafkmpaaW.PrintWords Go.Proofs.YtfbekkmmafkmpaaW.PrintLast Go.Proofs.YtfbekkmmafkmpaaW.PrintMore
attribute [local go_sem] max2_int min2_int max_two min_two max_three min_three max_four min_four   -- for this text's walks alone
set_option linter.unusedVariables false
set_option linter.unusedSimpArgs false

/-! ### allocate_rules: function 46, by hand -/
def fv (k : Nat) : Value := .func (.func k) #[] #[]
def ruleL : List (Nat × Int × Nat) := [(51, 1, 52), (53, 1, 49), (54, 0, 50), (55, 1, 56), (57, 0, 50), (58, 1, 49), (59, 2, 49), (60, 3, 49), (61, 0, 50)]
def apOf (i : Nat) : Nat := (ruleL.getD i (0, 0, 0)).1
def kdOf (i : Nat) : Int := (ruleL.getD i (0, 0, 0)).2.1
def cnOf (i : Nat) : Nat := (ruleL.getD i (0, 0, 0)).2.2
def ruleCells : Array Value := (ruleL.flatMap (fun r => [fv r.1, .int .i64 r.2.1, fv r.2.2])).toArray
theorem ruleCells_at (i : Nat) (hi : i < 9) : ruleCells[i * 3]? = some (fv (apOf i)) ∧ ruleCells[i * 3 + 1]? = some (.int .i64 (kdOf i)) ∧ ruleCells[i * 3 + 2]? = some (fv (cnOf i)) := by
  rcases (by omega : i = 0 ∨ i = 1 ∨ i = 2 ∨ i = 3 ∨ i = 4 ∨ i = 5 ∨ i = 6 ∨ i = 7 ∨ i = 8) with h | h | h | h | h | h | h | h | h <;> subst h <;> exact ⟨rfl, rfl, rfl⟩
set_option maxHeartbeats 8000000 in
set_option maxRecDepth 100000 in
theorem rulesCalls (w : World) : Calls Try.prog 46 #[] w fun e w' => ∃ b, e = .returned (.slice (some ⟨b, 0, none⟩) 9 9) ∧ w.heap.size ≤ b ∧ w'.heap[b]? = some (.cells ruleCells 69 (0, 0)) ∧ Below w.heap.size w w' := by
  have hu := Try.underlying69
  have hmf : ∀ (fn : Fn) (first cap : Array Value) (w : World), (Instr.makeFunc fn first cap).run Try.prog w = .ok (.func fn first cap) w := fun _ _ _ _ => rfl
  go_enter Try.func46, Try.ntmps46
  go_wp2
  go_ret
  exact ⟨w.heap.size, rfl, Nat.le_refl _, by simpa [ruleCells, ruleL, fv] using heap_alloc_new w _, below_alloc (Below.refl _ _) _⟩

end Go.Proofs.Ytfbekkmmafkmpaa.PX
