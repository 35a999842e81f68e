-- Written by wip/xprint.py, a program of this claim's own, over the kit's print program. Lean checks it.
import Derived.Test.YthlgnbeoanafbaaPXx0
namespace Go.Proofs.Ythlgnbeoanafbaa.PX
open Go.RowKit Go.Proofs.YthlgnbeoanafbaaW.PrintWords Go.Proofs.YthlgnbeoanafbaaW.PrintLast Go.Proofs.YthlgnbeoanafbaaW.PrintMore
attribute [local go_sem] max2_int min2_int max_two min_two max_three min_three max_four min_four   -- for this text's walks alone
set_option linter.unusedVariables false
set_option linter.unusedSimpArgs false

/-! ### slices_Grow_int_int: function 41, by hand -/
set_option maxHeartbeats 8000000 in
set_option maxRecDepth 100000 in
theorem growNil (n : Int) (w : World) (h0 : 0 ≤ n) (h1 : n ≤ 100000000) :
    Calls Try.prog 41 #[.slice none 0 0, .int .i64 n] w fun e w' => ∃ v, e = .returned v ∧ Kd.R (Kd.int .i64) 3 w' w.heap.size (fun _ => True) v [] ∧ Below w.heap.size w w' := by
  obtain ⟨i3, hi3, _⟩ := Option.map_eq_some_iff.1 info3
  have hsl := cut_to (P := Try.prog) 43 3 .i64 Try.underlying43 hi3 none 0 0 0 (by omega) (by omega) (by omega)
  have hcut := fun (A : Option Addr) (n c : Nat) (h : n ≤ c) => cut_to (P := Try.prog) 43 3 .i64 Try.underlying43 hi3 A n c 0 (by omega) (by omega) h
  have HCUT := Aside0.mk hcut
  clear hcut hi3
  have b0 : decide (n < 0) = false := decide_eq_false (by omega)
  by_cases hn : n = 0
  · subst hn
    go_enter Try.func41, Try.ntmps41
    go_wp2
    go_ret
    exact ⟨_, rfl, Kd.R_nil _ _ _ _ _, Below.refl _ _⟩
  · have b1 : decide (0 < n) = true := decide_eq_true (by omega)
    clear hn
    go_enter Try.func41, Try.ntmps41
    go_wp2_with ((with_reducible refine gate_builtin (b := .append) (xs := #[.tmp 20, .tmp 21]) rfl ?_); at_builtin; refine Kd.R_append_zeros (Kd.int .i64) (w0 := w) w.heap.size rfl (.tmp 20) (.tmp 21) 43 3 3 (.int .i64 0) 8 rfl Try.underlying43 Try.underlying3 info3 rfl (by decide) (by omega) (.slice none 0 0) [] 0 n (fun _ => True) rfl rfl ?aP (fun _ _ => trivial) (Kd.R_nil _ _ _ _ _) ?a0 ?aB ?aS ?aL ?_; (case aP => exact rfl); (case a0 => omega); (case aB => exact Below.refl _ _); (case aS => exact Nat.le_refl _); (case aL => simp only [List.length_nil]; omega); intro v1 w1 ho hb hg hat; obtain ⟨A1, c1, e1, hl1, _⟩ := Kd.R_reads ho; subst e1; have hsl2 := HCUT.out A1 _ c1 hl1; have HO := Aside0.mk (Kd.R_take (m := 0) ho (Nat.zero_le _)); have HB := Aside0.mk hb; clear ho hb hg hat)
    go_ret
    exact ⟨_, rfl, by have := HO.out; simpa using this, HB.out⟩

end Go.Proofs.Ythlgnbeoanafbaa.PX
