/- FlowSplits: the frames that are released in two stretches, one behind the other, are those of both together. -/
import Derived.Test.YthlgnbeoanafbaaQFlowSplits
import Derived.Test.YthlgnbeoanafbaaU0
namespace Go.Proofs.Ythlgnbeoanafbaa.Pure
open Go.RowKit Go.Proofs.Ythlgnbeoanafbaa.PX Go.Proofs.Ythlgnbeoanafbaa.S Go.Proofs.YthlgnbeoanafbaaW.PrintWords

theorem ahead_diff {ph p a c : Int} (hp : 1 ≤ p) (h : a ≤ c) : aheadOf ph p c - aheadOf ph p a ≤ c - a := by
  have key : ∀ u v : Int, u ≤ v → (v + p - 1) / p - (u + p - 1) / p ≤ v - u := by
    intro u v huv
    have h1 : v + p - 1 ≤ (u + p - 1) + (v - u) * p := by
      have : (v - u) * 1 ≤ (v - u) * p := Int.mul_le_mul_of_nonneg_left hp (by omega)
      omega
    have h2 := Int.ediv_le_ediv (show 0 < p by omega) h1
    rw [Int.add_mul_ediv_right _ _ (by omega)] at h2
    omega
  unfold aheadOf
  have := key (if a - ph < 0 then 0 else a - ph) (if c - ph < 0 then 0 else c - ph) (by split <;> split <;> omega)
  refine Int.le_trans this ?_
  split <;> split <;> omega
theorem run_append (p : Int) (n m : Nat) : run p n ++ run (p + (n : Int)) m = run p (n + m) := by
  induction m with
  | zero => simp [run]
  | succ m ih =>
    rw [run_succ, ← List.append_assoc, ih, ← Nat.add_assoc, run_succ]
    congr 2
    omega

theorem FlowSplits : hopmeshlaw32_FlowSplits.Pure := by
  intro x a f s _ ha hf hs
  have ha := wf_u16 ha
  have hf := wf_u16 hf
  have hs := wf_u16 hs
  refine Ev.rounds ?_
  unfold hopmeshlaw32_FlowSplits.f
  refine Ev.bind ev_awake ?_
  simp only [if_true, frames_eq, Option.bind_some]
  have hf1 : 0 ≤ Int.tmod f 2000 ∧ Int.tmod f 2000 < 2000 := by
    rw [Int.tmod_eq_emod_of_nonneg hf.1]
    omega
  have hs1 : 0 ≤ Int.tmod s 2000 ∧ Int.tmod s 2000 < 2000 := by
    rw [Int.tmod_eq_emod_of_nonneg hs.1]
    omega
  rw [w64 (n := a) (by omega), w64 (n := f) (by omega), w64 (n := s) (by omega), w64 (n := a + Int.tmod f 2000) (by omega), w64 (n := a + Int.tmod f 2000 + Int.tmod s 2000) (by omega), w64 (n := a + Int.tmod f 2000 + Int.tmod s 2000 - a) (by omega)]
  generalize hb : a + Int.tmod f 2000 = b at *
  generalize hc : b + Int.tmod s 2000 = c at *
  have h1 : a ≤ b := by omega
  have h2 : b ≤ c := by omega
  have h3 : c ≤ 100000 := by omega
  clear hb hc
  unfold frm
  by_cases hft : fault 32 x.f0 x.f1 x.f2 x.f3 x.f4 x.f5 = 0
  · have hg := fault_zero hft
    unfold S.Good at hg
    simp only [if_pos hft]
    rw [if_neg (show ¬ (a < 0 ∨ a > b ∨ b > 1099511627776) by omega), if_neg (show ¬ (b < 0 ∨ b > c ∨ c > 1099511627776) by omega), if_neg (show ¬ (a < 0 ∨ a > c ∨ c > 1099511627776) by omega)]
    have e1 := aheadOf_le (phase := x.f4) (period := x.f3) (a := a) (b := b) (by omega) h1
    have e2 := aheadOf_le (phase := x.f4) (period := x.f3) (a := b) (b := c) (by omega) h2
    have e3 := ahead_diff (ph := x.f4) (p := x.f3) (a := a) (c := c) (by omega) (by omega)
    generalize aheadOf x.f4 x.f3 a = A at *
    generalize aheadOf x.f4 x.f3 b = B at *
    generalize aheadOf x.f4 x.f3 c = C at *
    by_cases ho : C - A > 1024
    · rw [if_pos ho]
      refine Ev.of (fun _ => ?_) (k := 0) ?_
      · exact LeO.ite (LeO.ite (LeO.ite (LeO.bind (LeO.refl _) (fun _ => LeO.bind (slices_Equal_int_int.mono _ _ _) (fun _ => LeO.refl _))) (LeO.refl _)) (LeO.refl _)) (LeO.refl _)
      · simp only [show ¬ ((8 : Int) = 0) by decide, show ¬ ((8 : Int) = 1) by decide, if_false, if_true]
        rw [decide_eq_true (by omega)]
    · rw [if_neg ho, if_neg (show ¬ B - A > 1024 by omega), if_neg (show ¬ C - B > 1024 by omega)]
      simp only [if_true]
      have hcat : slices_Concat_int_int.f [run A (B - A).toNat, run B (C - B).toNat] = some (run A (C - A).toNat) := by
        unfold slices_Concat_int_int.f
        rw [if_pos]
        · simp only [List.flatten_cons, List.flatten_nil, List.append_nil]
          rw [show B = A + ((B - A).toNat : Int) by omega, show (A + ((B - A).toNat : Int) - A).toNat = (B - A).toNat by omega, run_append]
          congr 2
          omega
        · refine ⟨by simp, fun y hy => ?_⟩
          simp only [List.mem_cons, List.not_mem_nil, or_false] at hy
          rcases hy with rfl | rfl
          · rw [run_length]; omega
          · rw [run_length]; omega
      rw [hcat]
      simp only [Option.bind_some]
      exact Ev.bind (equal_ev _ (by rw [run_length]; omega)) (Ev.now true)
  · simp only [if_neg hft]
    exact Ev.now true

end Go.Proofs.Ythlgnbeoanafbaa.Pure
