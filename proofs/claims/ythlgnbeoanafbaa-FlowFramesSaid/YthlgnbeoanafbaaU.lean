/- Plain lemmas of the laws of chapter 32: frames and their references. -/
import Derived.Test.YthlgnbeoanafbaaPXx30
import Derived.Test.YthlgnbeoanafbaaPXx31
import Derived.Test.YthlgnbeoanafbaaS
import Derived.Test.YthlgnbeoanafbaaU0
namespace Go.Proofs.Ythlgnbeoanafbaa.S
open Go.RowKit Go.Proofs.Ythlgnbeoanafbaa Go.Proofs.Ythlgnbeoanafbaa.PX Go.Proofs.YthlgnbeoanafbaaW.PrintWords

theorem frames_loop {x0 x1 x2 p ph x5 b A1 A2 : Int} (hp : 1 ≤ p) (hp2 : p ≤ 512) (hph : 0 ≤ ph) (hph2 : ph < p) (h1 : 0 ≤ A1) (h1' : A1 ≤ 1099511628288) (hA2 : A2 = aheadOf ph p b) (hle : A1 ≤ A2) : ∀ d i : Nat, i + d = min (A2 - A1).toNat 1024 →
    Ev (fun k => hopmeshref32_Frames.l0 k b (run A1 i) (A1 + (i : Int)) x0 x1 x2 p ph x5) (if A2 - A1 > 1024 then ([], 8) else (run A1 (A2 - A1).toNat, 0)) := by
  intro d
  induction d with
  | zero =>
    intro i hi
    refine ev1 fun k => ?_
    have hm : 0 ≤ (A1 + (i : Int)) * p ∧ (A1 + (i : Int)) * p ≤ 1099511629312 * 512 := ⟨Int.mul_nonneg (by omega) (by omega), Int.mul_le_mul (by omega) hp2 (by omega) (by omega)⟩
    have hlt := lt_ahead (phase := ph) (p := p) (n := A1 + (i : Int)) (b := b) hp (by omega)
    rw [← hA2] at hlt
    simp only [hopmeshref32_Frames.l0, hopmeshref32_Release.f, Option.bind_some]
    rw [w64 (n := (A1 + (i : Int)) * p) (by omega), w64 (by omega), run_length]
    by_cases hb : A2 - A1 > 1024
    · rw [if_pos hb, if_pos (hlt.2 (by omega)), if_pos (by omega)]
    · rw [if_neg hb, if_neg (fun h => by have := hlt.1 h; omega), show i = (A2 - A1).toNat by omega]
  | succ d ih =>
    intro i hi
    have hm : 0 ≤ (A1 + (i : Int)) * p ∧ (A1 + (i : Int)) * p ≤ 1099511629312 * 512 := ⟨Int.mul_nonneg (by omega) (by omega), Int.mul_le_mul (by omega) hp2 (by omega) (by omega)⟩
    have hlt := lt_ahead (phase := ph) (p := p) (n := A1 + (i : Int)) (b := b) hp (by omega)
    rw [← hA2] at hlt
    refine Ev.step (fun k => ?_) (ih (i + 1) (by omega))
    simp only [hopmeshref32_Frames.l0, hopmeshref32_Release.f, Option.bind_some]
    rw [w64 (n := (A1 + (i : Int)) * p) (by omega), w64 (n := ph + (A1 + (i : Int)) * p) (by omega), run_length, if_pos (hlt.2 (by omega)), if_neg (by omega), if_pos (by omega), run_succ, w64 (by omega)]
    congr 1
    omega
theorem ref_frames_ev (x0 x1 x2 x3 x4 x5 a b : Int) : Ev (fun k => hopmeshref32_Frames.f k x0 x1 x2 x3 x4 x5 a b) (frm x0 x1 x2 x3 x4 x5 a b) := by
  unfold hopmeshref32_Frames.f frm
  refine Ev.bind (ev_fault 32 _ _ _ _ _ _ (by omega) (by omega)) ?_
  by_cases hf : fault 32 x0 x1 x2 x3 x4 x5 = 0
  · have hg := fault_zero hf
    unfold S.Good at hg
    simp only [if_pos hf]
    by_cases h1 : a < 0 ∨ a > b ∨ b > 1099511627776
    · rw [if_pos h1]
      refine ev1 fun k => ?_
      split
      · simp only [hopmeshref32_Frames.j0, if_true]
      · split
        · simp only [hopmeshref32_Frames.j0, if_true]
        · simp only [hopmeshref32_Frames.j0]
          rw [if_pos (by simp; omega)]
    · rw [if_neg h1]
      have d1 := aheadOf_bd (phase := x4) (period := x3) (slot := a) (by omega) (by omega) (by omega) (by omega) (by omega) (by omega)
      have d3 := aheadOf_le (phase := x4) (period := x3) (a := a) (b := b) (by omega) (by omega)
      have hl := frames_loop (x0 := x0) (x1 := x1) (x2 := x2) (p := x3) (ph := x4) (x5 := x5) (b := b) (A1 := aheadOf x4 x3 a) (A2 := aheadOf x4 x3 b) (by omega) (by omega) (by omega) (by omega) d1.1 d1.2 rfl d3 _ 0 (Nat.zero_add _)
      have hfirst : (if a > x4 then wrap64 (Int.tdiv (wrap64 (wrap64 (wrap64 (a - x4) + x3) - 1)) x3) else 0) = aheadOf x4 x3 a := by
        unfold aheadOf
        by_cases h2 : a > x4
        · rw [if_pos h2, if_neg (by omega), w64 (n := a - x4) (by omega), w64 (n := a - x4 + x3) (by omega), w64 (n := a - x4 + x3 - 1) (by omega), Int.tdiv_eq_ediv_of_nonneg (by omega)]
          have h3 := Int.ediv_le_self (a := a - x4 + x3 - 1) x3 (by omega)
          have h4 : 0 ≤ (a - x4 + x3 - 1) / x3 := Int.ediv_nonneg (by omega) (by omega)
          rw [w64 (by omega)]
        · rw [if_neg h2]
          have : (if a - x4 < 0 then 0 else a - x4) = 0 := by split <;> omega
          rw [this, Int.ediv_eq_zero_of_lt (by omega) (by omega)]
      refine Ev.step (f := fun k => hopmeshref32_Frames.j1 k b (aheadOf x4 x3 a) x0 x1 x2 x3 x4 x5) (fun k => ?_) (Ev.step (fun k => ?_) hl)
      · rw [if_neg (by omega), if_neg (by omega)]
        simp only [hopmeshref32_Frames.j0]
        rw [if_neg (by simp; omega), if_neg (by omega : ¬ x3 = 0), ← hfirst]
        split <;> rfl
      · simp only [hopmeshref32_Frames.j1]
        have : aheadOf x4 x3 a + ((0 : Nat) : Int) = aheadOf x4 x3 a := by omega
        rw [this]
        rfl
  · simp only [if_neg hf]
    exact Ev.now _
theorem ref_current_ev (x0 x1 x2 x3 x4 x5 a : Int) (h : -9223372036854775808 ≤ a ∧ a ≤ 9223372036854775807) : Ev (fun k => hopmeshref32_Current.f k x0 x1 x2 x3 x4 x5 a) (if fault 32 x0 x1 x2 x3 x4 x5 = 0 ∧ x4 ≤ a ∧ a ≤ 1099511627776 then ((a - x4) / x3, true) else (0, false)) := by
  unfold hopmeshref32_Current.f
  refine Ev.bind (ev_fault 32 _ _ _ _ _ _ (by omega) (by omega)) ?_
  simp only [in_eq, Option.bind_some, decide_eq_true_eq]
  by_cases hf : fault 32 x0 x1 x2 x3 x4 x5 = 0
  · have hg := fault_zero hf
    unfold S.Good at hg
    simp only [if_pos hf]
    by_cases h1 : x4 ≤ a ∧ a ≤ 1099511627776
    · have h3 := Int.ediv_le_self (a := a - x4) x3 (by omega)
      have h4 : 0 ≤ (a - x4) / x3 := Int.ediv_nonneg (by omega) (by omega)
      rw [if_pos h1, if_neg (by omega), if_pos ⟨hf, h1.1, h1.2⟩, w64 (n := a - x4) (by omega), Int.tdiv_eq_ediv_of_nonneg (by omega), w64 (by omega)]
      exact Ev.now _
    · rw [if_neg h1, if_neg (fun h => h1 h.2)]
      exact Ev.now _
  · simp only [if_neg hf]
    rw [if_neg (fun h => hf h.1)]
    exact Ev.now _
end Go.Proofs.Ythlgnbeoanafbaa.S
