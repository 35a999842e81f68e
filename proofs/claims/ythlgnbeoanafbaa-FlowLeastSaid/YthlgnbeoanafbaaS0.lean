/- Plain lemmas of the laws of chapter 32: what single flows answer. -/
import Derived.Test.YthlgnbeoanafbaaPXx6
import Derived.Test.YthlgnbeoanafbaaPXx7
import Derived.Test.YthlgnbeoanafbaaPXx8
import Derived.Test.YthlgnbeoanafbaaPXx14
import Derived.Test.YthlgnbeoanafbaaXO
namespace Go.Proofs.Ythlgnbeoanafbaa.S
open Go.RowKit Go.Proofs.Ythlgnbeoanafbaa Go.Proofs.Ythlgnbeoanafbaa.PX Go.Proofs.YthlgnbeoanafbaaW.PrintWords

theorem ev_awake : Ev (fun k => hopmeshlaw32_awake.f k) true := Ev.of hopmeshlaw32_awake.mono (k := 60) (by decide +kernel)
def Good (n x0 x1 x2 x3 x4 x5 : Int) : Prop := 0 ≤ x0 ∧ x0 ≤ 255 ∧ 0 ≤ x1 ∧ x1 < n ∧ 0 ≤ x2 ∧ x2 < n ∧ 1 ≤ x3 ∧ x3 ≤ 512 ∧ 0 ≤ x4 ∧ x4 < x3 ∧ 1 ≤ x5 ∧ x5 ≤ x3
instance (n x0 x1 x2 x3 x4 x5 : Int) : Decidable (Good n x0 x1 x2 x3 x4 x5) := by unfold Good; infer_instance
/-- The fault of a flow. -/
def fault (n x0 x1 x2 x3 x4 x5 : Int) : Int := if Good n x0 x1 x2 x3 x4 x5 then (if x1 = x2 then 1 else 0) else 2
theorem check_eq (n x0 x1 x2 x3 x4 x5 : Int) : flow_check.f n x0 x1 x2 x3 x4 x5 = some (fault n x0 x1 x2 x3 x4 x5) := by
  unfold flow_check.f fault
  by_cases h : Good n x0 x1 x2 x3 x4 x5
  · rw [if_pos h]
    unfold Good at h
    rw [if_neg (by omega), if_neg (by omega), if_neg (by omega), if_neg (by omega), if_neg (by omega), if_neg (by omega), if_neg (by omega), if_neg (by omega), if_neg (by omega), if_neg (by omega)]
    split <;> rfl
  · rw [if_neg h]
    unfold Good at h
    repeat' split
    all_goals first | rfl | (exfalso; omega)
theorem alone_eq (x0 x1 x2 x3 x4 x5 : Int) : flow_alone.f x0 x1 x2 x3 x4 x5 = some (fault 32 x0 x1 x2 x3 x4 x5) := by
  unfold flow_alone.f
  rw [check_eq]
  rfl
theorem fault_zero {n x0 x1 x2 x3 x4 x5 : Int} (h : fault n x0 x1 x2 x3 x4 x5 = 0) : Good n x0 x1 x2 x3 x4 x5 := by
  unfold fault at h
  split at h
  · assumption
  · omega
/-- A frame whose release is in range. -/
def InR (x3 x4 a : Int) : Prop := 0 ≤ a ∧ a ≤ 1099511627776 ∧ x4 + a * x3 ≤ 1099511627776
instance (x3 x4 a : Int) : Decidable (InR x3 x4 a) := by unfold InR; infer_instance
def win (x0 x1 x2 x3 x4 x5 a : Int) : Int × Int × Int := if fault 32 x0 x1 x2 x3 x4 x5 = 0 then (if InR x3 x4 a then (x4 + a * x3, x4 + a * x3 + x3 - 1, 0) else (0, 0, 2)) else (0, 0, 1)
def due (x0 x1 x2 x3 x4 x5 a : Int) : Int × Int := if fault 32 x0 x1 x2 x3 x4 x5 = 0 then (if InR x3 x4 a then (x4 + a * x3 + x5 - 1, 0) else (0, 2)) else (0, 1)
theorem mul_bd {x3 a : Int} (h1 : 1 ≤ x3) (h2 : x3 ≤ 512) (h3 : 0 ≤ a) (h4 : a ≤ 1099511627776) : 0 ≤ a * x3 ∧ a * x3 ≤ 562949953421312 := by
  refine ⟨Int.mul_nonneg h3 (by omega), ?_⟩
  have : a * x3 ≤ 1099511627776 * 512 := Int.mul_le_mul h4 h2 (by omega) (by omega)
  omega
theorem w64 {n : Int} (h : -9223372036854775808 ≤ n ∧ n ≤ 9223372036854775807) : wrap64 n = n := by unfold wrap64; omega
theorem release_eq (x0 x1 x2 x3 x4 x5 a : Int) : flow_release.f x0 x1 x2 x3 x4 x5 a = some (if fault 32 x0 x1 x2 x3 x4 x5 = 0 then (if InR x3 x4 a then (x4 + a * x3, 0) else (0, 2)) else (0, 1)) := by
  unfold flow_release.f
  rw [alone_eq]
  simp only [Option.bind_some]
  by_cases hf : fault 32 x0 x1 x2 x3 x4 x5 = 0
  · have hg := fault_zero hf
    unfold Good at hg
    rw [if_pos hf, if_pos hf]
    by_cases h1 : a < 0
    · rw [if_pos h1, if_neg (by unfold InR; omega)]
    · rw [if_neg h1]
      by_cases h2 : a > 1099511627776
      · rw [if_pos h2, if_neg (by unfold InR; omega)]
      · have hb := mul_bd (x3 := x3) (a := a) (by omega) (by omega) (by omega) (by omega)
        rw [if_neg h2, w64 (n := a * x3) (by omega), w64 (by omega)]
        by_cases h3 : x4 + a * x3 > 1099511627776
        · rw [if_pos h3, if_neg (by unfold InR; omega)]
        · rw [if_neg h3, if_pos (by unfold InR; omega)]
  · rw [if_neg hf, if_neg hf]
theorem window_eq (x0 x1 x2 x3 x4 x5 a : Int) : flow_Window.f x0 x1 x2 x3 x4 x5 a = some (win x0 x1 x2 x3 x4 x5 a) := by
  unfold flow_Window.f win
  rw [release_eq]
  simp only [Option.bind_some]
  by_cases hf : fault 32 x0 x1 x2 x3 x4 x5 = 0
  · have hg := fault_zero hf
    unfold Good at hg
    simp only [if_pos hf]
    by_cases hr : InR x3 x4 a
    · have hr' := hr
      unfold InR at hr'
      have hb := mul_bd (x3 := x3) (a := a) (by omega) (by omega) (by omega) (by omega)
      simp only [if_pos hr, if_true]
      rw [w64 (n := x4 + a * x3 + x3) (by omega), w64 (by omega)]
    · simp only [if_neg hr]
      rfl
  · simp only [if_neg hf]
    rfl
theorem due_eq (x0 x1 x2 x3 x4 x5 a : Int) : flow_Due.f x0 x1 x2 x3 x4 x5 a = some (due x0 x1 x2 x3 x4 x5 a) := by
  unfold flow_Due.f due
  rw [release_eq]
  simp only [Option.bind_some]
  by_cases hf : fault 32 x0 x1 x2 x3 x4 x5 = 0
  · have hg := fault_zero hf
    unfold Good at hg
    simp only [if_pos hf]
    by_cases hr : InR x3 x4 a
    · have hr' := hr
      unfold InR at hr'
      have hb := mul_bd (x3 := x3) (a := a) (by omega) (by omega) (by omega) (by omega)
      simp only [if_pos hr, if_true]
      rw [w64 (n := x4 + a * x3 + x5) (by omega), w64 (by omega)]
    · simp only [if_neg hr]
      rfl
  · simp only [if_neg hf]
    rfl
theorem ev1 {α : Type} {g : Nat → Option α} {r : α} (h : ∀ k, g (k + 1) = some r) : Ev g r := ⟨1, fun k hk => by obtain ⟨k, rfl⟩ : ∃ m, k = m + 1 := ⟨k - 1, by omega⟩; exact h k⟩
theorem wf_u16 {n : Int} (h : (Lit.int .u16 n).wf = true) : 0 ≤ n ∧ n ≤ 65535 := by
  simp only [Lit.wf, Bool.and_eq_true, decide_eq_true_eq] at h
  exact h
end Go.Proofs.Ythlgnbeoanafbaa.S
