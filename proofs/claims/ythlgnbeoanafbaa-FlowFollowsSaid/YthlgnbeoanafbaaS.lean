/- Plain lemmas of the laws of chapter 32: the fault of a flow, as the program and the reference tell it; the example. -/
import Derived.Test.YthlgnbeoanafbaaPXx3
import Derived.Test.YthlgnbeoanafbaaXO
namespace Go.Proofs.Ythlgnbeoanafbaa.S
open Go.RowKit Go.Proofs.Ythlgnbeoanafbaa Go.Proofs.Ythlgnbeoanafbaa.PX Go.Proofs.YthlgnbeoanafbaaW.PrintWords

theorem ev_awake : Ev (fun k => hopmeshlaw32_awake.f k) true := Ev.of hopmeshlaw32_awake.mono (k := 60) (by decide +kernel)

def Good (n x0 x1 x2 x3 x4 x5 : Int) : Prop := 0 ≤ x0 ∧ x0 ≤ 255 ∧ 0 ≤ x1 ∧ x1 < n ∧ 0 ≤ x2 ∧ x2 < n ∧ 1 ≤ x3 ∧ x3 ≤ 512 ∧ 0 ≤ x4 ∧ x4 < x3 ∧ 1 ≤ x5 ∧ x5 ≤ x3
instance (n x0 x1 x2 x3 x4 x5 : Int) : Decidable (Good n x0 x1 x2 x3 x4 x5) := by unfold Good; infer_instance
/-- The fault of a flow. -/
def fault (n x0 x1 x2 x3 x4 x5 : Int) : Int := if Good n x0 x1 x2 x3 x4 x5 then (if x1 = x2 then 1 else 0) else 2

theorem check_eq (n x0 x1 x2 x3 x4 x5 : Int) : flow_check.f n x0 x1 x2 x3 x4 x5 = some (fault n x0 x1 x2 x3 x4 x5) := by
  unfold flow_check.f fault
  by_cases h : Good n x0 x1 x2 x3 x4 x5
  · rw [if_pos h]
    unfold Good at h
    rw [if_neg (by omega), if_neg (by omega), if_neg (by omega), if_neg (by omega), if_neg (by omega), if_neg (by omega), if_neg (by omega), if_neg (by omega), if_neg (by omega), if_neg (by omega)]
    split <;> rfl
  · rw [if_neg h]
    unfold Good at h
    repeat' split
    all_goals first | rfl | (exfalso; omega)

theorem in_eq (a b c : Int) : hopmeshref32_in.f a b c = some (decide (b ≤ a ∧ a ≤ c)) := by
  unfold hopmeshref32_in.f
  by_cases h : a ≥ b
  · rw [if_pos h]
    congr 1
    exact decide_eq_decide.mpr ⟨fun k => ⟨h, k⟩, fun k => k.2⟩
  · rw [if_neg h]
    congr 1
    symm
    exact decide_eq_false (fun k => h k.1)

theorem fault_eq (k : Nat) (n x0 x1 x2 x3 x4 x5 : Int) (h0 : 2 ≤ n) (h1 : n ≤ 32) : hopmeshref32_Fault.f (k + 1) n x0 x1 x2 x3 x4 x5 = some (fault n x0 x1 x2 x3 x4 x5) := by
  have w1 : wrap64 (n - 1) = n - 1 := by unfold wrap64; omega
  unfold hopmeshref32_Fault.f fault
  simp only [in_eq, Option.bind_some, decide_eq_true_eq, hopmeshref32_Fault.j0, w1, Bool.not_eq_true', decide_eq_false_iff_not, if_true]
  by_cases h : Good n x0 x1 x2 x3 x4 x5
  · have h' := h
    unfold Good at h'
    have w2 : wrap64 (x3 - 1) = x3 - 1 := by unfold wrap64; omega
    rw [if_pos h, w2]
    rw [if_pos (by omega), if_pos (by omega), if_pos (by omega), if_pos (by omega), if_pos (by omega), if_neg (by omega)]
    split <;> rfl
  · rw [if_neg h]
    unfold Good at h
    by_cases h3 : 1 ≤ x3 ∧ x3 ≤ 512
    · have w2 : wrap64 (x3 - 1) = x3 - 1 := by unfold wrap64; omega
      rw [w2]
      repeat' split
      all_goals first | rfl | (exfalso; omega)
    · rw [if_neg h3]
      repeat' split
      all_goals rfl
theorem ev_fault (n x0 x1 x2 x3 x4 x5 : Int) (h0 : 2 ≤ n) (h1 : n ≤ 32) : Ev (fun k => hopmeshref32_Fault.f k n x0 x1 x2 x3 x4 x5) (fault n x0 x1 x2 x3 x4 x5) := ⟨1, fun k hk => by obtain ⟨k, rfl⟩ : ∃ m, k = m + 1 := ⟨k - 1, by omega⟩; exact fault_eq k n x0 x1 x2 x3 x4 x5 h0 h1⟩

theorem alone_eq (x0 x1 x2 x3 x4 x5 : Int) : flow_alone.f x0 x1 x2 x3 x4 x5 = some (fault 32 x0 x1 x2 x3 x4 x5) := by
  unfold flow_alone.f
  rw [check_eq]
  rfl

theorem fault_zero {n x0 x1 x2 x3 x4 x5 : Int} (h : fault n x0 x1 x2 x3 x4 x5 = 0) : Good n x0 x1 x2 x3 x4 x5 := by
  unfold fault at h
  split at h
  · assumption
  · omega


/-- A frame whose release is in range. -/
def InR (x3 x4 a : Int) : Prop := 0 ≤ a ∧ a ≤ 1099511627776 ∧ x4 + a * x3 ≤ 1099511627776
instance (x3 x4 a : Int) : Decidable (InR x3 x4 a) := by unfold InR; infer_instance
def win (x0 x1 x2 x3 x4 x5 a : Int) : Int × Int × Int := if fault 32 x0 x1 x2 x3 x4 x5 = 0 then (if InR x3 x4 a then (x4 + a * x3, x4 + a * x3 + x3 - 1, 0) else (0, 0, 2)) else (0, 0, 1)
def due (x0 x1 x2 x3 x4 x5 a : Int) : Int × Int := if fault 32 x0 x1 x2 x3 x4 x5 = 0 then (if InR x3 x4 a then (x4 + a * x3 + x5 - 1, 0) else (0, 2)) else (0, 1)

theorem mul_bd {x3 a : Int} (h1 : 1 ≤ x3) (h2 : x3 ≤ 512) (h3 : 0 ≤ a) (h4 : a ≤ 1099511627776) : 0 ≤ a * x3 ∧ a * x3 ≤ 562949953421312 := by
  refine ⟨Int.mul_nonneg h3 (by omega), ?_⟩
  have : a * x3 ≤ 1099511627776 * 512 := Int.mul_le_mul h4 h2 (by omega) (by omega)
  omega
theorem w64 {n : Int} (h : -9223372036854775808 ≤ n ∧ n ≤ 9223372036854775807) : wrap64 n = n := by unfold wrap64; omega

theorem release_eq (x0 x1 x2 x3 x4 x5 a : Int) : flow_release.f x0 x1 x2 x3 x4 x5 a = some (if fault 32 x0 x1 x2 x3 x4 x5 = 0 then (if InR x3 x4 a then (x4 + a * x3, 0) else (0, 2)) else (0, 1)) := by
  unfold flow_release.f
  rw [alone_eq]
  simp only [Option.bind_some]
  by_cases hf : fault 32 x0 x1 x2 x3 x4 x5 = 0
  · have hg := fault_zero hf
    unfold Good at hg
    rw [if_pos hf, if_pos hf]
    by_cases h1 : a < 0
    · rw [if_pos h1, if_neg (by unfold InR; omega)]
    · rw [if_neg h1]
      by_cases h2 : a > 1099511627776
      · rw [if_pos h2, if_neg (by unfold InR; omega)]
      · have hb := mul_bd (x3 := x3) (a := a) (by omega) (by omega) (by omega) (by omega)
        rw [if_neg h2, w64 (n := a * x3) (by omega), w64 (by omega)]
        by_cases h3 : x4 + a * x3 > 1099511627776
        · rw [if_pos h3, if_neg (by unfold InR; omega)]
        · rw [if_neg h3, if_pos (by unfold InR; omega)]
  · rw [if_neg hf, if_neg hf]
theorem window_eq (x0 x1 x2 x3 x4 x5 a : Int) : flow_Window.f x0 x1 x2 x3 x4 x5 a = some (win x0 x1 x2 x3 x4 x5 a) := by
  unfold flow_Window.f win
  rw [release_eq]
  simp only [Option.bind_some]
  by_cases hf : fault 32 x0 x1 x2 x3 x4 x5 = 0
  · have hg := fault_zero hf
    unfold Good at hg
    simp only [if_pos hf]
    by_cases hr : InR x3 x4 a
    · have hr' := hr
      unfold InR at hr'
      have hb := mul_bd (x3 := x3) (a := a) (by omega) (by omega) (by omega) (by omega)
      simp only [if_pos hr, if_true]
      rw [w64 (n := x4 + a * x3 + x3) (by omega), w64 (by omega)]
    · simp only [if_neg hr]
      rfl
  · simp only [if_neg hf]
    rfl
theorem due_eq (x0 x1 x2 x3 x4 x5 a : Int) : flow_Due.f x0 x1 x2 x3 x4 x5 a = some (due x0 x1 x2 x3 x4 x5 a) := by
  unfold flow_Due.f due
  rw [release_eq]
  simp only [Option.bind_some]
  by_cases hf : fault 32 x0 x1 x2 x3 x4 x5 = 0
  · have hg := fault_zero hf
    unfold Good at hg
    simp only [if_pos hf]
    by_cases hr : InR x3 x4 a
    · have hr' := hr
      unfold InR at hr'
      have hb := mul_bd (x3 := x3) (a := a) (by omega) (by omega) (by omega) (by omega)
      simp only [if_pos hr, if_true]
      rw [w64 (n := x4 + a * x3 + x5) (by omega), w64 (by omega)]
    · simp only [if_neg hr]
      rfl
  · simp only [if_neg hf]
    rfl

theorem right_eq (k : Nat) (x0 x1 x2 x3 x4 x5 a : Int) : hopmeshref32_right.f (k + 1) x0 x1 x2 x3 x4 x5 a = some (if fault 32 x0 x1 x2 x3 x4 x5 = 0 then (if InR x3 x4 a then 0 else 2) else 1) := by
  unfold hopmeshref32_right.f hopmeshref32_Release.f
  rw [fault_eq k 32 x0 x1 x2 x3 x4 x5 (by omega) (by omega)]
  simp only [Option.bind_some, in_eq, decide_eq_true_eq]
  by_cases hf : fault 32 x0 x1 x2 x3 x4 x5 = 0
  · have hg := fault_zero hf
    unfold Good at hg
    rw [if_pos hf, if_pos hf]
    by_cases h1 : 0 ≤ a ∧ a ≤ 1099511627776
    · have hb := mul_bd (x3 := x3) (a := a) (by omega) (by omega) (by omega) (by omega)
      rw [if_pos h1, w64 (n := a * x3) (by omega), w64 (by omega)]
      by_cases h3 : x4 + a * x3 > 1099511627776
      · rw [if_pos h3, if_neg (by unfold InR; omega)]
      · rw [if_neg h3, if_pos (by unfold InR; omega)]
    · rw [if_neg h1, if_neg (by unfold InR; omega)]
  · rw [if_neg hf, if_neg hf]
theorem ref_window_eq (k : Nat) (x0 x1 x2 x3 x4 x5 a : Int) : hopmeshref32_Window.f (k + 1) x0 x1 x2 x3 x4 x5 a = some (win x0 x1 x2 x3 x4 x5 a) := by
  unfold hopmeshref32_Window.f hopmeshref32_Release.f win
  rw [right_eq]
  simp only [Option.bind_some]
  by_cases hf : fault 32 x0 x1 x2 x3 x4 x5 = 0
  · have hg := fault_zero hf
    unfold Good at hg
    simp only [if_pos hf]
    by_cases hr : InR x3 x4 a
    · have hr' := hr
      unfold InR at hr'
      have hb := mul_bd (x3 := x3) (a := a) (by omega) (by omega) (by omega) (by omega)
      simp only [if_pos hr, if_true]
      rw [w64 (n := a + 1) (by omega), Int.add_mul, Int.one_mul, w64 (n := a * x3) (by omega), w64 (n := a * x3 + x3) (by omega), w64 (n := x4 + a * x3) (by omega), w64 (n := x4 + (a * x3 + x3)) (by omega), w64 (by omega), Int.add_assoc]
    · simp only [if_neg hr]
      rfl
  · simp only [if_neg hf]
    rfl
theorem ref_due_eq (k : Nat) (x0 x1 x2 x3 x4 x5 a : Int) : hopmeshref32_Due.f (k + 1) x0 x1 x2 x3 x4 x5 a = some (due x0 x1 x2 x3 x4 x5 a) := by
  unfold hopmeshref32_Due.f hopmeshref32_Release.f due
  rw [right_eq]
  simp only [Option.bind_some]
  by_cases hf : fault 32 x0 x1 x2 x3 x4 x5 = 0
  · have hg := fault_zero hf
    unfold Good at hg
    simp only [if_pos hf]
    by_cases hr : InR x3 x4 a
    · have hr' := hr
      unfold InR at hr'
      have hb := mul_bd (x3 := x3) (a := a) (by omega) (by omega) (by omega) (by omega)
      simp only [if_pos hr, if_true]
      rw [w64 (n := a * x3) (by omega), w64 (n := x4 + a * x3) (by omega), w64 (n := x4 + a * x3 + x5) (by omega), w64 (by omega)]
    · simp only [if_neg hr]
      rfl
  · simp only [if_neg hf]
    rfl
theorem ev1 {α : Type} {g : Nat → Option α} {r : α} (h : ∀ k, g (k + 1) = some r) : Ev g r := ⟨1, fun k hk => by obtain ⟨k, rfl⟩ : ∃ m, k = m + 1 := ⟨k - 1, by omega⟩; exact h k⟩
end Go.Proofs.Ythlgnbeoanafbaa.S
