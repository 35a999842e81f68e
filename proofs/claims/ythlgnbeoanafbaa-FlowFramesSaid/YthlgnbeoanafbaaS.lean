/- Plain lemmas of the laws of chapter 32: the references of single flows. -/
import Derived.Test.YthlgnbeoanafbaaPXx18
import Derived.Test.YthlgnbeoanafbaaPXx19
import Derived.Test.YthlgnbeoanafbaaS0
namespace Go.Proofs.Ythlgnbeoanafbaa.S
open Go.RowKit Go.Proofs.Ythlgnbeoanafbaa Go.Proofs.Ythlgnbeoanafbaa.PX Go.Proofs.YthlgnbeoanafbaaW.PrintWords

theorem in_eq (a b c : Int) : hopmeshref32_in.f a b c = some (decide (b ≤ a ∧ a ≤ c)) := by
  unfold hopmeshref32_in.f
  by_cases h : a ≥ b
  · rw [if_pos h]
    congr 1
    exact decide_eq_decide.mpr ⟨fun k => ⟨h, k⟩, fun k => k.2⟩
  · rw [if_neg h]
    congr 1
    symm
    exact decide_eq_false (fun k => h k.1)
theorem fault_eq (k : Nat) (n x0 x1 x2 x3 x4 x5 : Int) (h0 : 2 ≤ n) (h1 : n ≤ 32) : hopmeshref32_Fault.f (k + 1) n x0 x1 x2 x3 x4 x5 = some (fault n x0 x1 x2 x3 x4 x5) := by
  have w1 : wrap64 (n - 1) = n - 1 := by unfold wrap64; omega
  unfold hopmeshref32_Fault.f fault
  simp only [in_eq, Option.bind_some, decide_eq_true_eq, hopmeshref32_Fault.j0, w1, Bool.not_eq_true', decide_eq_false_iff_not, if_true]
  by_cases h : Good n x0 x1 x2 x3 x4 x5
  · have h' := h
    unfold Good at h'
    have w2 : wrap64 (x3 - 1) = x3 - 1 := by unfold wrap64; omega
    rw [if_pos h, w2]
    rw [if_pos (by omega), if_pos (by omega), if_pos (by omega), if_pos (by omega), if_pos (by omega), if_neg (by omega)]
    split <;> rfl
  · rw [if_neg h]
    unfold Good at h
    by_cases h3 : 1 ≤ x3 ∧ x3 ≤ 512
    · have w2 : wrap64 (x3 - 1) = x3 - 1 := by unfold wrap64; omega
      rw [w2]
      repeat' split
      all_goals first | rfl | (exfalso; omega)
    · rw [if_neg h3]
      repeat' split
      all_goals rfl
theorem ev_fault (n x0 x1 x2 x3 x4 x5 : Int) (h0 : 2 ≤ n) (h1 : n ≤ 32) : Ev (fun k => hopmeshref32_Fault.f k n x0 x1 x2 x3 x4 x5) (fault n x0 x1 x2 x3 x4 x5) := ⟨1, fun k hk => by obtain ⟨k, rfl⟩ : ∃ m, k = m + 1 := ⟨k - 1, by omega⟩; exact fault_eq k n x0 x1 x2 x3 x4 x5 h0 h1⟩
theorem right_eq (k : Nat) (x0 x1 x2 x3 x4 x5 a : Int) : hopmeshref32_right.f (k + 1) x0 x1 x2 x3 x4 x5 a = some (if fault 32 x0 x1 x2 x3 x4 x5 = 0 then (if InR x3 x4 a then 0 else 2) else 1) := by
  unfold hopmeshref32_right.f hopmeshref32_Release.f
  rw [fault_eq k 32 x0 x1 x2 x3 x4 x5 (by omega) (by omega)]
  simp only [Option.bind_some, in_eq, decide_eq_true_eq]
  by_cases hf : fault 32 x0 x1 x2 x3 x4 x5 = 0
  · have hg := fault_zero hf
    unfold Good at hg
    rw [if_pos hf, if_pos hf]
    by_cases h1 : 0 ≤ a ∧ a ≤ 1099511627776
    · have hb := mul_bd (x3 := x3) (a := a) (by omega) (by omega) (by omega) (by omega)
      rw [if_pos h1, w64 (n := a * x3) (by omega), w64 (by omega)]
      by_cases h3 : x4 + a * x3 > 1099511627776
      · rw [if_pos h3, if_neg (by unfold InR; omega)]
      · rw [if_neg h3, if_pos (by unfold InR; omega)]
    · rw [if_neg h1, if_neg (by unfold InR; omega)]
  · rw [if_neg hf, if_neg hf]
theorem ref_window_eq (k : Nat) (x0 x1 x2 x3 x4 x5 a : Int) : hopmeshref32_Window.f (k + 1) x0 x1 x2 x3 x4 x5 a = some (win x0 x1 x2 x3 x4 x5 a) := by
  unfold hopmeshref32_Window.f hopmeshref32_Release.f win
  rw [right_eq]
  simp only [Option.bind_some]
  by_cases hf : fault 32 x0 x1 x2 x3 x4 x5 = 0
  · have hg := fault_zero hf
    unfold Good at hg
    simp only [if_pos hf]
    by_cases hr : InR x3 x4 a
    · have hr' := hr
      unfold InR at hr'
      have hb := mul_bd (x3 := x3) (a := a) (by omega) (by omega) (by omega) (by omega)
      simp only [if_pos hr, if_true]
      rw [w64 (n := a + 1) (by omega), Int.add_mul, Int.one_mul, w64 (n := a * x3) (by omega), w64 (n := a * x3 + x3) (by omega), w64 (n := x4 + a * x3) (by omega), w64 (n := x4 + (a * x3 + x3)) (by omega), w64 (by omega), Int.add_assoc]
    · simp only [if_neg hr]
      rfl
  · simp only [if_neg hf]
    rfl
theorem ref_due_eq (k : Nat) (x0 x1 x2 x3 x4 x5 a : Int) : hopmeshref32_Due.f (k + 1) x0 x1 x2 x3 x4 x5 a = some (due x0 x1 x2 x3 x4 x5 a) := by
  unfold hopmeshref32_Due.f hopmeshref32_Release.f due
  rw [right_eq]
  simp only [Option.bind_some]
  by_cases hf : fault 32 x0 x1 x2 x3 x4 x5 = 0
  · have hg := fault_zero hf
    unfold Good at hg
    simp only [if_pos hf]
    by_cases hr : InR x3 x4 a
    · have hr' := hr
      unfold InR at hr'
      have hb := mul_bd (x3 := x3) (a := a) (by omega) (by omega) (by omega) (by omega)
      simp only [if_pos hr, if_true]
      rw [w64 (n := a * x3) (by omega), w64 (n := x4 + a * x3) (by omega), w64 (n := x4 + a * x3 + x5) (by omega), w64 (by omega)]
    · simp only [if_neg hr]
      rfl
  · simp only [if_neg hf]
    rfl
end Go.Proofs.Ythlgnbeoanafbaa.S
