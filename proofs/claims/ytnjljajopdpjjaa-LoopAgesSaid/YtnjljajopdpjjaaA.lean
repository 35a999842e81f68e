/- Plain lemmas of the laws of chapter 50: faults, splits that fit, the flows; the reference answers alike. -/
import Derived.Test.YtnjljajopdpjjaaPXx5
import Derived.Test.YtnjljajopdpjjaaPXx6
import Derived.Test.YtnjljajopdpjjaaPXx7
import Derived.Test.YtnjljajopdpjjaaPXx11
import Derived.Test.YtnjljajopdpjjaaPXx17
import Derived.Test.YtnjljajopdpjjaaPXx19
import Derived.Test.YtnjljajopdpjjaaPXx20
import Derived.Test.YtnjljajopdpjjaaPXx14
namespace Go.Proofs.Ytnjljajopdpjjaa.S
open Go.RowKit Go.Proofs.Ytnjljajopdpjjaa Go.Proofs.Ytnjljajopdpjjaa.PX Go.Proofs.YtnjljajopdpjjaaW.PrintWords

theorem ev1 {α : Type} {g : Nat → Option α} {r : α} (h : ∀ k, g (k + 1) = some r) : Ev g r := ⟨1, fun k hk => by obtain ⟨k, rfl⟩ : ∃ m, k = m + 1 := ⟨k - 1, by omega⟩; exact h k⟩
theorem ev_awake : Ev (fun k => hopmeshlaw50_awake.f k) true := Ev.of hopmeshlaw50_awake.mono (k := 60) (by decide +kernel)
theorem node_eq (n a : Int) : hopmeshref50_isNode.f n a = some (decide (0 ≤ a ∧ a < n)) := by
  unfold hopmeshref50_isNode.f
  split
  · congr 1
    exact decide_eq_decide.2 ⟨fun h => ⟨by omega, h⟩, fun h => h.2⟩
  · congr 1
    symm
    exact decide_eq_false (by omega)
theorem fault_j0 (k : Nat) (b : Bool) (a0 a1 a2 a3 a4 a5 a6 : Int) : hopmeshref50_Fault.j0 (k + 2) b a0 a1 a2 a3 a4 a5 a6 = if b = true ∧ 0 ≤ a0 ∧ a0 ≤ 127 ∧ 1 ≤ a4 ∧ a4 ≤ 512 ∧ 0 ≤ a5 ∧ a5 < a4 ∧ 1 ≤ a6 ∧ a6 ≤ 1024 then (if a1 = a2 ∨ a3 = a2 then some 1 else some 0) else some 2 := by
  simp only [hopmeshref50_Fault.j0, hopmeshref50_Fault.j1]
  by_cases h : b = true ∧ 0 ≤ a0 ∧ a0 ≤ 127 ∧ 1 ≤ a4 ∧ a4 ≤ 512 ∧ 0 ≤ a5 ∧ a5 < a4 ∧ 1 ≤ a6 ∧ a6 ≤ 1024
  · obtain ⟨h0, h1, h2, h3, h4, h5, h6, h7, h8⟩ := id h
    rw [if_pos h, if_neg (by omega), if_neg (by omega), if_pos h0, if_neg (by omega), if_neg (by omega), if_neg (by omega), if_neg (by omega), if_neg (by omega), if_neg (by simp; omega)]
    by_cases c1 : a1 = a2
    · rw [if_pos c1, if_pos (.inl c1)]
    · by_cases c2 : a3 = a2
      · rw [if_neg c1, if_pos c2, if_pos (.inr c2)]
      · rw [if_neg c1, if_neg c2, if_neg (by omega)]
  · rw [if_neg h]
    by_cases c0 : a0 < 0
    · rw [if_pos c0]
      exact if_pos trivial
    rw [if_neg c0]
    by_cases c1 : a0 > 127
    · rw [if_pos c1]
      exact if_pos trivial
    rw [if_neg c1]
    by_cases cb : b = true
    rotate_left
    · rw [if_neg cb]
      exact if_pos trivial
    rw [if_pos cb]
    by_cases c2 : a4 < 1
    · rw [if_pos c2]
      exact if_pos trivial
    rw [if_neg c2]
    by_cases c3 : a4 > 512
    · rw [if_pos c3]
      exact if_pos trivial
    rw [if_neg c3]
    by_cases c4 : a5 < 0
    · rw [if_pos c4]
      exact if_pos trivial
    rw [if_neg c4]
    by_cases c5 : a5 ≥ a4
    · rw [if_pos c5]
      exact if_pos trivial
    rw [if_neg c5]
    by_cases c6 : a6 < 1
    · rw [if_pos c6]
      exact if_pos trivial
    rw [if_neg c6]
    rw [if_pos (decide_eq_true (Decidable.by_contra fun hn => h ⟨cb, by omega, by omega, by omega, by omega, by omega, by omega, by omega, by omega⟩))]
theorem fault_eq (k : Nat) (n a0 a1 a2 a3 a4 a5 a6 : Int) : hopmeshref50_Fault.f (k + 2) n a0 a1 a2 a3 a4 a5 a6 = loop_fault.f n a0 a1 a2 a3 a4 a5 a6 := by
  unfold hopmeshref50_Fault.f loop_fault.f
  simp only [node_eq, Option.bind_some, decide_eq_true_eq, fault_j0]
  by_cases h : 0 ≤ a0 ∧ a0 ≤ 127 ∧ 0 ≤ a1 ∧ a1 < n ∧ 0 ≤ a2 ∧ a2 < n ∧ 0 ≤ a3 ∧ a3 < n ∧ 1 ≤ a4 ∧ a4 ≤ 512 ∧ 0 ≤ a5 ∧ a5 < a4 ∧ 1 ≤ a6 ∧ a6 ≤ 1024
  · rw [if_pos h, if_pos (by omega), if_pos (by omega), if_pos (by omega)]
  · rw [if_neg h]
    split
    · split
      · rw [if_neg (by omega)]
      · rw [if_neg (by simp)]
    · rw [if_neg (by simp)]
theorem fits_eq (a0 a1 a2 a3 a4 a5 a6 s0 s1 : Int) : hopmeshref50_fits.f a0 a1 a2 a3 a4 a5 a6 s0 s1 = loop_fits.f a0 a1 a2 a3 a4 a5 a6 s0 s1 := rfl
theorem right_eq (k : Nat) (a0 a1 a2 a3 a4 a5 a6 s0 s1 : Int) : hopmeshref50_check.f (k + 2) a0 a1 a2 a3 a4 a5 a6 s0 s1 = loop_right.f a0 a1 a2 a3 a4 a5 a6 s0 s1 := by
  unfold hopmeshref50_check.f loop_right.f
  rw [fault_eq]
  rfl
theorem fits_some (a0 a1 a2 a3 a4 a5 a6 s0 s1 : Int) : ∃ b, loop_fits.f a0 a1 a2 a3 a4 a5 a6 s0 s1 = some b := by
  unfold loop_fits.f
  repeat' split
  all_goals (first | exact ⟨_, rfl⟩)
theorem fault_some (n a0 a1 a2 a3 a4 a5 a6 : Int) : ∃ e, loop_fault.f n a0 a1 a2 a3 a4 a5 a6 = some e := by
  unfold loop_fault.f
  repeat' split
  all_goals exact ⟨_, rfl⟩
theorem right_some (a0 a1 a2 a3 a4 a5 a6 s0 s1 : Int) : ∃ e, loop_right.f a0 a1 a2 a3 a4 a5 a6 s0 s1 = some e := by
  unfold loop_right.f
  obtain ⟨e, he⟩ := fault_some 32 a0 a1 a2 a3 a4 a5 a6
  obtain ⟨b, hb⟩ := fits_some a0 a1 a2 a3 a4 a5 a6 s0 s1
  rw [he, Option.bind_some, hb, Option.bind_some]
  repeat' split
  all_goals exact ⟨_, rfl⟩
end Go.Proofs.Ytnjljajopdpjjaa.S
