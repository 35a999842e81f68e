/- Plain lemmas of the laws of chapter 32: frames. -/
import Derived.Test.YthlgnbeoanafbaaPXx9
import Derived.Test.YthlgnbeoanafbaaPXx28
import Derived.Test.YthlgnbeoanafbaaPXx32
import Derived.Test.YthlgnbeoanafbaaS0
namespace Go.Proofs.Ythlgnbeoanafbaa.S
open Go.RowKit Go.Proofs.Ythlgnbeoanafbaa Go.Proofs.Ythlgnbeoanafbaa.PX Go.Proofs.YthlgnbeoanafbaaW.PrintWords

/-- So many numbers from p on. -/
def run (p : Int) (n : Nat) : List Int := (List.range n).map (fun i : Nat => p + (i : Int))
theorem run_length (p : Int) (n : Nat) : (run p n).length = n := by unfold run; simp
theorem run_succ (p : Int) (n : Nat) : run p (n + 1) = run p n ++ [p + (n : Int)] := by unfold run; rw [List.range_succ, List.map_append]; rfl
theorem run_get (p : Int) (n j : Nat) (h : j < n) : (run p n).getD j 0 = p + (j : Int) := by
  rw [List.getD_eq_getElem?_getD]
  unfold run
  rw [List.getElem?_map, List.getElem?_range h]
  rfl
/-- What Frames returns. -/
def frm (x0 x1 x2 x3 x4 x5 a b : Int) : List Int × Int :=
  if fault 32 x0 x1 x2 x3 x4 x5 = 0 then (if a < 0 ∨ a > b ∨ b > 1099511627776 then ([], 2) else if aheadOf x4 x3 b - aheadOf x4 x3 a > 1024 then ([], 8) else (run (aheadOf x4 x3 a) (aheadOf x4 x3 b - aheadOf x4 x3 a).toNat, 0)) else ([], 1)
theorem frames_eq (x0 x1 x2 x3 x4 x5 a b : Int) : flow_Frames.f x0 x1 x2 x3 x4 x5 a b = some (frm x0 x1 x2 x3 x4 x5 a b) := by
  unfold flow_Frames.f frm
  rw [alone_eq, Option.bind_some]
  by_cases hf : fault 32 x0 x1 x2 x3 x4 x5 = 0
  · rw [if_pos hf, if_pos hf]
    by_cases h1 : a < 0
    · rw [if_pos h1, if_pos (.inl h1)]
    · rw [if_neg h1]
      by_cases h2 : a > b
      · rw [if_pos h2, if_pos (.inr (.inl h2))]
      · rw [if_neg h2]
        by_cases h3 : b > 1099511627776
        · rw [if_pos h3, if_pos (.inr (.inr h3))]
        · rw [if_neg h3, if_neg (show ¬ (a < 0 ∨ a > b ∨ b > 1099511627776) by omega)]
          by_cases h4 : aheadOf x4 x3 b - aheadOf x4 x3 a > 1024
          · rw [if_pos h4, if_pos h4]
          · rw [if_neg h4, if_neg h4]
            rfl
  · rw [if_neg hf, if_neg hf]
theorem lt_ahead {phase p n b : Int} (hp : 1 ≤ p) (hn : 0 ≤ n) : phase + n * p < b ↔ n < aheadOf phase p b := by
  unfold aheadOf
  have h0 : 0 ≤ n * p := Int.mul_nonneg hn (by omega)
  have key : ∀ x : Int, n < (x + p - 1) / p ↔ n * p < x := by
    intro x
    rw [show (n < (x + p - 1) / p) ↔ n + 1 ≤ (x + p - 1) / p from Iff.rfl, Int.le_ediv_iff_mul_le (by omega), Int.add_mul, Int.one_mul]
    omega
  rw [key]
  split <;> omega
theorem current_eq (x0 x1 x2 x3 x4 x5 a : Int) (h : -9223372036854775808 ≤ a ∧ a ≤ 9223372036854775807) : flow_Current.f x0 x1 x2 x3 x4 x5 a = some (if fault 32 x0 x1 x2 x3 x4 x5 = 0 ∧ x4 ≤ a ∧ a ≤ 1099511627776 then ((a - x4) / x3, true) else (0, false)) := by
  unfold flow_Current.f
  rw [alone_eq]
  simp only [Option.bind_some]
  by_cases hf : fault 32 x0 x1 x2 x3 x4 x5 = 0
  · have hg := fault_zero hf
    unfold S.Good at hg
    rw [if_pos hf]
    by_cases h1 : a < x4
    · rw [if_pos h1, if_neg (by omega)]
    · rw [if_neg h1]
      by_cases h2 : a > 1099511627776
      · rw [if_pos h2, if_neg (by omega)]
      · rw [if_neg h2, if_neg (by omega), if_pos ⟨hf, by omega, by omega⟩, w64 (n := a - x4) (by omega), Int.tdiv_eq_ediv_of_nonneg (by omega)]
        have h3 := Int.ediv_le_self (a := a - x4) x3 (by omega)
        have h4 : 0 ≤ (a - x4) / x3 := Int.ediv_nonneg (by omega) (by omega)
        rw [w64 (by omega)]
  · rw [if_neg hf, if_neg (by intro h; exact hf h.1)]
theorem equal_loop (l : List Int) (hl : l.length ≤ 1000000) : ∀ d i : Nat, i + d = l.length → Ev (fun k => slices_Equal_int_int.l0 k l l (l.length : Int) (i : Int)) true := by
  intro d
  induction d with
  | zero =>
    intro i hi
    refine ev1 fun k => ?_
    simp only [slices_Equal_int_int.l0]
    rw [if_neg (by omega)]
  | succ d ih =>
    intro i hi
    refine Ev.step (fun k => ?_) (ih (i + 1) (by omega))
    simp only [slices_Equal_int_int.l0, if_true]
    rw [if_pos (by omega), if_pos (by omega), if_pos (by omega), if_pos (by omega), w64 (by omega)]
    rfl
theorem equal_ev (l : List Int) (hl : l.length ≤ 1000000) : Ev (fun k => slices_Equal_int_int.f k l l) true := by
  unfold slices_Equal_int_int.f
  simp only [if_true]
  exact equal_loop l hl l.length 0 (by omega)
theorem frm_length (x0 x1 x2 x3 x4 x5 a b : Int) : (frm x0 x1 x2 x3 x4 x5 a b).1.length ≤ 1024 := by
  unfold frm
  split
  · split
    · simp
    · split
      · simp
      · simp only [run_length]; omega
  · simp
end Go.Proofs.Ythlgnbeoanafbaa.S
