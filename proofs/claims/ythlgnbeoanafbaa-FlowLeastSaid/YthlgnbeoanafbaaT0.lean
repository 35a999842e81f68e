/- Plain lemmas of the laws of chapter 32: the hyperperiod. -/
import Derived.Test.YthlgnbeoanafbaaPXx13
import Derived.Test.YthlgnbeoanafbaaS0
namespace Go.Proofs.Ythlgnbeoanafbaa.S
open Go.RowKit Go.Proofs.Ythlgnbeoanafbaa Go.Proofs.Ythlgnbeoanafbaa.PX Go.Proofs.YthlgnbeoanafbaaW.PrintWords

/-! the hyperperiod -/
def per (l : List S23) (j : Nat) : Int := (rd_T23 l j).f3
theorem lcm_iff {x p n : Int} (hx : 1 ≤ x) (hp : 1 ≤ p) : x / (Int.gcd x p : Int) * p ∣ n ↔ x ∣ n ∧ p ∣ n := by
  obtain ⟨a, rfl⟩ := Int.eq_ofNat_of_zero_le (show 0 ≤ x by omega)
  obtain ⟨b, rfl⟩ := Int.eq_ofNat_of_zero_le (show 0 ≤ p by omega)
  have e : ((a : Int) / (Int.gcd (a : Int) (b : Int) : Int) * (b : Int)) = ((Nat.lcm a b : Nat) : Int) := by
    rw [Int.gcd_natCast_natCast, ← Int.natCast_ediv, ← Int.natCast_mul]
    congr 1
    unfold Nat.lcm
    rw [Nat.div_mul_right_comm (Nat.gcd_dvd_left a b)]
  rw [e]
  have h1 : ∀ m : Nat, ((m : Int) ∣ n ↔ m ∣ n.natAbs) := fun m => Int.ofNat_dvd_left
  rw [h1, h1, h1]
  exact ⟨fun h => ⟨Nat.dvd_trans (Nat.dvd_lcm_left a b) h, Nat.dvd_trans (Nat.dvd_lcm_right a b) h⟩, fun h => Nat.lcm_dvd h.1 h.2⟩
theorem hyper_pos {l : List S23} (hl : ∀ j, j < l.length → 1 ≤ per l j) : ∀ i, i ≤ l.length → 1 ≤ hyperAt l i := by
  intro i
  induction i with
  | zero => intro _; simp [hyperAt]
  | succ i ih =>
    intro hi
    have h1 := ih (by omega)
    have h2 := hl i (by omega)
    have hg : 0 < Int.gcd (hyperAt l i) (per l i) := Int.gcd_pos_of_ne_zero_left _ (by omega)
    have hle : (Int.gcd (hyperAt l i) (per l i) : Int) ≤ hyperAt l i := Int.le_of_dvd (by omega) (Int.gcd_dvd_left ..)
    have h3 : 1 ≤ hyperAt l i / (Int.gcd (hyperAt l i) (per l i) : Int) := by
      have : 0 < hyperAt l i / (Int.gcd (hyperAt l i) (per l i) : Int) := Int.ediv_pos_of_pos_of_dvd (by omega) (by omega) (Int.gcd_dvd_left ..)
      omega
    have h4 : 1 * 1 ≤ hyperAt l i / (Int.gcd (hyperAt l i) (per l i) : Int) * per l i := Int.mul_le_mul h3 h2 (by omega) (by omega)
    simpa [hyperAt, per] using h4
theorem hyper_iff {l : List S23} (hl : ∀ j, j < l.length → 1 ≤ per l j) (n : Int) : ∀ i, i ≤ l.length → (hyperAt l i ∣ n ↔ ∀ j, j < i → per l j ∣ n) := by
  intro i
  induction i with
  | zero => intro _; simp [hyperAt]
  | succ i ih =>
    intro hi
    have h1 := ih (by omega)
    have e : hyperAt l (i + 1) = hyperAt l i / (Int.gcd (hyperAt l i) (per l i) : Int) * per l i := rfl
    rw [e, lcm_iff (hyper_pos hl i (by omega)) (hl i (by omega)), h1]
    constructor
    · intro ⟨a, b⟩ j hj
      rcases Nat.lt_succ_iff_lt_or_eq.1 hj with h | rfl
      · exact a j h
      · exact b
    · intro h
      exact ⟨fun j hj => h j (by omega), h i (by omega)⟩
theorem hyper_mono {l : List S23} (hl : ∀ j, j < l.length → 1 ≤ per l j) {i : Nat} (hi : i ≤ l.length) : hyperAt l i ≤ hyperAt l l.length := by
  refine Int.le_of_dvd (by have := hyper_pos hl l.length (Nat.le_refl _); omega) ?_
  rw [hyper_iff hl _ i hi]
  intro j hj
  have h := (hyper_iff hl (hyperAt l l.length) l.length (Nat.le_refl _)).1 (Int.dvd_refl _)
  exact h j (by omega)
theorem hyper_over {l : List S23} (hl : ∀ j, j < l.length → 1 ≤ per l j) : hyperOver l = true ↔ 512 < hyperAt l l.length := by
  unfold hyperOver
  rw [List.any_eq_true]
  constructor
  · rintro ⟨i, hi, h⟩
    have hi := List.mem_range.1 hi
    have h := of_decide_eq_true h
    have := hyper_mono hl (i := i + 1) (by omega)
    omega
  · intro h
    cases hn : l.length with
    | zero => rw [hn] at h; simp [hyperAt] at h
    | succ m => exact ⟨m, List.mem_range.2 (by omega), decide_eq_true (by rw [← hn]; exact h)⟩
/-- The hyperperiod, or the error. -/
def hyp (l : List S23) : Int × Int := if 512 < hyperAt l l.length then (0, 21) else (hyperAt l l.length, 0)
end Go.Proofs.Ythlgnbeoanafbaa.S
