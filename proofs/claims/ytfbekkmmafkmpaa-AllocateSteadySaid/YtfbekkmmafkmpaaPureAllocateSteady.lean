/- AllocateSteady: a steady demand settles where the decision is neither to add nor to delete. -/
import Derived.Test.YtfbekkmmafkmpaaPXx31
import Derived.Test.YtfbekkmmafkmpaaB
namespace Go.Proofs.Ytfbekkmmafkmpaa.Pure
open Go.RowKit Go.Proofs.Ytfbekkmmafkmpaa.PX Go.Proofs.Ytfbekkmmafkmpaa.S Go.Proofs.YtfbekkmmafkmpaaW.PrintWords Go.Proofs.YtfbekkmmafkmpaaW.PrintMore
set_option linter.unusedVariables false

theorem wfu8 {n : Int} (h : (Lit.int .u8 n).wf = true) : 0 ≤ n ∧ n ≤ 255 := by
  simp only [Lit.wf, Bool.and_eq_true, decide_eq_true_eq] at h
  exact h
/-- What is said of the number at which a demand settles. -/
def saidOf (mo le n d r : Int) : Option Bool := if r < le then (some false) else (if r > (mx (mx n mo) le) then (some false) else (if r = 0 then (if r ≤ (mx 1 le) then (some true) else (some (decide ((wrap64 (4 * (mn d r))) ≥ r)))) else (if r ≥ mo then (if r ≤ (mx 1 le) then (some true) else (some (decide ((wrap64 (4 * (mn d r))) ≥ r)))) else (if (wrap64 (4 * (mn d r))) < (wrap64 (3 * r)) then (if r ≤ (mx 1 le) then (some true) else (some (decide ((wrap64 (4 * (mn d r))) ≥ r)))) else (some false)))))
theorem said_true {mo le n d r : Int} (hd : 0 ≤ d) (h0 : 0 ≤ le) (h1 : le ≤ mo) (h2 : mo ≤ 64) (n0 : 0 ≤ n) (n1 : n ≤ 64) (r0 : 0 ≤ r) (r1 : r ≤ 64) (hs : (stepOf d le mo r).1 = 0) (hr : r ≤ mo ∨ r ≤ n) : saidOf mo le n d r = some true := by
  obtain ⟨s1, s2⟩ := step_stop hs
  have hm := mn_bd hd r0
  unfold saidOf
  generalize mn d r = m at *
  have w1 : wrap64 (4 * m) = 4 * m := by unfold wrap64; omega
  have w2 : wrap64 (3 * r) = 3 * r := by unfold wrap64; omega
  have x1 : r ≤ mx (mx n mo) le := by
    unfold mx
    split <;> split <;> omega
  have x2 : ¬ r ≤ mx 1 le → le < r ∧ 1 < r := by
    unfold mx
    split <;> omega
  rw [w1, w2, if_neg (by omega), if_neg (by omega)]
  have fin : (if r ≤ (mx 1 le) then (some true) else (some (decide (4 * m ≥ r)))) = some true := by
    split
    · rfl
    · rename_i hc
      have := x2 hc
      exact congrArg some (decide_eq_true (by omega))
  by_cases c0 : r = 0
  · rw [if_pos c0]
    exact fin
  rw [if_neg c0]
  by_cases c1 : r ≥ mo
  · rw [if_pos c1]
    exact fin
  rw [if_neg c1, if_pos (by omega)]
  exact fin
theorem AllocateSteady : hopmeshlaw29_AllocateSteady.Pure := by
  intro n d le mo hn hd hle hmo
  have hn := wfu8 hn
  have hd := wfu8 hd
  have hle := wfu8 hle
  have hmo := wfu8 hmo
  refine Ev.rounds ?_
  unfold hopmeshlaw29_AllocateSteady.f
  refine Ev.bind ev_awake ?_
  simp only [if_true]
  have w0 : ∀ x : Int, 0 ≤ x → x ≤ 255 → wrap64 x = x := fun x h1 h2 => by unfold wrap64; omega
  rw [w0 n hn.1 hn.2, w0 d hd.1 hd.2, w0 le hle.1 hle.2, w0 mo hmo.1 hmo.2, Int.tmod_eq_emod_of_nonneg hn.1, Int.tmod_eq_emod_of_nonneg hd.1, Int.tmod_eq_emod_of_nonneg hmo.1, Int.tmod_eq_emod_of_nonneg hle.1, w0 (mo % 65 + 1) (by omega) (by omega)]
  have hl0 := Int.emod_nonneg le (b := mo % 65 + 1) (by omega)
  have hl1 := Int.emod_lt_of_pos le (b := mo % 65 + 1) (by omega)
  obtain ⟨M, hM⟩ : ∃ M, mo % 65 = M := ⟨_, rfl⟩
  have M0 : 0 ≤ M ∧ M ≤ 64 := by omega
  rw [hM] at hl0 hl1 ⊢
  obtain ⟨L, hL⟩ : ∃ L, le % (M + 1) = L := ⟨_, rfl⟩
  rw [hL] at hl0 hl1 ⊢
  obtain ⟨N, hN⟩ : ∃ N, n % 65 = N := ⟨_, rfl⟩
  have N0 : 0 ≤ N ∧ N ≤ 64 := by omega
  rw [hN]
  obtain ⟨D, hD⟩ : ∃ D, d % 80 = D := ⟨_, rfl⟩
  have D0 : 0 ≤ D ∧ D ≤ 79 := by omega
  rw [hD]
  clear hn hd hle hmo w0 hM hL hN hD
  simp only [if_neg (show ¬ M + 1 = 0 by omega)]
  obtain ⟨r, e1, e2, e3, e4, e5⟩ := settle_any D0.1 hl0 (show L ≤ M by omega) M0.2 N0.1 N0.2
  have s1 := Settle_is D0.1 hl0 (show L ≤ M by omega) M0.2 (by omega) N0.1 N0.2 e1
  have s2 := Settle_is D0.1 hl0 (show L ≤ M by omega) M0.2 (by omega) e3 e4 (settle_stop D0.1 hl0 (show L ≤ M by omega) M0.2 e3 e4 e2)
  refine Ev.bind s1 ?_
  refine Ev.bind s2 ?_
  simp only [if_true, if_neg (show ¬ r < 0 by omega)]
  rw [decide_eq_false (show ¬ r > 64 by omega)]
  have hsaid : saidOf M L N D r = some true := said_true D0.1 hl0 (by omega) M0.2 N0.1 N0.2 e3 e4 e2 e5
  by_cases hr : r > 0
  · obtain ⟨R, rfl⟩ := Int.eq_ofNat_of_zero_le e3
    obtain ⟨K1, h1⟩ := cells_is R D (by omega)
    obtain ⟨K2, h2⟩ := Decide_cells D0.1 hl0 (show L ≤ M by omega) M0.2 R (by omega)
    refine ⟨K1 + K2 + 2, fun k hk => ?_⟩
    obtain ⟨k, rfl⟩ : ∃ m, k = m + 2 := ⟨k - 2, by omega⟩
    have g1 : hopmeshlaw29_cells.f (k + 1) (R : Int) D = some (cellsOf R D) := h1 (k + 1) (by omega)
    have g2 : allocate_Decide.f (k + 1) (cellsOf R D) 0 L M = some ((stepOf D L M (R : Int)).1, (stepOf D L M (R : Int)).2, 0) := h2 (k + 1) (by omega)
    simp only [hopmeshlaw29_AllocateSteady.j0]
    rw [if_neg (by simp), if_pos hr, g1, Option.bind_some, g2, Option.bind_some, if_pos rfl, e2]
    simp only [hopmeshlaw29_AllocateSteady.j1]
    rw [if_neg (by simp)]
    exact hsaid
  · refine ev1 fun k => ?_
    simp only [hopmeshlaw29_AllocateSteady.j0]
    rw [if_neg (by simp), if_neg hr]
    exact hsaid
end Go.Proofs.Ytfbekkmmafkmpaa.Pure
