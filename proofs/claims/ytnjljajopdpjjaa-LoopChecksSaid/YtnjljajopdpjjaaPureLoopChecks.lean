/- LoopChecks: Check returns the first loop with a fault, as the reference says. -/
import Derived.Test.YtnjljajopdpjjaaQLoopChecks
import Derived.Test.YtnjljajopdpjjaaA
namespace Go.Proofs.Ytnjljajopdpjjaa.Pure
open Go.RowKit Go.Proofs.Ytnjljajopdpjjaa.PX Go.Proofs.Ytnjljajopdpjjaa.S Go.Proofs.YtnjljajopdpjjaaW.PrintWords

theorem check_loop (n : Int) (l : List S23) (hl : l.length ≤ 8) : ∀ d i : Nat, i + d = l.length → ∃ r, Ev (fun k => loop_Check.l0 k n l l (l.length : Int) (i : Int)) r ∧ Ev (fun k => hopmeshref50_Check.l0 k n l (i : Int)) r := by
  intro d
  induction d with
  | zero =>
    intro i hi
    refine ⟨(-1, 0), ev1 fun k => ?_, ev1 fun k => ?_⟩
    · simp only [loop_Check.l0]
      rw [if_neg (by omega)]
    · simp only [hopmeshref50_Check.l0]
      rw [if_neg (by omega)]
  | succ d ih =>
    intro i hi
    obtain ⟨r, e1, e2⟩ := ih (i + 1) (by omega)
    have hw : wrap64 ((i : Int) + 1) = ((i + 1 : Nat) : Int) := by unfold wrap64; omega
    have hm : wrap64 ((i : Int) - 1) = (i : Int) - 1 := by unfold wrap64; omega
    obtain ⟨e, he⟩ := fault_some n (rd_T23 l i).f0 (rd_T23 l i).f1 (rd_T23 l i).f2 (rd_T23 l i).f3 (rd_T23 l i).f4 (rd_T23 l i).f5 (rd_T23 l i).f6
    obtain ⟨K, hK⟩ := e2
    by_cases h0 : e = 0
    · by_cases hi0 : (i : Int) > 0
      · by_cases hc : (rd_T23 l i).f0 ≤ (rd_T23 l ((i : Int) - 1)).f0
        · refine ⟨(i, 5), ev1 fun k => ?_, ⟨3, fun k hk => ?_⟩⟩
          · simp only [loop_Check.l0]
            rw [if_pos (by omega), if_pos (by omega), if_pos (by omega), he, Option.bind_some, if_pos h0, if_pos hi0, hm, if_pos (by omega), if_pos (by omega), if_pos hc]
          · obtain ⟨k, rfl⟩ : ∃ m, k = m + 3 := ⟨k - 3, by omega⟩
            simp only [hopmeshref50_Check.l0]
            rw [if_pos (by omega), if_pos (by omega), fault_eq, he, Option.bind_some, if_pos h0, if_pos hi0, hm, if_pos (by omega), if_pos (by omega), if_pos hc]
        · refine ⟨r, Ev.step (fun k => ?_) e1, ⟨K + 3, fun k hk => ?_⟩⟩
          · simp only [loop_Check.l0]
            rw [if_pos (by omega), if_pos (by omega), if_pos (by omega), he, Option.bind_some, if_pos h0, if_pos hi0, hm, if_pos (by omega), if_pos (by omega), if_neg hc, hw]
          · obtain ⟨k, rfl⟩ : ∃ m, k = m + 3 := ⟨k - 3, by omega⟩
            simp only [hopmeshref50_Check.l0]
            rw [if_pos (by omega), if_pos (by omega), fault_eq, he, Option.bind_some, if_pos h0, if_pos hi0, hm, if_pos (by omega), if_pos (by omega), if_neg hc, hw]
            exact hK (k + 2) (by omega)
      · refine ⟨r, Ev.step (fun k => ?_) e1, ⟨K + 3, fun k hk => ?_⟩⟩
        · simp only [loop_Check.l0]
          rw [if_pos (by omega), if_pos (by omega), if_pos (by omega), he, Option.bind_some, if_pos h0, if_neg hi0, hw]
        · obtain ⟨k, rfl⟩ : ∃ m, k = m + 3 := ⟨k - 3, by omega⟩
          simp only [hopmeshref50_Check.l0]
          rw [if_pos (by omega), if_pos (by omega), fault_eq, he, Option.bind_some, if_pos h0, if_neg hi0, hw]
          exact hK (k + 2) (by omega)
    · refine ⟨(i, e), ev1 fun k => ?_, ⟨3, fun k hk => ?_⟩⟩
      · simp only [loop_Check.l0]
        rw [if_pos (by omega), if_pos (by omega), if_pos (by omega), he, Option.bind_some, if_neg h0]
      · obtain ⟨k, rfl⟩ : ∃ m, k = m + 3 := ⟨k - 3, by omega⟩
        simp only [hopmeshref50_Check.l0]
        rw [if_pos (by omega), if_pos (by omega), fault_eq, he, Option.bind_some, if_neg h0]
theorem check_j (n : Int) (l : List S23) (b : Bool) (hb : b = decide (n > 32) ∨ b = true) : ∃ r, Ev (fun k => loop_Check.j0 k n l b) r ∧ Ev (fun k => hopmeshref50_Check.j0 k n l b) r := by
  cases b with
  | true => exact ⟨(-1, 2), ev1 fun k => by simp only [loop_Check.j0, if_true], ev1 fun k => by simp only [hopmeshref50_Check.j0, if_true]⟩
  | false =>
    by_cases hl : (l.length : Int) > 8
    · exact ⟨(-1, 8), ev1 fun k => by simp only [loop_Check.j0]; rw [if_neg (by simp), if_pos hl], ev1 fun k => by simp only [hopmeshref50_Check.j0]; rw [if_neg (by simp), if_pos hl]⟩
    · obtain ⟨r, e1, e2⟩ := check_loop n l (by omega) l.length 0 (by omega)
      refine ⟨r, Ev.step (fun k => ?_) e1, Ev.step (fun k => ?_) e2⟩
      · simp only [loop_Check.j0]
        rw [if_neg (by simp), if_neg hl]
        rfl
      · simp only [hopmeshref50_Check.j0]
        rw [if_neg (by simp), if_neg hl]
        rfl
theorem check_both (n : Int) (l : List S23) : ∃ r, Ev (fun k => loop_Check.f k n l) r ∧ Ev (fun k => hopmeshref50_Check.f k n l) r := by
  unfold loop_Check.f hopmeshref50_Check.f
  by_cases h : n < 2
  · simp only [if_pos h]
    exact check_j n l true (.inr rfl)
  · simp only [if_neg h]
    exact check_j n l _ (.inl rfl)
theorem LoopChecks : hopmeshlaw50_LoopChecks.Pure := by
  intro n l _ _ _
  refine Ev.rounds ?_
  unfold hopmeshlaw50_LoopChecks.f
  refine Ev.bind ev_awake ?_
  simp only [if_true]
  by_cases hl : (l.length : Int) > 12
  · refine Ev.step (fun k => ?_) (Ev.bind ev_awake (Ev.now true))
    rw [decide_eq_true hl]
    simp only [hopmeshlaw50_LoopChecks.j0, if_true]
  · obtain ⟨r, e1, e2⟩ := check_both n l
    refine Ev.step (f := fun k => (loop_Check.f k n l).bind fun a => (hopmeshref50_Check.f k n l).bind fun b => if a.1 = b.1 then some (a.2 == b.2) else some false) (fun k => ?_) (Ev.bind e1 (Ev.bind e2 ?_))
    · rw [decide_eq_false hl]
      simp only [hopmeshlaw50_LoopChecks.j0, Bool.false_eq_true, if_false]
    · simp only [if_true, beq_self_eq_true]
      exact Ev.now true
end Go.Proofs.Ytnjljajopdpjjaa.Pure
