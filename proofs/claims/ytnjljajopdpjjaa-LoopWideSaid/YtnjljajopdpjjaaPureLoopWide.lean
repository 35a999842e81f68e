/- LoopWide: the wide splits fit, with a greater second part none of them does, and each split that fits is at most as great as one of them. -/
import Derived.Test.YtnjljajopdpjjaaQLoopWide
import Derived.Test.YtnjljajopdpjjaaA
namespace Go.Proofs.Ytnjljajopdpjjaa.Pure
open Go.RowKit Go.Proofs.Ytnjljajopdpjjaa.PX Go.Proofs.Ytnjljajopdpjjaa.S Go.Proofs.YtnjljajopdpjjaaW.PrintWords
set_option linter.unusedVariables false

/-- The wide splits whose first part is at most so much. -/
def wideTo (sum : Int) (i : Nat) : List S25 := (List.range i).map (fun j : Nat => (⟨(j : Int) + 1, sum - 1 - j⟩ : S25))
theorem wideTo_snoc (sum : Int) (i : Nat) : wideTo sum i ++ [⟨(i : Int) + 1, sum - 1 - i⟩] = wideTo sum (i + 1) := by
  unfold wideTo
  rw [List.range_succ, List.map_append]
  rfl
theorem wideTo_len (sum : Int) (i : Nat) : (wideTo sum i).length = i := by
  unfold wideTo
  rw [List.length_map, List.length_range]
theorem splits_loop (sum : Int) (h0 : -1000 ≤ sum) (h1 : sum ≤ 1000) (m : Nat) (hm : (m : Int) = if sum - 1 > 0 then sum - 1 else 0) : ∀ d i : Nat, i + d = m → Ev (fun k => loop_Splits.l0 k sum (wideTo sum i) (m : Int) (i : Int)) (wideTo sum m, 0) := by
  intro d
  induction d with
  | zero =>
    intro i hi
    obtain rfl : i = m := by omega
    refine ev1 fun k => ?_
    simp only [loop_Splits.l0]
    rw [if_neg (by omega)]
  | succ d ih =>
    intro i hi
    have hb : (m : Int) ≤ 1000 := by split at hm <;> omega
    have hw : wrap64 ((i : Int) + 1) = ((i : Int) + 1) := by unfold wrap64; omega
    have hw2 : wrap64 (wrap64 (sum - 1) - (i : Int)) = sum - 1 - i := by
      rw [show wrap64 (sum - 1) = sum - 1 by unfold wrap64; omega]
      unfold wrap64
      omega
    refine Ev.step (fun k => ?_) (ih (i + 1) (by omega))
    simp only [loop_Splits.l0]
    rw [if_pos (by omega), if_pos (by rw [wideTo_len]; omega), hw, hw2, wideTo_snoc]
    rfl
theorem wideTo_rd {sum : Int} {m i : Nat} (h : i < m) : rd_T25 (wideTo sum m) (i : Int) = ⟨(i : Int) + 1, sum - 1 - i⟩ := by
  unfold rd_T25 wideTo
  rw [Int.toNat_natCast, List.getD_eq_getElem?_getD, List.getElem?_map, List.getElem?_range h]
  rfl
theorem fits_is (a0 a1 a2 a3 P a5 G s0 s1 : Int) (hP : 1 ≤ P ∧ P ≤ 512) (hG : 1 ≤ G ∧ G ≤ 1024) : loop_fits.f a0 a1 a2 a3 P a5 G s0 s1 = some (decide (1 ≤ s0 ∧ 1 ≤ s1 ∧ s0 + s1 ≤ P ∧ P + s0 + s1 - 1 ≤ G)) := by
  unfold loop_fits.f
  by_cases d1 : s0 ≥ 1
  rotate_left
  · rw [if_neg d1]
    exact congrArg some (decide_eq_false (by omega)).symm
  by_cases d2 : s1 ≥ 1
  rotate_left
  · rw [if_pos d1, if_neg d2]
    exact congrArg some (decide_eq_false (by omega)).symm
  by_cases d3 : s0 ≤ P
  rotate_left
  · rw [if_pos d1, if_pos d2, if_neg d3]
    exact congrArg some (decide_eq_false (by omega)).symm
  by_cases d4 : s1 ≤ P
  rotate_left
  · rw [if_pos d1, if_pos d2, if_pos d3, if_neg d4]
    exact congrArg some (decide_eq_false (by omega)).symm
  have w1 : wrap64 (s0 + s1) = s0 + s1 := by unfold wrap64; omega
  have w2 : wrap64 (P + s0) = P + s0 := by unfold wrap64; omega
  have w3 : wrap64 (P + s0 + s1) = P + s0 + s1 := by unfold wrap64; omega
  have w4 : wrap64 (P + s0 + s1 - 1) = P + s0 + s1 - 1 := by unfold wrap64; omega
  rw [if_pos d1, if_pos d2, if_pos d3, if_pos d4, w1]
  by_cases d5 : s0 + s1 ≤ P
  rotate_left
  · rw [if_neg d5]
    exact congrArg some (decide_eq_false (by omega)).symm
  rw [if_pos d5]
  unfold loop_worst.f
  rw [w2, w3, w4, Option.bind_some]
  exact congrArg some (decide_eq_decide.2 (by omega))
theorem right_is {l : S23} (hf : loop_fault.f 32 l.f0 l.f1 l.f2 l.f3 l.f4 l.f5 l.f6 = some 0) (hP : 1 ≤ l.f4 ∧ l.f4 ≤ 512) (hG : 1 ≤ l.f6 ∧ l.f6 ≤ 1024) (s0 s1 : Int) :
    loop_right.f l.f0 l.f1 l.f2 l.f3 l.f4 l.f5 l.f6 s0 s1 = some (if 1 ≤ s0 ∧ 1 ≤ s1 ∧ s0 + s1 ≤ l.f4 ∧ l.f4 + s0 + s1 - 1 ≤ l.f6 then 0 else 11) := by
  unfold loop_right.f
  rw [hf, Option.bind_some, if_pos rfl, fits_is _ _ _ _ _ _ _ _ _ hP hG, Option.bind_some]
  by_cases h : 1 ≤ s0 ∧ 1 ≤ s1 ∧ s0 + s1 ≤ l.f4 ∧ l.f4 + s0 + s1 - 1 ≤ l.f6
  · rw [decide_eq_true h, if_pos rfl, if_pos h]
  · rw [decide_eq_false h, if_neg (by simp), if_neg h]
theorem LoopWide : hopmeshlaw50_LoopWide.Pure := by
  intro l s _ _
  refine Ev.rounds ?_
  unfold hopmeshlaw50_LoopWide.f
  refine Ev.bind ev_awake ?_
  simp only [if_true]
  obtain ⟨e, he⟩ := fault_some 32 l.f0 l.f1 l.f2 l.f3 l.f4 l.f5 l.f6
  by_cases h0 : e = 0
  · subst h0
    have hP : 1 ≤ l.f4 ∧ l.f4 ≤ 512 ∧ 1 ≤ l.f6 ∧ l.f6 ≤ 1024 := by
      have he := he
      unfold loop_fault.f at he
      split at he
      · omega
      · simp at he
    obtain ⟨sum, hs⟩ : ∃ s, s = mn l.f4 (wrap64 (wrap64 (l.f6 - l.f4) + 1)) := ⟨_, rfl⟩
    have hw0 : wrap64 (wrap64 (l.f6 - l.f4) + 1) = l.f6 - l.f4 + 1 := by
      rw [show wrap64 (l.f6 - l.f4) = l.f6 - l.f4 by unfold wrap64; omega]
      unfold wrap64
      omega
    have hsm : sum ≤ l.f4 ∧ sum ≤ l.f6 - l.f4 + 1 ∧ (sum = l.f4 ∨ sum = l.f6 - l.f4 + 1) := by
      rw [hs, hw0]
      unfold mn
      split <;> omega
    have hsb : -1000 ≤ sum ∧ sum ≤ 512 := by omega
    obtain ⟨m, hm⟩ : ∃ m : Nat, (m : Int) = if sum - 1 > 0 then sum - 1 else 0 := ⟨(if sum - 1 > 0 then sum - 1 else 0).toNat, by split <;> omega⟩
    have hsp : Ev (fun k => loop_Splits.f k l.f0 l.f1 l.f2 l.f3 l.f4 l.f5 l.f6) (wideTo sum m, 0) := by
      unfold loop_Splits.f
      rw [he]
      simp only [Option.bind_some, if_true]
      have := splits_loop sum hsb.1 (by omega) m hm m 0 (by omega)
      rw [← hs, show wrap64 (sum - 1) = sum - 1 by unfold wrap64; omega, show mx (sum - 1) 0 = (m : Int) by rw [hm]; unfold mx; split <;> split <;> omega]
      exact this
    refine Ev.bind hsp ?_
    have hm1 : (m : Int) ≤ 512 := by split at hm <;> omega
    have c2 : (List.range (wideTo sum m).length).all (goodW ⟨l.f0, l.f1, l.f2, l.f3, l.f4, l.f5, l.f6⟩ (wideTo sum m)) = true := by
      rw [List.all_eq_true]
      intro i hi
      rw [List.mem_range, wideTo_len] at hi
      have hi2 : (i : Int) < sum - 1 := by split at hm <;> omega
      unfold goodW
      rw [wideTo_rd hi]
      refine decide_eq_true ⟨?_, ?_, fun h1 => ?_⟩
      · refine (right_is he ⟨hP.1, hP.2.1⟩ hP.2.2 _ _).trans (congrArg some (if_pos ?_))
        dsimp only
        omega
      · refine (right_is he ⟨hP.1, hP.2.1⟩ hP.2.2 _ _).trans (congrArg some (if_neg ?_))
        dsimp only
        omega
      · rw [show (i : Int) - 1 = ((i - 1 : Nat) : Int) by omega, wideTo_rd (show i - 1 < m by omega)]
        dsimp only
        omega
    have c3 : endW ⟨l.f0, l.f1, l.f2, l.f3, l.f4, l.f5, l.f6⟩ ⟨s.f0, s.f1⟩ (wideTo sum m) = true := by
      unfold endW
      dsimp only
      rw [right_is he ⟨hP.1, hP.2.1⟩ hP.2.2, wideTo_len, beq_iff_eq, Bool.eq_iff_iff, decide_eq_true_eq, Bool.and_eq_true, decide_eq_true_eq, List.any_eq_true]
      constructor
      · intro h
        by_cases hf : 1 ≤ s.f0 ∧ 1 ≤ s.f1 ∧ s.f0 + s.f1 ≤ l.f4 ∧ l.f4 + s.f0 + s.f1 - 1 ≤ l.f6
        · refine ⟨⟨(s.f0 - 1).toNat, ?_, ?_⟩, hf.2.1⟩
          · rw [List.mem_range]
            split at hm <;> omega
          · rw [wideTo_rd (by split at hm <;> omega)]
            unfold coverB
            simp only [Bool.and_eq_true, beq_iff_eq, decide_eq_true_eq]
            omega
        · rw [if_neg hf] at h
          simp at h
      · rintro ⟨⟨i, hi, hc⟩, h1⟩
        rw [List.mem_range] at hi
        have hi2 : (i : Int) < sum - 1 := by split at hm <;> omega
        rw [wideTo_rd hi] at hc
        unfold coverB at hc
        simp only [Bool.and_eq_true, beq_iff_eq, decide_eq_true_eq] at hc
        rw [if_pos (by omega)]
    simp only [if_true]
    rw [if_pos ⟨by rw [wideTo_len]; omega, c2, c3⟩]
    exact Ev.now true
  · have hsp : Ev (fun k => loop_Splits.f k l.f0 l.f1 l.f2 l.f3 l.f4 l.f5 l.f6) ([], e) := by
      unfold loop_Splits.f
      rw [he]
      simp only [Option.bind_some, if_neg h0]
      exact Ev.now _
    refine Ev.bind hsp ?_
    simp only [if_neg h0, List.length_nil, if_true]
    exact Ev.now true
end Go.Proofs.Ytnjljajopdpjjaa.Pure
