/- LoopSplits: Worst, Splits and Flows return what the reference returns, for any loop and split. -/
import Derived.Test.YtnjljajopdpjjaaQLoopSplits
import Derived.Test.YtnjljajopdpjjaaA
namespace Go.Proofs.Ytnjljajopdpjjaa.Pure
open Go.RowKit Go.Proofs.Ytnjljajopdpjjaa.PX Go.Proofs.Ytnjljajopdpjjaa.S Go.Proofs.YtnjljajopdpjjaaW.PrintWords

theorem same_splits (l : List S25) (hl : l.length ≤ 1000) : Ev (fun k => api_Split_30.f k l l) true := by
  unfold api_Split_30.f
  simp only [if_true]
  have hh : ∀ d i : Nat, i + d = l.length → Ev (fun k => api_Split_30.l0 k l l (l.length : Int) (i : Int)) true := by
    intro d
    induction d with
    | zero =>
      intro i hi
      refine ev1 fun k => ?_
      simp only [api_Split_30.l0]
      rw [if_neg (by omega)]
    | succ d ih =>
      intro i hi
      have hw : wrap64 ((i : Int) + 1) = ((i + 1 : Nat) : Int) := by unfold wrap64; omega
      refine Ev.step (fun k => ?_) (ih (i + 1) (by omega))
      simp only [api_Split_30.l0]
      rw [if_pos (by omega), if_pos (by omega), if_pos (by omega), if_pos (by omega), if_neg (by simp), hw]
  exact hh l.length 0 (by omega)
theorem same_flows (l : List S39) (hl : l.length ≤ 1000) : Ev (fun k => api_Flow.f k l l) true := by
  unfold api_Flow.f
  simp only [if_true]
  have hh : ∀ d i : Nat, i + d = l.length → Ev (fun k => api_Flow.l0 k l l (l.length : Int) (i : Int)) true := by
    intro d
    induction d with
    | zero =>
      intro i hi
      refine ev1 fun k => ?_
      simp only [api_Flow.l0]
      rw [if_neg (by omega)]
    | succ d ih =>
      intro i hi
      have hw : wrap64 ((i : Int) + 1) = ((i + 1 : Nat) : Int) := by unfold wrap64; omega
      refine Ev.step (fun k => ?_) (ih (i + 1) (by omega))
      simp only [api_Flow.l0]
      rw [if_pos (by omega), if_pos (by omega), if_pos (by omega), if_pos (by omega), if_neg (by simp), hw]
  exact hh l.length 0 (by omega)
/-- The wide splits whose first part is at most so much. -/
def wideTo (sum : Int) (i : Nat) : List S25 := (List.range i).map (fun j : Nat => (⟨(j : Int) + 1, sum - 1 - j⟩ : S25))
theorem wideTo_snoc (sum : Int) (i : Nat) : wideTo sum i ++ [⟨(i : Int) + 1, sum - 1 - i⟩] = wideTo sum (i + 1) := by
  unfold wideTo
  rw [List.range_succ, List.map_append]
  rfl
theorem wideTo_len (sum : Int) (i : Nat) : (wideTo sum i).length = i := by
  unfold wideTo
  rw [List.length_map, List.length_range]
theorem splits_loop (sum : Int) (h0 : -1000 ≤ sum) (h1 : sum ≤ 1000) (m : Nat) (hm : (m : Int) = if sum - 1 > 0 then sum - 1 else 0) : ∀ d i : Nat, i + d = m → Ev (fun k => loop_Splits.l0 k sum (wideTo sum i) (m : Int) (i : Int)) (wideTo sum m, 0) := by
  intro d
  induction d with
  | zero =>
    intro i hi
    obtain rfl : i = m := by omega
    refine ev1 fun k => ?_
    simp only [loop_Splits.l0]
    rw [if_neg (by omega)]
  | succ d ih =>
    intro i hi
    have hb : (m : Int) ≤ 1000 := by split at hm <;> omega
    have hw : wrap64 ((i : Int) + 1) = ((i : Int) + 1) := by unfold wrap64; omega
    have hw2 : wrap64 (wrap64 (sum - 1) - (i : Int)) = sum - 1 - i := by
      rw [show wrap64 (sum - 1) = sum - 1 by unfold wrap64; omega]
      unfold wrap64
      omega
    refine Ev.step (fun k => ?_) (ih (i + 1) (by omega))
    simp only [loop_Splits.l0]
    rw [if_pos (by omega), if_pos (by rw [wideTo_len]; omega), hw, hw2, wideTo_snoc]
    rfl
theorem ref_splits (a0 a1 a2 a3 P a5 G sum : Int) (hP : 1 ≤ P ∧ P ≤ 512) (hG : 1 ≤ G ∧ G ≤ 1024) (hs : sum = mn P (wrap64 (wrap64 (G - P) + 1))) (m : Nat) (hm : (m : Int) = if sum - 1 > 0 then sum - 1 else 0) : ∀ d i : Nat, (i : Int) + d + 1 = P → Ev (fun k => hopmeshref50_Splits.l0 k (wideTo sum (if i ≤ m then i else m)) ((i : Int) + 1) a0 a1 a2 a3 P a5 G) (wideTo sum m, 0) := by
  have hw0 : wrap64 (wrap64 (G - P) + 1) = G - P + 1 := by
    rw [show wrap64 (G - P) = G - P by unfold wrap64; omega]
    unfold wrap64
    omega
  rw [hw0] at hs
  have hsum : sum ≤ P ∧ sum ≤ G - P + 1 ∧ (sum = P ∨ sum = G - P + 1) := by
    rw [hs]
    unfold mn
    split <;> omega
  intro d
  induction d with
  | zero =>
    intro i hi
    refine ev1 fun k => ?_
    simp only [hopmeshref50_Splits.l0]
    rw [if_neg (by omega)]
    have : (if i ≤ m then i else m) = m := by split at hm <;> split <;> omega
    rw [this]
  | succ d ih =>
    intro i hi
    have ih := ih (i + 1) (by omega)
    have hw1 : wrap64 ((i : Int) + 1 + 1) = ((i + 1 : Nat) : Int) + 1 := by unfold wrap64; omega
    have hw2 : wrap64 (sum - ((i : Int) + 1)) = sum - 1 - i := by unfold wrap64; omega
    have hfits : hopmeshref50_fits.f a0 a1 a2 a3 P a5 G ((i : Int) + 1) (sum - 1 - i) = some (decide (i < m)) := by
      unfold hopmeshref50_fits.f hopmeshref50_worst.f
      by_cases him : i < m
      · have hm2 : (i : Int) < sum - 1 := by split at hm <;> omega
        have w1 : wrap64 ((i : Int) + 1 + (sum - 1 - i)) = sum := by unfold wrap64; omega
        have w2 : wrap64 (P + ((i : Int) + 1)) = P + (i + 1) := by unfold wrap64; omega
        have w3 : wrap64 (P + ((i : Int) + 1) + (sum - 1 - i)) = P + sum := by unfold wrap64; omega
        have w4 : wrap64 (P + sum - 1) = P + sum - 1 := by unfold wrap64; omega
        rw [if_pos (by omega), if_pos (by omega), if_pos (by omega), if_pos (by omega), w1, if_pos (by omega), w2, w3, w4, Option.bind_some, decide_eq_true him]
        congr 1
        exact decide_eq_true (by omega)
      · have hm2 : sum - 1 ≤ (i : Int) := by split at hm <;> omega
        rw [if_pos (by omega), if_neg (by omega), decide_eq_false him]
    obtain ⟨K, hK⟩ := ih
    refine ⟨K + 1, fun k hk => ?_⟩
    obtain ⟨k, rfl⟩ : ∃ j, k = j + 1 := ⟨k - 1, by omega⟩
    simp only [hopmeshref50_Splits.l0]
    rw [if_pos (by omega), hw0, ← hs, hw2, hfits, Option.bind_some, hw1]
    by_cases him : i < m
    · have e1 : (if i ≤ m then i else m) = i := if_pos (by omega)
      have e2 : (if i + 1 ≤ m then i + 1 else m) = i + 1 := if_pos (by omega)
      have := hK k (by omega)
      rw [e2] at this
      rw [if_pos (by simp [him]), e1, if_pos (by rw [wideTo_len]; omega), wideTo_snoc]
      exact this
    · have e1 : (if i ≤ m then i else m) = m := by split <;> omega
      have e2 : (if i + 1 ≤ m then i + 1 else m) = m := if_neg (by omega)
      have := hK k (by omega)
      rw [e2] at this
      rw [if_neg (by simp [him]), e1]
      exact this
theorem splits_both (l : S23) : ∃ xs e, xs.length ≤ 1000 ∧ Ev (fun k => loop_Splits.f k l.f0 l.f1 l.f2 l.f3 l.f4 l.f5 l.f6) (xs, e) ∧ Ev (fun k => hopmeshref50_Splits.f k l.f0 l.f1 l.f2 l.f3 l.f4 l.f5 l.f6) (xs, e) := by
  obtain ⟨e, he⟩ := fault_some 32 l.f0 l.f1 l.f2 l.f3 l.f4 l.f5 l.f6
  by_cases h0 : e = 0
  · subst h0
    have hP : 1 ≤ l.f4 ∧ l.f4 ≤ 512 ∧ 1 ≤ l.f6 ∧ l.f6 ≤ 1024 := by
      unfold loop_fault.f at he
      split at he
      · omega
      · simp at he
    obtain ⟨sum, hs⟩ : ∃ s, s = mn l.f4 (wrap64 (wrap64 (l.f6 - l.f4) + 1)) := ⟨_, rfl⟩
    have hw0 : wrap64 (wrap64 (l.f6 - l.f4) + 1) = l.f6 - l.f4 + 1 := by
      rw [show wrap64 (l.f6 - l.f4) = l.f6 - l.f4 by unfold wrap64; omega]
      unfold wrap64
      omega
    have hsb : -1000 ≤ sum ∧ sum ≤ 512 := by
      rw [hs, hw0]
      unfold mn
      split <;> omega
    obtain ⟨m, hm⟩ : ∃ m : Nat, (m : Int) = if sum - 1 > 0 then sum - 1 else 0 := ⟨(if sum - 1 > 0 then sum - 1 else 0).toNat, by split <;> omega⟩
    refine ⟨wideTo sum m, 0, by rw [wideTo_len]; split at hm <;> omega, ?_, ?_⟩
    · unfold loop_Splits.f
      rw [he]
      simp only [Option.bind_some, if_true]
      have := splits_loop sum hsb.1 (by omega) m hm m 0 (by omega)
      rw [← hs, show wrap64 (sum - 1) = sum - 1 by unfold wrap64; omega, show mx (sum - 1) 0 = (m : Int) by rw [hm]; unfold mx; split <;> split <;> omega]
      exact this
    · have := ref_splits l.f0 l.f1 l.f2 l.f3 l.f4 l.f5 l.f6 sum ⟨hP.1, hP.2.1⟩ hP.2.2 hs m hm (l.f4 - 1).toNat 0 (by omega)
      obtain ⟨K, hK⟩ := this
      refine ⟨K + 2, fun k hk => ?_⟩
      obtain ⟨k, rfl⟩ : ∃ j, k = j + 2 := ⟨k - 2, by omega⟩
      unfold hopmeshref50_Splits.f
      dsimp only
      rw [fault_eq, he, Option.bind_some, if_pos rfl]
      exact hK _ (by omega)
  · refine ⟨[], e, by simp, ?_, ?_⟩
    · unfold loop_Splits.f
      rw [he]
      simp only [Option.bind_some, if_neg h0]
      exact Ev.now _
    · refine ⟨2, fun k hk => ?_⟩
      obtain ⟨k, rfl⟩ : ∃ j, k = j + 2 := ⟨k - 2, by omega⟩
      unfold hopmeshref50_Splits.f
      dsimp only
      rw [fault_eq, he, Option.bind_some, if_neg h0]
theorem worst_both (l : S23) (s : S25) : ∃ r, loop_Worst.f l.f0 l.f1 l.f2 l.f3 l.f4 l.f5 l.f6 s.f0 s.f1 = some r ∧ Ev (fun k => hopmeshref50_Worst.f k l.f0 l.f1 l.f2 l.f3 l.f4 l.f5 l.f6 s.f0 s.f1) r := by
  obtain ⟨e, he⟩ := right_some l.f0 l.f1 l.f2 l.f3 l.f4 l.f5 l.f6 s.f0 s.f1
  unfold loop_Worst.f hopmeshref50_Worst.f
  rw [he, Option.bind_some]
  by_cases h0 : e = 0
  · refine ⟨_, by rw [if_pos h0]; rfl, ⟨2, fun k hk => ?_⟩⟩
    obtain ⟨k, rfl⟩ : ∃ j, k = j + 2 := ⟨k - 2, by omega⟩
    dsimp only
    rw [right_eq, he, Option.bind_some, if_pos h0]
    rfl
  · refine ⟨_, by rw [if_neg h0], ⟨2, fun k hk => ?_⟩⟩
    obtain ⟨k, rfl⟩ : ∃ j, k = j + 2 := ⟨k - 2, by omega⟩
    dsimp only
    rw [right_eq, he, Option.bind_some, if_neg h0]
theorem flows_both (l : S23) (s : S25) : ∃ xs e, xs.length ≤ 1000 ∧ loop_Flows.f l.f0 l.f1 l.f2 l.f3 l.f4 l.f5 l.f6 s.f0 s.f1 = some (xs, e) ∧ Ev (fun k => hopmeshref50_Flows.f k l.f0 l.f1 l.f2 l.f3 l.f4 l.f5 l.f6 s.f0 s.f1) (xs, e) := by
  obtain ⟨e, he⟩ := right_some l.f0 l.f1 l.f2 l.f3 l.f4 l.f5 l.f6 s.f0 s.f1
  unfold loop_Flows.f hopmeshref50_Flows.f
  rw [he, Option.bind_some]
  by_cases h0 : e = 0
  · subst h0
    have hR := right_zero he
    unfold rightP at hR
    have hz : ¬ l.f4 = 0 := by omega
    refine ⟨_, _, ?_, by rw [if_pos rfl]; unfold loop_flows.f; rw [if_neg hz]; rfl, ⟨2, fun k hk => ?_⟩⟩
    · simp
    · obtain ⟨k, rfl⟩ : ∃ j, k = j + 2 := ⟨k - 2, by omega⟩
      dsimp only
      rw [right_eq, he, Option.bind_some, if_pos rfl]
      unfold hopmeshref50_flows.f
      rw [if_neg hz]
      rfl
  · refine ⟨_, _, ?_, by rw [if_neg h0], ⟨2, fun k hk => ?_⟩⟩
    · simp
    · obtain ⟨k, rfl⟩ : ∃ j, k = j + 2 := ⟨k - 2, by omega⟩
      dsimp only
      rw [right_eq, he, Option.bind_some, if_neg h0]
theorem LoopSplits : hopmeshlaw50_LoopSplits.Pure := by
  intro l s _ _
  refine Ev.rounds ?_
  unfold hopmeshlaw50_LoopSplits.f
  refine Ev.bind ev_awake ?_
  simp only [if_true]
  obtain ⟨⟨w, we⟩, w1, w2⟩ := worst_both l s
  obtain ⟨xs, e, hx, x1, x2⟩ := splits_both l
  obtain ⟨ys, g, hy, y1, y2⟩ := flows_both l s
  simp only [w1, Option.bind_some]
  refine Ev.bind w2 (Ev.bind x1 (Ev.bind x2 ?_))
  simp only [y1, Option.bind_some]
  refine Ev.bind y2 ?_
  simp only [if_true]
  refine Ev.bind (same_splits xs hx) ?_
  simp only [if_true]
  refine Ev.bind (same_flows ys hy) ?_
  simp only [if_true, beq_self_eq_true]
  exact Ev.now true
end Go.Proofs.Ytnjljajopdpjjaa.Pure
