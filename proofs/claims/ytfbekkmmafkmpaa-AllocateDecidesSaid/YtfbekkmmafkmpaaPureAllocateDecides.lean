/- AllocateDecides: Worst and Decide answer as the reference does. -/
import Derived.Test.YtfbekkmmafkmpaaQAllocateDecides
import Derived.Test.YtfbekkmmafkmpaaPXx28
import Derived.Test.YtfbekkmmafkmpaaPXx26
import Derived.Test.YtfbekkmmafkmpaaPXx25
import Derived.Test.YtfbekkmmafkmpaaA
namespace Go.Proofs.Ytfbekkmmafkmpaa.Pure
open Go.RowKit Go.Proofs.Ytfbekkmmafkmpaa.PX Go.Proofs.Ytfbekkmmafkmpaa.S Go.Proofs.YtfbekkmmafkmpaaW.PrintWords Go.Proofs.YtfbekkmmafkmpaaW.PrintMore

theorem refload_loop (l : List S39) (hl : l.length ≤ 64) : ∀ m i : Nat, i + m = l.length → Ev (fun k => hopmeshref29_Load.l0 k l (loadTo l i).1 (loadTo l i).2 (i : Int)) (loadTo l l.length) := by
  intro m
  induction m with
  | zero =>
    intro i hi
    obtain rfl : i = l.length := by omega
    refine ev1 fun k => ?_
    simp only [hopmeshref29_Load.l0]
    rw [if_neg (by omega)]
  | succ m ih =>
    intro i hi
    refine Ev.step (fun k => ?_) (ih (i + 1) (by omega))
    simp only [hopmeshref29_Load.l0, loadTo]
    rw [if_pos (by omega), if_pos (by omega), w_next (by omega) hl]
theorem refload_is (l : List S39) (hl : l.length ≤ 64) (h : checkTo l l.length = 0) : Ev (fun k => hopmeshref29_Load.f k l) (loadTo l l.length) := by
  have := refload_loop l hl l.length 0 (by omega)
  unfold hopmeshref29_Load.f hopmeshref29_Check.f
  simp only [Option.bind_some, if_neg (show ¬ l.length > 64 by omega), h, if_true]
  exact this
theorem reflimits_is (a b : Int) : hopmeshref29_limits.f a b = some (decide (0 ≤ a ∧ a ≤ b ∧ b ≤ 64)) := by
  unfold hopmeshref29_limits.f
  by_cases h : a ≥ 0
  · rw [if_pos h]
    by_cases h2 : a ≤ b
    · rw [if_pos h2]
      exact congrArg some (decide_eq_decide.2 (by omega))
    · rw [if_neg h2]
      exact congrArg some (decide_eq_false (by omega)).symm
  · rw [if_neg h]
    exact congrArg some (decide_eq_false (by omega)).symm
theorem refj3 (k : Nat) (l : List S39) (c : Prop) [Decidable c] : hopmeshref29_Decide.j3 (k + 1) l (decide c) = some (if c then (2, 1, 0) else if (worstOf l).2 = true then (3, 1, 0) else (0, 0, 0)) := by
  simp only [hopmeshref29_Decide.j3, hopmeshref29_Worst.f, Option.bind_some, decide_eq_true_eq]
  repeat' split
  all_goals rfl
theorem refj3f (k : Nat) (l : List S39) : hopmeshref29_Decide.j3 (k + 1) l false = some (if (worstOf l).2 = true then (3, 1, 0) else (0, 0, 0)) := by
  have := refj3 k l False
  rw [decide_eq_false (by simp)] at this
  rw [this, if_neg (by simp)]
theorem chain (P1 P2 P3 P4 P5 P6 P7 P8 P9 P10 P11 : Prop) [Decidable P1] [Decidable P2] [Decidable P3] [Decidable P4] [Decidable P5] [Decidable P6] [Decidable P7] [Decidable P8] [Decidable P9] [Decidable P10] [Decidable P11] (A B : Int) (w : Bool) :
    (if P1 then some (1, A, 0) else if P2 then (if P3 then (if P4 then some (1, 1, 0) else some (0, 0, 0)) else some (0, 0, 0)) else if P5 then (if P6 then some (1, B, 0) else (if P7 then some (0, 0, 0) else if P8 then (if P6 then some (1, 1, 0) else (if P9 then (if P10 then some (if P11 then (2, 1, 0) else if w = true then (3, 1, 0) else (0, 0, 0)) else some (if w = true then (3, 1, 0) else (0, 0, 0))) else some (if w = true then (3, 1, 0) else (0, 0, 0)))) else (if P9 then (if P10 then some (if P11 then (2, 1, 0) else if w = true then (3, 1, 0) else (0, 0, 0)) else some (if w = true then (3, 1, 0) else (0, 0, 0))) else some (if w = true then (3, 1, 0) else (0, 0, 0))))) else (if P7 then some (0, 0, 0) else if P8 then (if P6 then some (1, 1, 0) else (if P9 then (if P10 then some (if P11 then (2, 1, 0) else if w = true then (3, 1, 0) else (0, 0, 0)) else some (if w = true then (3, 1, 0) else (0, 0, 0))) else some (if w = true then (3, 1, 0) else (0, 0, 0)))) else (if P9 then (if P10 then some (if P11 then (2, 1, 0) else if w = true then (3, 1, 0) else (0, 0, 0)) else some (if w = true then (3, 1, 0) else (0, 0, 0))) else some (if w = true then (3, 1, 0) else (0, 0, 0)))) : Option (Int × Int × Int)) = some ((if P1 then (1, A) else if P2 ∧ P3 ∧ P4 then (1, 1) else if P2 then (0, 0) else if P5 ∧ P6 then (1, B) else if P7 then (0, 0) else if P8 ∧ P6 then (1, 1) else if P9 ∧ P10 ∧ P11 then (2, 1) else if w = true then (3, 1) else (0, 0) : Int × Int).1, (if P1 then (1, A) else if P2 ∧ P3 ∧ P4 then (1, 1) else if P2 then (0, 0) else if P5 ∧ P6 then (1, B) else if P7 then (0, 0) else if P8 ∧ P6 then (1, 1) else if P9 ∧ P10 ∧ P11 then (2, 1) else if w = true then (3, 1) else (0, 0) : Int × Int).2, 0) := by
  by_cases h1 : P1
  · simp [h1]
  by_cases h2 : P2
  · by_cases h3 : P3 <;> by_cases h4 : P4 <;> simp [h1, h2, h3, h4]
  by_cases h6 : P6
  · by_cases h5 : P5
    · simp [h1, h2, h5, h6]
    by_cases h7 : P7
    · simp [h1, h2, h5, h6, h7]
    by_cases h8 : P8
    · simp [h1, h2, h5, h6, h7, h8]
    by_cases h9 : P9 <;> by_cases h10 : P10 <;> by_cases h11 : P11 <;> cases w <;> simp [h1, h2, h5, h6, h7, h8, h9, h10, h11]
  · by_cases h7 : P7
    · by_cases h5 : P5 <;> simp [h1, h2, h5, h6, h7]
    by_cases h5 : P5 <;> by_cases h8 : P8 <;> by_cases h9 : P9 <;> by_cases h10 : P10 <;> by_cases h11 : P11 <;> cases w <;> simp [h1, h2, h5, h6, h7, h8, h9, h10, h11]
theorem refj0 (k : Nat) (l : List S39) (b le mo : Int) {K : Nat} (hK : ∀ k, K ≤ k → hopmeshref29_Load.f k l = some (loadTo l l.length)) (hk : K ≤ k) :
    hopmeshref29_Decide.j0 (k + 4) l b le mo false = some ((decOf (l.length : Int) b le mo (loadTo l l.length).1 (loadTo l l.length).2 (worstOf l).2).1, (decOf (l.length : Int) b le mo (loadTo l l.length).1 (loadTo l l.length).2 (worstOf l).2).2, 0) := by
  simp only [hopmeshref29_Decide.j0, hopmeshref29_Decide.j1, hopmeshref29_Decide.j2, hK (k + 3) (by omega), refj3, refj3f, Option.bind_some, Bool.false_eq_true, if_false, decide_eq_true_eq]
  unfold decOf
  exact chain _ _ _ _ _ _ _ _ _ _ _ _ _ _
theorem refDecide_is (l : List S39) (b le mo : Int) : Ev (fun k => hopmeshref29_Decide.f k l b le mo) (decideOf l b le mo) := by
  unfold hopmeshref29_Decide.f decideOf hopmeshref29_Check.f
  simp only [Option.bind_some]
  by_cases hc : checkOf l = 0
  · obtain ⟨h1, h2⟩ := check_len hc
    rw [if_pos hc, if_neg (by omega), h2]
    simp only [if_true, reflimits_is, Option.bind_some]
    have bad : Ev (fun k => hopmeshref29_Decide.j0 k l b le mo true) (0, 0, 2) := ev1 fun k => by simp only [hopmeshref29_Decide.j0, if_true]
    by_cases hb : b < 0
    · simp only [if_pos hb]
      rw [if_neg (by omega)]
      exact bad
    by_cases hb2 : b > 1048576
    · simp only [if_neg hb, if_pos hb2]
      rw [if_neg (by omega)]
      exact bad
    simp only [if_neg hb, if_neg hb2]
    by_cases hm : 0 ≤ le ∧ le ≤ mo ∧ mo ≤ 64
    · rw [if_pos (by omega), decide_eq_true hm]
      obtain ⟨K, hK⟩ := refload_is l h1 h2
      refine ⟨K + 4, fun k hk => ?_⟩
      obtain ⟨k, rfl⟩ : ∃ m, k = m + 4 := ⟨k - 4, by omega⟩
      exact refj0 k l b le mo hK (by omega)
    · rw [if_neg (by omega), decide_eq_false hm]
      exact bad
  · rw [if_neg hc]
    have : ¬ (if l.length > 64 then 8 else checkTo l l.length) = 0 := hc
    simp only [if_neg this]
    exact Ev.now _
theorem AllocateDecides : hopmeshlaw29_AllocateDecides.Pure := by
  intro l b le mo _ _ _ _ _
  refine Ev.rounds ?_
  unfold hopmeshlaw29_AllocateDecides.f
  refine Ev.bind ev_awake ?_
  simp only [if_true, hopmeshref29_Few.f, Option.bind_some, decide_eq_true_eq]
  split
  · simp only [allocate_Worst.f, hopmeshref29_Worst.f, Option.bind_some, beq_self_eq_true, if_true]
    refine Ev.bind (Decide_is l b le mo) ?_
    refine Ev.bind (refDecide_is l b le mo) ?_
    simp only [beq_self_eq_true, if_true]
    exact Ev.now true
  · exact Ev.now true
end Go.Proofs.Ytfbekkmmafkmpaa.Pure
