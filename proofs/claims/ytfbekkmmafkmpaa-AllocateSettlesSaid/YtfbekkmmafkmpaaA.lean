/- Plain lemmas of the laws of chapter 29: the decision as a chain of conditions; the sums. -/
import Derived.Test.YtfbekkmmafkmpaaPXx9
import Derived.Test.YtfbekkmmafkmpaaPXx8
import Derived.Test.YtfbekkmmafkmpaaPXx10
import Derived.Test.YtfbekkmmafkmpaaPXx7
import Derived.Test.YtfbekkmmafkmpaaPXx12
namespace Go.Proofs.Ytfbekkmmafkmpaa.S
open Go.RowKit Go.Proofs.Ytfbekkmmafkmpaa Go.Proofs.Ytfbekkmmafkmpaa.PX Go.Proofs.YtfbekkmmafkmpaaW.PrintWords Go.Proofs.YtfbekkmmafkmpaaW.PrintMore

theorem ev_awake : Ev (fun k => hopmeshlaw29_awake.f k) true := Ev.of hopmeshlaw29_awake.mono (k := 80) (by decide +kernel)
/-- What is decided for some facts. -/
def decOf (n b le mo u p : Int) (w : Bool) : Int × Int :=
  if n < le then (1, mn 8 (wrap64 (le - n)))
  else if n = 0 ∧ b > 0 ∧ mo > 0 then (1, 1)
  else if n = 0 then (0, 0)
  else if b > wrap64 (4 * n) ∧ n < mo then (1, mn (mn 8 (wrap64 (mo - n))) (wrap64 (Int.tdiv (wrap64 ((wrap64 (b - (wrap64 (4 * n)))) + 3)) 4)))
  else if p < wrap64 (8 * n) then (0, 0)
  else if wrap64 (4 * u) ≥ wrap64 (3 * p) ∧ n < mo then (1, 1)
  else if wrap64 (4 * u) < p ∧ n > le ∧ n > 1 then (2, 1)
  else if w = true then (3, 1)
  else (0, 0)
section
variable {n b le mo u p : Int} {w : Bool}
theorem r3 : (allocate_rules_3.f n b le mo u p w = some true) = (n < le) := by simp [allocate_rules_3.f]
theorem r5 : (allocate_rules_5.f n b le mo u p w = some true) = (n = 0 ∧ b > 0 ∧ mo > 0) := by
  unfold allocate_rules_5.f
  split
  · split <;> simp_all <;> (try omega)
  · simp_all <;> (try omega)
theorem r6 : (allocate_rules_6.f n b le mo u p w = some true) = (n = 0) := by simp [allocate_rules_6.f]
theorem r7 : (allocate_rules_7.f n b le mo u p w = some true) = (b > wrap64 (4 * n) ∧ n < mo) := by
  unfold allocate_rules_7.f
  split <;> simp_all <;> (try omega)
theorem r9 : (allocate_rules_9.f n b le mo u p w = some true) = (p < wrap64 (8 * n)) := by simp [allocate_rules_9.f]
theorem r10 : (allocate_rules_10.f n b le mo u p w = some true) = (wrap64 (4 * u) ≥ wrap64 (3 * p) ∧ n < mo) := by
  unfold allocate_rules_10.f
  split <;> simp_all <;> (try omega)
theorem r11 : (allocate_rules_11.f n b le mo u p w = some true) = (wrap64 (4 * u) < p ∧ n > le ∧ n > 1) := by
  unfold allocate_rules_11.f
  split
  · split <;> simp_all <;> (try omega)
  · simp_all <;> (try omega)
theorem r12 : (allocate_rules_12.f n b le mo u p w = some true) = (w = true) := by simp [allocate_rules_12.f]
theorem decide_is : allocate_decide.f n b le mo u p w = some (decOf n b le mo u p w) := by
  unfold allocate_decide.f decOf
  simp only [r3, r5, r6, r7, r9, r10, r11, r12, allocate_rules_4.f, allocate_rules_8.f, Option.map_some]
  repeat' split
  all_goals rfl
end
/-- The sums of so many elements. -/
def loadTo (l : List S39) : Nat → Int × Int
  | 0 => (0, 0)
  | i + 1 => (wrap64 ((loadTo l i).1 + (rd_T39 l (i : Int)).f2), wrap64 ((loadTo l i).2 + (rd_T39 l (i : Int)).f1))
theorem ev1 {α : Type} {g : Nat → Option α} {r : α} (h : ∀ k, g (k + 1) = some r) : Ev g r := ⟨1, fun k hk => by obtain ⟨k, rfl⟩ : ∃ m, k = m + 1 := ⟨k - 1, by omega⟩; exact h k⟩
theorem w_next {i n : Nat} (h : i < n) (hn : n ≤ 64) : wrap64 ((i : Int) + 1) = ((i + 1 : Nat) : Int) := by
  unfold wrap64
  omega
theorem load_loop (l : List S39) (hl : l.length ≤ 64) : ∀ m i : Nat, i + m = l.length → Ev (fun k => allocate_Load.l0 k (loadTo l i).1 (loadTo l i).2 l (l.length : Int) (i : Int)) (loadTo l l.length) := by
  intro m
  induction m with
  | zero =>
    intro i hi
    obtain rfl : i = l.length := by omega
    refine ev1 fun k => ?_
    simp only [allocate_Load.l0]
    rw [if_neg (by omega)]
  | succ m ih =>
    intro i hi
    refine Ev.step (fun k => ?_) (ih (i + 1) (by omega))
    simp only [allocate_Load.l0, loadTo]
    rw [if_pos (by omega), if_pos (by omega), if_pos (by omega), w_next (by omega) hl]
theorem load_is (l : List S39) (hl : l.length ≤ 64) (h : checkTo l l.length = 0) : Ev (fun k => allocate_Load.f k l) (loadTo l l.length) := by
  have := load_loop l hl l.length 0 (by omega)
  unfold allocate_Load.f allocate_Check.f
  simp only [Option.bind_some, if_neg (show ¬ l.length > 64 by omega), h, if_true]
  exact this
/-- The error of a list. -/
def checkOf (l : List S39) : Int := if l.length > 64 then 8 else checkTo l l.length
theorem within_is (a b : Int) : allocate_within.f a b = some (decide (0 ≤ a ∧ a ≤ b)) := by
  unfold allocate_within.f
  by_cases h : a ≥ 0
  · rw [if_pos h]
    exact congrArg some (decide_eq_decide.2 (by omega))
  · rw [if_neg h]
    exact congrArg some (decide_eq_false (by omega)).symm
theorem limits_is (a b : Int) : allocate_limits.f a b = some (decide (0 ≤ a ∧ a ≤ b ∧ b ≤ 64)) := by
  unfold allocate_limits.f
  rw [within_is, Option.bind_some]
  by_cases h : 0 ≤ a ∧ a ≤ b
  · rw [decide_eq_true h, if_pos rfl]
    exact congrArg some (decide_eq_decide.2 (by omega))
  · rw [decide_eq_false h, if_neg (by simp)]
    exact congrArg some (decide_eq_false (by omega)).symm
/-- What Decide answers. -/
def decideOf (l : List S39) (b le mo : Int) : Int × Int × Int :=
  if checkOf l = 0 then
    if 0 ≤ b ∧ b ≤ 1048576 ∧ 0 ≤ le ∧ le ≤ mo ∧ mo ≤ 64 then
      ((decOf (l.length : Int) b le mo (loadTo l l.length).1 (loadTo l l.length).2 (worstOf l).2).1, (decOf (l.length : Int) b le mo (loadTo l l.length).1 (loadTo l l.length).2 (worstOf l).2).2, 0)
    else (0, 0, 2)
  else (0, 0, 1)
theorem check_len {l : List S39} (h : checkOf l = 0) : l.length ≤ 64 ∧ checkTo l l.length = 0 := by
  unfold checkOf at h
  split at h
  · cases h
  · exact ⟨by omega, h⟩
theorem Decide_is (l : List S39) (b le mo : Int) : Ev (fun k => allocate_Decide.f k l b le mo) (decideOf l b le mo) := by
  unfold allocate_Decide.f decideOf allocate_Check.f
  simp only [Option.bind_some]
  by_cases hc : checkOf l = 0
  · obtain ⟨h1, h2⟩ := check_len hc
    rw [if_pos hc, if_neg (by omega), h2]
    simp only [if_true, within_is, limits_is, Option.bind_some, decide_eq_true_eq]
    have bad : Ev (fun k => allocate_Decide.j0 k l b le mo true) (0, 0, 2) := ev1 fun k => by simp only [allocate_Decide.j0, if_true]
    by_cases hb : 0 ≤ b ∧ b ≤ 1048576
    · simp only [if_pos hb]
      by_cases hm : 0 ≤ le ∧ le ≤ mo ∧ mo ≤ 64
      · rw [if_pos ⟨hb.1, hb.2, hm⟩, decide_eq_true hm]
        obtain ⟨K, hK⟩ := load_is l h1 h2
        refine ⟨K + 1, fun k hk => ?_⟩
        obtain ⟨k, rfl⟩ : ∃ m, k = m + 1 := ⟨k - 1, by omega⟩
        have hL : allocate_Load.f k l = some (loadTo l l.length) := hK k (by omega)
        simp only [allocate_Decide.j0, Bool.not_true, Bool.false_eq_true, if_false, allocate_Worst.f, hL, Option.bind_some, decide_is]
      · rw [if_neg (by omega), decide_eq_false hm]
        exact bad
    · simp only [if_neg hb]
      rw [if_neg (by omega)]
      exact bad
  · rw [if_neg hc]
    have : ¬ (if l.length > 64 then 8 else checkTo l l.length) = 0 := hc
    simp only [if_neg this]
    exact Ev.now _
end Go.Proofs.Ytfbekkmmafkmpaa.S
