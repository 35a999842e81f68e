/- Plain lemmas of the laws of chapter 29: steps of a steady demand, and where it settles. -/
import Derived.Test.YtfbekkmmafkmpaaPXx11
import Derived.Test.YtfbekkmmafkmpaaPXx10
import Derived.Test.YtfbekkmmafkmpaaPXx20
import Derived.Test.YtfbekkmmafkmpaaA
namespace Go.Proofs.Ytfbekkmmafkmpaa.S
open Go.RowKit Go.Proofs.Ytfbekkmmafkmpaa Go.Proofs.Ytfbekkmmafkmpaa.PX Go.Proofs.YtfbekkmmafkmpaaW.PrintWords Go.Proofs.YtfbekkmmafkmpaaW.PrintMore
set_option linter.unusedVariables false

/-- What is decided for n cells under a steady demand. -/
def stepOf (d le mo n : Int) : Int × Int :=
  if n < le then (1, mn 8 (le - n)) else if n = 0 then (0, 0) else if 3 * n ≤ 4 * mn d n ∧ n < mo then (1, 1) else if 4 * mn d n < n ∧ n > le ∧ n > 1 then (2, 1) else (0, 0)
theorem mn_bd {d n : Int} (hd : 0 ≤ d) (hn : 0 ≤ n) : 0 ≤ mn d n ∧ mn d n ≤ n := by
  unfold mn
  split <;> omega
theorem dec_step {d le mo n : Int} (hd : 0 ≤ d) (h0 : 0 ≤ le) (h2 : mo ≤ 64) (h1 : le ≤ mo) (n0 : 0 ≤ n) (n1 : n ≤ 64) : decOf n 0 le mo (64 * mn d n) (64 * n) false = stepOf d le mo n := by
  have hm := mn_bd hd n0
  unfold decOf stepOf
  generalize mn d n = m at hm
  have w1 : wrap64 (le - n) = le - n := by unfold wrap64; omega
  have w2 : wrap64 (4 * n) = 4 * n := by unfold wrap64; omega
  have w3 : wrap64 (8 * n) = 8 * n := by unfold wrap64; omega
  have w4 : wrap64 (4 * (64 * m)) = 4 * (64 * m) := by unfold wrap64; omega
  have w5 : wrap64 (3 * (64 * n)) = 3 * (64 * n) := by unfold wrap64; omega
  rw [w1, w2, w3, w4, w5]
  by_cases c1 : n < le
  · rw [if_pos c1, if_pos c1]
  rw [if_neg c1, if_neg c1, if_neg (by omega)]
  by_cases c2 : n = 0
  · rw [if_pos c2, if_pos c2]
  rw [if_neg c2, if_neg c2, if_neg (by omega), if_neg (by omega)]
  by_cases c3 : 3 * n ≤ 4 * m ∧ n < mo
  · rw [if_pos (by omega), if_pos c3]
  rw [if_neg (by omega), if_neg c3]
  by_cases c4 : 4 * m < n ∧ n > le ∧ n > 1
  · rw [if_pos (by omega), if_pos c4]
  rw [if_neg (by omega), if_neg c4, if_neg (by simp)]
theorem step_any (d le mo n : Int) : (stepOf d le mo n).1 = 0 ∨ (stepOf d le mo n).1 = 1 ∨ (stepOf d le mo n).1 = 2 := by
  unfold stepOf
  repeat' split
  all_goals simp
theorem step_up {d le mo n : Int} (hd : 0 ≤ d) (n0 : 0 ≤ n) (h1 : le ≤ mo) (h : (stepOf d le mo n).1 = 1) :
    1 ≤ (stepOf d le mo n).2 ∧ (stepOf d le mo n).2 ≤ 8 ∧ n + (stepOf d le mo n).2 ≤ mo ∧ (stepOf d le mo (n + (stepOf d le mo n).2)).1 ≠ 2 := by
  by_cases c1 : n < le
  · have e : stepOf d le mo n = (1, mn 8 (le - n)) := by unfold stepOf; rw [if_pos c1]
    have hm : 1 ≤ mn 8 (le - n) ∧ mn 8 (le - n) ≤ 8 ∧ mn 8 (le - n) ≤ le - n := by unfold mn; split <;> omega
    rw [e]
    dsimp only
    generalize mn 8 (le - n) = c at hm
    refine ⟨hm.1, hm.2.1, by omega, ?_⟩
    unfold stepOf
    split
    · simp
    split
    · simp
    split
    · simp
    rw [if_neg (by omega)]
    simp
  by_cases c2 : n = 0
  · have e : stepOf d le mo n = (0, 0) := by unfold stepOf; rw [if_neg c1, if_pos c2]
    rw [e] at h
    cases h
  by_cases c3 : 3 * n ≤ 4 * mn d n ∧ n < mo
  · have e : stepOf d le mo n = (1, 1) := by unfold stepOf; rw [if_neg c1, if_neg c2, if_pos c3]
    rw [e]
    dsimp only
    refine ⟨by omega, by omega, by omega, ?_⟩
    have hm : mn d n ≤ mn d (n + 1) := by unfold mn; split <;> split <;> omega
    unfold stepOf
    split
    · simp
    split
    · simp
    split
    · simp
    rw [if_neg (by omega)]
    simp
  · have e : (stepOf d le mo n).1 ≠ 1 := by
      unfold stepOf
      rw [if_neg c1, if_neg c2, if_neg c3]
      split <;> simp
    exact absurd h e
theorem step_down {d le mo n : Int} (hd : 0 ≤ d) (n0 : 0 ≤ n) (h : (stepOf d le mo n).1 = 2) :
    (stepOf d le mo n).2 = 1 ∧ 2 ≤ n ∧ le < n ∧ (stepOf d le mo (n - 1)).1 ≠ 1 := by
  by_cases c1 : n < le
  · unfold stepOf at h
    rw [if_pos c1] at h
    cases h
  by_cases c2 : n = 0
  · unfold stepOf at h
    rw [if_neg c1, if_pos c2] at h
    cases h
  by_cases c3 : 3 * n ≤ 4 * mn d n ∧ n < mo
  · unfold stepOf at h
    rw [if_neg c1, if_neg c2, if_pos c3] at h
    cases h
  by_cases c4 : 4 * mn d n < n ∧ n > le ∧ n > 1
  · have e : stepOf d le mo n = (2, 1) := by unfold stepOf; rw [if_neg c1, if_neg c2, if_neg c3, if_pos c4]
    rw [e]
    refine ⟨rfl, by omega, by omega, ?_⟩
    have hm : mn d (n - 1) ≤ mn d n := by unfold mn; split <;> split <;> omega
    unfold stepOf
    rw [if_neg (by omega), if_neg (by omega), if_neg (by omega)]
    split <;> simp
  · unfold stepOf at h
    rw [if_neg c1, if_neg c2, if_neg c3, if_neg c4] at h
    cases h
theorem step_stop {d le mo n : Int} (h : (stepOf d le mo n).1 = 0) : le ≤ n ∧ (n = 0 ∨ (¬ (3 * n ≤ 4 * mn d n ∧ n < mo) ∧ ¬ (4 * mn d n < n ∧ n > le ∧ n > 1))) := by
  unfold stepOf at h
  split at h
  · cases h
  split at h
  · exact ⟨by omega, .inl (by assumption)⟩
  split at h
  · cases h
  split at h
  · cases h
  exact ⟨by omega, .inr ⟨by assumption, by assumption⟩⟩
section
variable {d le mo : Int} (hd : 0 ≤ d) (h0 : 0 ≤ le) (h1 : le ≤ mo) (h2 : mo ≤ 64)
include hd h0 h1 h2
theorem settle_step (k : Nat) {n : Int} (n0 : 0 ≤ n) (n1 : n ≤ 64) : allocate_Settle.l0 (k + 1) n d le mo =
    if (stepOf d le mo n).1 = 1 then allocate_Settle.l0 k (n + (stepOf d le mo n).2) d le mo else if (stepOf d le mo n).1 = 2 then allocate_Settle.l0 k (n - (stepOf d le mo n).2) d le mo else some (n, 0) := by
  have hm := mn_bd hd n0
  simp only [allocate_Settle.l0]
  rw [show wrap64 (64 * mn d n) = 64 * mn d n by unfold wrap64; omega, show wrap64 (64 * n) = 64 * n by unfold wrap64; omega, decide_is, dec_step hd h0 h2 h1 n0 n1, Option.bind_some]
  by_cases c1 : (stepOf d le mo n).1 = 1
  · have := step_up hd n0 h1 c1
    rw [if_pos c1, if_pos c1, show wrap64 (n + (stepOf d le mo n).2) = n + (stepOf d le mo n).2 by unfold wrap64; omega]
  rw [if_neg c1, if_neg c1]
  by_cases c2 : (stepOf d le mo n).1 = 2
  · have := step_down hd n0 c2
    rw [if_pos c2, if_pos c2, show wrap64 (n - (stepOf d le mo n).2) = n - (stepOf d le mo n).2 by unfold wrap64; omega]
  rw [if_neg c2, if_neg c2]
theorem settle_stop {n : Int} (n0 : 0 ≤ n) (n1 : n ≤ 64) (h : (stepOf d le mo n).1 = 0) : Ev (fun k => allocate_Settle.l0 k n d le mo) (n, 0) := by
  refine ev1 fun k => ?_
  rw [settle_step hd h0 h1 h2 k n0 n1, if_neg (by omega), if_neg (by omega)]
theorem settle_up : ∀ (m : Nat) (n : Int), 64 - n ≤ m → 0 ≤ n → n ≤ 64 → (stepOf d le mo n).1 ≠ 2 → ∃ r, Ev (fun k => allocate_Settle.l0 k n d le mo) (r, 0) ∧ (stepOf d le mo r).1 = 0 ∧ n ≤ r ∧ (r ≤ mo ∨ r = n) := by
  intro m
  induction m with
  | zero =>
    intro n hm n0 n1 hs
    rcases step_any d le mo n with h | h | h
    · exact ⟨n, settle_stop hd h0 h1 h2 n0 n1 h, h, Int.le_refl _, .inr rfl⟩
    · have := step_up hd n0 h1 h
      omega
    · exact absurd h hs
  | succ m ih =>
    intro n hm n0 n1 hs
    rcases step_any d le mo n with h | h | h
    · exact ⟨n, settle_stop hd h0 h1 h2 n0 n1 h, h, Int.le_refl _, .inr rfl⟩
    · obtain ⟨u1, u2, u3, u4⟩ := step_up hd n0 h1 h
      obtain ⟨r, e1, e2, e3, e4⟩ := ih (n + (stepOf d le mo n).2) (by omega) (by omega) (by omega) u4
      exact ⟨r, Ev.step (fun k => by rw [settle_step hd h0 h1 h2 k n0 n1, if_pos h]) e1, e2, by omega, .inl (by omega)⟩
    · exact absurd h hs
theorem settle_down : ∀ (m : Nat) (n : Int), n ≤ m → 0 ≤ n → n ≤ 64 → (stepOf d le mo n).1 ≠ 1 → ∃ r, Ev (fun k => allocate_Settle.l0 k n d le mo) (r, 0) ∧ (stepOf d le mo r).1 = 0 ∧ 0 ≤ r ∧ r ≤ n := by
  intro m
  induction m with
  | zero =>
    intro n hm n0 n1 hs
    rcases step_any d le mo n with h | h | h
    · exact ⟨n, settle_stop hd h0 h1 h2 n0 n1 h, h, n0, Int.le_refl _⟩
    · exact absurd h hs
    · have := step_down hd n0 h
      omega
  | succ m ih =>
    intro n hm n0 n1 hs
    rcases step_any d le mo n with h | h | h
    · exact ⟨n, settle_stop hd h0 h1 h2 n0 n1 h, h, n0, Int.le_refl _⟩
    · exact absurd h hs
    · obtain ⟨u1, u2, u3, u4⟩ := step_down hd n0 h
      obtain ⟨r, e1, e2, e3, e4⟩ := ih (n - 1) (by omega) (by omega) (by omega) u4
      exact ⟨r, Ev.step (fun k => by rw [settle_step hd h0 h1 h2 k n0 n1, if_neg (by omega), if_pos h, u1]) e1, e2, e3, by omega⟩
theorem settle_any {n : Int} (n0 : 0 ≤ n) (n1 : n ≤ 64) : ∃ r, Ev (fun k => allocate_Settle.l0 k n d le mo) (r, 0) ∧ (stepOf d le mo r).1 = 0 ∧ 0 ≤ r ∧ r ≤ 64 ∧ (r ≤ mo ∨ r ≤ n) := by
  by_cases h : (stepOf d le mo n).1 = 2
  · obtain ⟨r, e1, e2, e3, e4⟩ := settle_down hd h0 h1 h2 64 n (by omega) n0 n1 (by omega)
    exact ⟨r, e1, e2, e3, by omega, .inr e4⟩
  · obtain ⟨r, e1, e2, e3, e4⟩ := settle_up hd h0 h1 h2 64 n (by omega) n0 n1 h
    exact ⟨r, e1, e2, by omega, by omega, by omega⟩
theorem Settle_is (hd2 : d ≤ 1048576) {n r : Int} (n0 : 0 ≤ n) (n1 : n ≤ 64) (h : Ev (fun k => allocate_Settle.l0 k n d le mo) (r, 0)) : Ev (fun k => allocate_Settle.f k n d le mo) (r, 0) := by
  unfold allocate_Settle.f
  simp only [limits_is, within_is, Option.bind_some]
  rw [decide_eq_true ⟨h0, h1, h2⟩, decide_eq_true ⟨n0, n1⟩, decide_eq_true ⟨hd, hd2⟩]
  refine Ev.step (fun k => ?_) h
  simp [allocate_Settle.j0]
end
/-- A cell that a steady demand uses, or does not. -/
def cellOf (d : Int) (i : Nat) : S39 := ⟨⟨(i : Int), 0, 2, true, 3, -1⟩, 64, if (i : Int) < d then 64 else 0, if (i : Int) < d then 64 else 0⟩
def cellsOf (n : Nat) (d : Int) : List S39 := (List.range n).map (cellOf d)
theorem cells_len (n : Nat) (d : Int) : (cellsOf n d).length = n := by simp [cellsOf]
theorem cells_rd {n : Nat} {d : Int} {i : Nat} (h : i < n) : rd_T39 (cellsOf n d) (i : Int) = cellOf d i := by
  unfold rd_T39 cellsOf
  rw [Int.toNat_natCast, List.getD_eq_getElem?_getD, List.getElem?_map, List.getElem?_range h]
  rfl
theorem cells_snoc (n : Nat) (d : Int) : cellsOf (n + 1) d = cellsOf n d ++ [cellOf d n] := by simp [cellsOf, List.range_succ]
theorem cells_loop (n : Nat) (d : Int) (hn : n ≤ 64) : ∀ m i : Nat, i + m = n → Ev (fun k => hopmeshlaw29_cells.l0 k d (cellsOf i d) (n : Int) (i : Int)) (cellsOf n d) := by
  intro m
  induction m with
  | zero =>
    intro i hi
    obtain rfl : i = n := by omega
    refine ev1 fun k => ?_
    simp only [hopmeshlaw29_cells.l0]
    rw [if_neg (by omega)]
  | succ m ih =>
    intro i hi
    refine Ev.step (fun k => ?_) (ih (i + 1) (by omega))
    simp only [hopmeshlaw29_cells.l0, hopmeshlaw29_usage.f, Option.bind_some, cells_len]
    rw [if_pos (show (i : Int) < (n : Int) by omega), w_next (show i < n by omega) hn, cells_snoc]
    by_cases h : (i : Int) < d
    · rw [if_pos h, if_pos (by omega)]
      simp only [cellOf, if_pos h]
    · rw [if_neg h, if_pos (by omega)]
      simp only [cellOf, if_neg h]
theorem cells_is (n : Nat) (d : Int) (hn : n ≤ 64) : Ev (fun k => hopmeshlaw29_cells.f k (n : Int) d) (cellsOf n d) := by
  have := cells_loop n d hn n 0 (by omega)
  exact this
theorem cells_check (n : Nat) (d : Int) (hn : n ≤ 64) : ∀ i, i ≤ n → checkTo (cellsOf n d) i = 0 := by
  intro i
  induction i with
  | zero => intro _; rfl
  | succ i ih =>
    intro hi
    refine checkTo_good _ (ih (by omega)) ?_
    unfold badAt
    have h00 : rd_T39 (cellsOf n d) 0 = cellOf d 0 := cells_rd (i := 0) (by omega)
    rw [cells_rd (show i < n by omega), h00]
    have hv : 0 ≤ (if (i : Int) < d then (64 : Int) else 0) ∧ (if (i : Int) < d then (64 : Int) else 0) ≤ 64 := by split <;> omega
    have hy : ¬ (0 < i ∧ (i : Int) ≤ (rd_T39 (cellsOf n d) ((i : Int) - 1)).f0.f0) := by
      rintro ⟨h0, h⟩
      rw [show (i : Int) - 1 = ((i - 1 : Nat) : Int) by omega, cells_rd (show i - 1 < n by omega)] at h
      simp only [cellOf] at h
      omega
    simp only [cellOf]
    rw [badV_in ⟨rfl, rfl, by omega, by omega, rfl⟩, if_pos (by omega), if_neg hy]
theorem cells_load (n : Nat) (d : Int) (hd : 0 ≤ d) (hn : n ≤ 64) : ∀ i, i ≤ n → loadTo (cellsOf n d) i = (64 * mn d (i : Int), 64 * (i : Int)) := by
  intro i
  induction i with
  | zero =>
    intro _
    simp only [loadTo, Prod.mk.injEq]
    unfold mn
    split <;> omega
  | succ i ih =>
    intro hi
    simp only [loadTo, ih (by omega), cells_rd (show i < n by omega), cellOf, Prod.mk.injEq]
    unfold mn wrap64
    repeat' split
    all_goals omega
theorem less64 (i j : Nat) (d t : Int) (hi : (i : Int) < d) (hj : (j : Int) < d) (ht : t = 1 ∨ t = 2) : lessB (cellOf d i) (cellOf d j) t = some false := by
  unfold lessB cellOf
  simp only [if_pos hi, if_pos hj]
  unfold allocate_Worst_1.f
  rcases ht with rfl | rfl <;> exact congrArg some (decide_eq_false (by unfold wrap64; omega))
theorem cells_worst (n : Nat) (d : Int) (hd : 0 ≤ d) : ∀ i, i ≤ n → worstAt (cellsOf n d) i = if 0 < i ∧ 0 < d then (0, 0) else (-1, -1) := by
  intro i
  induction i with
  | zero => intro _; simp [worstAt]
  | succ i ih =>
    intro hi
    have ih := ih (by omega)
    have hr : rd_T39 (cellsOf n d) (i : Int) = cellOf d i := cells_rd (by omega)
    by_cases h : (i : Int) < d
    · have hx : ¬ (rd_T39 (cellsOf n d) (i : Int)).f2 < 8 := by rw [hr]; simp [cellOf, h]
      rw [if_pos (by omega)]
      by_cases h0 : 0 < i
      · rw [if_pos (by omega)] at ih
        have hp : lessB (rd_T39 (cellsOf n d) (i : Int)) (rd_T39 (cellsOf n d) 0) 1 = some false := by
          rw [hr, show rd_T39 (cellsOf n d) 0 = cellOf d 0 from cells_rd (i := 0) (by omega)]
          exact less64 i 0 d 1 h (by omega) (.inl rfl)
        have hq : lessB (rd_T39 (cellsOf n d) 0) (rd_T39 (cellsOf n d) (i : Int)) 1 = some false := by
          rw [hr, show rd_T39 (cellsOf n d) 0 = cellOf d 0 from cells_rd (i := 0) (by omega)]
          exact less64 0 i d 1 (by omega) h (.inl rfl)
        rw [worstAt_more ih hx (by omega) (by omega) hp hq]
        rfl
      · obtain rfl : i = 0 := by omega
        rw [if_neg (by omega)] at ih
        rw [worstAt_first ih hx (by omega) (by omega)]
        rfl
    · have hx : (rd_T39 (cellsOf n d) (i : Int)).f2 < 8 := by rw [hr]; simp [cellOf, h]
      rw [worstAt_skip (lo := (worstAt (cellsOf n d) i).1) (hi := (worstAt (cellsOf n d) i).2) rfl hx, ih]
      by_cases h1 : 0 < i ∧ 0 < d
      · rw [if_pos h1, if_pos (by omega)]
      · rw [if_neg h1, if_neg (by omega)]
theorem cells_worstOf (n : Nat) (d : Int) (hd : 0 ≤ d) (hn : n ≤ 64) : (worstOf (cellsOf n d)).2 = false := by
  unfold worstOf
  rw [cells_len, if_neg (by omega), if_pos (cells_check n d hn n (Nat.le_refl _)), cells_worst n d hd n (Nat.le_refl _)]
  split
  · unfold worstEnd
    rw [if_pos]
    refine .inr ?_
    show lessB (rd_T39 (cellsOf n d) 0) (rd_T39 (cellsOf n d) 0) 2 = some false
    rw [show rd_T39 (cellsOf n d) 0 = cellOf d 0 from cells_rd (i := 0) (by omega)]
    exact less64 0 0 d 2 (by omega) (by omega) (.inr rfl)
  · unfold worstEnd
    rw [if_pos (.inl (by omega))]
theorem Decide_cells {d le mo : Int} (hd : 0 ≤ d) (h0 : 0 ≤ le) (h1 : le ≤ mo) (h2 : mo ≤ 64) (n : Nat) (hn : n ≤ 64) :
    Ev (fun k => allocate_Decide.f k (cellsOf n d) 0 le mo) ((stepOf d le mo (n : Int)).1, (stepOf d le mo (n : Int)).2, 0) := by
  have h := Decide_is (cellsOf n d) 0 le mo
  have e : decideOf (cellsOf n d) 0 le mo = ((stepOf d le mo (n : Int)).1, (stepOf d le mo (n : Int)).2, 0) := by
    have hc : checkOf (cellsOf n d) = 0 := by
      unfold checkOf
      rw [cells_len, if_neg (by omega)]
      exact cells_check n d hn n (Nat.le_refl _)
    unfold decideOf
    rw [if_pos hc, if_pos (by omega), cells_len, cells_load n d hd hn n (Nat.le_refl _), cells_worstOf n d hd hn, dec_step hd h0 h2 h1 (by omega) (by omega)]
  rw [e] at h
  exact h
end Go.Proofs.Ytfbekkmmafkmpaa.S
