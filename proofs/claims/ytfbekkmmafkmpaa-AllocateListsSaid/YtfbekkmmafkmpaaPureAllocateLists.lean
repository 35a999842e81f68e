/- AllocateLists: Check, Pass and Load answer as the reference does. -/
import Derived.Test.YtfbekkmmafkmpaaQAllocateLists
import Derived.Test.YtfbekkmmafkmpaaPXx29
import Derived.Test.YtfbekkmmafkmpaaPXx17
import Derived.Test.YtfbekkmmafkmpaaPXx27
import Derived.Test.YtfbekkmmafkmpaaPXx28
import Derived.Test.YtfbekkmmafkmpaaA
namespace Go.Proofs.Ytfbekkmmafkmpaa.Pure
open Go.RowKit Go.Proofs.Ytfbekkmmafkmpaa.PX Go.Proofs.Ytfbekkmmafkmpaa.S Go.Proofs.YtfbekkmmafkmpaaW.PrintWords Go.Proofs.YtfbekkmmafkmpaaW.PrintMore
set_option linter.unusedVariables false

theorem load_all (l : List S39) : ∃ r, Ev (fun k => allocate_Load.f k l) r ∧ Ev (fun k => hopmeshref29_Load.f k l) r := by
  by_cases hc : checkOf l = 0
  · obtain ⟨h1, h2⟩ := check_len hc
    refine ⟨_, load_is l h1 h2, ?_⟩
    have hh : ∀ m i : Nat, i + m = l.length → Ev (fun k => hopmeshref29_Load.l0 k l (loadTo l i).1 (loadTo l i).2 (i : Int)) (loadTo l l.length) := by
      intro m
      induction m with
      | zero =>
        intro i hi
        obtain rfl : i = l.length := by omega
        refine ev1 fun k => ?_
        simp only [hopmeshref29_Load.l0]
        rw [if_neg (by omega)]
      | succ m ih =>
        intro i hi
        refine Ev.step (fun k => ?_) (ih (i + 1) (by omega))
        simp only [hopmeshref29_Load.l0, loadTo]
        rw [if_pos (by omega), if_pos (by omega), w_next (by omega) h1]
    have := hh l.length 0 (by omega)
    unfold hopmeshref29_Load.f hopmeshref29_Check.f
    simp only [Option.bind_some, if_neg (show ¬ l.length > 64 by omega), h2, if_true]
    exact this
  · have hn : ¬ (if l.length > 64 then 8 else checkTo l l.length) = 0 := hc
    refine ⟨(0, 0), ?_, ?_⟩
    · unfold allocate_Load.f allocate_Check.f
      simp only [Option.bind_some, if_neg hn]
      exact Ev.now _
    · unfold hopmeshref29_Load.f hopmeshref29_Check.f
      simp only [Option.bind_some, if_neg hn]
      exact Ev.now _
theorem badAt_inc {l : List S39} {i : Nat} (h : badAt l (i + 1) = 0) : (rd_T39 l (i : Int)).f0.f0 < (rd_T39 l ((i + 1 : Nat) : Int)).f0.f0 := by
  unfold badAt badV at h
  rw [show ((i + 1 : Nat) : Int) - 1 = (i : Int) by omega] at h
  split at h
  · split at h
    · split at h
      · cases h
      · rename_i q
        omega
    · cases h
  · cases h
theorem slots_inc {l : List S39} (h : checkTo l l.length = 0) {i : Nat} : ∀ j, i < j → j < l.length → (rd_T39 l (i : Int)).f0.f0 < (rd_T39 l (j : Int)).f0.f0 := by
  intro j
  induction j with
  | zero => intro hij; omega
  | succ j ih =>
    intro hij hj
    have h1 := badAt_inc (checkTo_all h (j + 1) hj)
    by_cases e : i = j
    · rw [e]; exact h1
    · have := ih (by omega) (by omega)
      omega
/-- The last of so many elements whose cell lies in a slot, or -1. -/
def lastTo (l : List S39) (slot : Int) : Nat → Int
  | 0 => -1
  | i + 1 => if (rd_T39 l (i : Int)).f0.f0 = slot then (i : Int) else lastTo l slot i
theorem last_none {l : List S39} {slot : Int} : ∀ n : Nat, (∀ i : Nat, i < n → hasSlot slot (rd_T39 l (i : Int)) = false) → lastTo l slot n = -1 := by
  intro n
  induction n with
  | zero => intro _; rfl
  | succ n ih =>
    intro h
    have := h n (by omega)
    unfold hasSlot at this
    unfold lastTo
    rw [if_neg (by simpa using this)]
    exact ih (fun i hi => h i (by omega))
theorem last_some {l : List S39} {slot : Int} {j : Nat} (hj : (rd_T39 l (j : Int)).f0.f0 = slot) : ∀ n, j < n → (∀ i, j < i → i < n → (rd_T39 l (i : Int)).f0.f0 ≠ slot) → lastTo l slot n = (j : Int) := by
  intro n
  induction n with
  | zero => intro h; omega
  | succ n ih =>
    intro h hn
    unfold lastTo
    by_cases e : j = n
    · subst e
      rw [if_pos hj]
    · rw [if_neg (hn n (by omega) (by omega))]
      exact ih (by omega) (fun i h1 h2 => hn i h1 (by omega))
theorem refj2 {l : List S39} {i : Nat} (hi : i < l.length) (u w : Bool) (x : S39) (h6 : 0 ≤ x.f1 ∧ x.f1 ≤ 64) (h7 : 0 ≤ x.f2 ∧ x.f2 ≤ 64) (h8 : 0 ≤ x.f3 ∧ x.f3 ≤ 64) (k : Nat) :
    hopmeshref29_Pass.j2 (k + 1) u w (i : Int) l x.f0.f0 x.f0.f1 x.f0.f2 x.f0.f3 x.f0.f4 x.f0.f5 x.f1 x.f2 x.f3 = some (l.set i ⟨x.f0, x.f1 + 1, x.f2 + bumpI u, x.f3 + bumpI w⟩, 0) := by
  have w1 : wrap64 (x.f1 + 1) = x.f1 + 1 := by unfold wrap64; omega
  have w2 : wrap64 (x.f2 + 1) = x.f2 + 1 := by unfold wrap64; omega
  have w3 : wrap64 (x.f3 + 1) = x.f3 + 1 := by unfold wrap64; omega
  have i0 : (0 : Int) ≤ (i : Int) := by omega
  have i1 : (i : Int) < (l.length : Int) := by omega
  simp only [hopmeshref29_Pass.j2]
  rw [w1, w2, w3, Int.toNat_natCast]
  cases u <;> cases w <;> simp [i1, bumpI]
theorem pass_at {l : List S39} {i : Nat} (hi : i < l.length) (u w : Bool) (hc : ¬ (w = true ∧ u = false)) (hok : badAt l i = 0) (hl : l.length ≤ 64) (k : Nat) :
    hopmeshref29_Pass.j1 (k + 2) l u w (i : Int) false = some (l.set i (passU (rd_T39 l (i : Int)) u w), 0) := by
  have hb := badAt_bd hok
  obtain ⟨x, hx⟩ : ∃ x, rd_T39 l (i : Int) = x := ⟨_, rfl⟩
  simp only [hopmeshref29_Pass.j1, Option.bind_some, List.nil_append, List.length_nil]
  rw [hx] at hb ⊢
  rw [if_neg (by simp), if_pos (by omega), if_pos (by omega), if_pos (by omega)]
  by_cases h64 : x.f1 = 64
  · rw [if_pos h64, h64, show Int.tdiv 64 2 = 32 by decide, show wrap64 32 = 32 by unfold wrap64; omega, Int.tdiv_eq_ediv_of_nonneg (by omega), Int.tdiv_eq_ediv_of_nonneg (by omega), show wrap64 (x.f2 / 2) = x.f2 / 2 by unfold wrap64; omega, show wrap64 (x.f3 / 2) = x.f3 / 2 by unfold wrap64; omega]
    have := refj2 hi u w ⟨x.f0, 32, x.f2 / 2, x.f3 / 2⟩ (by dsimp only; omega) (by dsimp only; omega) (by dsimp only; omega) k
    dsimp only at this
    rw [this]
    unfold passU
    rw [if_pos h64, if_pos h64, if_pos h64]
  · rw [if_neg h64, refj2 hi u w x (by omega) (by omega) (by omega) k]
    unfold passU
    rw [if_neg h64, if_neg h64, if_neg h64]
theorem refpass_loop (l : List S39) (slot : Int) (u w : Bool) (hl : l.length ≤ 64) {R : List S39 × Int} (hend : Ev (fun k => hopmeshref29_Pass.l0 (k + 1) l slot u w (lastTo l slot l.length) (l.length : Int)) R) : ∀ m i : Nat, i + m = l.length → Ev (fun k => hopmeshref29_Pass.l0 k l slot u w (lastTo l slot i) (i : Int)) R := by
  intro m
  induction m with
  | zero =>
    intro i hi
    obtain rfl : i = l.length := by omega
    exact Ev.step (fun k => rfl) hend
  | succ m ih =>
    intro i hi
    refine Ev.step (fun k => ?_) (ih (i + 1) (by omega))
    simp only [hopmeshref29_Pass.l0, lastTo]
    rw [if_pos (by omega), if_pos (by omega), w_next (show i < l.length by omega) hl]
    by_cases h : (rd_T39 l (i : Int)).f0.f0 = slot
    · rw [if_pos h, if_pos h]
    · rw [if_neg h, if_neg h]
theorem refPass_is (l : List S39) (slot : Int) (u w : Bool) : Ev (fun k => hopmeshref29_Pass.f k l slot u w) (passOf l slot u w) := by
  unfold hopmeshref29_Pass.f passOf hopmeshref29_Check.f
  simp only [Option.bind_some]
  by_cases hc : checkOf l = 0
  · have hc' : (if l.length > 64 then 8 else checkTo l l.length) = 0 := hc
    obtain ⟨h1, h2⟩ := check_len hc
    simp only [if_pos hc']
    refine refpass_loop l slot u w h1 ?_ l.length 0 (by omega)
    cases hf : (List.range l.length).find? (fun i : Nat => hasSlot slot (rd_T39 l (i : Int))) with
    | none =>
      have hn := last_none (l := l) (slot := slot) l.length (fun i hi => by have := List.find?_range_eq_none.1 hf i hi; simpa using this)
      refine ⟨0, fun k _ => ?_⟩
      simp only [hopmeshref29_Pass.l0]
      rw [if_neg (by omega), hn, if_pos (by omega)]
    | some i =>
      obtain ⟨f1, f2, f3⟩ := List.find?_range_eq_some.1 hf
      rw [List.mem_range] at f2
      have f1' : (rd_T39 l (i : Int)).f0.f0 = slot := by unfold hasSlot at f1; simpa using f1
      have hs := last_some f1' l.length f2 (fun j hij hj e => by have := slots_inc h2 j hij hj; omega)
      refine ⟨2, fun k hk => ?_⟩
      obtain ⟨k, rfl⟩ : ∃ m, k = m + 2 := ⟨k - 2, by omega⟩
      simp only [hopmeshref29_Pass.l0]
      rw [if_neg (by omega), hs, if_neg (by omega)]
      by_cases hw : w = true ∧ u = false
      · obtain ⟨rfl, rfl⟩ := hw
        rw [if_pos rfl, if_pos ⟨rfl, rfl⟩]
        simp only [hopmeshref29_Pass.j1]
        rw [if_pos (by rfl)]
      · have hj : (if w = true then hopmeshref29_Pass.j1 (k + 2) l u w (i : Int) (!u) else hopmeshref29_Pass.j1 (k + 2) l u w (i : Int) false) = hopmeshref29_Pass.j1 (k + 2) l u w (i : Int) false := by
          cases u <;> cases w <;> simp_all
        rw [hj, if_neg hw, pass_at f2 u w hw (checkTo_all h2 i f2) h1 k]
  · have hn : ¬ (if l.length > 64 then 8 else checkTo l l.length) = 0 := hc
    simp only [if_neg hn]
    exact Ev.now _
theorem same_is (l : List S39) (hl : l.length ≤ 70) : Ev (fun k => hopmeshref29_Same.f k l l) true := by
  unfold hopmeshref29_Same.f
  simp only [if_true]
  have hh : ∀ m i : Nat, i + m = l.length → Ev (fun k => hopmeshref29_Same.l0 k l l (i : Int)) true := by
    intro m
    induction m with
    | zero =>
      intro i hi
      refine ev1 fun k => ?_
      simp only [hopmeshref29_Same.l0]
      rw [if_neg (by omega)]
    | succ m ih =>
      intro i hi
      have hw : wrap64 ((i : Int) + 1) = ((i + 1 : Nat) : Int) := by unfold wrap64; omega
      refine Ev.step (fun k => ?_) (ih (i + 1) (by omega))
      simp only [hopmeshref29_Same.l0]
      rw [if_pos (by omega), if_pos (by omega), if_pos (by omega), if_neg (by simp), hw]
  exact hh l.length 0 (by omega)
theorem pass_len (l : List S39) (slot : Int) (u w : Bool) (hl : l.length ≤ 70) : (passOf l slot u w).1.length ≤ 70 := by
  unfold passOf
  by_cases hc : (if l.length > 64 then (8 : Int) else checkTo l l.length) = 0
  · rw [if_pos hc]
    split
    · exact Nat.zero_le _
    · split
      · exact Nat.zero_le _
      · rw [List.length_set]; exact hl
  · rw [if_neg hc]
    exact Nat.zero_le _
theorem AllocateLists : hopmeshlaw29_AllocateLists.Pure := by
  intro l slot u w _ _ _
  refine Ev.rounds ?_
  unfold hopmeshlaw29_AllocateLists.f
  refine Ev.bind ev_awake ?_
  simp only [if_true, hopmeshref29_Few.f, Option.bind_some, decide_eq_true_eq]
  by_cases h70 : (l.length : Int) ≤ 70
  · simp only [if_pos h70]
    unfold allocate_Pass.f
    simp only [Option.bind_some]
    obtain ⟨r, e1, e2⟩ := load_all l
    refine Ev.bind (refPass_is l slot u w) ?_
    refine Ev.bind e1 ?_
    refine Ev.bind e2 ?_
    unfold allocate_Check.f hopmeshref29_Check.f
    simp only [Option.bind_some, if_true]
    refine Ev.bind (same_is _ (pass_len l slot u w (by omega))) ?_
    exact Ev.now true
  · simp only [if_neg h70]
    exact Ev.now true
end Go.Proofs.Ytfbekkmmafkmpaa.Pure
