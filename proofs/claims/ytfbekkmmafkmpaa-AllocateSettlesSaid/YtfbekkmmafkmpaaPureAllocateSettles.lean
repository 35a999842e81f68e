/- AllocateSettles: Settle and Join answer as the reference does. -/
import Derived.Test.YtfbekkmmafkmpaaQAllocateSettles
import Derived.Test.YtfbekkmmafkmpaaPXx24
import Derived.Test.YtfbekkmmafkmpaaPXx26
import Derived.Test.YtfbekkmmafkmpaaPXx27
import Derived.Test.YtfbekkmmafkmpaaPXx25
import Derived.Test.YtfbekkmmafkmpaaA
import Derived.Test.YtfbekkmmafkmpaaB
namespace Go.Proofs.Ytfbekkmmafkmpaa.Pure
open Go.RowKit Go.Proofs.Ytfbekkmmafkmpaa.PX Go.Proofs.Ytfbekkmmafkmpaa.S Go.Proofs.YtfbekkmmafkmpaaW.PrintWords Go.Proofs.YtfbekkmmafkmpaaW.PrintMore
set_option linter.unusedVariables false
set_option linter.unusedSectionVars false

section
variable {d le mo : Int} (hd : 0 ≤ d) (hd2 : d ≤ 1048576) (h0 : 0 ≤ le) (h1 : le ≤ mo) (h2 : mo ≤ 64)
include hd hd2 h0 h1 h2
theorem ref_up {n : Int} (n0 : 0 ≤ n) (n1 : n ≤ 64) (h : (stepOf d le mo n).1 = 1) {r : Int × Int} (e : Ev (fun k => hopmeshref29_Settle.l0 k (n + (stepOf d le mo n).2) d le mo) r) : Ev (fun k => hopmeshref29_Settle.l0 k n d le mo) r := by
  have hm := mn_bd hd n0
  by_cases c1 : n < le
  · have es : stepOf d le mo n = (1, mn 8 (le - n)) := by unfold stepOf; rw [if_pos c1]
    rw [es] at e
    have hb : 1 ≤ mn 8 (le - n) ∧ mn 8 (le - n) ≤ 8 ∧ mn 8 (le - n) ≤ le - n := by unfold mn; split <;> omega
    refine Ev.step (fun k => ?_) e
    simp only [hopmeshref29_Settle.l0]
    rw [if_pos c1, show wrap64 (le - n) = le - n by unfold wrap64; omega, show wrap64 (n + mn 8 (le - n)) = n + mn 8 (le - n) by unfold wrap64; omega]
  by_cases c2 : n = 0
  · have es : stepOf d le mo n = (0, 0) := by unfold stepOf; rw [if_neg c1, if_pos c2]
    rw [es] at h
    cases h
  by_cases c3 : 3 * n ≤ 4 * mn d n ∧ n < mo
  · have es : stepOf d le mo n = (1, 1) := by unfold stepOf; rw [if_neg c1, if_neg c2, if_pos c3]
    rw [es] at e
    refine Ev.step (f := fun k => hopmeshref29_Settle.j2 k n d le mo true) (fun k => ?_) (Ev.step (fun k => ?_) e)
    · simp only [hopmeshref29_Settle.l0]
      rw [if_neg c1, if_pos (by omega), show wrap64 (4 * mn d n) = 4 * mn d n by unfold wrap64; omega, show wrap64 (3 * n) = 3 * n by unfold wrap64; omega, if_pos (by omega), decide_eq_true c3.2]
    · simp only [hopmeshref29_Settle.j2]
      rw [if_pos trivial, show wrap64 (n + 1) = n + 1 by unfold wrap64; omega]
  · have es : (stepOf d le mo n).1 ≠ 1 := by
      unfold stepOf
      rw [if_neg c1, if_neg c2, if_neg c3]
      split <;> simp
    exact absurd h es
theorem ref_flat {n : Int} (n0 : 0 ≤ n) (n1 : n ≤ 64) (h : (stepOf d le mo n).1 ≠ 1) {r : Int × Int} (e : Ev (fun k => hopmeshref29_Settle.j2 k n d le mo false) r) : Ev (fun k => hopmeshref29_Settle.l0 k n d le mo) r := by
  have hm := mn_bd hd n0
  have c1 : ¬ n < le := fun c1 => h (by unfold stepOf; rw [if_pos c1])
  refine Ev.step (fun k => ?_) e
  simp only [hopmeshref29_Settle.l0]
  rw [if_neg c1]
  by_cases c2 : n = 0
  · rw [if_neg (by omega)]
  rw [if_pos (by omega), show wrap64 (4 * mn d n) = 4 * mn d n by unfold wrap64; omega, show wrap64 (3 * n) = 3 * n by unfold wrap64; omega]
  have c3 : ¬ (3 * n ≤ 4 * mn d n ∧ n < mo) := fun c3 => h (by unfold stepOf; rw [if_neg c1, if_neg c2, if_pos c3])
  by_cases c4 : 4 * mn d n ≥ 3 * n
  · rw [if_pos c4, decide_eq_false (by omega)]
  · rw [if_neg c4]
theorem ref_down {n : Int} (n0 : 0 ≤ n) (n1 : n ≤ 64) (h : (stepOf d le mo n).1 = 2) {r : Int × Int} (e : Ev (fun k => hopmeshref29_Settle.l0 k (n - 1) d le mo) r) : Ev (fun k => hopmeshref29_Settle.l0 k n d le mo) r := by
  have hm := mn_bd hd n0
  refine ref_flat hd hd2 h0 h1 h2 n0 n1 (by omega) ?_
  have c : 4 * mn d n < n ∧ n > le ∧ n > 1 := by
    unfold stepOf at h
    repeat' split at h
    all_goals first | (cases h; done) | assumption
  refine Ev.step (fun k => ?_) e
  simp only [hopmeshref29_Settle.j2]
  rw [if_neg (by simp), show wrap64 (4 * mn d n) = 4 * mn d n by unfold wrap64; omega, if_pos c.1, if_pos c.2.1, if_pos c.2.2, show wrap64 (n - 1) = n - 1 by unfold wrap64; omega]
theorem ref_stop {n : Int} (n0 : 0 ≤ n) (n1 : n ≤ 64) (h : (stepOf d le mo n).1 = 0) : Ev (fun k => hopmeshref29_Settle.l0 k n d le mo) (n, 0) := by
  have hm := mn_bd hd n0
  refine ref_flat hd hd2 h0 h1 h2 n0 n1 (by omega) (ev1 fun k => ?_)
  obtain ⟨s1, s2⟩ := step_stop h
  simp only [hopmeshref29_Settle.j2]
  rw [if_neg (by simp), show wrap64 (4 * mn d n) = 4 * mn d n by unfold wrap64; omega]
  rcases s2 with s2 | ⟨-, s2⟩
  · rw [if_neg (by omega)]
  · by_cases q1 : 4 * mn d n < n
    · rw [if_pos q1]
      by_cases q2 : n > le
      · rw [if_pos q2]
        by_cases q3 : n > 1
        · exact absurd ⟨q1, q2, q3⟩ s2
        · rw [if_neg q3]
      · rw [if_neg q2]
    · rw [if_neg q1]
theorem two_up : ∀ (m : Nat) (n : Int), 64 - n ≤ m → 0 ≤ n → n ≤ 64 → (stepOf d le mo n).1 ≠ 2 → ∃ r, Ev (fun k => allocate_Settle.l0 k n d le mo) (r, 0) ∧ Ev (fun k => hopmeshref29_Settle.l0 k n d le mo) (r, 0) := by
  intro m
  induction m with
  | zero =>
    intro n hm n0 n1 hs
    rcases step_any d le mo n with h | h | h
    · exact ⟨n, settle_stop hd h0 h1 h2 n0 n1 h, ref_stop hd hd2 h0 h1 h2 n0 n1 h⟩
    · have := step_up hd n0 h1 h
      omega
    · exact absurd h hs
  | succ m ih =>
    intro n hm n0 n1 hs
    rcases step_any d le mo n with h | h | h
    · exact ⟨n, settle_stop hd h0 h1 h2 n0 n1 h, ref_stop hd hd2 h0 h1 h2 n0 n1 h⟩
    · obtain ⟨u1, u2, u3, u4⟩ := step_up hd n0 h1 h
      obtain ⟨r, e1, e2⟩ := ih (n + (stepOf d le mo n).2) (by omega) (by omega) (by omega) u4
      exact ⟨r, Ev.step (fun k => by rw [settle_step hd h0 h1 h2 k n0 n1, if_pos h]) e1, ref_up hd hd2 h0 h1 h2 n0 n1 h e2⟩
    · exact absurd h hs
theorem two_down : ∀ (m : Nat) (n : Int), n ≤ m → 0 ≤ n → n ≤ 64 → (stepOf d le mo n).1 ≠ 1 → ∃ r, Ev (fun k => allocate_Settle.l0 k n d le mo) (r, 0) ∧ Ev (fun k => hopmeshref29_Settle.l0 k n d le mo) (r, 0) := by
  intro m
  induction m with
  | zero =>
    intro n hm n0 n1 hs
    rcases step_any d le mo n with h | h | h
    · exact ⟨n, settle_stop hd h0 h1 h2 n0 n1 h, ref_stop hd hd2 h0 h1 h2 n0 n1 h⟩
    · exact absurd h hs
    · have := step_down hd n0 h
      omega
  | succ m ih =>
    intro n hm n0 n1 hs
    rcases step_any d le mo n with h | h | h
    · exact ⟨n, settle_stop hd h0 h1 h2 n0 n1 h, ref_stop hd hd2 h0 h1 h2 n0 n1 h⟩
    · exact absurd h hs
    · obtain ⟨u1, u2, u3, u4⟩ := step_down hd n0 h
      obtain ⟨r, e1, e2⟩ := ih (n - 1) (by omega) (by omega) (by omega) u4
      exact ⟨r, Ev.step (fun k => by rw [settle_step hd h0 h1 h2 k n0 n1, if_neg (by omega), if_pos h, u1]) e1, ref_down hd hd2 h0 h1 h2 n0 n1 h e2⟩
end
theorem reflimits_is (a b : Int) : hopmeshref29_limits.f a b = some (decide (0 ≤ a ∧ a ≤ b ∧ b ≤ 64)) := by
  unfold hopmeshref29_limits.f
  by_cases h : a ≥ 0
  · rw [if_pos h]
    by_cases h' : a ≤ b
    · rw [if_pos h']
      exact congrArg some (decide_eq_decide.2 (by omega))
    · rw [if_neg h']
      exact congrArg some (decide_eq_false (by omega)).symm
  · rw [if_neg h]
    exact congrArg some (decide_eq_false (by omega)).symm
theorem settle_all (n d le mo : Int) : ∃ r, Ev (fun k => allocate_Settle.f k n d le mo) r ∧ Ev (fun k => hopmeshref29_Settle.f k n d le mo) r := by
  by_cases v1 : 0 ≤ le ∧ le ≤ mo ∧ mo ≤ 64
  · by_cases v2 : 0 ≤ n ∧ n ≤ 64
    · by_cases v3 : 0 ≤ d ∧ d ≤ 1048576
      · have : ∃ r, Ev (fun k => allocate_Settle.l0 k n d le mo) (r, 0) ∧ Ev (fun k => hopmeshref29_Settle.l0 k n d le mo) (r, 0) := by
          by_cases h : (stepOf d le mo n).1 = 2
          · exact two_down v3.1 v3.2 v1.1 v1.2.1 v1.2.2 64 n (by omega) v2.1 v2.2 (by omega)
          · exact two_up v3.1 v3.2 v1.1 v1.2.1 v1.2.2 64 n (by omega) v2.1 v2.2 h
        obtain ⟨r, e1, e2⟩ := this
        refine ⟨(r, 0), Settle_is v3.1 v1.1 v1.2.1 v1.2.2 v3.2 v2.1 v2.2 e1, ?_⟩
        unfold hopmeshref29_Settle.f
        simp only [reflimits_is, Option.bind_some]
        simp only [decide_eq_true v1, if_true, if_neg (show ¬ n < 0 by omega), if_neg (show ¬ n > 64 by omega), if_neg (show ¬ d < 0 by omega), decide_eq_false (show ¬ d > 1048576 by omega)]
        refine Ev.step (fun k => ?_) e2
        simp [hopmeshref29_Settle.j0]
      · refine ⟨(0, 2), ?_, ?_⟩
        · unfold allocate_Settle.f
          simp only [limits_is, within_is, Option.bind_some]
          simp only [decide_eq_true v1, decide_eq_true v2, decide_eq_false v3, if_true]
          exact ev1 fun k => by simp [allocate_Settle.j0]
        · unfold hopmeshref29_Settle.f
          simp only [reflimits_is, Option.bind_some]
          simp only [decide_eq_true v1, if_true, if_neg (show ¬ n < 0 by omega), if_neg (show ¬ n > 64 by omega)]
          by_cases q : d < 0
          · simp only [if_pos q]
            exact ev1 fun k => by simp [hopmeshref29_Settle.j0]
          · simp only [if_neg q, decide_eq_true (show d > 1048576 by omega)]
            exact ev1 fun k => by simp [hopmeshref29_Settle.j0]
    · refine ⟨(0, 2), ?_, ?_⟩
      · unfold allocate_Settle.f
        simp only [limits_is, within_is, Option.bind_some]
        simp only [decide_eq_true v1, decide_eq_false v2, if_true, Bool.false_eq_true, if_false]
        exact ev1 fun k => by simp [allocate_Settle.j0]
      · unfold hopmeshref29_Settle.f
        simp only [reflimits_is, Option.bind_some]
        simp only [decide_eq_true v1, if_true]
        by_cases q : n < 0
        · simp only [if_pos q]
          exact ev1 fun k => by simp [hopmeshref29_Settle.j0]
        · simp only [if_neg q, if_pos (show n > 64 by omega)]
          exact ev1 fun k => by simp [hopmeshref29_Settle.j0]
  · refine ⟨(0, 2), ?_, ?_⟩
    · unfold allocate_Settle.f
      simp only [limits_is, within_is, Option.bind_some]
      simp only [decide_eq_false v1, Bool.false_eq_true, if_false]
      exact ev1 fun k => by simp [allocate_Settle.j0]
    · unfold hopmeshref29_Settle.f
      simp only [reflimits_is, Option.bind_some]
      simp only [decide_eq_false v1, Bool.false_eq_true, if_false]
      exact ev1 fun k => by simp [hopmeshref29_Settle.j0]
theorem badAt_incS {l : List S39} {i : Nat} (h : badAt l (i + 1) = 0) : (rd_T39 l (i : Int)).f0.f0 < (rd_T39 l ((i + 1 : Nat) : Int)).f0.f0 := by
  unfold badAt badV at h
  rw [show ((i + 1 : Nat) : Int) - 1 = (i : Int) by omega] at h
  split at h
  · split at h
    · split at h
      · cases h
      · rename_i q
        omega
    · cases h
  · cases h
theorem slots_incS {l : List S39} (h : checkTo l l.length = 0) {i : Nat} : ∀ j, i < j → j < l.length → (rd_T39 l (i : Int)).f0.f0 < (rd_T39 l (j : Int)).f0.f0 := by
  intro j
  induction j with
  | zero => intro hij; omega
  | succ j ih =>
    intro hij hj
    have h1 := badAt_incS (checkTo_all h (j + 1) hj)
    by_cases e : i = j
    · rw [e]; exact h1
    · have := ih (by omega) (by omega)
      omega
theorem cell_slot {c d : S37} (h : sameCell c d = true) : c.f0 = d.f0 := by
  unfold sameCell at h
  rw [Bool.and_eq_true] at h
  exact beq_iff_eq.1 h.1
theorem rd_setS {l : List S39} {i : Nat} (h : i < l.length) (y : S39) : rd_T39 (l.set i y) (i : Int) = y := by
  unfold rd_T39
  rw [Int.toNat_natCast, List.getD_eq_getElem?_getD, List.getElem?_set_self h]
  rfl
theorem l2_run {l out : List S39} {i : Nat} (hi : i < out.length) (hl : l.length ≤ 64) {R : List S39 × Int} : ∀ n j : Nat, j + n ≤ l.length → (∀ m : Nat, j ≤ m → m < j + n → sameCell (rd_T39 l (m : Int)).f0 (rd_T39 out (i : Int)).f0 = false) →
    Ev (fun k => hopmeshref29_Join.l2 k l out (i : Int) ((j + n : Nat) : Int)) R → Ev (fun k => hopmeshref29_Join.l2 k l out (i : Int) (j : Int)) R := by
  intro n
  induction n with
  | zero => intro j _ _ e; exact e
  | succ n ih =>
    intro j hj hs e
    have hs0 := hs j (Nat.le_refl _) (by omega)
    unfold sameCell at hs0
    refine Ev.step (fun k => ?_) (ih (j + 1) (by omega) (fun m h1 h2 => hs m (by omega) (by omega)) (by rw [show j + 1 + n = j + (n + 1) by omega]; exact e))
    simp only [hopmeshref29_Join.l2]
    rw [if_pos (by omega), if_pos (by omega), if_pos (by omega), if_pos (by omega), if_neg (by rw [hs0]; simp), w_next (show j < l.length by omega) hl]
theorem l2_end {l out : List S39} {i : Nat} (hi : i < 70) {R : List S39 × Int} (e : Ev (fun k => hopmeshref29_Join.l1 k l out ((i + 1 : Nat) : Int)) R) : Ev (fun k => hopmeshref29_Join.l2 k l out (i : Int) (l.length : Int)) R := by
  refine Ev.step (fun k => ?_) e
  simp only [hopmeshref29_Join.l2]
  rw [if_neg (by omega), show wrap64 ((i : Int) + 1) = ((i + 1 : Nat) : Int) by unfold wrap64; omega]
theorem l1_step {l out : List S39} {i : Nat} (hi : i < out.length) (ho : out.length ≤ 70) (hl : l.length ≤ 64) (hc : checkTo l l.length = 0) {R : List S39 × Int} (e : Ev (fun k => hopmeshref29_Join.l1 k l (joinStep l out i) ((i + 1 : Nat) : Int)) R) :
    Ev (fun k => hopmeshref29_Join.l1 k l out (i : Int)) R := by
  have e0 : Ev (fun k => hopmeshref29_Join.l2 k l out (i : Int) 0) R := by
    unfold joinStep at e
    cases hf : (List.range l.length).find? (fun k : Nat => sameCell (rd_T39 l (k : Int)).f0 (rd_T39 out (i : Int)).f0) with
    | none =>
      rw [hf] at e
      refine l2_run hi hl l.length 0 (by omega) (fun m _ hm => ?_) ?_
      · have := List.find?_range_eq_none.1 hf m (by omega)
        simpa using this
      · rw [Nat.zero_add]
        exact l2_end (by omega) e
    | some m =>
      rw [hf] at e
      dsimp only at e
      obtain ⟨f1, f2, f3⟩ := List.find?_range_eq_some.1 hf
      rw [List.mem_range] at f2
      have hset := rd_setS hi (rd_T39 l (m : Int))
      refine l2_run hi hl m 0 (by omega) (fun j _ hj => by have := f3 j (by omega); simpa using this) ?_
      rw [Nat.zero_add]
      have f1' := f1
      unfold sameCell at f1
      refine Ev.step (f := fun k => hopmeshref29_Join.l2 k l (out.set i (rd_T39 l (m : Int))) (i : Int) ((m + 1 : Nat) : Int)) (fun k => ?_) ?_
      · simp only [hopmeshref29_Join.l2]
        rw [if_pos (by omega), if_pos (by omega), if_pos (by omega), if_pos (by omega), if_pos f1, w_next f2 hl, Int.toNat_natCast]
      · refine l2_run (by rw [List.length_set]; exact hi) hl (l.length - (m + 1)) (m + 1) (by omega) (fun j hj1 hj2 => ?_) ?_
        · rw [hset]
          cases hq : sameCell (rd_T39 l (j : Int)).f0 (rd_T39 l (m : Int)).f0 with
          | false => rfl
          | true =>
            have h1 := cell_slot hq
            have h2 := slots_incS hc (i := m) j (by omega) (by omega)
            omega
        · rw [show m + 1 + (l.length - (m + 1)) = l.length by omega]
          exact l2_end (by omega) e
  refine Ev.step (fun k => ?_) e0
  simp only [hopmeshref29_Join.l1]
  rw [if_pos (by omega)]
theorem l1_all {l out : List S39} (ho : out.length ≤ 70) (hl : l.length ≤ 64) (hc : checkTo l l.length = 0) : ∀ m i : Nat, i + m = out.length → Ev (fun k => hopmeshref29_Join.l1 k l (joinTo l out i) (i : Int)) (joinTo l out out.length, 0) := by
  intro m
  induction m with
  | zero =>
    intro i hi
    obtain rfl : i = out.length := by omega
    refine ev1 fun k => ?_
    simp only [hopmeshref29_Join.l1]
    rw [if_neg (by rw [joinTo_len]; omega)]
  | succ m ih =>
    intro i hi
    refine l1_step (by rw [joinTo_len]; omega) (by rw [joinTo_len]; exact ho) hl hc ?_
    exact ih (i + 1) (by omega)
theorem l0_all {l : List S39} {cs : List S37} (hcs : cs.length ≤ 70) {R : List S39 × Int} (e : Ev (fun k => hopmeshref29_Join.l0 (k + 1) l cs (freshTo cs cs.length) (cs.length : Int)) R) : ∀ m i : Nat, i + m = cs.length → Ev (fun k => hopmeshref29_Join.l0 k l cs (freshTo cs i) (i : Int)) R := by
  intro m
  induction m with
  | zero =>
    intro i hi
    obtain rfl : i = cs.length := by omega
    exact Ev.step (fun k => rfl) e
  | succ m ih =>
    intro i hi
    refine Ev.step (fun k => ?_) (ih (i + 1) (by omega))
    simp only [hopmeshref29_Join.l0, freshTo]
    rw [if_pos (by omega), if_pos (by omega), if_pos (by rw [freshTo_len]; omega), show wrap64 ((i : Int) + 1) = ((i + 1 : Nat) : Int) by unfold wrap64; omega]
theorem join_is (l : List S39) (cs : List S37) (hcs : cs.length ≤ 70) : Ev (fun k => hopmeshref29_Join.f k l cs) (joinOf l cs) := by
  unfold hopmeshref29_Join.f joinOf hopmeshref29_Check.f
  simp only [Option.bind_some]
  by_cases hc : checkOf l = 0
  · have hc' : (if l.length > 64 then 8 else checkTo l l.length) = 0 := hc
    obtain ⟨h1, h2⟩ := check_len hc
    simp only [if_pos hc']
    refine l0_all hcs ?_ cs.length 0 (by omega)
    simp only [hopmeshref29_Join.l0]
    simp only [if_neg (show ¬ (cs.length : Int) < (cs.length : Int) by omega), hopmeshref29_Check.f, Option.bind_some]
    have hfl : (freshTo cs cs.length).length ≤ 70 := by rw [freshTo_len]; exact hcs
    generalize freshTo cs cs.length = out at hfl
    by_cases hk : (if out.length > 64 then 8 else checkTo out out.length) = 0
    · simp only [if_pos hk]
      exact l1_all hfl h1 h2 out.length 0 (by omega)
    · simp only [if_neg hk]
      exact Ev.now _
  · have hn : ¬ (if l.length > 64 then 8 else checkTo l l.length) = 0 := hc
    simp only [if_neg hn]
    exact Ev.now _
theorem same_isS (l : List S39) (hl : l.length ≤ 70) : Ev (fun k => hopmeshref29_Same.f k l l) true := by
  unfold hopmeshref29_Same.f
  simp only [if_true]
  have hh : ∀ m i : Nat, i + m = l.length → Ev (fun k => hopmeshref29_Same.l0 k l l (i : Int)) true := by
    intro m
    induction m with
    | zero =>
      intro i hi
      refine ev1 fun k => ?_
      simp only [hopmeshref29_Same.l0]
      rw [if_neg (by omega)]
    | succ m ih =>
      intro i hi
      have hw : wrap64 ((i : Int) + 1) = ((i + 1 : Nat) : Int) := by unfold wrap64; omega
      refine Ev.step (fun k => ?_) (ih (i + 1) (by omega))
      simp only [hopmeshref29_Same.l0]
      rw [if_pos (by omega), if_pos (by omega), if_pos (by omega), if_neg (by simp), hw]
  exact hh l.length 0 (by omega)
theorem join_len (l : List S39) (cs : List S37) (hcs : cs.length ≤ 70) : (joinOf l cs).1.length ≤ 70 := by
  unfold joinOf
  by_cases hc : (if l.length > 64 then (8 : Int) else checkTo l l.length) = 0
  · rw [if_pos hc]
    by_cases hk : (if (freshTo cs cs.length).length > 64 then (8 : Int) else checkTo (freshTo cs cs.length) (freshTo cs cs.length).length) = 0
    · rw [if_pos hk]
      show (joinTo l (freshTo cs cs.length) (freshTo cs cs.length).length).length ≤ 70
      rw [joinTo_len, freshTo_len]
      exact hcs
    · rw [if_neg hk]
      exact Nat.zero_le _
  · rw [if_neg hc]
    exact Nat.zero_le _
theorem AllocateSettles : hopmeshlaw29_AllocateSettles.Pure := by
  intro n d le mo l cs _ _ _ _ _ _ _ _
  refine Ev.rounds ?_
  unfold hopmeshlaw29_AllocateSettles.f
  refine Ev.bind ev_awake ?_
  simp only [if_true, hopmeshref29_Few.f, Option.bind_some, decide_eq_true_eq]
  by_cases h70 : (l.length : Int) ≤ 70
  · simp only [if_pos h70]
    by_cases hcs : (cs.length : Int) > 70
    · simp only [decide_eq_true hcs]
      exact ev1 fun k => by simp [hopmeshlaw29_AllocateSettles.j0]
    · simp only [decide_eq_false hcs]
      have hcs' : cs.length ≤ 70 := by omega
      obtain ⟨r, e1, e2⟩ := settle_all n d le mo
      have e3 := join_is l cs hcs'
      have e4 := same_isS _ (join_len l cs hcs')
      have : Ev (fun k => (allocate_Settle.f k n d le mo).bind fun bt273 => ((hopmeshref29_Settle.f k n d le mo).bind fun bt275 => ((allocate_Join.f l cs).bind fun bt277 => ((hopmeshref29_Join.f k l cs).bind fun bt281 => (if bt273.1 = bt275.1 then (if bt273.2 = bt275.2 then (if bt277.2 = bt281.2 then ((hopmeshref29_Same.f k bt277.1 bt281.1).bind fun t285 => (some t285)) else (some false)) else (some false)) else (some false)))))) true := by
        refine Ev.bind e1 ?_
        refine Ev.bind e2 ?_
        unfold allocate_Join.f
        simp only [if_pos hcs', Option.bind_some]
        refine Ev.bind e3 ?_
        simp only [if_true]
        refine Ev.bind e4 ?_
        exact Ev.now true
      refine Ev.step (fun k => ?_) this
      simp [hopmeshlaw29_AllocateSettles.j0]
  · simp only [if_neg h70]
    exact ev1 fun k => by simp [hopmeshlaw29_AllocateSettles.j0]
end Go.Proofs.Ytfbekkmmafkmpaa.Pure
