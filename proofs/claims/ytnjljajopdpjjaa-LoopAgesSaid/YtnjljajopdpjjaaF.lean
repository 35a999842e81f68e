/- Plain lemmas of LoopAges: the reference's ages are those of the program. -/
import Derived.Test.YtnjljajopdpjjaaPXx25
import Derived.Test.YtnjljajopdpjjaaE
namespace Go.Proofs.Ytnjljajopdpjjaa.S
open Go.RowKit Go.Proofs.Ytnjljajopdpjjaa Go.Proofs.Ytnjljajopdpjjaa.PX Go.Proofs.YtnjljajopdpjjaaW.PrintWords
set_option linter.unusedVariables false

/-- The greatest sample in use ahead of a slot, of so many deliveries, or -1. -/
def InUse (a b : S39) (d : List S34) (slot : Int) (i : Nat) (n : Int) : Prop :=
  -1 ≤ n ∧ n ≤ 1073741824 ∧ (n = -1 ∨ ∃ k s, arr b (d.take i) k = some s ∧ s < slot ∧ n = carryNext a b d k - 1) ∧ ∀ k s, arr b (d.take i) k = some s → s < slot → carryNext a b d k - 1 ≤ n
theorem inuse_step {a b : S39} {d : List S34} {i : Nat} {t n : Int} (hi : i < d.length) (h : InUse a b d t i n) :
    InUse a b d t (i + 1) (if countsB b d i = true ∧ (rd_T34 d (i : Int)).f2 < t then mx n (carryOf a d (b.f4 + (rd_T34 d (i : Int)).f1 * b.f3)) else n) := by
  obtain ⟨b0, b1, h1, h2⟩ := h
  cases hc : countsB b d i with
  | false =>
    rw [if_neg (by simp)]
    unfold InUse
    rw [arr_step_old hi hc]
    exact ⟨b0, b1, h1, h2⟩
  | true =>
    obtain ⟨n1, n2, n3⟩ := arr_step_new hi hc
    have hne : ∀ k s, arr b (d.take i) k = some s → k ≠ (rd_T34 d (i : Int)).f1 := fun k s hk e => by rw [e, n1] at hk; cases hk
    have hcn : carryNext a b d (rd_T34 d (i : Int)).f1 - 1 = carryOf a d (b.f4 + (rd_T34 d (i : Int)).f1 * b.f3) := by unfold carryNext; omega
    have hcb := carryOf_bd a d (b.f4 + (rd_T34 d (i : Int)).f1 * b.f3)
    by_cases ht : (rd_T34 d (i : Int)).f2 < t
    · rw [if_pos ⟨rfl, ht⟩]
      unfold mx
      split
      · rename_i hlt
        refine ⟨by omega, by omega, .inr ⟨_, _, n2, ht, hcn.symm⟩, fun k s hk hs => ?_⟩
        by_cases e : k = (rd_T34 d (i : Int)).f1
        · rw [e]; omega
        · rw [n3 k e] at hk
          have := h2 k s hk hs
          omega
      · rename_i hge
        refine ⟨b0, b1, ?_, fun k s hk hs => ?_⟩
        · rcases h1 with e | ⟨k, s, hk, hs, e⟩
          · exact .inl e
          · exact .inr ⟨k, s, by rw [n3 _ (hne _ _ hk)]; exact hk, hs, e⟩
        · by_cases e : k = (rd_T34 d (i : Int)).f1
          · rw [e]; omega
          · rw [n3 k e] at hk
            exact h2 k s hk hs
    · rw [if_neg (by rintro ⟨-, h⟩; exact ht h)]
      refine ⟨b0, b1, ?_, fun k s hk hs => ?_⟩
      · rcases h1 with e | ⟨k, s, hk, hs, e⟩
        · exact .inl e
        · exact .inr ⟨k, s, by rw [n3 _ (hne _ _ hk)]; exact hk, hs, e⟩
      · by_cases e : k = (rd_T34 d (i : Int)).f1
        · rw [e, n2] at hk
          injection hk with hk
          omega
        · rw [n3 k e] at hk
          exact h2 k s hk hs
theorem inuse_end {a b : S39} {d : List S34} {j : Nat} {n : Int} (h : InUse a b d (j : Int) d.length n) : usedOf a b d (j + 1) = n + 1 := by
  obtain ⟨b0, b1, h1, h2⟩ := h
  rw [List.take_of_length_le (Nat.le_refl _)] at h1 h2
  obtain ⟨u0, u1, u2⟩ := used_is a b d (j + 1)
  have hle : usedOf a b d (j + 1) ≤ n + 1 := by
    rcases u1 with e | ⟨k, s, hk, hs, e⟩
    · omega
    · have := h2 k s hk (by omega)
      omega
  have hge : n + 1 ≤ usedOf a b d (j + 1) := by
    rcases h1 with e | ⟨k, s, hk, hs, e⟩
    · omega
    · have := u2 k s hk (by omega)
      omega
  omega
/-- The list of ages as it stands ahead of a slot. -/
def listAt (a b : S39) (d : List S34) (N j : Nat) : List Int := (List.range j).map (ageOf a b d) ++ List.replicate (N - j) 0
theorem listAt_len (a b : S39) (d : List S34) {N j : Nat} (h : j ≤ N) : (listAt a b d N j).length = N := by
  unfold listAt
  rw [List.length_append, List.length_map, List.length_range, List.length_replicate]
  omega
theorem listAt_set (a b : S39) (d : List S34) {N j : Nat} (h : j < N) : (listAt a b d N j).set j (ageOf a b d j) = listAt a b d N (j + 1) := by
  unfold listAt
  rw [List.set_append_right _ _ (by simp), List.length_map, List.length_range, Nat.sub_self, List.range_succ, List.map_append, show N - j = (N - (j + 1)) + 1 by omega, List.replicate_succ]
  simp
theorem w_nat4 {j N : Nat} (h : j < N) (hN : N ≤ 4096) : wrap64 ((j : Int) + 1) = ((j + 1 : Nat) : Int) := by unfold wrap64; omega
theorem age_end {l : S23} {s : S25} {d : List S34} {j : Nat} {n : Int} (h : InUse (flowA l s) (flowB l s) d (j : Int) d.length n) : ageOf (flowA l s) (flowB l s) d j = if n ≥ 0 then (j : Int) - (l.f5 + n * l.f4) else -1 := by
  have hu := inuse_end h
  have hb := h.1
  unfold ageOf
  rw [hu]
  clear hu h
  by_cases h0 : n ≥ 0
  · rw [if_neg (by omega), if_pos h0, show n + 1 - 1 = n by omega]
    rfl
  · rw [if_pos (by omega), if_neg h0]
theorem age_wraps {j N : Nat} {n p q : Int} (hj : j < N) (hN : N ≤ 4096) (hp : 0 ≤ p ∧ p ≤ 512) (hq : 0 ≤ q ∧ q ≤ 512) (h0 : n ≥ 0) (h1 : n ≤ 1073741824) : wrap64 (n * p) = n * p ∧ wrap64 (q + n * p) = q + n * p ∧ wrap64 ((j : Int) - (q + n * p)) = (j : Int) - (q + n * p) := by
  have m0 : 0 ≤ n * p := Int.mul_nonneg h0 hp.1
  have m1 : n * p ≤ 1073741824 * 512 := Int.mul_le_mul h1 hp.2 hp.1 (by omega)
  refine ⟨?_, ?_, ?_⟩ <;> unfold wrap64 <;> omega
theorem refages1 {l : S23} {s : S25} (hR : rightP l s) {d : List S34} (hd : d.length ≤ 1024) {N j : Nat} (hj : j < N) (hN : N ≤ 4096) {R : List Int × Int}
    (hnext : Ev (fun k => hopmeshref50_Ages.l0 k d (N : Int) [flowA l s, flowB l s] (listAt (flowA l s) (flowB l s) d N (j + 1)) ((j + 1 : Nat) : Int) l.f0 l.f1 l.f2 l.f3 l.f4 l.f5 l.f6) R) :
    ∀ m i : Nat, i + m = d.length → ∀ n, InUse (flowA l s) (flowB l s) d (j : Int) i n → Ev (fun k => hopmeshref50_Ages.l1 k d (N : Int) [flowA l s, flowB l s] (listAt (flowA l s) (flowB l s) d N j) (j : Int) n (i : Int) l.f0 l.f1 l.f2 l.f3 l.f4 l.f5 l.f6) R := by
  have hR' := hR
  unfold rightP at hR
  have pa : 0 ≤ (flowA l s).f3 ∧ (flowA l s).f3 ≤ 512 := by show 0 ≤ l.f4 ∧ l.f4 ≤ 512; omega
  have qa : 0 ≤ (flowA l s).f4 ∧ (flowA l s).f4 ≤ 512 := by show 0 ≤ l.f5 ∧ l.f5 ≤ 512; omega
  have pb : 0 ≤ (flowB l s).f3 ∧ (flowB l s).f3 ≤ 512 := by show 0 ≤ l.f4 ∧ l.f4 ≤ 512; omega
  have hm0 := Int.emod_nonneg (l.f5 + s.f0) (b := l.f4) (by omega)
  have hm1 := Int.emod_lt_of_pos (l.f5 + s.f0) (b := l.f4) (by omega)
  have qb : 0 ≤ (flowB l s).f4 ∧ (flowB l s).f4 ≤ 512 := by show 0 ≤ (l.f5 + s.f0) % l.f4 ∧ (l.f5 + s.f0) % l.f4 ≤ 512; omega
  intro m
  induction m with
  | zero =>
    intro i hi n hn
    obtain rfl : i = d.length := by omega
    have hb0 := hn.1
    have hb1 := hn.2.1
    have hage := age_end (l := l) (s := s) hn
    have n1 : ¬ ((d.length : Int) < (d.length : Int)) := Int.lt_irrefl _
    have n2 : (0 : Int) ≤ (j : Int) := Int.natCast_nonneg j
    have n3 : (j : Int) < ((listAt (flowA l s) (flowB l s) d N j).length : Int) := by rw [listAt_len _ _ _ (Nat.le_of_lt hj)]; exact Int.ofNat_lt.2 hj
    have wj := w_nat4 hj hN
    have hset := listAt_set (flowA l s) (flowB l s) d hj
    rw [hage] at hset
    clear hage hn hi
    obtain ⟨K, hK⟩ := hnext
    refine ⟨K + 1, fun k hk => ?_⟩
    obtain ⟨k, rfl⟩ : ∃ m, k = m + 1 := ⟨k - 1, (Nat.sub_add_cancel (Nat.le_trans (Nat.le_add_left 1 K) hk)).symm⟩
    have g := hK k (Nat.le_of_succ_le_succ hk)
    dsimp only at g
    clear hK hk
    simp only [hopmeshref50_Ages.l1]
    rw [if_neg n1, if_pos n2, if_pos n3, Option.bind_some, wj, Int.toNat_natCast]
    rw [← hset] at g
    by_cases h0 : n ≥ 0
    · obtain ⟨q1, q2, q3⟩ := age_wraps hj hN (show 0 ≤ l.f4 ∧ l.f4 ≤ 512 from pa) (show 0 ≤ l.f5 ∧ l.f5 ≤ 512 from qa) h0 hb1
      rw [if_pos h0] at g ⊢
      rw [List.set_set, q1, q2, q3]
      exact g
    · rw [if_neg h0] at g ⊢
      exact g
  | succ m ih =>
    intro i hi n hn
    have hs := inuse_step (show i < d.length by omega) hn
    obtain ⟨K, hK⟩ := counts_is pb qb hd (show i < d.length by omega)
    obtain ⟨L, hL⟩ := ih (i + 1) (by omega) _ hs
    cases hcb : countsB (flowB l s) d i with
    | false =>
      refine ⟨K + L + 1, fun k hk => ?_⟩
      obtain ⟨k, rfl⟩ : ∃ m, k = m + 1 := ⟨k - 1, by omega⟩
      have g1 := hK k (by omega)
      have g2 := hL k (by omega)
      dsimp only at g1 g2
      rw [hcb, if_neg (by simp)] at g2
      rw [hcb] at g1
      simp only [hopmeshref50_Ages.l1]
      rw [if_pos (by omega), if_pos (by simp)]
      show ((hopmeshref50_counts.f k (flowB l s).f0 (flowB l s).f1 (flowB l s).f2 (flowB l s).f3 (flowB l s).f4 (flowB l s).f5 d (i : Int)).bind _) = _
      rw [g1, Option.bind_some, w_nat (show i < d.length by omega) hd, if_neg (by simp)]
      exact g2
    | true =>
      have hfr : 0 ≤ (rd_T34 d (i : Int)).f1 ∧ (rd_T34 d (i : Int)).f1 ≤ 1073741824 := by
        have h := hcb
        unfold countsB usableB at h
        simp only [Bool.and_eq_true, decide_eq_true_eq] at h
        omega
      obtain ⟨C, hC⟩ := carries_is pa qa pb qb hd hfr.1 hfr.2
      refine ⟨K + L + C + 1, fun k hk => ?_⟩
      obtain ⟨k, rfl⟩ : ∃ m, k = m + 1 := ⟨k - 1, by omega⟩
      have g1 := hK k (by omega)
      have g2 := hL k (by omega)
      have g3 := hC k (by omega)
      dsimp only at g1 g2 g3
      rw [hcb] at g1
      simp only [hopmeshref50_Ages.l1]
      rw [if_pos (by omega), if_pos (by simp)]
      show ((hopmeshref50_counts.f k (flowB l s).f0 (flowB l s).f1 (flowB l s).f2 (flowB l s).f3 (flowB l s).f4 (flowB l s).f5 d (i : Int)).bind _) = _
      rw [g1, Option.bind_some, w_nat (show i < d.length by omega) hd, if_pos rfl, if_pos (by omega)]
      by_cases ht : (rd_T34 d (i : Int)).f2 < (j : Int)
      · rw [hcb, if_pos ⟨rfl, ht⟩] at g2
        rw [if_pos ht, g3, Option.bind_some]
        exact g2
      · rw [if_neg (by rintro ⟨-, h⟩; exact ht h)] at g2
        rw [if_neg ht]
        exact g2
theorem refages0 {l : S23} {s : S25} (hR : rightP l s) {d : List S34} (hd : d.length ≤ 1024) {N : Nat} (hN : N ≤ 4096) : ∀ m j : Nat, j + m = N →
    Ev (fun k => hopmeshref50_Ages.l0 k d (N : Int) [flowA l s, flowB l s] (listAt (flowA l s) (flowB l s) d N j) (j : Int) l.f0 l.f1 l.f2 l.f3 l.f4 l.f5 l.f6) (agesOf l s d N, 0) := by
  intro m
  induction m with
  | zero =>
    intro j hj
    obtain rfl : j = N := by omega
    refine ev1 fun k => ?_
    simp only [hopmeshref50_Ages.l0]
    rw [if_neg (by omega)]
    unfold listAt agesOf
    rw [Nat.sub_self, List.replicate_zero, List.append_nil]
  | succ m ih =>
    intro j hj
    refine Ev.step (fun k => ?_) (refages1 hR hd (show j < N by omega) hN (ih (j + 1) (by omega)) d.length 0 (by omega) (-1) ⟨by omega, by omega, .inl rfl, fun k s hk => by cases hk⟩)
    simp only [hopmeshref50_Ages.l0]
    rw [if_pos (by omega)]
    rfl
theorem refflows_is {l : S23} {s : S25} (hR : rightP l s) : hopmeshref50_flows.f l.f0 l.f1 l.f2 l.f3 l.f4 l.f5 l.f6 s.f0 s.f1 = some [flowA l s, flowB l s] := by
  unfold rightP at hR
  unfold hopmeshref50_flows.f
  rw [if_neg (by omega), show wrap64 (2 * l.f0) = 2 * l.f0 by unfold wrap64; omega, show wrap64 (2 * l.f0 + 1) = 2 * l.f0 + 1 by unfold wrap64; omega, show wrap64 (l.f5 + s.f0) = l.f5 + s.f0 by unfold wrap64; omega, Int.tmod_eq_emod_of_nonneg (by omega)]
  rfl
end Go.Proofs.Ytnjljajopdpjjaa.S
