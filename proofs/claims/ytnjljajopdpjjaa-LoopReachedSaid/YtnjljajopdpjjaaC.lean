/- Plain lemmas of the laws of chapter 50: what is in use where every frame is delivered within its deadline. -/
import Derived.Test.YtnjljajopdpjjaaPXx31
import Derived.Test.YtnjljajopdpjjaaB
namespace Go.Proofs.Ytnjljajopdpjjaa.S
open Go.RowKit Go.Proofs.Ytnjljajopdpjjaa Go.Proofs.Ytnjljajopdpjjaa.PX Go.Proofs.YtnjljajopdpjjaaW.PrintWords

theorem usable_iff (f : S39) (x : S34) : usableB f x = true ↔ x.f0 = f.f0 ∧ 0 ≤ x.f1 ∧ x.f1 ≤ 1073741824 ∧ 0 ≤ x.f2 ∧ x.f2 ≤ 1073741824 ∧ f.f4 + x.f1 * f.f3 ≤ x.f2 := by
  simp only [usableB, Bool.and_eq_true, decide_eq_true_eq, and_assoc]
theorem arr_pairA {l : S23} {s : S25} (hR : rightP l s) {xs ys : List Int} (hx : ∀ x ∈ xs, 0 ≤ x ∧ x ≤ 255) (N : Nat) (hN : N ≤ 100) (k : Int) :
    arr (flowA l s) (deliverOf l s xs ys N) k = if 0 ≤ k ∧ k < (N : Int) then some (l.f5 + k * l.f4 + latOf xs k.toNat s.f0 - 1) else none := by
  unfold rightP at hR
  induction N with
  | zero =>
    rw [if_neg (by omega)]
    rfl
  | succ N ih =>
    have ih := ih (by omega)
    have hl := latOf_bd hx N (most := s.f0) (by omega)
    have hm0 : 0 ≤ (N : Int) * l.f4 := Int.mul_nonneg (by omega) (by omega)
    have hm1 : (N : Int) * l.f4 ≤ 100 * 512 := Int.mul_le_mul (by omega) (by omega) (by omega) (by omega)
    rw [show deliverOf l s xs ys (N + 1) = (deliverOf l s xs ys N ++ [⟨2 * l.f0, (N : Int), l.f5 + (N : Int) * l.f4 + latOf xs N s.f0 - 1⟩]) ++ [⟨2 * l.f0 + 1, (N : Int) + (l.f5 + s.f0) / l.f4, l.f5 + (N : Int) * l.f4 + s.f0 + latOf ys N s.f1 - 1⟩] by
      show _ ++ pairOf l s xs ys N = _
      unfold pairOf
      rw [List.append_assoc]
      rfl]
    have hu1 : usableB (flowA l s) (⟨2 * l.f0, (N : Int), l.f5 + (N : Int) * l.f4 + latOf xs N s.f0 - 1⟩ : S34) = true := by
      refine (usable_iff _ _).2 ⟨rfl, ?_, ?_, ?_, ?_, ?_⟩ <;> dsimp only [flowA] <;> omega
    have hu2 : usableB (flowA l s) (⟨2 * l.f0 + 1, (N : Int) + (l.f5 + s.f0) / l.f4, l.f5 + (N : Int) * l.f4 + s.f0 + latOf ys N s.f1 - 1⟩ : S34) = false := by
      apply Bool.eq_false_iff.2
      intro h
      have h := ((usable_iff _ _).1 h).1
      dsimp only [flowA] at h
      omega
    rw [arr_snoc, arr_snoc, ih, hu1, hu2]
    by_cases h : 0 ≤ k ∧ k < (N : Int)
    · rw [if_pos h, if_pos (show 0 ≤ k ∧ k < ((N + 1 : Nat) : Int) by omega)]
      simp
    · rw [if_neg h]
      by_cases h2 : (N : Int) = k
      · subst h2
        rw [if_pos (show 0 ≤ (N : Int) ∧ (N : Int) < ((N + 1 : Nat) : Int) by omega)]
        simp
      · rw [if_neg (show ¬ (0 ≤ k ∧ k < ((N + 1 : Nat) : Int)) by omega)]
        simp [h2]
theorem arr_pairB {l : S23} {s : S25} (hR : rightP l s) {xs ys : List Int} (hy : ∀ x ∈ ys, 0 ≤ x ∧ x ≤ 255) (N : Nat) (hN : N ≤ 100) (k : Int) :
    arr (flowB l s) (deliverOf l s xs ys N) (k + (l.f5 + s.f0) / l.f4) = if 0 ≤ k ∧ k < (N : Int) then some (l.f5 + k * l.f4 + s.f0 + latOf ys k.toNat s.f1 - 1) else none := by
  unfold rightP at hR
  have hdm := Int.emod_add_mul_ediv (l.f5 + s.f0) l.f4
  have hd0 : 0 ≤ (l.f5 + s.f0) / l.f4 := Int.ediv_nonneg (by omega) (by omega)
  have hd1 : (l.f5 + s.f0) / l.f4 ≤ l.f5 + s.f0 := Int.ediv_le_self _ (by omega)
  induction N with
  | zero =>
    rw [if_neg (by omega)]
    rfl
  | succ N ih =>
    have ih := ih (by omega)
    have hl := latOf_bd hy N (most := s.f1) (by omega)
    have hm0 : 0 ≤ (N : Int) * l.f4 := Int.mul_nonneg (by omega) (by omega)
    have hm1 : (N : Int) * l.f4 ≤ 100 * 512 := Int.mul_le_mul (by omega) (by omega) (by omega) (by omega)
    have hadd : ((N : Int) + (l.f5 + s.f0) / l.f4) * l.f4 = (N : Int) * l.f4 + l.f4 * ((l.f5 + s.f0) / l.f4) := by rw [Int.add_mul, Int.mul_comm ((l.f5 + s.f0) / l.f4)]
    rw [show deliverOf l s xs ys (N + 1) = (deliverOf l s xs ys N ++ [⟨2 * l.f0, (N : Int), l.f5 + (N : Int) * l.f4 + latOf xs N s.f0 - 1⟩]) ++ [⟨2 * l.f0 + 1, (N : Int) + (l.f5 + s.f0) / l.f4, l.f5 + (N : Int) * l.f4 + s.f0 + latOf ys N s.f1 - 1⟩] by
      show _ ++ pairOf l s xs ys N = _
      unfold pairOf
      rw [List.append_assoc]
      rfl]
    have hu1 : usableB (flowB l s) (⟨2 * l.f0, (N : Int), l.f5 + (N : Int) * l.f4 + latOf xs N s.f0 - 1⟩ : S34) = false := by
      apply Bool.eq_false_iff.2
      intro h
      have h := ((usable_iff _ _).1 h).1
      dsimp only [flowB] at h
      omega
    have hu2 : usableB (flowB l s) (⟨2 * l.f0 + 1, (N : Int) + (l.f5 + s.f0) / l.f4, l.f5 + (N : Int) * l.f4 + s.f0 + latOf ys N s.f1 - 1⟩ : S34) = true := by
      refine (usable_iff _ _).2 ⟨rfl, ?_, ?_, ?_, ?_, ?_⟩ <;> dsimp only [flowB] <;> (try rw [hadd]) <;> omega
    rw [arr_snoc, arr_snoc, ih, hu1, hu2]
    by_cases h : 0 ≤ k ∧ k < (N : Int)
    · rw [if_pos h, if_pos (show 0 ≤ k ∧ k < ((N + 1 : Nat) : Int) by omega)]
      simp
    · rw [if_neg h]
      by_cases h2 : (N : Int) = k
      · subst h2
        rw [if_pos (show 0 ≤ (N : Int) ∧ (N : Int) < ((N + 1 : Nat) : Int) by omega)]
        simp
      · rw [if_neg (show ¬ (0 ≤ k ∧ k < ((N + 1 : Nat) : Int)) by omega)]
        have h3 : ¬ ((N : Int) + (l.f5 + s.f0) / l.f4 = k + (l.f5 + s.f0) / l.f4) := by omega
        simp [h3]
/-- A frame of the second flow carries the sample of its own round. -/
theorem carry_pair {l : S23} {s : S25} (hR : rightP l s) {xs ys : List Int} (hx : ∀ x ∈ xs, 0 ≤ x ∧ x ≤ 255) (N : Nat) (hN : N ≤ 100) (i : Int) (h0 : 0 ≤ i) (h1 : i < N) :
    carryNext (flowA l s) (flowB l s) (deliverOf l s xs ys N) (i + (l.f5 + s.f0) / l.f4) = i + 1 := by
  have hR' := hR
  unfold rightP at hR
  have hdm := Int.emod_add_mul_ediv (l.f5 + s.f0) l.f4
  have hadd : (i + (l.f5 + s.f0) / l.f4) * l.f4 = i * l.f4 + l.f4 * ((l.f5 + s.f0) / l.f4) := by rw [Int.add_mul, Int.mul_comm ((l.f5 + s.f0) / l.f4)]
  have hrel : (flowB l s).f4 + (i + (l.f5 + s.f0) / l.f4) * (flowB l s).f3 = l.f5 + s.f0 + i * l.f4 := by
    show (l.f5 + s.f0) % l.f4 + (i + (l.f5 + s.f0) / l.f4) * l.f4 = _
    rw [hadd]
    omega
  unfold carryNext
  rw [hrel]
  have hc : IsCarry (arr (flowA l s) (deliverOf l s xs ys N)) (l.f5 + s.f0 + i * l.f4) i := by
    refine ⟨.inr ⟨l.f5 + i * l.f4 + latOf xs i.toNat s.f0 - 1, ?_, ?_⟩, fun k t hk ht => ?_⟩
    · rw [arr_pairA hR' hx N hN, if_pos ⟨h0, h1⟩]
    · have := latOf_bd hx i.toNat (most := s.f0) (by omega)
      omega
    · rw [arr_pairA hR' hx N hN] at hk
      split at hk
      · rename_i hk2
        injection hk with hk
        have := latOf_bd hx k.toNat (most := s.f0) (by omega)
        apply Decidable.by_contra
        intro hik
        have : (i + 1) * l.f4 ≤ k * l.f4 := Int.mul_le_mul_of_nonneg_right (by omega) (by omega)
        rw [Int.add_mul] at this
        omega
      · cases hk
  rw [← hc.eq]
/-- What is in use in a slot: the greatest sample whose second frame has arrived before. -/
theorem used_pair {l : S23} {s : S25} (hR : rightP l s) {xs ys : List Int} (hx : ∀ x ∈ xs, 0 ≤ x ∧ x ≤ 255) (hy : ∀ x ∈ ys, 0 ≤ x ∧ x ≤ 255) (N : Nat) (hN : N ≤ 100) (t : Nat) :
    (usedOf (flowA l s) (flowB l s) (deliverOf l s xs ys N) (t + 1) = 0 ∨ ∃ i : Int, 0 ≤ i ∧ i < N ∧ l.f5 + i * l.f4 + s.f0 + latOf ys i.toNat s.f1 - 1 < (t : Int) ∧ usedOf (flowA l s) (flowB l s) (deliverOf l s xs ys N) (t + 1) = i + 1) ∧
    ∀ i : Int, 0 ≤ i → i < N → l.f5 + i * l.f4 + s.f0 + latOf ys i.toNat s.f1 - 1 < (t : Int) → i + 1 ≤ usedOf (flowA l s) (flowB l s) (deliverOf l s xs ys N) (t + 1) := by
  obtain ⟨_, h1, h2⟩ := used_is (flowA l s) (flowB l s) (deliverOf l s xs ys N) (t + 1)
  refine ⟨?_, fun i h0 hi hs => ?_⟩
  · rcases h1 with e | ⟨k, r, hk, hr, e⟩
    · exact .inl e
    · have hk' := hk
      rw [show k = (k - (l.f5 + s.f0) / l.f4) + (l.f5 + s.f0) / l.f4 by omega, arr_pairB hR hy N hN] at hk
      split at hk
      · rename_i hb
        injection hk with hk
        refine .inr ⟨k - (l.f5 + s.f0) / l.f4, hb.1, hb.2, by omega, ?_⟩
        rw [e, show k = (k - (l.f5 + s.f0) / l.f4) + (l.f5 + s.f0) / l.f4 by omega, carry_pair hR hx N hN _ hb.1 hb.2]
        omega
      · cases hk
  · have := h2 (i + (l.f5 + s.f0) / l.f4) (l.f5 + i * l.f4 + s.f0 + latOf ys i.toNat s.f1 - 1) (by rw [arr_pairB hR hy N hN, if_pos ⟨h0, hi⟩]) (by omega)
    rw [carry_pair hR hx N hN i h0 hi] at this
    exact this
theorem latOf_nil (i : Nat) (most : Int) : latOf [] i most = most := by
  unfold latOf
  rw [if_pos (by simp)]
theorem worst_right {l : S23} {s : S25} (h : loop_right.f l.f0 l.f1 l.f2 l.f3 l.f4 l.f5 l.f6 s.f0 s.f1 = some 0) : loop_Worst.f l.f0 l.f1 l.f2 l.f3 l.f4 l.f5 l.f6 s.f0 s.f1 = some (l.f4 + s.f0 + s.f1 - 1, 0) := by
  have hR := right_zero h
  unfold rightP at hR
  unfold loop_Worst.f loop_worst.f
  rw [h, Option.bind_some, if_pos rfl, Option.bind_some, show wrap64 (l.f4 + s.f0) = l.f4 + s.f0 by unfold wrap64; omega, show wrap64 (l.f4 + s.f0 + s.f1) = l.f4 + s.f0 + s.f1 by unfold wrap64; omega, show wrap64 (l.f4 + s.f0 + s.f1 - 1) = l.f4 + s.f0 + s.f1 - 1 by unfold wrap64; omega]
theorem worst_wrong {l : S23} {s : S25} {e : Int} (h : loop_right.f l.f0 l.f1 l.f2 l.f3 l.f4 l.f5 l.f6 s.f0 s.f1 = some e) (he : e ≠ 0) : loop_Worst.f l.f0 l.f1 l.f2 l.f3 l.f4 l.f5 l.f6 s.f0 s.f1 = some (0, e) := by
  unfold loop_Worst.f
  rw [h, Option.bind_some, if_neg he]
theorem deliver_right {l : S23} {s : S25} (hR : rightP l s) {xs ys : List Int} (hx : ∀ x ∈ xs, 0 ≤ x ∧ x ≤ 255) (hy : ∀ x ∈ ys, 0 ≤ x ∧ x ≤ 255) (N : Nat) (hN : N ≤ 100) :
    hopmeshlaw50_deliver.f l.f0 l.f1 l.f2 l.f3 l.f4 l.f5 l.f6 s.f0 s.f1 (N : Int) xs ys = some (deliverOf l s xs ys N) := by
  unfold rightP at hR
  unfold hopmeshlaw50_deliver.f
  rw [if_pos ⟨by omega, by omega, by omega, by omega, by omega, by omega, by omega, by omega, by omega, by omega, by omega, by omega, hx, hy⟩, Int.toNat_natCast]
theorem wfu8 {n : Int} (h : (Lit.int .u8 n).wf = true) : 0 ≤ n ∧ n ≤ 255 := by
  simp only [Lit.wf, Bool.and_eq_true, decide_eq_true_eq] at h
  exact h
end Go.Proofs.Ytnjljajopdpjjaa.S
