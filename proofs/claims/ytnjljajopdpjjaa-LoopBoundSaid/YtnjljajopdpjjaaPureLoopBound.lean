/- LoopBound: if every frame is delivered within its deadline, a sample is used in each slot from Phase + Sense + Act on, and no age is greater than the worst age. -/
import Derived.Test.YtnjljajopdpjjaaQLoopBound
import Derived.Test.YtnjljajopdpjjaaC
namespace Go.Proofs.Ytnjljajopdpjjaa.Pure
open Go.RowKit Go.Proofs.Ytnjljajopdpjjaa.PX Go.Proofs.Ytnjljajopdpjjaa.S Go.Proofs.YtnjljajopdpjjaaW.PrintWords

theorem bound_age {l : S23} {s : S25} (hR : rightP l s) {xs ys : List Int} (hx : ∀ x ∈ xs, 0 ≤ x ∧ x ≤ 255) (hy : ∀ x ∈ ys, 0 ≤ x ∧ x ≤ 255) (N : Nat) (h0 : 1 ≤ N) (hN : N ≤ 100) (t : Nat) (ht : (t : Int) < l.f5 + (N : Int) * l.f4 + s.f0 + s.f1) :
    ageOf (flowA l s) (flowB l s) (deliverOf l s xs ys N) t ≤ l.f4 + s.f0 + s.f1 - 1 ∧ (ageOf (flowA l s) (flowB l s) (deliverOf l s xs ys N) t < 0 → (t : Int) < l.f5 + s.f0 + s.f1) := by
  have hR' := hR
  unfold rightP at hR
  obtain ⟨a1, a2⟩ := used_pair hR' hx hy N hN t
  unfold ageOf
  have f3 : (flowA l s).f3 = l.f4 := rfl
  have f4 : (flowA l s).f4 = l.f5 := rfl
  rw [f3, f4]
  rcases a1 with e | ⟨i, hi0, hi1, hi2, e⟩
  · rw [if_pos e]
    refine ⟨by omega, fun _ => ?_⟩
    have hlb := latOf_bd hy (0 : Int).toNat (most := s.f1) (by omega)
    have := a2 0 (by omega) (by omega)
    apply Decidable.by_contra
    intro hc
    have := this (by omega)
    omega
  · rw [e, if_neg (by omega), show i + 1 - 1 = i by omega]
    have hlb := latOf_bd hy i.toNat (most := s.f1) (by omega)
    refine ⟨?_, fun hc => by omega⟩
    have hq : (i + 1) * l.f4 = i * l.f4 + l.f4 := by rw [Int.add_mul, Int.one_mul]
    by_cases hl : i + 1 < N
    · have hlb2 := latOf_bd hy (i + 1).toNat (most := s.f1) (by omega)
      have := a2 (i + 1) (by omega) hl
      rw [e, hq] at this
      apply Decidable.by_contra
      intro hc
      have := this (by omega)
      omega
    · have hNi : (N : Int) = i + 1 := by omega
      rw [hNi, hq] at ht
      omega
theorem late_none {l : S23} {s : S25} {d : List S34} {n : Nat} (h : loop_right.f l.f0 l.f1 l.f2 l.f3 l.f4 l.f5 l.f6 s.f0 s.f1 = some 0) (hd : d.length ≤ 1024) (h1 : n ≤ 4096)
    (ha : ∀ i, i < n → ageOf (flowA l s) (flowB l s) d i ≤ l.f6) : Ev (fun k => loop_Late.f k l.f0 l.f1 l.f2 l.f3 l.f4 l.f5 l.f6 s.f0 s.f1 d (n : Int)) ([], 0) := by
  have hl : ∀ m i : Nat, i + m = n → Ev (fun k => loop_Late.l0 k [] (agesOf l s d n) (n : Int) (i : Int) l.f0 l.f1 l.f2 l.f3 l.f4 l.f5 l.f6) ([], 0) := by
    intro m
    induction m with
    | zero =>
      intro i hi
      refine ev1 fun k => ?_
      simp only [loop_Late.l0]
      rw [if_neg (by omega)]
    | succ m ih =>
      intro i hi
      have hw : wrap64 ((i : Int) + 1) = ((i + 1 : Nat) : Int) := by unfold wrap64; omega
      have hai := ha i (by omega)
      refine Ev.step (fun k => ?_) (ih (i + 1) (by omega))
      simp only [loop_Late.l0]
      rw [if_pos (by omega), if_pos (by omega), if_pos (by rw [ages_len]; omega), ages_rd l s d n i (by omega), if_neg (by omega), hw]
  obtain ⟨K, hK⟩ := hl n 0 (by omega)
  refine ⟨K + 1, fun k hk => ?_⟩
  obtain ⟨k, rfl⟩ : ∃ m, k = m + 1 := ⟨k - 1, by omega⟩
  unfold loop_Late.f loop_check.f loop_ages.f
  dsimp only
  rw [h, Option.bind_some, if_pos rfl, if_neg (by omega), decide_eq_false (by omega)]
  simp only [loop_check.j0]
  rw [if_neg (by simp), if_neg (by omega), Option.bind_some, if_pos rfl, if_pos ⟨hd, by omega, by omega, trivial⟩, Option.bind_some]
  have := hK (k + 1) (by omega)
  rw [Int.toNat_natCast]
  show loop_Late.l0 (k + 1) [] (agesOf l s d n) ((agesOf l s d n).length : Int) 0 _ _ _ _ _ _ _ = _
  rw [ages_len]
  exact this
theorem w_sum {l : S23} {s : S25} (hR : rightP l s) : wrap64 (l.f5 + s.f0) = l.f5 + s.f0 ∧ wrap64 (l.f5 + s.f0 + s.f1) = l.f5 + s.f0 + s.f1 := by
  unfold rightP at hR
  unfold wrap64
  omega
theorem l0_step {k : Nat} {xs ys ages : List Int} {w N E n i a0 a1 a2 a3 a4 a5 a6 s0 s1 age : Int} (h0 : 0 ≤ i) (h1 : i < n) (hn : (ages.length : Int) = n) (hr : rd ages i = age) (hw : age ≤ w) (ha : age < 0 → i < wrap64 (wrap64 (a5 + s0) + s1)) :
    hopmeshlaw50_LoopBound.l0 (k + 1) xs ys w N E ages n i a0 a1 a2 a3 a4 a5 a6 s0 s1 = hopmeshlaw50_LoopBound.l0 k xs ys w N E ages n (wrap64 (i + 1)) a0 a1 a2 a3 a4 a5 a6 s0 s1 := by
  simp only [hopmeshlaw50_LoopBound.l0]
  rw [if_pos h1, if_pos h0, if_pos (by omega), hr, if_neg (by omega)]
  by_cases hc : age < 0
  · rw [if_pos hc, if_neg (by have := ha hc; omega)]
  · rw [if_neg hc]
theorem l0_end {k : Nat} {xs ys ages : List Int} {w N E n i a0 a1 a2 a3 a4 a5 a6 s0 s1 : Int} {d : List S34} (h1 : ¬ i < n) (hd : hopmeshlaw50_deliver.f a0 a1 a2 a3 a4 a5 a6 s0 s1 N xs ys = some d) (hl : loop_Late.f k a0 a1 a2 a3 a4 a5 a6 s0 s1 d E = some ([], 0)) :
    hopmeshlaw50_LoopBound.l0 (k + 1) xs ys w N E ages n i a0 a1 a2 a3 a4 a5 a6 s0 s1 = some true := by
  simp only [hopmeshlaw50_LoopBound.l0]
  rw [if_neg h1, hd, Option.bind_some, hl, Option.bind_some]
  rfl
theorem bound_loop {l : S23} {s : S25} (he : loop_right.f l.f0 l.f1 l.f2 l.f3 l.f4 l.f5 l.f6 s.f0 s.f1 = some 0) {xs ys : List Int} (hx : ∀ x ∈ xs, 0 ≤ x ∧ x ≤ 255) (hy : ∀ x ∈ ys, 0 ≤ x ∧ x ≤ 255) (N : Nat) (h0 : 1 ≤ N) (hN : N ≤ 8) (E : Nat) (hE : (E : Int) = l.f5 + (N : Int) * l.f4 + s.f0 + s.f1) (hE2 : E ≤ 4096) : ∀ m i : Nat, i + m = E →
    Ev (fun k => hopmeshlaw50_LoopBound.l0 k xs ys (l.f4 + s.f0 + s.f1 - 1) (N : Int) (E : Int) (agesOf l s (deliverOf l s xs ys N) E) (E : Int) (i : Int) l.f0 l.f1 l.f2 l.f3 l.f4 l.f5 l.f6 s.f0 s.f1) true := by
  have hR' := right_zero he
  have hb := fun t (ht : t < E) => bound_age hR' hx hy N h0 (by omega) t (by omega)
  have hA : l.f4 + s.f0 + s.f1 - 1 ≤ l.f6 := by
    unfold rightP at hR'
    omega
  intro m
  induction m with
  | zero =>
    intro i hi
    have hl := late_none (d := deliverOf l s xs ys N) (n := E) he (by rw [deliverOf_len]; omega) hE2 (fun i hi => Int.le_trans (hb i hi).1 hA)
    have hd := deliver_right hR' hx hy N (by omega)
    clear hb hA
    obtain ⟨K, hK⟩ := hl
    refine ⟨K + 1, fun k hk => ?_⟩
    obtain ⟨k, rfl⟩ : ∃ m, k = m + 1 := ⟨k - 1, by omega⟩
    exact l0_end (by omega) hd (hK k (by omega))
  | succ m ih =>
    intro i hi
    have hw : wrap64 ((i : Int) + 1) = ((i + 1 : Nat) : Int) := by
      clear hb hA hE he hR' hx hy
      unfold wrap64
      omega
    obtain ⟨w1, w2⟩ := w_sum hR'
    have hiE : i < E := by omega
    obtain ⟨b1, b2⟩ := hb i hiE
    have hlen := ages_len l s (deliverOf l s xs ys N) E
    have hrd := ages_rd l s (deliverOf l s xs ys N) E i hiE
    refine Ev.step (fun k => ?_) (ih (i + 1) (by omega))
    show hopmeshlaw50_LoopBound.l0 (k + 1) xs ys (l.f4 + s.f0 + s.f1 - 1) (N : Int) (E : Int) (agesOf l s (deliverOf l s xs ys N) E) (E : Int) (i : Int) l.f0 l.f1 l.f2 l.f3 l.f4 l.f5 l.f6 s.f0 s.f1 = hopmeshlaw50_LoopBound.l0 k xs ys (l.f4 + s.f0 + s.f1 - 1) (N : Int) (E : Int) (agesOf l s (deliverOf l s xs ys N) E) (E : Int) ((i + 1 : Nat) : Int) l.f0 l.f1 l.f2 l.f3 l.f4 l.f5 l.f6 s.f0 s.f1
    rw [← hw]
    exact l0_step (Int.natCast_nonneg i) (Int.ofNat_lt.2 hiE) (congrArg Nat.cast hlen) hrd b1 (by rw [w1, w2]; exact b2)
theorem LoopBound : hopmeshlaw50_LoopBound.Pure := by
  intro l s samples xs ys _ _ hs _ hxs _ hys
  have hs := wfu8 hs
  have hx : ∀ x ∈ xs, 0 ≤ x ∧ x ≤ 255 := fun x h => wfu8 (hxs x h)
  have hy : ∀ x ∈ ys, 0 ≤ x ∧ x ≤ 255 := fun x h => wfu8 (hys x h)
  refine Ev.rounds ?_
  unfold hopmeshlaw50_LoopBound.f
  refine Ev.bind ev_awake ?_
  have htrue : Ev (fun k => hopmeshlaw50_LoopBound.j0 k samples xs ys true l.f0 l.f1 l.f2 l.f3 l.f4 l.f5 l.f6 s.f0 s.f1) true := by
    refine Ev.step (fun k => ?_) (Ev.bind ev_awake (Ev.now true))
    simp only [hopmeshlaw50_LoopBound.j0, if_true]
  simp only [if_true]
  by_cases h1 : (xs.length : Int) > 10
  · simp only [if_pos h1]
    exact htrue
  by_cases h2 : (ys.length : Int) > 10
  · simp only [if_neg h1, if_pos h2]
    exact htrue
  simp only [if_neg h1, if_neg h2]
  by_cases hp : l.f4 > 30
  · rw [decide_eq_true hp]
    exact htrue
  rw [decide_eq_false hp]
  obtain ⟨e, he⟩ := right_some l.f0 l.f1 l.f2 l.f3 l.f4 l.f5 l.f6 s.f0 s.f1
  by_cases h0 : e = 0
  · subst h0
    have hR' := right_zero he
    have hR := hR'
    unfold rightP at hR
    obtain ⟨N, hN⟩ : ∃ N : Nat, (N : Int) = 1 + samples % 8 := ⟨(1 + samples % 8).toNat, by omega⟩
    have w0 : wrap64 (1 + wrap64 (Int.tmod samples 8)) = (N : Int) := by
      rw [Int.tmod_eq_emod_of_nonneg hs.1, show wrap64 (samples % 8) = samples % 8 by unfold wrap64; omega]
      unfold wrap64
      omega
    have hq : (N : Int) * l.f4 = ((N : Int) - 1) * l.f4 + l.f4 := by rw [Int.sub_mul, Int.one_mul]; omega
    have hq0 : 0 ≤ ((N : Int) - 1) * l.f4 := Int.mul_nonneg (by omega) (by omega)
    have hq1 : ((N : Int) - 1) * l.f4 ≤ 8 * 30 := Int.mul_le_mul (by omega) (by omega) (by omega) (by omega)
    obtain ⟨E, hE⟩ : ∃ E : Nat, (E : Int) = l.f5 + (N : Int) * l.f4 + s.f0 + s.f1 := ⟨(l.f5 + (N : Int) * l.f4 + s.f0 + s.f1).toNat, by omega⟩
    have w1 : wrap64 ((N : Int) - 1) = (N : Int) - 1 := by unfold wrap64; omega
    have w2 : wrap64 (((N : Int) - 1) * l.f4) = ((N : Int) - 1) * l.f4 := by unfold wrap64; omega
    have w3 : wrap64 (l.f5 + ((N : Int) - 1) * l.f4) = l.f5 + ((N : Int) - 1) * l.f4 := by unfold wrap64; omega
    have w4 : wrap64 (l.f5 + ((N : Int) - 1) * l.f4 + (l.f4 + s.f0 + s.f1 - 1)) = (E : Int) - 1 := by unfold wrap64; omega
    have w5 : wrap64 ((E : Int) - 1 + 1) = (E : Int) := by unfold wrap64; omega
    have hd := deliver_right hR' hx hy N (by omega)
    obtain ⟨K, hK⟩ := ages_right (d := deliverOf l s xs ys N) (n := (E : Int)) he (by rw [deliverOf_len]; omega) (by omega) (by omega)
    obtain ⟨K2, hK2⟩ := bound_loop he hx hy N (by omega) (by omega) E hE (by omega) E 0 (by omega)
    refine ⟨K + K2 + 2, fun k hk => ?_⟩
    obtain ⟨k, rfl⟩ : ∃ m, k = m + 2 := ⟨k - 2, by omega⟩
    have hA : loop_Ages.f (k + 1) l.f0 l.f1 l.f2 l.f3 l.f4 l.f5 l.f6 s.f0 s.f1 (deliverOf l s xs ys N) (E : Int) = some (agesOf l s (deliverOf l s xs ys N) E, 0) := by
      have := hK (k + 1) (by omega)
      rw [Int.toNat_natCast] at this
      exact this
    have hB := hK2 k (by omega)
    simp only [hopmeshlaw50_LoopBound.j0]
    rw [if_neg (by simp), worst_right he, Option.bind_some, if_pos rfl]
    simp only [w0, w1, w2, w3, w4, w5]
    rw [hd, Option.bind_some, hA, Option.bind_some, if_pos rfl]
    simp only [hopmeshlaw50_LoopBound.j1, ages_len]
    rw [if_neg (by simp)]
    exact hB
  · refine ev1 fun k => ?_
    simp only [hopmeshlaw50_LoopBound.j0]
    rw [if_neg (by simp), worst_wrong he h0, Option.bind_some, if_neg h0]
    rfl
end Go.Proofs.Ytnjljajopdpjjaa.Pure
