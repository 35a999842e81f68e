/- Plain lemmas of LoopAges: the reference's counts, carries and ages are those of the program. -/
import Derived.Test.YtnjljajopdpjjaaPXx21
import Derived.Test.YtnjljajopdpjjaaPXx22
import Derived.Test.YtnjljajopdpjjaaPXx23
import Derived.Test.YtnjljajopdpjjaaPXx20
import Derived.Test.YtnjljajopdpjjaaB
namespace Go.Proofs.Ytnjljajopdpjjaa.S
open Go.RowKit Go.Proofs.Ytnjljajopdpjjaa Go.Proofs.Ytnjljajopdpjjaa.PX Go.Proofs.YtnjljajopdpjjaaW.PrintWords
set_option linter.unusedVariables false

theorem refusable_is {f : S39} (hp : 0 ≤ f.f3 ∧ f.f3 ≤ 512) (hq : 0 ≤ f.f4 ∧ f.f4 ≤ 512) (x : S34) : hopmeshref50_usable.f f.f0 f.f1 f.f2 f.f3 f.f4 f.f5 x.f0 x.f1 x.f2 = some (usableB f x) := by
  unfold hopmeshref50_usable.f usableB
  by_cases c0 : x.f0 = f.f0
  rotate_left
  · rw [if_neg c0, decide_eq_false c0]
    simp
  by_cases c1 : x.f1 ≥ 0
  rotate_left
  · rw [if_pos c0, if_neg c1, decide_eq_false (show ¬ 0 ≤ x.f1 by omega)]
    simp
  by_cases c2 : x.f1 ≤ 1073741824
  rotate_left
  · rw [if_pos c0, if_pos c1, if_neg c2, decide_eq_false c2]
    simp
  by_cases c3 : x.f2 ≥ 0
  rotate_left
  · rw [if_pos c0, if_pos c1, if_pos c2, if_neg c3, decide_eq_false (show ¬ 0 ≤ x.f2 by omega)]
    simp
  by_cases c4 : x.f2 ≤ 1073741824
  rotate_left
  · rw [if_pos c0, if_pos c1, if_pos c2, if_pos c3, if_neg c4, decide_eq_false c4]
    simp
  have m0 : 0 ≤ x.f1 * f.f3 := Int.mul_nonneg c1 hp.1
  have m1 : x.f1 * f.f3 ≤ 1073741824 * 512 := Int.mul_le_mul c2 hp.2 hp.1 (by omega)
  rw [if_pos c0, if_pos c1, if_pos c2, if_pos c3, if_pos c4, show wrap64 (x.f1 * f.f3) = x.f1 * f.f3 by unfold wrap64; omega, show wrap64 (f.f4 + x.f1 * f.f3) = f.f4 + x.f1 * f.f3 by unfold wrap64; omega, decide_eq_true c0, decide_eq_true (show 0 ≤ x.f1 by omega), decide_eq_true c2, decide_eq_true (show 0 ≤ x.f2 by omega), decide_eq_true c4]
  simp
theorem take_rd {d : List S34} {j : Nat} (h : j < d.length) : d.take (j + 1) = d.take j ++ [rd_T34 d (j : Int)] := by
  rw [List.take_succ_eq_append_getElem h]
  congr 2
  unfold rd_T34
  rw [Int.toNat_natCast, List.getD_eq_getElem?_getD, List.getElem?_eq_getElem h]
  rfl
theorem arr_mem_some {f : S39} {d : List S34} {x : S34} (hx : x ∈ d) (hu : usableB f x = true) : (arr f d x.f1).isSome = true := by
  unfold arr
  rw [Option.isSome_map, List.find?_isSome]
  exact ⟨x, hx, by simp [hu]⟩
theorem rd_mem_take {d : List S34} {i j : Nat} (h : j < i) (hi : i ≤ d.length) : rd_T34 d (j : Int) ∈ d.take i := by
  unfold rd_T34
  rw [Int.toNat_natCast, List.getD_eq_getElem?_getD, List.getElem?_eq_getElem (by omega)]
  show d[j] ∈ d.take i
  rw [List.mem_iff_getElem]
  exact ⟨j, by rw [List.length_take]; omega, by rw [List.getElem_take]⟩
/-- Is a delivery the first usable one of its frame. -/
def countsB (f : S39) (d : List S34) (i : Nat) : Bool := usableB f (rd_T34 d (i : Int)) && (arr f (d.take i) (rd_T34 d (i : Int)).f1).isNone
theorem w_nat {i n : Nat} (h : i < n) (hn : n ≤ 1024) : wrap64 ((i : Int) + 1) = ((i + 1 : Nat) : Int) := by unfold wrap64; omega
theorem counts_loop {f : S39} (hp : 0 ≤ f.f3 ∧ f.f3 ≤ 512) (hq : 0 ≤ f.f4 ∧ f.f4 ≤ 512) {d : List S34} (hd : d.length ≤ 1024) {i : Nat} (hi : i < d.length) : ∀ m j : Nat, j + m = i → arr f (d.take j) (rd_T34 d (i : Int)).f1 = none →
    Ev (fun k => hopmeshref50_counts.l0 k d (i : Int) (j : Int) f.f0 f.f1 f.f2 f.f3 f.f4 f.f5) (countsB f d i) := by
  intro m
  induction m with
  | zero =>
    intro j hj hn
    obtain rfl : j = i := by omega
    refine ev1 fun k => ?_
    simp only [hopmeshref50_counts.l0]
    rw [if_neg (by omega), if_pos (by omega), if_pos (by omega), refusable_is hp hq, Option.bind_some]
    unfold countsB
    rw [hn]
    simp
  | succ m ih =>
    intro j hj hn
    cases hu : usableB f (rd_T34 d (j : Int)) with
    | false =>
      have hn2 : arr f (d.take (j + 1)) (rd_T34 d (i : Int)).f1 = none := by
        rw [take_rd (by omega), arr_snoc, hn, hu]
        simp
      refine Ev.step (fun k => ?_) (ih (j + 1) (by omega) hn2)
      simp only [hopmeshref50_counts.l0]
      rw [if_pos (by omega), if_pos (by omega), if_pos (by omega), refusable_is hp hq, Option.bind_some, hu, if_neg (by simp), w_nat (show j < d.length by omega) hd]
    | true =>
      by_cases hf : (rd_T34 d (j : Int)).f1 = (rd_T34 d (i : Int)).f1
      · have hs := arr_mem_some (rd_mem_take (show j < i by omega) (by omega)) hu
        rw [hf] at hs
        refine ev1 fun k => ?_
        simp only [hopmeshref50_counts.l0]
        rw [if_pos (by omega), if_pos (by omega), if_pos (by omega), refusable_is hp hq, Option.bind_some, hu, if_pos rfl, if_pos (by omega), if_pos (by omega), if_pos hf]
        unfold countsB
        cases ha : arr f (d.take i) (rd_T34 d (i : Int)).f1 with
        | none => rw [ha] at hs; cases hs
        | some z => simp
      · have hn2 : arr f (d.take (j + 1)) (rd_T34 d (i : Int)).f1 = none := by
          rw [take_rd (by omega), arr_snoc, hn]
          simp [hf]
        refine Ev.step (fun k => ?_) (ih (j + 1) (by omega) hn2)
        simp only [hopmeshref50_counts.l0]
        rw [if_pos (by omega), if_pos (by omega), if_pos (by omega), refusable_is hp hq, Option.bind_some, hu, if_pos rfl, if_pos (by omega), if_pos (by omega), if_neg hf, w_nat (show j < d.length by omega) hd]
theorem counts_is {f : S39} (hp : 0 ≤ f.f3 ∧ f.f3 ≤ 512) (hq : 0 ≤ f.f4 ∧ f.f4 ≤ 512) {d : List S34} (hd : d.length ≤ 1024) {i : Nat} (hi : i < d.length) : Ev (fun k => hopmeshref50_counts.f k f.f0 f.f1 f.f2 f.f3 f.f4 f.f5 d (i : Int)) (countsB f d i) := by
  have := counts_loop hp hq hd hi i 0 (by omega) rfl
  exact this
/-- What one more delivery does to what has arrived. -/
theorem arr_step_old {f : S39} {d : List S34} {i : Nat} (hi : i < d.length) (hc : countsB f d i = false) : arr f (d.take (i + 1)) = arr f (d.take i) := by
  unfold countsB at hc
  cases hu : usableB f (rd_T34 d (i : Int)) with
  | false => exact arr_skip hi hu
  | true =>
    rw [hu] at hc
    refine arr_old hi ?_
    cases ha : arr f (d.take i) (rd_T34 d (i : Int)).f1 with
    | none => rw [ha] at hc; cases hc
    | some z => rfl
theorem arr_step_new {f : S39} {d : List S34} {i : Nat} (hi : i < d.length) (hc : countsB f d i = true) : arr f (d.take i) (rd_T34 d (i : Int)).f1 = none ∧ arr f (d.take (i + 1)) (rd_T34 d (i : Int)).f1 = some (rd_T34 d (i : Int)).f2 ∧ ∀ k, k ≠ (rd_T34 d (i : Int)).f1 → arr f (d.take (i + 1)) k = arr f (d.take i) k := by
  unfold countsB at hc
  rw [Bool.and_eq_true] at hc
  have hn : arr f (d.take i) (rd_T34 d (i : Int)).f1 = none := Option.isNone_iff_eq_none.1 hc.2
  refine ⟨hn, ?_, fun k hk => ?_⟩
  · rw [take_rd hi, arr_snoc, hn]
    simp [hc.1]
  · rw [take_rd hi, arr_snoc]
    cases ha : arr f (d.take i) k with
    | none => simp [Ne.symm hk]
    | some z => simp
theorem carry_step {f : S39} {d : List S34} {i : Nat} {t b : Int} (hi : i < d.length) (h : IsCarry (arr f (d.take i)) t b) :
    IsCarry (arr f (d.take (i + 1))) t (if countsB f d i = true ∧ (rd_T34 d (i : Int)).f2 < t then mx b (rd_T34 d (i : Int)).f1 else b) := by
  cases hc : countsB f d i with
  | false =>
    rw [if_neg (by simp), arr_step_old hi hc]
    exact h
  | true =>
    obtain ⟨h1, h2, h3⟩ := arr_step_new hi hc
    have hne : ∀ k s, arr f (d.take i) k = some s → k ≠ (rd_T34 d (i : Int)).f1 := fun k s hk e => by rw [e, h1] at hk; cases hk
    by_cases ht : (rd_T34 d (i : Int)).f2 < t
    · rw [if_pos ⟨rfl, ht⟩]
      unfold mx
      split
      · rename_i hlt
        refine ⟨.inr ⟨_, h2, ht⟩, fun k s hk hs => ?_⟩
        by_cases e : k = (rd_T34 d (i : Int)).f1
        · omega
        · rw [h3 k e] at hk
          have := h.2 k s hk hs
          omega
      · rename_i hge
        refine ⟨?_, fun k s hk hs => ?_⟩
        · rcases h.1 with e | ⟨s, hs, hst⟩
          · exact .inl e
          · exact .inr ⟨s, by rw [h3 _ (hne _ _ hs)]; exact hs, hst⟩
        · by_cases e : k = (rd_T34 d (i : Int)).f1
          · omega
          · rw [h3 k e] at hk
            exact h.2 k s hk hs
    · rw [if_neg (by rintro ⟨-, h⟩; exact ht h)]
      refine ⟨?_, fun k s hk hs => ?_⟩
      · rcases h.1 with e | ⟨s, hs, hst⟩
        · exact .inl e
        · exact .inr ⟨s, by rw [h3 _ (hne _ _ hs)]; exact hs, hst⟩
      · by_cases e : k = (rd_T34 d (i : Int)).f1
        · rw [e, h2] at hk
          injection hk with hk
          omega
        · rw [h3 k e] at hk
          exact h.2 k s hk hs
theorem carries_loop {a b : S39} (hp : 0 ≤ a.f3 ∧ a.f3 ≤ 512) (hq : 0 ≤ a.f4 ∧ a.f4 ≤ 512) {d : List S34} (hd : d.length ≤ 1024) {t : Int} : ∀ m i : Nat, i + m = d.length → ∀ v, IsCarry (arr a (d.take i)) t v →
    Ev (fun k => hopmeshref50_carries.l0 k [a, b] d t v (i : Int)) (carryOf a d t) := by
  intro m
  induction m with
  | zero =>
    intro i hi v hv
    rw [List.take_of_length_le (by omega)] at hv
    refine ev1 fun k => ?_
    simp only [hopmeshref50_carries.l0]
    rw [if_neg (by omega), hv.eq]
  | succ m ih =>
    intro i hi v hv
    have hs := carry_step (by omega) hv
    have hc := counts_is hp hq hd (show i < d.length by omega)
    obtain ⟨K, hK⟩ := hc
    obtain ⟨L, hL⟩ := ih (i + 1) (by omega) _ hs
    refine ⟨K + L + 1, fun k hk => ?_⟩
    obtain ⟨k, rfl⟩ : ∃ m, k = m + 1 := ⟨k - 1, by omega⟩
    have g1 := hK k (by omega)
    have g2 := hL k (by omega)
    dsimp only at g1 g2
    simp only [hopmeshref50_carries.l0]
    rw [if_pos (by omega), if_pos (by simp)]
    show ((hopmeshref50_counts.f k a.f0 a.f1 a.f2 a.f3 a.f4 a.f5 d (i : Int)).bind _) = _
    rw [g1, Option.bind_some, w_nat (show i < d.length by omega) hd]
    cases hcb : countsB a d i with
    | false =>
      rw [hcb] at g2
      rw [if_neg (by simp)] at g2 ⊢
      exact g2
    | true =>
      rw [hcb] at g2
      rw [if_pos rfl, if_pos (by omega)]
      by_cases ht : (rd_T34 d (i : Int)).f2 < t
      · rw [if_pos ⟨rfl, ht⟩] at g2
        rw [if_pos ht]
        exact g2
      · rw [if_neg (by rintro ⟨-, h⟩; exact ht h)] at g2
        rw [if_neg ht]
        exact g2
theorem carries_is {a b : S39} (hp : 0 ≤ a.f3 ∧ a.f3 ≤ 512) (hq : 0 ≤ a.f4 ∧ a.f4 ≤ 512) (hp2 : 0 ≤ b.f3 ∧ b.f3 ≤ 512) (hq2 : 0 ≤ b.f4 ∧ b.f4 ≤ 512) {d : List S34} (hd : d.length ≤ 1024) {n : Int} (n0 : 0 ≤ n) (n1 : n ≤ 1073741824) :
    Ev (fun k => hopmeshref50_carries.f k [a, b] d n) (carryOf a d (b.f4 + n * b.f3)) := by
  have m0 : 0 ≤ n * b.f3 := Int.mul_nonneg n0 hp2.1
  have m1 : n * b.f3 ≤ 1073741824 * 512 := Int.mul_le_mul n1 hp2.2 hp2.1 (by omega)
  have h := carries_loop (b := b) hp hq hd (t := b.f4 + n * b.f3) d.length 0 (by omega) (-1) ⟨.inl rfl, fun k s hk => by cases hk⟩
  obtain ⟨K, hK⟩ := h
  refine ⟨K, fun k hk => ?_⟩
  have g := hK k hk
  unfold hopmeshref50_carries.f
  dsimp only at g ⊢
  rw [if_pos (by simp)]
  show hopmeshref50_carries.l0 k [a, b] d (wrap64 (b.f4 + wrap64 (n * b.f3))) (-1) 0 = _
  rw [show wrap64 (n * b.f3) = n * b.f3 by unfold wrap64; omega, show wrap64 (b.f4 + n * b.f3) = b.f4 + n * b.f3 by unfold wrap64; omega]
  exact g
end Go.Proofs.Ytnjljajopdpjjaa.S
