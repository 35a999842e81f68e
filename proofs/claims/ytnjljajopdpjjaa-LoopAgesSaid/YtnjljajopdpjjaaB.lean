/- Plain lemmas of the laws of chapter 50: which sample is in use in a slot, and how old it is. -/
import Derived.Test.YtnjljajopdpjjaaPXx11
import Derived.Test.YtnjljajopdpjjaaPXx12
import Derived.Test.YtnjljajopdpjjaaA
namespace Go.Proofs.Ytnjljajopdpjjaa.S
open Go.RowKit Go.Proofs.Ytnjljajopdpjjaa Go.Proofs.Ytnjljajopdpjjaa.PX Go.Proofs.YtnjljajopdpjjaaW.PrintWords

theorem arr_rel {f : S39} {d : List S34} {k s : Int} (h : arr f d k = some s) : f.f4 + k * f.f3 ≤ s := by
  unfold arr at h
  obtain ⟨x, hx, rfl⟩ := Option.map_eq_some_iff.1 h
  have := List.find?_some hx
  simp only [usableB, Bool.and_eq_true, decide_eq_true_eq, beq_iff_eq] at this
  obtain ⟨⟨_, h2⟩, rfl⟩ := this
  exact h2
/-- What is in use ahead of a slot: the greatest sample that the frames delivered before carry. -/
theorem used_is (a b : S39) (d : List S34) (i : Nat) : 0 ≤ usedOf a b d i ∧ (usedOf a b d i = 0 ∨ ∃ k s, arr b d k = some s ∧ s + 1 < (i : Int) ∧ usedOf a b d i = carryNext a b d k) ∧ ∀ k s, arr b d k = some s → s + 1 < (i : Int) → carryNext a b d k ≤ usedOf a b d i := by
  induction i with
  | zero =>
    refine ⟨by simp [usedOf], .inl (by simp [usedOf]), fun k s hk hs => ?_⟩
    have := arr_bd hk
    omega
  | succ i ih =>
    obtain ⟨h0, h1, h2⟩ := ih
    obtain ⟨g0, g1, g2⟩ := freshOf_is a b d i
    have hu : usedOf a b d (i + 1) = if usedOf a b d i < freshOf a b d i then freshOf a b d i else usedOf a b d i := rfl
    rw [hu]
    refine ⟨by split <;> omega, ?_, fun k s hk hs => ?_⟩
    · split
      · rcases g1 with e | ⟨k, s, hk, hs, e⟩
        · omega
        · exact .inr ⟨k, s, hk, by omega, e⟩
      · rcases h1 with e | ⟨k, s, hk, hs, e⟩
        · exact .inl e
        · exact .inr ⟨k, s, hk, by omega, e⟩
    · by_cases hsi : s + 1 = (i : Int)
      · have := g2 k s hk hsi
        split <;> omega
      · have := h2 k s hk (by omega)
        split <;> omega
theorem used_mono (a b : S39) (d : List S34) (i : Nat) : usedOf a b d i ≤ usedOf a b d (i + 1) := by
  have hu : usedOf a b d (i + 1) = if usedOf a b d i < freshOf a b d i then freshOf a b d i else usedOf a b d i := rfl
  rw [hu]
  split <;> omega
/-- A sample that is in use was taken before. -/
theorem used_before {a b : S39} {d : List S34} {i : Nat} (h : usedOf a b d (i + 1) ≠ 0) : a.f4 + (usedOf a b d (i + 1) - 1) * a.f3 < (i : Int) := by
  obtain ⟨h0, h1, _⟩ := used_is a b d (i + 1)
  rcases h1 with e | ⟨k, s, hk, hs, e⟩
  · exact absurd e h
  · have hr := arr_rel hk
    unfold carryNext at e
    rcases (carryOf_is a d (b.f4 + k * b.f3)).1 with e1 | ⟨s1, hk1, hs1⟩
    · omega
    · have hr1 := arr_rel hk1
      rw [show usedOf a b d (i + 1) - 1 = carryOf a d (b.f4 + k * b.f3) by omega]
      omega
/-- What Ages answers, where the arguments are right. -/
theorem ages_right {l : S23} {s : S25} {d : List S34} {n : Int} (h : loop_right.f l.f0 l.f1 l.f2 l.f3 l.f4 l.f5 l.f6 s.f0 s.f1 = some 0) (hd : d.length ≤ 1024) (h0 : 0 ≤ n) (h1 : n ≤ 4096) :
    Ev (fun k => loop_Ages.f k l.f0 l.f1 l.f2 l.f3 l.f4 l.f5 l.f6 s.f0 s.f1 d n) (agesOf l s d n.toNat, 0) := by
  refine ev1 fun k => ?_
  unfold loop_Ages.f loop_check.f loop_ages.f
  rw [h, Option.bind_some, if_pos rfl, if_neg (by omega), decide_eq_false (by omega)]
  simp only [loop_check.j0]
  rw [if_neg (by simp), if_neg (by omega), Option.bind_some, if_pos rfl, if_pos ⟨hd, h0, h1, trivial⟩]
  rfl
theorem ages_wrong {l : S23} {s : S25} {d : List S34} {n e : Int} (h : loop_right.f l.f0 l.f1 l.f2 l.f3 l.f4 l.f5 l.f6 s.f0 s.f1 = some e) (he : e ≠ 0) (k : Nat) :
    loop_Ages.f k l.f0 l.f1 l.f2 l.f3 l.f4 l.f5 l.f6 s.f0 s.f1 d n = some ([], e) := by
  unfold loop_Ages.f loop_check.f
  rw [h, Option.bind_some, if_neg he, Option.bind_some, if_neg he]
theorem ages_len (l : S23) (s : S25) (d : List S34) (n : Nat) : (agesOf l s d n).length = n := by
  unfold agesOf
  rw [List.length_map, List.length_range]
theorem ages_rd (l : S23) (s : S25) (d : List S34) (n i : Nat) (h : i < n) : rd (agesOf l s d n) (i : Int) = ageOf (flowA l s) (flowB l s) d i := by
  unfold rd agesOf
  rw [Int.toNat_natCast, List.getD_eq_getElem?_getD, List.getElem?_map, List.getElem?_range h]
  rfl
end Go.Proofs.Ytnjljajopdpjjaa.S
