/- LoopReached: if every frame is delivered in the last slot of its deadline, the worst age is reached, one slot before the next sample is used. -/
import Derived.Test.YtnjljajopdpjjaaQLoopReached
import Derived.Test.YtnjljajopdpjjaaC
namespace Go.Proofs.Ytnjljajopdpjjaa.Pure
open Go.RowKit Go.Proofs.Ytnjljajopdpjjaa.PX Go.Proofs.Ytnjljajopdpjjaa.S Go.Proofs.YtnjljajopdpjjaaW.PrintWords

theorem reached_used {l : S23} {s : S25} (hR : rightP l s) (T : Nat) (hT : (T : Int) = l.f5 + l.f4 + s.f0 + s.f1) :
    usedOf (flowA l s) (flowB l s) (deliverOf l s [] [] 3) (T + 1) = 2 ∧ usedOf (flowA l s) (flowB l s) (deliverOf l s [] [] 3) (T - 1 + 1) = 1 := by
  have hR' := hR
  unfold rightP at hR
  have hn : ∀ x ∈ ([] : List Int), 0 ≤ x ∧ x ≤ 255 := fun x hx => by cases hx
  obtain ⟨a1, a2⟩ := used_pair hR' (xs := []) (ys := []) hn hn 3 (by omega) T
  obtain ⟨b1, b2⟩ := used_pair hR' (xs := []) (ys := []) hn hn 3 (by omega) (T - 1)
  have a2 := a2 1 (by omega) (by omega)
  have b2 := b2 0 (by omega) (by omega)
  simp only [latOf_nil] at a1 a2 b1 b2
  have a2 := a2 (by omega)
  have b2 := b2 (by omega)
  constructor
  · rcases a1 with e | ⟨i, h0, h1, h2, e⟩
    · omega
    · rcases (by omega : i = 0 ∨ i = 1 ∨ i = 2) with h | h | h <;> subst h <;> omega
  · rcases b1 with e | ⟨i, h0, h1, h2, e⟩
    · omega
    · rcases (by omega : i = 0 ∨ i = 1 ∨ i = 2) with h | h | h <;> subst h <;> omega
theorem LoopReached : hopmeshlaw50_LoopReached.Pure := by
  intro l s _ _
  refine Ev.rounds ?_
  unfold hopmeshlaw50_LoopReached.f
  refine Ev.bind ev_awake ?_
  simp only [if_true]
  by_cases hp : l.f4 > 30
  · simp only [if_pos hp]
    exact Ev.now true
  · simp only [if_neg hp]
    obtain ⟨e, he⟩ := right_some l.f0 l.f1 l.f2 l.f3 l.f4 l.f5 l.f6 s.f0 s.f1
    by_cases h0 : e = 0
    · subst h0
      have hR := right_zero he
      have hR' := hR
      unfold rightP at hR
      obtain ⟨T, hT⟩ : ∃ T : Nat, (T : Int) = l.f5 + l.f4 + s.f0 + s.f1 := ⟨(l.f5 + l.f4 + s.f0 + s.f1).toNat, by omega⟩
      have hn : ∀ x ∈ ([] : List Int), 0 ≤ x ∧ x ≤ 255 := fun x hx => by cases hx
      have hd := deliver_right hR' hn hn 3 (by omega)
      have hT2 : T ≤ 2000 := by omega
      have e1 := ages_right (d := deliverOf l s [] [] 3) (n := (T : Int) + 1) he (by rw [deliverOf_len]; omega) (by omega) (by omega)
      obtain ⟨u1, u2⟩ := reached_used hR' T hT
      have r1 := ages_rd l s (deliverOf l s [] [] 3) ((T : Int) + 1).toNat T (by omega)
      have r2 := ages_rd l s (deliverOf l s [] [] 3) ((T : Int) + 1).toNat (T - 1) (by omega)
      have hT1 : ((T - 1 : Nat) : Int) = (T : Int) - 1 := by omega
      rw [hT1] at r2
      have g1 : ageOf (flowA l s) (flowB l s) (deliverOf l s [] [] 3) T = s.f0 + s.f1 := by
        unfold ageOf
        rw [u1, if_neg (by omega)]
        show (T : Int) - (l.f5 + (2 - 1) * l.f4) = _
        omega
      have g2 : ageOf (flowA l s) (flowB l s) (deliverOf l s [] [] 3) (T - 1) = l.f4 + s.f0 + s.f1 - 1 := by
        unfold ageOf
        rw [u2, if_neg (by omega)]
        show ((T - 1 : Nat) : Int) - (l.f5 + (1 - 1) * l.f4) = _
        omega
      have hlen : (((agesOf l s (deliverOf l s [] [] 3) ((T : Int) + 1).toNat).length : Nat) : Int) = (T : Int) + 1 := by
        rw [ages_len]
        omega
      obtain ⟨K, hK⟩ := e1
      refine ⟨K, fun k hk => ?_⟩
      have hA : loop_Ages.f k l.f0 l.f1 l.f2 l.f3 l.f4 l.f5 l.f6 s.f0 s.f1 (deliverOf l s [] [] 3) ((T : Int) + 1) = some (agesOf l s (deliverOf l s [] [] 3) ((T : Int) + 1).toNat, 0) := hK k (by omega)
      show ((loop_Worst.f l.f0 l.f1 l.f2 l.f3 l.f4 l.f5 l.f6 s.f0 s.f1).bind _) = some true
      rw [worst_right he, Option.bind_some]
      simp only [if_true]
      rw [if_pos (by omega), show (3 : Int) = ((3 : Nat) : Int) from rfl, hd, Option.bind_some, ← hT, hA, Option.bind_some]
      exact if_pos ⟨rfl, hlen, r2.trans g2, r1.trans g1⟩
    · refine ⟨0, fun k _ => ?_⟩
      show ((loop_Worst.f l.f0 l.f1 l.f2 l.f3 l.f4 l.f5 l.f6 s.f0 s.f1).bind _) = some true
      rw [worst_wrong he h0, Option.bind_some]
      simp only [if_neg h0, if_true]
end Go.Proofs.Ytnjljajopdpjjaa.Pure
