/- LoopSamples: what is used is no sample or one that was taken before; samples are used in their order, and once one is used, one always is. -/
import Derived.Test.YtnjljajopdpjjaaQLoopSamples
import Derived.Test.YtnjljajopdpjjaaB
namespace Go.Proofs.Ytnjljajopdpjjaa.Pure
open Go.RowKit Go.Proofs.Ytnjljajopdpjjaa.PX Go.Proofs.Ytnjljajopdpjjaa.S Go.Proofs.YtnjljajopdpjjaaW.PrintWords

/-- The slot, behind the phase, in which the sample was taken that is in use ahead of a slot; -1 if there is none. -/
def lastOf (a b : S39) (d : List S34) (i : Nat) : Int := if usedOf a b d i = 0 then -1 else (usedOf a b d i - 1) * a.f3
theorem samples_loop (l : S23) (s : S25) (d : List S34) (hP : 1 ≤ l.f4 ∧ l.f4 ≤ 512) (h5 : 0 ≤ l.f5 ∧ l.f5 ≤ 512) : ∀ n i : Nat, i + n = 100 →
    Ev (fun k => hopmeshlaw50_LoopSamples.l0 k (lastOf (flowA l s) (flowB l s) d i) (agesOf l s d 100) 100 (i : Int) l.f0 l.f1 l.f2 l.f3 l.f4 l.f5 l.f6) true := by
  intro n
  induction n with
  | zero =>
    intro i hi
    refine ev1 fun k => ?_
    simp only [hopmeshlaw50_LoopSamples.l0]
    rw [if_neg (by omega)]
  | succ n ih =>
    intro i hi
    have ih := ih (i + 1) (by omega)
    have hw : wrap64 ((i : Int) + 1) = ((i + 1 : Nat) : Int) := by unfold wrap64; omega
    have hrd := ages_rd l s d 100 i (by omega)
    have hm := used_mono (flowA l s) (flowB l s) d i
    have hb := usedOf_bd (flowA l s) (flowB l s) d i
    have hb1 := usedOf_bd (flowA l s) (flowB l s) d (i + 1)
    have f3 : (flowA l s).f3 = l.f4 := rfl
    have f4 : (flowA l s).f4 = l.f5 := rfl
    by_cases hu : usedOf (flowA l s) (flowB l s) d (i + 1) = 0
    · have hage : ageOf (flowA l s) (flowB l s) d i = -1 := by unfold ageOf; rw [if_pos hu]
      have hl0 : lastOf (flowA l s) (flowB l s) d i = -1 := by unfold lastOf; rw [if_pos (by omega)]
      have hl1 : lastOf (flowA l s) (flowB l s) d (i + 1) = -1 := by unfold lastOf; rw [if_pos hu]
      rw [hl1] at ih
      obtain ⟨K, hK⟩ := ih
      refine ⟨K + 2, fun k hk => ?_⟩
      obtain ⟨k, rfl⟩ : ∃ m, k = m + 2 := ⟨k - 2, by omega⟩
      simp only [hopmeshlaw50_LoopSamples.l0]
      rw [if_pos (by omega), if_pos (by omega), if_pos (by rw [ages_len]; omega), hrd, hage, if_neg (by omega), if_pos rfl, hl0]
      simp only [hopmeshlaw50_LoopSamples.j2]
      rw [if_neg (by simp), if_neg (by omega), hw]
      exact hK _ (by omega)
    · have hbf := used_before (a := flowA l s) (b := flowB l s) (d := d) (i := i) hu
      obtain ⟨u, hue⟩ : ∃ u, u = usedOf (flowA l s) (flowB l s) d (i + 1) - 1 := ⟨_, rfl⟩
      rw [f3, f4, ← hue] at hbf
      have hu0 : 0 ≤ u := by omega
      have hm0 : 0 ≤ u * l.f4 := Int.mul_nonneg hu0 (by omega)
      have hage : ageOf (flowA l s) (flowB l s) d i = (i : Int) - (l.f5 + u * l.f4) := by unfold ageOf; rw [if_neg hu, f3, f4, ← hue]
      have hl1 : lastOf (flowA l s) (flowB l s) d (i + 1) = u * l.f4 := by unfold lastOf; rw [if_neg hu, f3, ← hue]
      have hl0 : lastOf (flowA l s) (flowB l s) d i ≤ u * l.f4 := by
        unfold lastOf
        split
        · omega
        · rw [f3]
          exact Int.mul_le_mul_of_nonneg_right (by omega) (by omega)
      rw [hl1] at ih
      obtain ⟨K, hK⟩ := ih
      have ht : wrap64 (wrap64 ((i : Int) - ((i : Int) - (l.f5 + u * l.f4))) - l.f5) = u * l.f4 := by
        rw [show wrap64 ((i : Int) - ((i : Int) - (l.f5 + u * l.f4))) = l.f5 + u * l.f4 by unfold wrap64; omega]
        unfold wrap64
        omega
      have htm : Int.tmod (u * l.f4) l.f4 = 0 := Int.mul_tmod_left u l.f4
      refine ⟨K + 2, fun k hk => ?_⟩
      obtain ⟨k, rfl⟩ : ∃ m, k = m + 2 := ⟨k - 2, by omega⟩
      simp only [hopmeshlaw50_LoopSamples.l0]
      rw [if_pos (by omega), if_pos (by omega), if_pos (by rw [ages_len]; omega), hrd, hage, if_neg (by omega), if_neg (by omega), ht]
      simp only [hopmeshlaw50_LoopSamples.j2]
      rw [if_neg (by simp), if_pos (by omega), if_neg (by omega), if_neg (by omega), if_pos htm, if_neg (by omega), hw]
      exact hK _ (by omega)
theorem LoopSamples : hopmeshlaw50_LoopSamples.Pure := by
  intro l s d _ _ _ _
  refine Ev.rounds ?_
  unfold hopmeshlaw50_LoopSamples.f
  refine Ev.bind ev_awake ?_
  have htrue : Ev (fun k => hopmeshlaw50_LoopSamples.j0 k d true l.f0 l.f1 l.f2 l.f3 l.f4 l.f5 l.f6 s.f0 s.f1) true := by
    refine Ev.step (fun k => ?_) (Ev.bind ev_awake (Ev.now true))
    simp only [hopmeshlaw50_LoopSamples.j0, if_true]
  unfold hopmeshref50_Few.f
  simp only [if_true, Option.bind_some, decide_eq_true_eq]
  by_cases hd : (d.length : Int) ≤ 24
  · simp only [if_pos hd]
    by_cases hp : l.f4 > 20
    · rw [decide_eq_true hp]
      exact htrue
    · rw [decide_eq_false hp]
      obtain ⟨e, he⟩ := right_some l.f0 l.f1 l.f2 l.f3 l.f4 l.f5 l.f6 s.f0 s.f1
      by_cases h0 : e = 0
      · subst h0
        have hR := right_zero he
        unfold rightP at hR
        have e1 := ages_right (d := d) (n := 100) he (by omega) (by omega) (by omega)
        have e2 := samples_loop l s d ⟨by omega, by omega⟩ ⟨by omega, by omega⟩ 100 0 (by omega)
        refine Ev.step (f := fun k => (loop_Ages.f k l.f0 l.f1 l.f2 l.f3 l.f4 l.f5 l.f6 s.f0 s.f1 d 100).bind fun b => if b.2 = 0 then hopmeshlaw50_LoopSamples.l0 k (-1) b.1 (b.1.length : Int) 0 l.f0 l.f1 l.f2 l.f3 l.f4 l.f5 l.f6 else some ((b.1.length : Int) == 0)) (fun k => ?_) (Ev.bind e1 ?_)
        · simp only [hopmeshlaw50_LoopSamples.j0, Bool.false_eq_true, if_false]
        · simp only [if_true, ages_len]
          exact e2
      · refine ev1 fun k => ?_
        simp only [hopmeshlaw50_LoopSamples.j0]
        rw [if_neg (by simp), ages_wrong he h0, Option.bind_some, if_neg h0]
        rfl
  · simp only [if_neg hd]
    exact htrue
end Go.Proofs.Ytnjljajopdpjjaa.Pure
