-- Written by wip/xprint.py, a program of this claim's own, over the kit's print program. Lean checks it.
import Derived.Test.YtfbekkmmafkmpaaPXx0
import Derived.Test.YtfbekkmmafkmpaaPXx18
import Derived.Test.YtfbekkmmafkmpaaPXx19
import Derived.Test.YtfbekkmmafkmpaaPXx21
import Derived.Test.YtfbekkmmafkmpaaPXx30
namespace Go.Proofs.Ytfbekkmmafkmpaa.PX
open Go.RowKit Go.Proofs.YtfbekkmmafkmpaaW.PrintWords Go.Proofs.YtfbekkmmafkmpaaW.PrintLast Go.Proofs.YtfbekkmmafkmpaaW.PrintMore
attribute [local go_sem] max2_int min2_int max_two min_two max_three min_three max_four min_four   -- for this text's walks alone
set_option linter.unusedVariables false
set_option linter.unusedSimpArgs false

/-! ### hopmeshlaw29_AllocateSteady: function 4 -/
mutual
def hopmeshlaw29_AllocateSteady.j0 : Nat → Int → Int → Int → Int → Int → Bool → Option (Bool)
  | 0, _, _, _, _, _, _ => none
  | k + 1, x9, x10, x11, x12, x13, x71 => if x71 = true then (some false) else (if x13 > 0 then ((hopmeshlaw29_cells.f k x13 x12).bind fun t243 => ((allocate_Decide.f k t243 0 x10 x9).bind fun bt246 => (if bt246.2.2 = 0 then (hopmeshlaw29_AllocateSteady.j1 k x9 x10 x11 x12 x13 (bt246.1 != 0)) else (hopmeshlaw29_AllocateSteady.j1 k x9 x10 x11 x12 x13 true)))) else (if x13 < x10 then (some false) else (if x13 > (mx (mx x11 x9) x10) then (some false) else (if x13 = 0 then (if x13 ≤ (mx 1 x10) then (some true) else (some (decide ((wrap64 (4 * (mn x12 x13))) ≥ x13)))) else (if x13 ≥ x9 then (if x13 ≤ (mx 1 x10) then (some true) else (some (decide ((wrap64 (4 * (mn x12 x13))) ≥ x13)))) else (if (wrap64 (4 * (mn x12 x13))) < (wrap64 (3 * x13)) then (if x13 ≤ (mx 1 x10) then (some true) else (some (decide ((wrap64 (4 * (mn x12 x13))) ≥ x13)))) else (some false)))))))
def hopmeshlaw29_AllocateSteady.j1 : Nat → Int → Int → Int → Int → Int → Bool → Option (Bool)
  | 0, _, _, _, _, _, _ => none
  | k + 1, x9, x10, x11, x12, x13, x89 => if x89 = true then (some false) else (if x13 < x10 then (some false) else (if x13 > (mx (mx x11 x9) x10) then (some false) else (if x13 = 0 then (if x13 ≤ (mx 1 x10) then (some true) else (some (decide ((wrap64 (4 * (mn x12 x13))) ≥ x13)))) else (if x13 ≥ x9 then (if x13 ≤ (mx 1 x10) then (some true) else (some (decide ((wrap64 (4 * (mn x12 x13))) ≥ x13)))) else (if (wrap64 (4 * (mn x12 x13))) < (wrap64 (3 * x13)) then (if x13 ≤ (mx 1 x10) then (some true) else (some (decide ((wrap64 (4 * (mn x12 x13))) ≥ x13)))) else (some false))))))
end
def hopmeshlaw29_AllocateSteady.f (k : Nat) (a0 : Int) (a1 : Int) (a2 : Int) (a3 : Int) : Option (Bool) := (hopmeshlaw29_awake.f k).bind fun t238 => (if t238 = true then (if (wrap64 ((Int.tmod (wrap64 (a3)) 65) + 1)) = 0 then (none) else ((allocate_Settle.f k (Int.tmod (wrap64 (a0)) 65) (Int.tmod (wrap64 (a1)) 80) (Int.tmod (wrap64 (a2)) (wrap64 ((Int.tmod (wrap64 (a3)) 65) + 1))) (Int.tmod (wrap64 (a3)) 65)).bind fun bt239 => ((allocate_Settle.f k bt239.1 (Int.tmod (wrap64 (a1)) 80) (Int.tmod (wrap64 (a2)) (wrap64 ((Int.tmod (wrap64 (a3)) 65) + 1))) (Int.tmod (wrap64 (a3)) 65)).bind fun bt241 => (if bt239.2 = 0 then (if bt241.2 = 0 then (if bt241.1 = bt239.1 then (if bt239.1 < 0 then (hopmeshlaw29_AllocateSteady.j0 k (Int.tmod (wrap64 (a3)) 65) (Int.tmod (wrap64 (a2)) (wrap64 ((Int.tmod (wrap64 (a3)) 65) + 1))) (Int.tmod (wrap64 (a0)) 65) (Int.tmod (wrap64 (a1)) 80) bt239.1 true) else (hopmeshlaw29_AllocateSteady.j0 k (Int.tmod (wrap64 (a3)) 65) (Int.tmod (wrap64 (a2)) (wrap64 ((Int.tmod (wrap64 (a3)) 65) + 1))) (Int.tmod (wrap64 (a0)) 65) (Int.tmod (wrap64 (a1)) 80) bt239.1 (decide (bt239.1 > 64)))) else (hopmeshlaw29_AllocateSteady.j0 k (Int.tmod (wrap64 (a3)) 65) (Int.tmod (wrap64 (a2)) (wrap64 ((Int.tmod (wrap64 (a3)) 65) + 1))) (Int.tmod (wrap64 (a0)) 65) (Int.tmod (wrap64 (a1)) 80) bt239.1 true)) else (hopmeshlaw29_AllocateSteady.j0 k (Int.tmod (wrap64 (a3)) 65) (Int.tmod (wrap64 (a2)) (wrap64 ((Int.tmod (wrap64 (a3)) 65) + 1))) (Int.tmod (wrap64 (a0)) 65) (Int.tmod (wrap64 (a1)) 80) bt239.1 true)) else (hopmeshlaw29_AllocateSteady.j0 k (Int.tmod (wrap64 (a3)) 65) (Int.tmod (wrap64 (a2)) (wrap64 ((Int.tmod (wrap64 (a3)) 65) + 1))) (Int.tmod (wrap64 (a0)) 65) (Int.tmod (wrap64 (a1)) 80) bt239.1 true))))) else (some false))
theorem hopmeshlaw29_AllocateSteady.mono_l : ∀ k, (∀ y0 y1 y2 y3 y4 y5, LeO (hopmeshlaw29_AllocateSteady.j0 k y0 y1 y2 y3 y4 y5) (hopmeshlaw29_AllocateSteady.j0 (k + 1) y0 y1 y2 y3 y4 y5)) ∧ (∀ y0 y1 y2 y3 y4 y5, LeO (hopmeshlaw29_AllocateSteady.j1 k y0 y1 y2 y3 y4 y5) (hopmeshlaw29_AllocateSteady.j1 (k + 1) y0 y1 y2 y3 y4 y5))
  | 0 => ⟨fun _ _ _ _ _ _ r h => by simp [hopmeshlaw29_AllocateSteady.j0] at h, fun _ _ _ _ _ _ r h => by simp [hopmeshlaw29_AllocateSteady.j1] at h⟩
  | k + 1 => by
    obtain ⟨ih0, ih1⟩ := hopmeshlaw29_AllocateSteady.mono_l k
    refine ⟨?_, ?_⟩
    · intro y0 y1 y2 y3 y4 y5
      unfold hopmeshlaw29_AllocateSteady.j0
      repeat' first
      | (with_reducible exact ih0 _ _ _ _ _ _)
      | (with_reducible exact ih1 _ _ _ _ _ _)
      | (with_reducible exact allocate_Decide.mono _ _ _ _ _)
      | (with_reducible exact allocate_Settle.mono _ _ _ _ _)
      | (with_reducible exact hopmeshlaw29_awake.mono _)
      | (with_reducible exact hopmeshlaw29_cells.mono _ _ _)
      | (with_reducible exact LeO.refl _)
      | (with_reducible exact LeO.none _)
      | (with_reducible refine LeO.ite ?_ ?_)
      | (with_reducible refine LeO.bind ?_ (fun _ => ?_))
      | exact ih0 _ _ _ _ _ _
      | exact ih1 _ _ _ _ _ _
      | exact allocate_Decide.mono _ _ _ _ _
      | exact allocate_Settle.mono _ _ _ _ _
      | exact hopmeshlaw29_awake.mono _
      | exact hopmeshlaw29_cells.mono _ _ _
      | exact LeO.none _
      | refine LeO.ite ?_ ?_
      | refine LeO.bind ?_ (fun _ => ?_)
    · intro y0 y1 y2 y3 y4 y5
      unfold hopmeshlaw29_AllocateSteady.j1
      repeat' first
      | (with_reducible exact ih0 _ _ _ _ _ _)
      | (with_reducible exact ih1 _ _ _ _ _ _)
      | (with_reducible exact allocate_Decide.mono _ _ _ _ _)
      | (with_reducible exact allocate_Settle.mono _ _ _ _ _)
      | (with_reducible exact hopmeshlaw29_awake.mono _)
      | (with_reducible exact hopmeshlaw29_cells.mono _ _ _)
      | (with_reducible exact LeO.refl _)
      | (with_reducible exact LeO.none _)
      | (with_reducible refine LeO.ite ?_ ?_)
      | (with_reducible refine LeO.bind ?_ (fun _ => ?_))
      | exact ih0 _ _ _ _ _ _
      | exact ih1 _ _ _ _ _ _
      | exact allocate_Decide.mono _ _ _ _ _
      | exact allocate_Settle.mono _ _ _ _ _
      | exact hopmeshlaw29_awake.mono _
      | exact hopmeshlaw29_cells.mono _ _ _
      | exact LeO.none _
      | refine LeO.ite ?_ ?_
      | refine LeO.bind ?_ (fun _ => ?_)
theorem hopmeshlaw29_AllocateSteady.mono : ∀ a0 a1 a2 a3 k, LeO (hopmeshlaw29_AllocateSteady.f k a0 a1 a2 a3) (hopmeshlaw29_AllocateSteady.f (k + 1) a0 a1 a2 a3) := by
  intro a0 a1 a2 a3 k
  obtain ⟨ih0, ih1⟩ := hopmeshlaw29_AllocateSteady.mono_l k
  unfold hopmeshlaw29_AllocateSteady.f
  repeat' first
      | (with_reducible exact ih0 _ _ _ _ _ _)
      | (with_reducible exact ih1 _ _ _ _ _ _)
      | (with_reducible exact allocate_Decide.mono _ _ _ _ _)
      | (with_reducible exact allocate_Settle.mono _ _ _ _ _)
      | (with_reducible exact hopmeshlaw29_awake.mono _)
      | (with_reducible exact hopmeshlaw29_cells.mono _ _ _)
      | (with_reducible exact LeO.refl _)
      | (with_reducible exact LeO.none _)
      | (with_reducible refine LeO.ite ?_ ?_)
      | (with_reducible refine LeO.bind ?_ (fun _ => ?_))
      | exact ih0 _ _ _ _ _ _
      | exact ih1 _ _ _ _ _ _
      | exact allocate_Decide.mono _ _ _ _ _
      | exact allocate_Settle.mono _ _ _ _ _
      | exact hopmeshlaw29_awake.mono _
      | exact hopmeshlaw29_cells.mono _ _ _
      | exact LeO.none _
      | refine LeO.ite ?_ ?_
      | refine LeO.bind ?_ (fun _ => ?_)
set_option maxHeartbeats 8000000 in
set_option maxRecDepth 100000 in
theorem hopmeshlaw29_AllocateSteady.calls (k : Nat) (a0 : Int) (a1 : Int) (a2 : Int) (a3 : Int) (r : Bool) (w : World) (h : hopmeshlaw29_AllocateSteady.f k a0 a1 a2 a3 = some r) :
    Calls Try.prog 4 #[.int .u8 a0, .int .u8 a1, .int .u8 a2, .int .u8 a3] w fun e w' => e = .returned (.bool r) ∧ Below w.heap.size w w' := by
  have HB := Aside0.mk (Below.refl w.heap.size w)
  have H : ((hopmeshlaw29_awake.f k).bind fun t238 => (if t238 = true then (if (wrap64 ((Int.tmod (wrap64 (a3)) 65) + 1)) = 0 then (none) else ((allocate_Settle.f k (Int.tmod (wrap64 (a0)) 65) (Int.tmod (wrap64 (a1)) 80) (Int.tmod (wrap64 (a2)) (wrap64 ((Int.tmod (wrap64 (a3)) 65) + 1))) (Int.tmod (wrap64 (a3)) 65)).bind fun bt239 => ((allocate_Settle.f k bt239.1 (Int.tmod (wrap64 (a1)) 80) (Int.tmod (wrap64 (a2)) (wrap64 ((Int.tmod (wrap64 (a3)) 65) + 1))) (Int.tmod (wrap64 (a3)) 65)).bind fun bt241 => (if bt239.2 = 0 then (if bt241.2 = 0 then (if bt241.1 = bt239.1 then (if bt239.1 < 0 then (hopmeshlaw29_AllocateSteady.j0 k (Int.tmod (wrap64 (a3)) 65) (Int.tmod (wrap64 (a2)) (wrap64 ((Int.tmod (wrap64 (a3)) 65) + 1))) (Int.tmod (wrap64 (a0)) 65) (Int.tmod (wrap64 (a1)) 80) bt239.1 true) else (hopmeshlaw29_AllocateSteady.j0 k (Int.tmod (wrap64 (a3)) 65) (Int.tmod (wrap64 (a2)) (wrap64 ((Int.tmod (wrap64 (a3)) 65) + 1))) (Int.tmod (wrap64 (a0)) 65) (Int.tmod (wrap64 (a1)) 80) bt239.1 (decide (bt239.1 > 64)))) else (hopmeshlaw29_AllocateSteady.j0 k (Int.tmod (wrap64 (a3)) 65) (Int.tmod (wrap64 (a2)) (wrap64 ((Int.tmod (wrap64 (a3)) 65) + 1))) (Int.tmod (wrap64 (a0)) 65) (Int.tmod (wrap64 (a1)) 80) bt239.1 true)) else (hopmeshlaw29_AllocateSteady.j0 k (Int.tmod (wrap64 (a3)) 65) (Int.tmod (wrap64 (a2)) (wrap64 ((Int.tmod (wrap64 (a3)) 65) + 1))) (Int.tmod (wrap64 (a0)) 65) (Int.tmod (wrap64 (a1)) 80) bt239.1 true)) else (hopmeshlaw29_AllocateSteady.j0 k (Int.tmod (wrap64 (a3)) 65) (Int.tmod (wrap64 (a2)) (wrap64 ((Int.tmod (wrap64 (a3)) 65) + 1))) (Int.tmod (wrap64 (a0)) 65) (Int.tmod (wrap64 (a1)) 80) bt239.1 true))))) else (some false))) = some r := h
  clear h
  replace H := Option.bind_eq_some_iff.mp H
  obtain ⟨t238, A50, H⟩ := H
  replace H : (if t238 = true then (if (wrap64 ((Int.tmod (wrap64 (a3)) 65) + 1)) = 0 then (none) else ((allocate_Settle.f k (Int.tmod (wrap64 (a0)) 65) (Int.tmod (wrap64 (a1)) 80) (Int.tmod (wrap64 (a2)) (wrap64 ((Int.tmod (wrap64 (a3)) 65) + 1))) (Int.tmod (wrap64 (a3)) 65)).bind fun bt239 => ((allocate_Settle.f k bt239.1 (Int.tmod (wrap64 (a1)) 80) (Int.tmod (wrap64 (a2)) (wrap64 ((Int.tmod (wrap64 (a3)) 65) + 1))) (Int.tmod (wrap64 (a3)) 65)).bind fun bt241 => (if bt239.2 = 0 then (if bt241.2 = 0 then (if bt241.1 = bt239.1 then (if bt239.1 < 0 then (hopmeshlaw29_AllocateSteady.j0 k (Int.tmod (wrap64 (a3)) 65) (Int.tmod (wrap64 (a2)) (wrap64 ((Int.tmod (wrap64 (a3)) 65) + 1))) (Int.tmod (wrap64 (a0)) 65) (Int.tmod (wrap64 (a1)) 80) bt239.1 true) else (hopmeshlaw29_AllocateSteady.j0 k (Int.tmod (wrap64 (a3)) 65) (Int.tmod (wrap64 (a2)) (wrap64 ((Int.tmod (wrap64 (a3)) 65) + 1))) (Int.tmod (wrap64 (a0)) 65) (Int.tmod (wrap64 (a1)) 80) bt239.1 (decide (bt239.1 > 64)))) else (hopmeshlaw29_AllocateSteady.j0 k (Int.tmod (wrap64 (a3)) 65) (Int.tmod (wrap64 (a2)) (wrap64 ((Int.tmod (wrap64 (a3)) 65) + 1))) (Int.tmod (wrap64 (a0)) 65) (Int.tmod (wrap64 (a1)) 80) bt239.1 true)) else (hopmeshlaw29_AllocateSteady.j0 k (Int.tmod (wrap64 (a3)) 65) (Int.tmod (wrap64 (a2)) (wrap64 ((Int.tmod (wrap64 (a3)) 65) + 1))) (Int.tmod (wrap64 (a0)) 65) (Int.tmod (wrap64 (a1)) 80) bt239.1 true)) else (hopmeshlaw29_AllocateSteady.j0 k (Int.tmod (wrap64 (a3)) 65) (Int.tmod (wrap64 (a2)) (wrap64 ((Int.tmod (wrap64 (a3)) 65) + 1))) (Int.tmod (wrap64 (a0)) 65) (Int.tmod (wrap64 (a1)) 80) bt239.1 true))))) else (some false)) = some r := H
  have A5 := Aside0.mk A50
  clear A50
  by_cases c6 : t238 = true
  · subst c6
    have H1 : (if (wrap64 ((Int.tmod (wrap64 (a3)) 65) + 1)) = 0 then (none) else ((allocate_Settle.f k (Int.tmod (wrap64 (a0)) 65) (Int.tmod (wrap64 (a1)) 80) (Int.tmod (wrap64 (a2)) (wrap64 ((Int.tmod (wrap64 (a3)) 65) + 1))) (Int.tmod (wrap64 (a3)) 65)).bind fun bt239 => ((allocate_Settle.f k bt239.1 (Int.tmod (wrap64 (a1)) 80) (Int.tmod (wrap64 (a2)) (wrap64 ((Int.tmod (wrap64 (a3)) 65) + 1))) (Int.tmod (wrap64 (a3)) 65)).bind fun bt241 => (if bt239.2 = 0 then (if bt241.2 = 0 then (if bt241.1 = bt239.1 then (if bt239.1 < 0 then (hopmeshlaw29_AllocateSteady.j0 k (Int.tmod (wrap64 (a3)) 65) (Int.tmod (wrap64 (a2)) (wrap64 ((Int.tmod (wrap64 (a3)) 65) + 1))) (Int.tmod (wrap64 (a0)) 65) (Int.tmod (wrap64 (a1)) 80) bt239.1 true) else (hopmeshlaw29_AllocateSteady.j0 k (Int.tmod (wrap64 (a3)) 65) (Int.tmod (wrap64 (a2)) (wrap64 ((Int.tmod (wrap64 (a3)) 65) + 1))) (Int.tmod (wrap64 (a0)) 65) (Int.tmod (wrap64 (a1)) 80) bt239.1 (decide (bt239.1 > 64)))) else (hopmeshlaw29_AllocateSteady.j0 k (Int.tmod (wrap64 (a3)) 65) (Int.tmod (wrap64 (a2)) (wrap64 ((Int.tmod (wrap64 (a3)) 65) + 1))) (Int.tmod (wrap64 (a0)) 65) (Int.tmod (wrap64 (a1)) 80) bt239.1 true)) else (hopmeshlaw29_AllocateSteady.j0 k (Int.tmod (wrap64 (a3)) 65) (Int.tmod (wrap64 (a2)) (wrap64 ((Int.tmod (wrap64 (a3)) 65) + 1))) (Int.tmod (wrap64 (a0)) 65) (Int.tmod (wrap64 (a1)) 80) bt239.1 true)) else (hopmeshlaw29_AllocateSteady.j0 k (Int.tmod (wrap64 (a3)) 65) (Int.tmod (wrap64 (a2)) (wrap64 ((Int.tmod (wrap64 (a3)) 65) + 1))) (Int.tmod (wrap64 (a0)) 65) (Int.tmod (wrap64 (a1)) 80) bt239.1 true))))) = some r := by rw [if_pos rfl] at H; exact H
    clear H
    have H := H1
    clear H1
    by_cases c7 : (wrap64 ((Int.tmod (wrap64 (a3)) 65) + 1)) = 0
    · rw [if_pos c7] at H
      exact absurd H (by simp)
    · rw [if_neg c7] at H
      have c7b0 : ((wrap64 ((Int.tmod (wrap64 (a3)) 65) + 1)) == 0) = false := beq_eq_false_iff_ne.mpr c7
      have c7b1 : ((wrap64 ((Int.tmod (wrap64 (a3)) 65) + 1)) != 0) = true := bne_iff_ne.mpr c7
      replace H := Option.bind_eq_some_iff.mp H
      obtain ⟨⟨t239, t240⟩, A80, H⟩ := H
      replace H : ((allocate_Settle.f k t239 (Int.tmod (wrap64 (a1)) 80) (Int.tmod (wrap64 (a2)) (wrap64 ((Int.tmod (wrap64 (a3)) 65) + 1))) (Int.tmod (wrap64 (a3)) 65)).bind fun bt241 => (if t240 = 0 then (if bt241.2 = 0 then (if bt241.1 = t239 then (if t239 < 0 then (hopmeshlaw29_AllocateSteady.j0 k (Int.tmod (wrap64 (a3)) 65) (Int.tmod (wrap64 (a2)) (wrap64 ((Int.tmod (wrap64 (a3)) 65) + 1))) (Int.tmod (wrap64 (a0)) 65) (Int.tmod (wrap64 (a1)) 80) t239 true) else (hopmeshlaw29_AllocateSteady.j0 k (Int.tmod (wrap64 (a3)) 65) (Int.tmod (wrap64 (a2)) (wrap64 ((Int.tmod (wrap64 (a3)) 65) + 1))) (Int.tmod (wrap64 (a0)) 65) (Int.tmod (wrap64 (a1)) 80) t239 (decide (t239 > 64)))) else (hopmeshlaw29_AllocateSteady.j0 k (Int.tmod (wrap64 (a3)) 65) (Int.tmod (wrap64 (a2)) (wrap64 ((Int.tmod (wrap64 (a3)) 65) + 1))) (Int.tmod (wrap64 (a0)) 65) (Int.tmod (wrap64 (a1)) 80) t239 true)) else (hopmeshlaw29_AllocateSteady.j0 k (Int.tmod (wrap64 (a3)) 65) (Int.tmod (wrap64 (a2)) (wrap64 ((Int.tmod (wrap64 (a3)) 65) + 1))) (Int.tmod (wrap64 (a0)) 65) (Int.tmod (wrap64 (a1)) 80) t239 true)) else (hopmeshlaw29_AllocateSteady.j0 k (Int.tmod (wrap64 (a3)) 65) (Int.tmod (wrap64 (a2)) (wrap64 ((Int.tmod (wrap64 (a3)) 65) + 1))) (Int.tmod (wrap64 (a0)) 65) (Int.tmod (wrap64 (a1)) 80) t239 true))) = some r := H
      have A8 := Aside0.mk A80
      clear A80
      replace H := Option.bind_eq_some_iff.mp H
      obtain ⟨⟨t241, t242⟩, A90, H⟩ := H
      replace H : (if t240 = 0 then (if t242 = 0 then (if t241 = t239 then (if t239 < 0 then (hopmeshlaw29_AllocateSteady.j0 k (Int.tmod (wrap64 (a3)) 65) (Int.tmod (wrap64 (a2)) (wrap64 ((Int.tmod (wrap64 (a3)) 65) + 1))) (Int.tmod (wrap64 (a0)) 65) (Int.tmod (wrap64 (a1)) 80) t239 true) else (hopmeshlaw29_AllocateSteady.j0 k (Int.tmod (wrap64 (a3)) 65) (Int.tmod (wrap64 (a2)) (wrap64 ((Int.tmod (wrap64 (a3)) 65) + 1))) (Int.tmod (wrap64 (a0)) 65) (Int.tmod (wrap64 (a1)) 80) t239 (decide (t239 > 64)))) else (hopmeshlaw29_AllocateSteady.j0 k (Int.tmod (wrap64 (a3)) 65) (Int.tmod (wrap64 (a2)) (wrap64 ((Int.tmod (wrap64 (a3)) 65) + 1))) (Int.tmod (wrap64 (a0)) 65) (Int.tmod (wrap64 (a1)) 80) t239 true)) else (hopmeshlaw29_AllocateSteady.j0 k (Int.tmod (wrap64 (a3)) 65) (Int.tmod (wrap64 (a2)) (wrap64 ((Int.tmod (wrap64 (a3)) 65) + 1))) (Int.tmod (wrap64 (a0)) 65) (Int.tmod (wrap64 (a1)) 80) t239 true)) else (hopmeshlaw29_AllocateSteady.j0 k (Int.tmod (wrap64 (a3)) 65) (Int.tmod (wrap64 (a2)) (wrap64 ((Int.tmod (wrap64 (a3)) 65) + 1))) (Int.tmod (wrap64 (a0)) 65) (Int.tmod (wrap64 (a1)) 80) t239 true)) = some r := H
      have A9 := Aside0.mk A90
      clear A90
      have HC10 := Aside0.mk H
      clear H
      go_enter Try.func4, Try.ntmps4
      go_upto_region 8 with (first | ((with_reducible refine gate_callee (f := 10) rfl ?_); refine goesL_ (some 21) rfl rfl Try.func10 (by kernel_rfl) rfl #[] rfl (by (try simp only [List.map_toArray, List.map_cons, List.map_nil]); first | done | rfl | (simp only [List.length_drop, List.length_take]; rfl)) ?_; (with_reducible refine (hopmeshlaw29_awake.calls k  true _ A5.out).mono ?_); rintro e w11 ⟨rfl, hb⟩; refine ⟨_, rfl, ?_⟩; have n0_ := Aside0.mk (below_step (by repeat (first | (with_reducible first | exact HB.out | apply below_alloc | apply pw_below_drewN | apply below_drew1) | exact HB.out)) hb); clear HB; have HB := n0_; clear n0_; (try clear hb); (try clear hb2); (try clear hk); (try clear hi)) | ((with_reducible refine gate_callee (f := 16) rfl ?_); refine goesL_ (some 42) rfl rfl Try.func16 (by kernel_rfl) rfl #[.int .i64 (Int.tmod (wrap64 (a0)) 65), .int .i64 (Int.tmod (wrap64 (a1)) 80), .int .i64 (Int.tmod (wrap64 (a2)) (wrap64 ((Int.tmod (wrap64 (a3)) 65) + 1))), .int .i64 (Int.tmod (wrap64 (a3)) 65)] rfl (by (try simp only [List.map_toArray, List.map_cons, List.map_nil]); first | done | rfl | (simp only [List.length_drop, List.length_take]; rfl)) ?_; (with_reducible refine (allocate_Settle.calls k (Int.tmod (wrap64 (a0)) 65) (Int.tmod (wrap64 (a1)) 80) (Int.tmod (wrap64 (a2)) (wrap64 ((Int.tmod (wrap64 (a3)) 65) + 1))) (Int.tmod (wrap64 (a3)) 65) t239 t240 _ A8.out).mono ?_); rintro e w12 ⟨rfl, hb⟩; refine ⟨_, rfl, ?_⟩; have n0_ := Aside0.mk (below_step (by repeat (first | (with_reducible first | exact HB.out | apply below_alloc | apply pw_below_drewN | apply below_drew1) | exact HB.out)) hb); clear HB; have HB := n0_; clear n0_; (try clear hb); (try clear hb2); (try clear hk); (try clear hi)) | ((with_reducible refine gate_callee (f := 16) rfl ?_); refine goesL_ (some 50) rfl rfl Try.func16 (by kernel_rfl) rfl #[.int .i64 t239, .int .i64 (Int.tmod (wrap64 (a1)) 80), .int .i64 (Int.tmod (wrap64 (a2)) (wrap64 ((Int.tmod (wrap64 (a3)) 65) + 1))), .int .i64 (Int.tmod (wrap64 (a3)) 65)] rfl (by (try simp only [List.map_toArray, List.map_cons, List.map_nil]); first | done | rfl | (simp only [List.length_drop, List.length_take]; rfl)) ?_; (with_reducible refine (allocate_Settle.calls k t239 (Int.tmod (wrap64 (a1)) 80) (Int.tmod (wrap64 (a2)) (wrap64 ((Int.tmod (wrap64 (a3)) 65) + 1))) (Int.tmod (wrap64 (a3)) 65) t241 t242 _ A9.out).mono ?_); rintro e w13 ⟨rfl, hb⟩; refine ⟨_, rfl, ?_⟩; have n0_ := Aside0.mk (below_step (by repeat (first | (with_reducible first | exact HB.out | apply below_alloc | apply pw_below_drewN | apply below_drew1) | exact HB.out)) hb); clear HB; have HB := n0_; clear n0_; (try clear hb); (try clear hb2); (try clear hk); (try clear hi)))
      (try simp only [Act.put, List.setIfInBounds_toArray, List.set_cons_zero, List.set_cons_succ])
      go_cut [71] (fun v71 wc => ∃ (kq : Nat) (x71_9 : Bool), v71 = .bool x71_9 ∧ Aside0 (hopmeshlaw29_AllocateSteady.j0 kq (Int.tmod (wrap64 (a3)) 65) (Int.tmod (wrap64 (a2)) (wrap64 ((Int.tmod (wrap64 (a3)) 65) + 1))) (Int.tmod (wrap64 (a0)) 65) (Int.tmod (wrap64 (a1)) 80) t239 x71_9 = some r) ∧ Aside0 (kq ≤ k) ∧ Aside0 (Below w.heap.size w wc))
      case first =>
        have H := HC10.out
        clear HC10
        by_cases c14 : t240 = 0
        · rw [if_pos c14] at H
          have c14b0 : (t240 == 0) = true := beq_iff_eq.mpr c14
          have c14b1 : (t240 != 0) = false := bne_eq_false_iff_eq.mpr c14
          clear c14
          (first | rw [c14b0] | (simp only [i64_w, i32_w]; rw [c14b0]) | skip)
          by_cases c15 : t242 = 0
          · rw [if_pos c15] at H
            have c15b0 : (t242 == 0) = true := beq_iff_eq.mpr c15
            have c15b1 : (t242 != 0) = false := bne_eq_false_iff_eq.mpr c15
            clear c15
            by_cases c16 : t241 = t239
            · rw [if_pos c16] at H
              have c16b0 : (t241 == t239) = true := beq_iff_eq.mpr c16
              have c16b1 : (t241 != t239) = false := bne_eq_false_iff_eq.mpr c16
              clear c16
              by_cases c17 : t239 < 0
              · rw [if_pos c17] at H
                have c17b0 : decide (t239 < 0) = true := decide_eq_true c17
                clear c17
                have H' := Aside0.mk H
                clear H
                go_wp2
                go_meet
                case rel => exact ⟨_, (true), (by first | rfl | (simp; done) | (simp [*]; done)), H', ⟨by first | omega | exact Nat.le_refl _⟩, ⟨by repeat (first | (with_reducible first | exact HB.out | apply below_alloc | apply pw_below_drewN | apply below_drew1) | exact HB.out)⟩⟩
              · rw [if_neg c17] at H
                have c17b0 : decide (t239 < 0) = false := decide_eq_false c17
                clear c17
                have H' := Aside0.mk H
                clear H
                go_wp2
                go_meet
                case rel => exact ⟨_, (decide (t239 > 64)), (by first | rfl | (simp; done) | (simp [*]; done)), H', ⟨by first | omega | exact Nat.le_refl _⟩, ⟨by repeat (first | (with_reducible first | exact HB.out | apply below_alloc | apply pw_below_drewN | apply below_drew1) | exact HB.out)⟩⟩
            · rw [if_neg c16] at H
              have c16b0 : (t241 == t239) = false := beq_eq_false_iff_ne.mpr c16
              have c16b1 : (t241 != t239) = true := bne_iff_ne.mpr c16
              have H' := Aside0.mk H
              clear H
              go_wp2
              go_meet
              case rel => exact ⟨_, (true), (by first | rfl | (simp; done) | (simp [*]; done)), H', ⟨by first | omega | exact Nat.le_refl _⟩, ⟨by repeat (first | (with_reducible first | exact HB.out | apply below_alloc | apply pw_below_drewN | apply below_drew1) | exact HB.out)⟩⟩
          · rw [if_neg c15] at H
            have c15b0 : (t242 == 0) = false := beq_eq_false_iff_ne.mpr c15
            have c15b1 : (t242 != 0) = true := bne_iff_ne.mpr c15
            have H' := Aside0.mk H
            clear H
            go_wp2
            go_meet
            case rel => exact ⟨_, (true), (by first | rfl | (simp; done) | (simp [*]; done)), H', ⟨by first | omega | exact Nat.le_refl _⟩, ⟨by repeat (first | (with_reducible first | exact HB.out | apply below_alloc | apply pw_below_drewN | apply below_drew1) | exact HB.out)⟩⟩
        · rw [if_neg c14] at H
          have c14b0 : (t240 == 0) = false := beq_eq_false_iff_ne.mpr c14
          have c14b1 : (t240 != 0) = true := bne_iff_ne.mpr c14
          (first | rw [c14b0] | (simp only [i64_w, i32_w]; rw [c14b0]) | skip)
          have H' := Aside0.mk H
          clear H
          go_wp2
          go_meet
          case rel => exact ⟨_, (true), (by first | rfl | (simp; done) | (simp [*]; done)), H', ⟨by first | omega | exact Nat.le_refl _⟩, ⟨by repeat (first | (with_reducible first | exact HB.out | apply below_alloc | apply pw_below_drewN | apply below_drew1) | exact HB.out)⟩⟩
      case rest =>
        clear HC10
        try clear c1
        try clear p2
        try clear c4
        try clear c6
        try clear p6
        try clear c7
        try clear c7b0
        try clear c7b1
        try clear c10
        try clear c14
        try clear c14b0
        try clear c14b1
        try clear c15
        try clear c15b0
        try clear c15b1
        try clear c16
        try clear c16b0
        try clear c16b1
        try clear c17
        try clear c17b0
        obtain ⟨kq, x71_9, rfl, HA, HJ9, HB⟩ := hcut
        cases kq with
        | zero => exact absurd HA.out (by simp [hopmeshlaw29_AllocateSteady.j0])
        | succ kj9 =>
          have H := HA.out
          clear HA
          simp only [hopmeshlaw29_AllocateSteady.j0] at H
          by_cases c18 : x71_9 = true
          · subst c18
            have H1 : (some false) = some r := by rw [if_pos rfl] at H; exact H
            clear H
            have H := H1
            clear H1
            obtain rfl := Option.some.inj H
            go_wp2
            go_ret
            exact ⟨by first | rfl | (simp [errW_none, errW_some] <;> rfl) | (simp [*, errW_none, errW_some] <;> rfl), by repeat (first | (with_reducible first | exact HB.out | apply below_alloc | apply pw_below_drewN | apply below_drew1) | exact HB.out)⟩
          · replace c18 := Bool.eq_false_iff.mpr c18
            subst c18
            have H1 : (if t239 > 0 then ((hopmeshlaw29_cells.f kj9 t239 (Int.tmod (wrap64 (a1)) 80)).bind fun t243 => ((allocate_Decide.f kj9 t243 0 (Int.tmod (wrap64 (a2)) (wrap64 ((Int.tmod (wrap64 (a3)) 65) + 1))) (Int.tmod (wrap64 (a3)) 65)).bind fun bt246 => (if bt246.2.2 = 0 then (hopmeshlaw29_AllocateSteady.j1 kj9 (Int.tmod (wrap64 (a3)) 65) (Int.tmod (wrap64 (a2)) (wrap64 ((Int.tmod (wrap64 (a3)) 65) + 1))) (Int.tmod (wrap64 (a0)) 65) (Int.tmod (wrap64 (a1)) 80) t239 (bt246.1 != 0)) else (hopmeshlaw29_AllocateSteady.j1 kj9 (Int.tmod (wrap64 (a3)) 65) (Int.tmod (wrap64 (a2)) (wrap64 ((Int.tmod (wrap64 (a3)) 65) + 1))) (Int.tmod (wrap64 (a0)) 65) (Int.tmod (wrap64 (a1)) 80) t239 true)))) else (if t239 < (Int.tmod (wrap64 (a2)) (wrap64 ((Int.tmod (wrap64 (a3)) 65) + 1))) then (some false) else (if t239 > (mx (mx (Int.tmod (wrap64 (a0)) 65) (Int.tmod (wrap64 (a3)) 65)) (Int.tmod (wrap64 (a2)) (wrap64 ((Int.tmod (wrap64 (a3)) 65) + 1)))) then (some false) else (if t239 = 0 then (if t239 ≤ (mx 1 (Int.tmod (wrap64 (a2)) (wrap64 ((Int.tmod (wrap64 (a3)) 65) + 1)))) then (some true) else (some (decide ((wrap64 (4 * (mn (Int.tmod (wrap64 (a1)) 80) t239))) ≥ t239)))) else (if t239 ≥ (Int.tmod (wrap64 (a3)) 65) then (if t239 ≤ (mx 1 (Int.tmod (wrap64 (a2)) (wrap64 ((Int.tmod (wrap64 (a3)) 65) + 1)))) then (some true) else (some (decide ((wrap64 (4 * (mn (Int.tmod (wrap64 (a1)) 80) t239))) ≥ t239)))) else (if (wrap64 (4 * (mn (Int.tmod (wrap64 (a1)) 80) t239))) < (wrap64 (3 * t239)) then (if t239 ≤ (mx 1 (Int.tmod (wrap64 (a2)) (wrap64 ((Int.tmod (wrap64 (a3)) 65) + 1)))) then (some true) else (some (decide ((wrap64 (4 * (mn (Int.tmod (wrap64 (a1)) 80) t239))) ≥ t239)))) else (some false))))))) = some r := by rw [if_neg (show ¬ (false = true) by decide)] at H; exact H
            clear H
            have H := H1
            clear H1
            by_cases c19 : t239 > 0
            · rw [if_pos c19] at H
              have c19b0 : decide (0 < t239) = true := decide_eq_true c19
              clear c19
              replace H := Option.bind_eq_some_iff.mp H
              obtain ⟨t243, A200, H⟩ := H
              replace H : ((allocate_Decide.f kj9 t243 0 (Int.tmod (wrap64 (a2)) (wrap64 ((Int.tmod (wrap64 (a3)) 65) + 1))) (Int.tmod (wrap64 (a3)) 65)).bind fun bt246 => (if bt246.2.2 = 0 then (hopmeshlaw29_AllocateSteady.j1 kj9 (Int.tmod (wrap64 (a3)) 65) (Int.tmod (wrap64 (a2)) (wrap64 ((Int.tmod (wrap64 (a3)) 65) + 1))) (Int.tmod (wrap64 (a0)) 65) (Int.tmod (wrap64 (a1)) 80) t239 (bt246.1 != 0)) else (hopmeshlaw29_AllocateSteady.j1 kj9 (Int.tmod (wrap64 (a3)) 65) (Int.tmod (wrap64 (a2)) (wrap64 ((Int.tmod (wrap64 (a3)) 65) + 1))) (Int.tmod (wrap64 (a0)) 65) (Int.tmod (wrap64 (a1)) 80) t239 true))) = some r := H
              have A20 := Aside0.mk A200
              clear A200
              replace H := Option.bind_eq_some_iff.mp H
              obtain ⟨⟨t246, t247, t248⟩, A210, H⟩ := H
              replace H : (if t248 = 0 then (hopmeshlaw29_AllocateSteady.j1 kj9 (Int.tmod (wrap64 (a3)) 65) (Int.tmod (wrap64 (a2)) (wrap64 ((Int.tmod (wrap64 (a3)) 65) + 1))) (Int.tmod (wrap64 (a0)) 65) (Int.tmod (wrap64 (a1)) 80) t239 (t246 != 0)) else (hopmeshlaw29_AllocateSteady.j1 kj9 (Int.tmod (wrap64 (a3)) 65) (Int.tmod (wrap64 (a2)) (wrap64 ((Int.tmod (wrap64 (a3)) 65) + 1))) (Int.tmod (wrap64 (a0)) 65) (Int.tmod (wrap64 (a1)) 80) t239 true)) = some r := H
              have A21 := Aside0.mk A210
              clear A210
              have HC22 := Aside0.mk H
              clear H
              go_upto_region 12 with (first | ((with_reducible refine gate_callee (f := 17) rfl ?_); refine goesL_ (some 77) rfl rfl Try.func17 (by kernel_rfl) rfl #[.int .i64 t239, .int .i64 (Int.tmod (wrap64 (a1)) 80)] rfl (by (try simp only [List.map_toArray, List.map_cons, List.map_nil]); first | done | rfl | (simp only [List.length_drop, List.length_take]; rfl)) ?_; (with_reducible refine (hopmeshlaw29_cells.calls kj9 t239 (Int.tmod (wrap64 (a1)) 80) t243 _ A20.out).mono ?_); rintro e w23 ⟨v244, rfl, ho0, hb⟩; refine ⟨_, rfl, ?_⟩; have n0_ := Aside0.mk (Kd.R_lower ho0 (below_size (by repeat (first | (with_reducible first | exact HB.out | apply below_alloc | apply pw_below_drewN | apply below_drew1) | exact HB.out)))); have n1_ := Aside0.mk (below_step (by repeat (first | (with_reducible first | exact HB.out | apply below_alloc | apply pw_below_drewN | apply below_drew1) | exact HB.out)) hb); clear HB; have HO245 := n0_; have HB := n1_; clear n0_ n1_; (try clear hb); (try clear hb2); (try clear hk); (try clear hi); (try clear ho0); obtain ⟨Ao24, co24, eo24⟩ := Kd.R_slice HO245.out; subst eo24) | ((with_reducible refine gate_callee (f := 14) rfl ?_); refine goesL_ (some 80) rfl rfl Try.func14 (by kernel_rfl) rfl #[.slice Ao24 t243.length co24, .int .i64 0, .int .i64 (Int.tmod (wrap64 (a2)) (wrap64 ((Int.tmod (wrap64 (a3)) 65) + 1))), .int .i64 (Int.tmod (wrap64 (a3)) 65)] rfl (by (try simp only [List.map_toArray, List.map_cons, List.map_nil]); first | done | rfl | (simp only [List.length_drop, List.length_take]; rfl)) ?_; (with_reducible refine (allocate_Decide.calls kj9 _ _ t243 0 (Int.tmod (wrap64 (a2)) (wrap64 ((Int.tmod (wrap64 (a3)) 65) + 1))) (Int.tmod (wrap64 (a3)) 65) t246 t247 t248 _ ?side1 ?side2 A21.out).mono ?_); (case side1 => repeat (first | exact (Kd.R_reads' HO245.out).2.2 | (with_reducible refine Kd.C_alloc ?_ _) | (with_reducible refine Kd.C_drewN ?_ _) | (with_reducible refine Kd.C_drew ?_))); (case side2 => exact (Kd.R_reads' HO245.out).2.1); rintro e w25 ⟨rfl, hb⟩; refine ⟨_, rfl, ?_⟩; have n0_ := Aside0.mk (Kd.R_below (by (with_reducible repeat (first | apply Kd.R_alloc | apply Kd.R_drewN | apply Kd.R_drew)); exact HO245.out) hb); have n1_ := Aside0.mk (below_step (by repeat (first | (with_reducible first | exact HB.out | apply below_alloc | apply pw_below_drewN | apply below_drew1) | exact HB.out)) hb); clear HO245; clear HB; have HO245 := n0_; have HB := n1_; clear n0_ n1_; (try clear hb); (try clear hb2); (try clear hk); (try clear hi)))
              (try simp only [Act.put, List.setIfInBounds_toArray, List.set_cons_zero, List.set_cons_succ])
              go_cut [89] (fun v89 wc => ∃ (kq : Nat) (x89_21 : Bool), v89 = .bool x89_21 ∧ Aside0 (hopmeshlaw29_AllocateSteady.j1 kq (Int.tmod (wrap64 (a3)) 65) (Int.tmod (wrap64 (a2)) (wrap64 ((Int.tmod (wrap64 (a3)) 65) + 1))) (Int.tmod (wrap64 (a0)) 65) (Int.tmod (wrap64 (a1)) 80) t239 x89_21 = some r) ∧ Aside0 (kq ≤ kj9) ∧ Aside0 (Below w.heap.size w wc))
              case first =>
                have H := HC22.out
                clear HC22
                by_cases c26 : t248 = 0
                · rw [if_pos c26] at H
                  have c26b0 : (t248 == 0) = true := beq_iff_eq.mpr c26
                  have c26b1 : (t248 != 0) = false := bne_eq_false_iff_eq.mpr c26
                  clear c26
                  (first | rw [c26b0] | (simp only [i64_w, i32_w]; rw [c26b0]) | skip)
                  have H' := Aside0.mk H
                  clear H
                  go_wp2
                  go_meet
                  case rel => exact ⟨_, ((t246 != 0)), (by first | rfl | (simp; done) | (simp [*]; done)), H', ⟨by have := HJ9.out; first | omega | exact Nat.le_refl _⟩, ⟨by repeat (first | (with_reducible first | exact HB.out | apply below_alloc | apply pw_below_drewN | apply below_drew1) | exact HB.out)⟩⟩
                · rw [if_neg c26] at H
                  have c26b0 : (t248 == 0) = false := beq_eq_false_iff_ne.mpr c26
                  have c26b1 : (t248 != 0) = true := bne_iff_ne.mpr c26
                  (first | rw [c26b0] | (simp only [i64_w, i32_w]; rw [c26b0]) | skip)
                  have H' := Aside0.mk H
                  clear H
                  go_wp2
                  go_meet
                  case rel => exact ⟨_, (true), (by first | rfl | (simp; done) | (simp [*]; done)), H', ⟨by have := HJ9.out; first | omega | exact Nat.le_refl _⟩, ⟨by repeat (first | (with_reducible first | exact HB.out | apply below_alloc | apply pw_below_drewN | apply below_drew1) | exact HB.out)⟩⟩
              case rest =>
                clear HC22
                try clear c1
                try clear c2
                try clear p2
                try clear c4
                try clear c6
                try clear p6
                try clear c7
                try clear c7b0
                try clear c7b1
                try clear c10
                try clear c14
                try clear c14b0
                try clear c14b1
                try clear c15
                try clear c15b0
                try clear c15b1
                try clear c16
                try clear c16b0
                try clear c16b1
                try clear c17
                try clear c17b0
                try clear c18
                try clear c19
                try clear c19b0
                try clear c26
                try clear c26b0
                try clear c26b1
                try clear p2
                try clear p6
                obtain ⟨kq, x89_21, rfl, HA, HJ21, HB⟩ := hcut
                cases kq with
                | zero => exact absurd HA.out (by simp [hopmeshlaw29_AllocateSteady.j1])
                | succ kj21 =>
                  have H := HA.out
                  clear HA
                  simp only [hopmeshlaw29_AllocateSteady.j1] at H
                  by_cases c27 : x89_21 = true
                  · subst c27
                    have H1 : (some false) = some r := by rw [if_pos rfl] at H; exact H
                    clear H
                    have H := H1
                    clear H1
                    obtain rfl := Option.some.inj H
                    go_wp2
                    go_ret
                    exact ⟨by first | rfl | (simp [errW_none, errW_some] <;> rfl) | (simp [*, errW_none, errW_some] <;> rfl), by repeat (first | (with_reducible first | exact HB.out | apply below_alloc | apply pw_below_drewN | apply below_drew1) | exact HB.out)⟩
                  · replace c27 := Bool.eq_false_iff.mpr c27
                    subst c27
                    have H1 : (if t239 < (Int.tmod (wrap64 (a2)) (wrap64 ((Int.tmod (wrap64 (a3)) 65) + 1))) then (some false) else (if t239 > (mx (mx (Int.tmod (wrap64 (a0)) 65) (Int.tmod (wrap64 (a3)) 65)) (Int.tmod (wrap64 (a2)) (wrap64 ((Int.tmod (wrap64 (a3)) 65) + 1)))) then (some false) else (if t239 = 0 then (if t239 ≤ (mx 1 (Int.tmod (wrap64 (a2)) (wrap64 ((Int.tmod (wrap64 (a3)) 65) + 1)))) then (some true) else (some (decide ((wrap64 (4 * (mn (Int.tmod (wrap64 (a1)) 80) t239))) ≥ t239)))) else (if t239 ≥ (Int.tmod (wrap64 (a3)) 65) then (if t239 ≤ (mx 1 (Int.tmod (wrap64 (a2)) (wrap64 ((Int.tmod (wrap64 (a3)) 65) + 1)))) then (some true) else (some (decide ((wrap64 (4 * (mn (Int.tmod (wrap64 (a1)) 80) t239))) ≥ t239)))) else (if (wrap64 (4 * (mn (Int.tmod (wrap64 (a1)) 80) t239))) < (wrap64 (3 * t239)) then (if t239 ≤ (mx 1 (Int.tmod (wrap64 (a2)) (wrap64 ((Int.tmod (wrap64 (a3)) 65) + 1)))) then (some true) else (some (decide ((wrap64 (4 * (mn (Int.tmod (wrap64 (a1)) 80) t239))) ≥ t239)))) else (some false)))))) = some r := by rw [if_neg (show ¬ (false = true) by decide)] at H; exact H
                    clear H
                    have H := H1
                    clear H1
                    by_cases c28 : t239 < (Int.tmod (wrap64 (a2)) (wrap64 ((Int.tmod (wrap64 (a3)) 65) + 1)))
                    · rw [if_pos c28] at H
                      have c28b0 : decide (t239 < (Int.tmod (wrap64 (a2)) (wrap64 ((Int.tmod (wrap64 (a3)) 65) + 1)))) = true := decide_eq_true c28
                      clear c28
                      obtain rfl := Option.some.inj H
                      go_wp2
                      go_ret
                      exact ⟨by first | rfl | (simp [errW_none, errW_some] <;> rfl) | (simp [*, errW_none, errW_some] <;> rfl), by repeat (first | (with_reducible first | exact HB.out | apply below_alloc | apply pw_below_drewN | apply below_drew1) | exact HB.out)⟩
                    · rw [if_neg c28] at H
                      have c28b0 : decide (t239 < (Int.tmod (wrap64 (a2)) (wrap64 ((Int.tmod (wrap64 (a3)) 65) + 1)))) = false := decide_eq_false c28
                      clear c28
                      obtain ⟨ji29, hji29⟩ : ∃ j_ : Int, (mx (Int.tmod (wrap64 (a0)) 65) (Int.tmod (wrap64 (a3)) 65)) = j_ := ⟨_, rfl⟩
                      replace H : (if t239 > (mx (ji29) (Int.tmod (wrap64 (a2)) (wrap64 ((Int.tmod (wrap64 (a3)) 65) + 1)))) then (some false) else (if t239 = 0 then (if t239 ≤ (mx 1 (Int.tmod (wrap64 (a2)) (wrap64 ((Int.tmod (wrap64 (a3)) 65) + 1)))) then (some true) else (some (decide ((wrap64 (4 * (mn (Int.tmod (wrap64 (a1)) 80) t239))) ≥ t239)))) else (if t239 ≥ (Int.tmod (wrap64 (a3)) 65) then (if t239 ≤ (mx 1 (Int.tmod (wrap64 (a2)) (wrap64 ((Int.tmod (wrap64 (a3)) 65) + 1)))) then (some true) else (some (decide ((wrap64 (4 * (mn (Int.tmod (wrap64 (a1)) 80) t239))) ≥ t239)))) else (if (wrap64 (4 * (mn (Int.tmod (wrap64 (a1)) 80) t239))) < (wrap64 (3 * t239)) then (if t239 ≤ (mx 1 (Int.tmod (wrap64 (a2)) (wrap64 ((Int.tmod (wrap64 (a3)) 65) + 1)))) then (some true) else (some (decide ((wrap64 (4 * (mn (Int.tmod (wrap64 (a1)) 80) t239))) ≥ t239)))) else (some false))))) = some r := by first | (rw [hji29] at H; exact H) | (simp only [hji29] at H ⊢; exact H)
                      have hji29_ : (if (Int.tmod (wrap64 (a0)) 65) < (Int.tmod (wrap64 (a3)) 65) then (Int.tmod (wrap64 (a3)) 65) else (Int.tmod (wrap64 (a0)) 65)) = ji29 := hji29
                      obtain ⟨ji30, hji30⟩ : ∃ j_ : Int, (mx (ji29) (Int.tmod (wrap64 (a2)) (wrap64 ((Int.tmod (wrap64 (a3)) 65) + 1)))) = j_ := ⟨_, rfl⟩
                      replace H : (if t239 > (ji30) then (some false) else (if t239 = 0 then (if t239 ≤ (mx 1 (Int.tmod (wrap64 (a2)) (wrap64 ((Int.tmod (wrap64 (a3)) 65) + 1)))) then (some true) else (some (decide ((wrap64 (4 * (mn (Int.tmod (wrap64 (a1)) 80) t239))) ≥ t239)))) else (if t239 ≥ (Int.tmod (wrap64 (a3)) 65) then (if t239 ≤ (mx 1 (Int.tmod (wrap64 (a2)) (wrap64 ((Int.tmod (wrap64 (a3)) 65) + 1)))) then (some true) else (some (decide ((wrap64 (4 * (mn (Int.tmod (wrap64 (a1)) 80) t239))) ≥ t239)))) else (if (wrap64 (4 * (mn (Int.tmod (wrap64 (a1)) 80) t239))) < (wrap64 (3 * t239)) then (if t239 ≤ (mx 1 (Int.tmod (wrap64 (a2)) (wrap64 ((Int.tmod (wrap64 (a3)) 65) + 1)))) then (some true) else (some (decide ((wrap64 (4 * (mn (Int.tmod (wrap64 (a1)) 80) t239))) ≥ t239)))) else (some false))))) = some r := by first | (rw [hji30] at H; exact H) | (simp only [hji30] at H ⊢; exact H)
                      have hji30_ : (if (ji29) < (Int.tmod (wrap64 (a2)) (wrap64 ((Int.tmod (wrap64 (a3)) 65) + 1))) then (Int.tmod (wrap64 (a2)) (wrap64 ((Int.tmod (wrap64 (a3)) 65) + 1))) else (ji29)) = ji30 := hji30
                      by_cases c31 : t239 > (ji30)
                      · rw [if_pos c31] at H
                        have c31b0 : decide ((ji30) < t239) = true := decide_eq_true c31
                        clear c31
                        obtain rfl := Option.some.inj H
                        go_wp2
                        go_ret
                        exact ⟨by first | rfl | (simp [errW_none, errW_some] <;> rfl) | (simp only [← hji29, ← hji30]; first | rfl | (simp [errW_none, errW_some] <;> rfl)) | (simp [*, errW_none, errW_some] <;> rfl), by repeat (first | (with_reducible first | exact HB.out | apply below_alloc | apply pw_below_drewN | apply below_drew1) | exact HB.out)⟩
                      · rw [if_neg c31] at H
                        have c31b0 : decide ((ji30) < t239) = false := decide_eq_false c31
                        clear c31
                        obtain ⟨ji32, hji32⟩ : ∃ j_ : Int, (mn (Int.tmod (wrap64 (a1)) 80) t239) = j_ := ⟨_, rfl⟩
                        replace H : (if t239 = 0 then (if t239 ≤ (mx 1 (Int.tmod (wrap64 (a2)) (wrap64 ((Int.tmod (wrap64 (a3)) 65) + 1)))) then (some true) else (some (decide ((wrap64 (4 * (ji32))) ≥ t239)))) else (if t239 ≥ (Int.tmod (wrap64 (a3)) 65) then (if t239 ≤ (mx 1 (Int.tmod (wrap64 (a2)) (wrap64 ((Int.tmod (wrap64 (a3)) 65) + 1)))) then (some true) else (some (decide ((wrap64 (4 * (ji32))) ≥ t239)))) else (if (wrap64 (4 * (ji32))) < (wrap64 (3 * t239)) then (if t239 ≤ (mx 1 (Int.tmod (wrap64 (a2)) (wrap64 ((Int.tmod (wrap64 (a3)) 65) + 1)))) then (some true) else (some (decide ((wrap64 (4 * (ji32))) ≥ t239)))) else (some false)))) = some r := by first | (rw [hji32] at H; exact H) | (simp only [hji32] at H ⊢; exact H)
                        have hji32_ : (if t239 < (Int.tmod (wrap64 (a1)) 80) then t239 else (Int.tmod (wrap64 (a1)) 80)) = ji32 := hji32
                        by_cases c33 : t239 = 0
                        · rw [if_pos c33] at H
                          have c33b0 : (t239 == 0) = true := beq_iff_eq.mpr c33
                          have c33b1 : (t239 != 0) = false := bne_eq_false_iff_eq.mpr c33
                          clear c33
                          obtain ⟨ji34, hji34⟩ : ∃ j_ : Int, (mx 1 (Int.tmod (wrap64 (a2)) (wrap64 ((Int.tmod (wrap64 (a3)) 65) + 1)))) = j_ := ⟨_, rfl⟩
                          replace H : (if t239 ≤ (ji34) then (some true) else (some (decide ((wrap64 (4 * (ji32))) ≥ t239)))) = some r := by first | (rw [hji34] at H; exact H) | (simp only [hji34] at H ⊢; exact H)
                          have hji34_ : (if 1 < (Int.tmod (wrap64 (a2)) (wrap64 ((Int.tmod (wrap64 (a3)) 65) + 1))) then (Int.tmod (wrap64 (a2)) (wrap64 ((Int.tmod (wrap64 (a3)) 65) + 1))) else 1) = ji34 := hji34
                          by_cases c35 : t239 ≤ (ji34)
                          · rw [if_pos c35] at H
                            have c35b0 : decide (t239 ≤ (ji34)) = true := decide_eq_true c35
                            clear c35
                            obtain rfl := Option.some.inj H
                            go_wp2
                            go_ret
                            exact ⟨by first | rfl | (simp [errW_none, errW_some] <;> rfl) | (simp only [← hji29, ← hji30, ← hji32, ← hji34]; first | rfl | (simp [errW_none, errW_some] <;> rfl)) | (simp [*, errW_none, errW_some] <;> rfl), by repeat (first | (with_reducible first | exact HB.out | apply below_alloc | apply pw_below_drewN | apply below_drew1) | exact HB.out)⟩
                          · rw [if_neg c35] at H
                            have c35b0 : decide (t239 ≤ (ji34)) = false := decide_eq_false c35
                            clear c35
                            obtain rfl := Option.some.inj H
                            go_wp2
                            go_ret
                            exact ⟨by first | rfl | (simp [errW_none, errW_some] <;> rfl) | (simp only [← hji29, ← hji30, ← hji32, ← hji34]; first | rfl | (simp [errW_none, errW_some] <;> rfl)) | (simp [*, errW_none, errW_some] <;> rfl), by repeat (first | (with_reducible first | exact HB.out | apply below_alloc | apply pw_below_drewN | apply below_drew1) | exact HB.out)⟩
                        · rw [if_neg c33] at H
                          have c33b0 : (t239 == 0) = false := beq_eq_false_iff_ne.mpr c33
                          have c33b1 : (t239 != 0) = true := bne_iff_ne.mpr c33
                          by_cases c36 : t239 ≥ (Int.tmod (wrap64 (a3)) 65)
                          · rw [if_pos c36] at H
                            have c36b0 : decide ((Int.tmod (wrap64 (a3)) 65) ≤ t239) = true := decide_eq_true c36
                            clear c36
                            obtain ⟨ji37, hji37⟩ : ∃ j_ : Int, (mx 1 (Int.tmod (wrap64 (a2)) (wrap64 ((Int.tmod (wrap64 (a3)) 65) + 1)))) = j_ := ⟨_, rfl⟩
                            replace H : (if t239 ≤ (ji37) then (some true) else (some (decide ((wrap64 (4 * (ji32))) ≥ t239)))) = some r := by first | (rw [hji37] at H; exact H) | (simp only [hji37] at H ⊢; exact H)
                            have hji37_ : (if 1 < (Int.tmod (wrap64 (a2)) (wrap64 ((Int.tmod (wrap64 (a3)) 65) + 1))) then (Int.tmod (wrap64 (a2)) (wrap64 ((Int.tmod (wrap64 (a3)) 65) + 1))) else 1) = ji37 := hji37
                            by_cases c38 : t239 ≤ (ji37)
                            · rw [if_pos c38] at H
                              have c38b0 : decide (t239 ≤ (ji37)) = true := decide_eq_true c38
                              clear c38
                              obtain rfl := Option.some.inj H
                              go_wp2
                              go_ret
                              exact ⟨by first | rfl | (simp [errW_none, errW_some] <;> rfl) | (simp only [← hji29, ← hji30, ← hji32, ← hji37]; first | rfl | (simp [errW_none, errW_some] <;> rfl)) | (simp [*, errW_none, errW_some] <;> rfl), by repeat (first | (with_reducible first | exact HB.out | apply below_alloc | apply pw_below_drewN | apply below_drew1) | exact HB.out)⟩
                            · rw [if_neg c38] at H
                              have c38b0 : decide (t239 ≤ (ji37)) = false := decide_eq_false c38
                              clear c38
                              obtain rfl := Option.some.inj H
                              go_wp2
                              go_ret
                              exact ⟨by first | rfl | (simp [errW_none, errW_some] <;> rfl) | (simp only [← hji29, ← hji30, ← hji32, ← hji37]; first | rfl | (simp [errW_none, errW_some] <;> rfl)) | (simp [*, errW_none, errW_some] <;> rfl), by repeat (first | (with_reducible first | exact HB.out | apply below_alloc | apply pw_below_drewN | apply below_drew1) | exact HB.out)⟩
                          · rw [if_neg c36] at H
                            have c36b0 : decide ((Int.tmod (wrap64 (a3)) 65) ≤ t239) = false := decide_eq_false c36
                            clear c36
                            by_cases c39 : (wrap64 (4 * (ji32))) < (wrap64 (3 * t239))
                            · rw [if_pos c39] at H
                              have c39b0 : decide ((wrap64 (4 * (ji32))) < (wrap64 (3 * t239))) = true := decide_eq_true c39
                              clear c39
                              obtain ⟨ji40, hji40⟩ : ∃ j_ : Int, (mx 1 (Int.tmod (wrap64 (a2)) (wrap64 ((Int.tmod (wrap64 (a3)) 65) + 1)))) = j_ := ⟨_, rfl⟩
                              replace H : (if t239 ≤ (ji40) then (some true) else (some (decide ((wrap64 (4 * (ji32))) ≥ t239)))) = some r := by first | (rw [hji40] at H; exact H) | (simp only [hji40] at H ⊢; exact H)
                              have hji40_ : (if 1 < (Int.tmod (wrap64 (a2)) (wrap64 ((Int.tmod (wrap64 (a3)) 65) + 1))) then (Int.tmod (wrap64 (a2)) (wrap64 ((Int.tmod (wrap64 (a3)) 65) + 1))) else 1) = ji40 := hji40
                              by_cases c41 : t239 ≤ (ji40)
                              · rw [if_pos c41] at H
                                have c41b0 : decide (t239 ≤ (ji40)) = true := decide_eq_true c41
                                clear c41
                                obtain rfl := Option.some.inj H
                                go_wp2
                                go_ret
                                exact ⟨by first | rfl | (simp [errW_none, errW_some] <;> rfl) | (simp only [← hji29, ← hji30, ← hji32, ← hji40]; first | rfl | (simp [errW_none, errW_some] <;> rfl)) | (simp [*, errW_none, errW_some] <;> rfl), by repeat (first | (with_reducible first | exact HB.out | apply below_alloc | apply pw_below_drewN | apply below_drew1) | exact HB.out)⟩
                              · rw [if_neg c41] at H
                                have c41b0 : decide (t239 ≤ (ji40)) = false := decide_eq_false c41
                                clear c41
                                obtain rfl := Option.some.inj H
                                go_wp2
                                go_ret
                                exact ⟨by first | rfl | (simp [errW_none, errW_some] <;> rfl) | (simp only [← hji29, ← hji30, ← hji32, ← hji40]; first | rfl | (simp [errW_none, errW_some] <;> rfl)) | (simp [*, errW_none, errW_some] <;> rfl), by repeat (first | (with_reducible first | exact HB.out | apply below_alloc | apply pw_below_drewN | apply below_drew1) | exact HB.out)⟩
                            · rw [if_neg c39] at H
                              have c39b0 : decide ((wrap64 (4 * (ji32))) < (wrap64 (3 * t239))) = false := decide_eq_false c39
                              clear c39
                              obtain rfl := Option.some.inj H
                              go_wp2
                              go_ret
                              exact ⟨by first | rfl | (simp [errW_none, errW_some] <;> rfl) | (simp only [← hji29, ← hji30, ← hji32]; first | rfl | (simp [errW_none, errW_some] <;> rfl)) | (simp [*, errW_none, errW_some] <;> rfl), by repeat (first | (with_reducible first | exact HB.out | apply below_alloc | apply pw_below_drewN | apply below_drew1) | exact HB.out)⟩
            · rw [if_neg c19] at H
              have c19b0 : decide (0 < t239) = false := decide_eq_false c19
              clear c19
              by_cases c42 : t239 < (Int.tmod (wrap64 (a2)) (wrap64 ((Int.tmod (wrap64 (a3)) 65) + 1)))
              · rw [if_pos c42] at H
                have c42b0 : decide (t239 < (Int.tmod (wrap64 (a2)) (wrap64 ((Int.tmod (wrap64 (a3)) 65) + 1)))) = true := decide_eq_true c42
                clear c42
                obtain rfl := Option.some.inj H
                go_wp2
                go_ret
                exact ⟨by first | rfl | (simp [errW_none, errW_some] <;> rfl) | (simp [*, errW_none, errW_some] <;> rfl), by repeat (first | (with_reducible first | exact HB.out | apply below_alloc | apply pw_below_drewN | apply below_drew1) | exact HB.out)⟩
              · rw [if_neg c42] at H
                have c42b0 : decide (t239 < (Int.tmod (wrap64 (a2)) (wrap64 ((Int.tmod (wrap64 (a3)) 65) + 1)))) = false := decide_eq_false c42
                clear c42
                obtain ⟨ji43, hji43⟩ : ∃ j_ : Int, (mx (Int.tmod (wrap64 (a0)) 65) (Int.tmod (wrap64 (a3)) 65)) = j_ := ⟨_, rfl⟩
                replace H : (if t239 > (mx (ji43) (Int.tmod (wrap64 (a2)) (wrap64 ((Int.tmod (wrap64 (a3)) 65) + 1)))) then (some false) else (if t239 = 0 then (if t239 ≤ (mx 1 (Int.tmod (wrap64 (a2)) (wrap64 ((Int.tmod (wrap64 (a3)) 65) + 1)))) then (some true) else (some (decide ((wrap64 (4 * (mn (Int.tmod (wrap64 (a1)) 80) t239))) ≥ t239)))) else (if t239 ≥ (Int.tmod (wrap64 (a3)) 65) then (if t239 ≤ (mx 1 (Int.tmod (wrap64 (a2)) (wrap64 ((Int.tmod (wrap64 (a3)) 65) + 1)))) then (some true) else (some (decide ((wrap64 (4 * (mn (Int.tmod (wrap64 (a1)) 80) t239))) ≥ t239)))) else (if (wrap64 (4 * (mn (Int.tmod (wrap64 (a1)) 80) t239))) < (wrap64 (3 * t239)) then (if t239 ≤ (mx 1 (Int.tmod (wrap64 (a2)) (wrap64 ((Int.tmod (wrap64 (a3)) 65) + 1)))) then (some true) else (some (decide ((wrap64 (4 * (mn (Int.tmod (wrap64 (a1)) 80) t239))) ≥ t239)))) else (some false))))) = some r := by first | (rw [hji43] at H; exact H) | (simp only [hji43] at H ⊢; exact H)
                have hji43_ : (if (Int.tmod (wrap64 (a0)) 65) < (Int.tmod (wrap64 (a3)) 65) then (Int.tmod (wrap64 (a3)) 65) else (Int.tmod (wrap64 (a0)) 65)) = ji43 := hji43
                obtain ⟨ji44, hji44⟩ : ∃ j_ : Int, (mx (ji43) (Int.tmod (wrap64 (a2)) (wrap64 ((Int.tmod (wrap64 (a3)) 65) + 1)))) = j_ := ⟨_, rfl⟩
                replace H : (if t239 > (ji44) then (some false) else (if t239 = 0 then (if t239 ≤ (mx 1 (Int.tmod (wrap64 (a2)) (wrap64 ((Int.tmod (wrap64 (a3)) 65) + 1)))) then (some true) else (some (decide ((wrap64 (4 * (mn (Int.tmod (wrap64 (a1)) 80) t239))) ≥ t239)))) else (if t239 ≥ (Int.tmod (wrap64 (a3)) 65) then (if t239 ≤ (mx 1 (Int.tmod (wrap64 (a2)) (wrap64 ((Int.tmod (wrap64 (a3)) 65) + 1)))) then (some true) else (some (decide ((wrap64 (4 * (mn (Int.tmod (wrap64 (a1)) 80) t239))) ≥ t239)))) else (if (wrap64 (4 * (mn (Int.tmod (wrap64 (a1)) 80) t239))) < (wrap64 (3 * t239)) then (if t239 ≤ (mx 1 (Int.tmod (wrap64 (a2)) (wrap64 ((Int.tmod (wrap64 (a3)) 65) + 1)))) then (some true) else (some (decide ((wrap64 (4 * (mn (Int.tmod (wrap64 (a1)) 80) t239))) ≥ t239)))) else (some false))))) = some r := by first | (rw [hji44] at H; exact H) | (simp only [hji44] at H ⊢; exact H)
                have hji44_ : (if (ji43) < (Int.tmod (wrap64 (a2)) (wrap64 ((Int.tmod (wrap64 (a3)) 65) + 1))) then (Int.tmod (wrap64 (a2)) (wrap64 ((Int.tmod (wrap64 (a3)) 65) + 1))) else (ji43)) = ji44 := hji44
                by_cases c45 : t239 > (ji44)
                · rw [if_pos c45] at H
                  have c45b0 : decide ((ji44) < t239) = true := decide_eq_true c45
                  clear c45
                  obtain rfl := Option.some.inj H
                  go_wp2
                  go_ret
                  exact ⟨by first | rfl | (simp [errW_none, errW_some] <;> rfl) | (simp only [← hji43, ← hji44]; first | rfl | (simp [errW_none, errW_some] <;> rfl)) | (simp [*, errW_none, errW_some] <;> rfl), by repeat (first | (with_reducible first | exact HB.out | apply below_alloc | apply pw_below_drewN | apply below_drew1) | exact HB.out)⟩
                · rw [if_neg c45] at H
                  have c45b0 : decide ((ji44) < t239) = false := decide_eq_false c45
                  clear c45
                  obtain ⟨ji46, hji46⟩ : ∃ j_ : Int, (mn (Int.tmod (wrap64 (a1)) 80) t239) = j_ := ⟨_, rfl⟩
                  replace H : (if t239 = 0 then (if t239 ≤ (mx 1 (Int.tmod (wrap64 (a2)) (wrap64 ((Int.tmod (wrap64 (a3)) 65) + 1)))) then (some true) else (some (decide ((wrap64 (4 * (ji46))) ≥ t239)))) else (if t239 ≥ (Int.tmod (wrap64 (a3)) 65) then (if t239 ≤ (mx 1 (Int.tmod (wrap64 (a2)) (wrap64 ((Int.tmod (wrap64 (a3)) 65) + 1)))) then (some true) else (some (decide ((wrap64 (4 * (ji46))) ≥ t239)))) else (if (wrap64 (4 * (ji46))) < (wrap64 (3 * t239)) then (if t239 ≤ (mx 1 (Int.tmod (wrap64 (a2)) (wrap64 ((Int.tmod (wrap64 (a3)) 65) + 1)))) then (some true) else (some (decide ((wrap64 (4 * (ji46))) ≥ t239)))) else (some false)))) = some r := by first | (rw [hji46] at H; exact H) | (simp only [hji46] at H ⊢; exact H)
                  have hji46_ : (if t239 < (Int.tmod (wrap64 (a1)) 80) then t239 else (Int.tmod (wrap64 (a1)) 80)) = ji46 := hji46
                  by_cases c47 : t239 = 0
                  · rw [if_pos c47] at H
                    have c47b0 : (t239 == 0) = true := beq_iff_eq.mpr c47
                    have c47b1 : (t239 != 0) = false := bne_eq_false_iff_eq.mpr c47
                    clear c47
                    obtain ⟨ji48, hji48⟩ : ∃ j_ : Int, (mx 1 (Int.tmod (wrap64 (a2)) (wrap64 ((Int.tmod (wrap64 (a3)) 65) + 1)))) = j_ := ⟨_, rfl⟩
                    replace H : (if t239 ≤ (ji48) then (some true) else (some (decide ((wrap64 (4 * (ji46))) ≥ t239)))) = some r := by first | (rw [hji48] at H; exact H) | (simp only [hji48] at H ⊢; exact H)
                    have hji48_ : (if 1 < (Int.tmod (wrap64 (a2)) (wrap64 ((Int.tmod (wrap64 (a3)) 65) + 1))) then (Int.tmod (wrap64 (a2)) (wrap64 ((Int.tmod (wrap64 (a3)) 65) + 1))) else 1) = ji48 := hji48
                    by_cases c49 : t239 ≤ (ji48)
                    · rw [if_pos c49] at H
                      have c49b0 : decide (t239 ≤ (ji48)) = true := decide_eq_true c49
                      clear c49
                      obtain rfl := Option.some.inj H
                      go_wp2
                      go_ret
                      exact ⟨by first | rfl | (simp [errW_none, errW_some] <;> rfl) | (simp only [← hji43, ← hji44, ← hji46, ← hji48]; first | rfl | (simp [errW_none, errW_some] <;> rfl)) | (simp [*, errW_none, errW_some] <;> rfl), by repeat (first | (with_reducible first | exact HB.out | apply below_alloc | apply pw_below_drewN | apply below_drew1) | exact HB.out)⟩
                    · rw [if_neg c49] at H
                      have c49b0 : decide (t239 ≤ (ji48)) = false := decide_eq_false c49
                      clear c49
                      obtain rfl := Option.some.inj H
                      go_wp2
                      go_ret
                      exact ⟨by first | rfl | (simp [errW_none, errW_some] <;> rfl) | (simp only [← hji43, ← hji44, ← hji46, ← hji48]; first | rfl | (simp [errW_none, errW_some] <;> rfl)) | (simp [*, errW_none, errW_some] <;> rfl), by repeat (first | (with_reducible first | exact HB.out | apply below_alloc | apply pw_below_drewN | apply below_drew1) | exact HB.out)⟩
                  · rw [if_neg c47] at H
                    have c47b0 : (t239 == 0) = false := beq_eq_false_iff_ne.mpr c47
                    have c47b1 : (t239 != 0) = true := bne_iff_ne.mpr c47
                    by_cases c50 : t239 ≥ (Int.tmod (wrap64 (a3)) 65)
                    · rw [if_pos c50] at H
                      have c50b0 : decide ((Int.tmod (wrap64 (a3)) 65) ≤ t239) = true := decide_eq_true c50
                      clear c50
                      obtain ⟨ji51, hji51⟩ : ∃ j_ : Int, (mx 1 (Int.tmod (wrap64 (a2)) (wrap64 ((Int.tmod (wrap64 (a3)) 65) + 1)))) = j_ := ⟨_, rfl⟩
                      replace H : (if t239 ≤ (ji51) then (some true) else (some (decide ((wrap64 (4 * (ji46))) ≥ t239)))) = some r := by first | (rw [hji51] at H; exact H) | (simp only [hji51] at H ⊢; exact H)
                      have hji51_ : (if 1 < (Int.tmod (wrap64 (a2)) (wrap64 ((Int.tmod (wrap64 (a3)) 65) + 1))) then (Int.tmod (wrap64 (a2)) (wrap64 ((Int.tmod (wrap64 (a3)) 65) + 1))) else 1) = ji51 := hji51
                      by_cases c52 : t239 ≤ (ji51)
                      · rw [if_pos c52] at H
                        have c52b0 : decide (t239 ≤ (ji51)) = true := decide_eq_true c52
                        clear c52
                        obtain rfl := Option.some.inj H
                        go_wp2
                        go_ret
                        exact ⟨by first | rfl | (simp [errW_none, errW_some] <;> rfl) | (simp only [← hji43, ← hji44, ← hji46, ← hji51]; first | rfl | (simp [errW_none, errW_some] <;> rfl)) | (simp [*, errW_none, errW_some] <;> rfl), by repeat (first | (with_reducible first | exact HB.out | apply below_alloc | apply pw_below_drewN | apply below_drew1) | exact HB.out)⟩
                      · rw [if_neg c52] at H
                        have c52b0 : decide (t239 ≤ (ji51)) = false := decide_eq_false c52
                        clear c52
                        obtain rfl := Option.some.inj H
                        go_wp2
                        go_ret
                        exact ⟨by first | rfl | (simp [errW_none, errW_some] <;> rfl) | (simp only [← hji43, ← hji44, ← hji46, ← hji51]; first | rfl | (simp [errW_none, errW_some] <;> rfl)) | (simp [*, errW_none, errW_some] <;> rfl), by repeat (first | (with_reducible first | exact HB.out | apply below_alloc | apply pw_below_drewN | apply below_drew1) | exact HB.out)⟩
                    · rw [if_neg c50] at H
                      have c50b0 : decide ((Int.tmod (wrap64 (a3)) 65) ≤ t239) = false := decide_eq_false c50
                      clear c50
                      by_cases c53 : (wrap64 (4 * (ji46))) < (wrap64 (3 * t239))
                      · rw [if_pos c53] at H
                        have c53b0 : decide ((wrap64 (4 * (ji46))) < (wrap64 (3 * t239))) = true := decide_eq_true c53
                        clear c53
                        obtain ⟨ji54, hji54⟩ : ∃ j_ : Int, (mx 1 (Int.tmod (wrap64 (a2)) (wrap64 ((Int.tmod (wrap64 (a3)) 65) + 1)))) = j_ := ⟨_, rfl⟩
                        replace H : (if t239 ≤ (ji54) then (some true) else (some (decide ((wrap64 (4 * (ji46))) ≥ t239)))) = some r := by first | (rw [hji54] at H; exact H) | (simp only [hji54] at H ⊢; exact H)
                        have hji54_ : (if 1 < (Int.tmod (wrap64 (a2)) (wrap64 ((Int.tmod (wrap64 (a3)) 65) + 1))) then (Int.tmod (wrap64 (a2)) (wrap64 ((Int.tmod (wrap64 (a3)) 65) + 1))) else 1) = ji54 := hji54
                        by_cases c55 : t239 ≤ (ji54)
                        · rw [if_pos c55] at H
                          have c55b0 : decide (t239 ≤ (ji54)) = true := decide_eq_true c55
                          clear c55
                          obtain rfl := Option.some.inj H
                          go_wp2
                          go_ret
                          exact ⟨by first | rfl | (simp [errW_none, errW_some] <;> rfl) | (simp only [← hji43, ← hji44, ← hji46, ← hji54]; first | rfl | (simp [errW_none, errW_some] <;> rfl)) | (simp [*, errW_none, errW_some] <;> rfl), by repeat (first | (with_reducible first | exact HB.out | apply below_alloc | apply pw_below_drewN | apply below_drew1) | exact HB.out)⟩
                        · rw [if_neg c55] at H
                          have c55b0 : decide (t239 ≤ (ji54)) = false := decide_eq_false c55
                          clear c55
                          obtain rfl := Option.some.inj H
                          go_wp2
                          go_ret
                          exact ⟨by first | rfl | (simp [errW_none, errW_some] <;> rfl) | (simp only [← hji43, ← hji44, ← hji46, ← hji54]; first | rfl | (simp [errW_none, errW_some] <;> rfl)) | (simp [*, errW_none, errW_some] <;> rfl), by repeat (first | (with_reducible first | exact HB.out | apply below_alloc | apply pw_below_drewN | apply below_drew1) | exact HB.out)⟩
                      · rw [if_neg c53] at H
                        have c53b0 : decide ((wrap64 (4 * (ji46))) < (wrap64 (3 * t239))) = false := decide_eq_false c53
                        clear c53
                        obtain rfl := Option.some.inj H
                        go_wp2
                        go_ret
                        exact ⟨by first | rfl | (simp [errW_none, errW_some] <;> rfl) | (simp only [← hji43, ← hji44, ← hji46]; first | rfl | (simp [errW_none, errW_some] <;> rfl)) | (simp [*, errW_none, errW_some] <;> rfl), by repeat (first | (with_reducible first | exact HB.out | apply below_alloc | apply pw_below_drewN | apply below_drew1) | exact HB.out)⟩
  · replace c6 := Bool.eq_false_iff.mpr c6
    subst c6
    have H1 : (some false) = some r := by rw [if_neg (show ¬ (false = true) by decide)] at H; exact H
    clear H
    have H := H1
    clear H1
    obtain rfl := Option.some.inj H
    go_enter Try.func4, Try.ntmps4
    go_wp2_with (first | ((with_reducible refine gate_callee (f := 10) rfl ?_); refine goesL_ (some 21) rfl rfl Try.func10 (by kernel_rfl) rfl #[] rfl (by (try simp only [List.map_toArray, List.map_cons, List.map_nil]); first | done | rfl | (simp only [List.length_drop, List.length_take]; rfl)) ?_; (with_reducible refine (hopmeshlaw29_awake.calls k  false _ A5.out).mono ?_); rintro e w56 ⟨rfl, hb⟩; refine ⟨_, rfl, ?_⟩; have n0_ := Aside0.mk (below_step (by repeat (first | (with_reducible first | exact HB.out | apply below_alloc | apply pw_below_drewN | apply below_drew1) | exact HB.out)) hb); clear HB; have HB := n0_; clear n0_; (try clear hb); (try clear hb2); (try clear hk); (try clear hi)))
    go_ret
    exact ⟨by first | rfl | (simp [errW_none, errW_some] <;> rfl) | (simp [*, errW_none, errW_some] <;> rfl), by repeat (first | (with_reducible first | exact HB.out | apply below_alloc | apply pw_below_drewN | apply below_drew1) | exact HB.out)⟩

/-- THE ONE PURE STATEMENT of hopmeshlaw29_AllocateSteady: yours. -/
def hopmeshlaw29_AllocateSteady.Pure : Prop := ∀ (a0 : Int) (a1 : Int) (a2 : Int) (a3 : Int), (Lit.int .u8 a0).wf = true → (Lit.int .u8 a1).wf = true → (Lit.int .u8 a2).wf = true → (Lit.int .u8 a3).wf = true → ∃ k, hopmeshlaw29_AllocateSteady.f k a0 a1 a2 a3 = some true
theorem hopmeshlaw29_AllocateSteady.walk (P : hopmeshlaw29_AllocateSteady.Pure) (a0 : Int) (a1 : Int) (a2 : Int) (a3 : Int) (w : World) (w0 : (Lit.int .u8 a0).wf = true) (w1 : (Lit.int .u8 a1).wf = true) (w2 : (Lit.int .u8 a2).wf = true) (w3 : (Lit.int .u8 a3).wf = true) :
    Calls Try.prog 4 #[.int .u8 a0, .int .u8 a1, .int .u8 a2, .int .u8 a3] w fun e w' => e = .returned (.bool true) ∧ Below w.heap.size w w' := by
  obtain ⟨k, h⟩ := P a0 a1 a2 a3 w0 w1 w2 w3
  refine (hopmeshlaw29_AllocateSteady.calls k a0 a1 a2 a3 true w h).mono ?_
  rintro e w' ⟨rfl, hd⟩
  exact ⟨rfl, hd⟩

end Go.Proofs.Ytfbekkmmafkmpaa.PX
