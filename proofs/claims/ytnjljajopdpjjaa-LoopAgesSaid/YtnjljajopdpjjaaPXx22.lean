-- Written by wip/xprint.py, a program of this claim's own, over the kit's print program. Lean checks it.
import Derived.Test.YtnjljajopdpjjaaPXx0
import Derived.Test.YtnjljajopdpjjaaPXx21
namespace Go.Proofs.Ytnjljajopdpjjaa.PX
open Go.RowKit Go.Proofs.YtnjljajopdpjjaaW.PrintWords Go.Proofs.YtnjljajopdpjjaaW.PrintLast Go.Proofs.YtnjljajopdpjjaaW.PrintMore
attribute [local go_sem] max2_int min2_int max_two min_two max_three min_three max_four min_four   -- for this text's walks alone
set_option linter.unusedVariables false
set_option linter.unusedSimpArgs false

/-! ### hopmeshref50_carries: function 45 -/
def hopmeshref50_carries.l0 : Nat → List (S39) → List (S34) → Int → Int → Int → Option (Int)
  | 0, _, _, _, _, _ => none
  | k + 1, x0, x1, x7, x8, x9 => if x9 < (x1.length : Int) then (if 0 < (x0.length : Int) then ((hopmeshref50_counts.f k ((rd_T39 x0 0).f0) ((rd_T39 x0 0).f1) ((rd_T39 x0 0).f2) ((rd_T39 x0 0).f3) ((rd_T39 x0 0).f4) ((rd_T39 x0 0).f5) x1 x9).bind fun t228 => (if t228 = true then (if 0 ≤ x9 then (if ((rd_T34 x1 x9).f2) < x7 then (hopmeshref50_carries.l0 k x0 x1 x7 (mx x8 ((rd_T34 x1 x9).f1)) (wrap64 (x9 + 1))) else (hopmeshref50_carries.l0 k x0 x1 x7 x8 (wrap64 (x9 + 1)))) else (none)) else (hopmeshref50_carries.l0 k x0 x1 x7 x8 (wrap64 (x9 + 1))))) else (none)) else (some x8)
def hopmeshref50_carries.f (k : Nat) (l0 : List (S39)) (l1 : List (S34)) (a2 : Int) : Option (Int) := if 1 < (l0.length : Int) then (hopmeshref50_carries.l0 k l0 l1 (wrap64 (((rd_T39 l0 1).f4) + (wrap64 (a2 * ((rd_T39 l0 1).f3))))) (-1) 0) else (none)
theorem hopmeshref50_carries.mono_l : ∀ k, (∀ y0 y1 y2 y3 y4, LeO (hopmeshref50_carries.l0 k y0 y1 y2 y3 y4) (hopmeshref50_carries.l0 (k + 1) y0 y1 y2 y3 y4))
  | 0 => fun _ _ _ _ _ r h => by simp [hopmeshref50_carries.l0] at h
  | k + 1 => by
    have ih0 := hopmeshref50_carries.mono_l k
    · intro y0 y1 y2 y3 y4
      unfold hopmeshref50_carries.l0
      repeat' first
      | (with_reducible exact ih0 _ _ _ _ _)
      | (with_reducible exact hopmeshref50_counts.mono _ _ _ _ _ _ _ _ _)
      | (with_reducible exact LeO.refl _)
      | (with_reducible exact LeO.none _)
      | (with_reducible refine LeO.ite ?_ ?_)
      | (with_reducible refine LeO.bind ?_ (fun _ => ?_))
      | exact ih0 _ _ _ _ _
      | exact hopmeshref50_counts.mono _ _ _ _ _ _ _ _ _
      | exact LeO.none _
      | refine LeO.ite ?_ ?_
      | refine LeO.bind ?_ (fun _ => ?_)
theorem hopmeshref50_carries.mono : ∀ a0 a1 a2 k, LeO (hopmeshref50_carries.f k a0 a1 a2) (hopmeshref50_carries.f (k + 1) a0 a1 a2) := by
  intro a0 a1 a2 k
  have ih0 := hopmeshref50_carries.mono_l k
  unfold hopmeshref50_carries.f
  repeat' first
      | (with_reducible exact ih0 _ _ _ _ _)
      | (with_reducible exact hopmeshref50_counts.mono _ _ _ _ _ _ _ _ _)
      | (with_reducible exact LeO.refl _)
      | (with_reducible exact LeO.none _)
      | (with_reducible refine LeO.ite ?_ ?_)
      | (with_reducible refine LeO.bind ?_ (fun _ => ?_))
      | exact ih0 _ _ _ _ _
      | exact hopmeshref50_counts.mono _ _ _ _ _ _ _ _ _
      | exact LeO.none _
      | refine LeO.ite ?_ ?_
      | refine LeO.bind ?_ (fun _ => ?_)
set_option maxHeartbeats 8000000 in
set_option maxRecDepth 100000 in
theorem hopmeshref50_carries.calls (k : Nat) (A0 : Option Addr) (c0 : Nat) (l0 : List (S39)) (A1 : Option Addr) (c1 : Nat) (l1 : List (S34)) (a2 : Int) (r : Int) (w : World) (hr0 : Kd.C k39 w A0 l0.length l0) (hc0 : l0.length ≤ c0) (hr1 : Kd.C k34 w A1 l1.length l1) (hc1 : l1.length ≤ c1) (h : hopmeshref50_carries.f k l0 l1 a2 = some r) :
    Calls Try.prog 45 #[.slice A0 l0.length c0, .slice A1 l1.length c1, .int .i64 a2] w fun e w' => e = .returned (.int .i64 r) ∧ Below w.heap.size w w' := by
  have hu39 := Try.underlying39
  have HR0 := Aside0.mk hr0
  have HC0 := Aside0.mk hc0
  clear hr0 hc0
  have HR1 := Aside0.mk hr1
  have HC1 := Aside0.mk hc1
  clear hr1 hc1
  have HB := Aside0.mk (Below.refl w.heap.size w)
  have H : (if 1 < (l0.length : Int) then (hopmeshref50_carries.l0 k l0 l1 (wrap64 (((rd_T39 l0 1).f4) + (wrap64 (a2 * ((rd_T39 l0 1).f3))))) (-1) 0) else (none)) = some r := h
  clear h
  by_cases c4 : 1 < (l0.length : Int)
  · rw [if_pos c4] at H
    have c4b0 : decide (1 < (l0.length : Int)) = true := decide_eq_true c4
    have c4b1 : decide (1 < l0.length) = true := decide_eq_true (by omega)
    clear c4
    have H' := Aside0.mk H
    clear H
    have p225 : 0 ≤ (1 : Int) := (by omega)
    have q225 : 1 < (l0.length : Int) := of_decide_eq_true (by first | (with_reducible assumption) | assumption)
    obtain ⟨ad225, e225, hx225_0, hx225_1, hx225_2, hx225_3, hx225_4, hx225_5⟩ := at_T39 HR0.out 1 p225 q225
    cases e225
    (try simp only [show (1 : Int).toNat = 1 from rfl, Nat.reduceMul, Nat.reduceEqDiff, Go.Addr.add, ↓reduceIte] at hx225_0)
    (try simp only [show (1 : Int).toNat = 1 from rfl, Nat.reduceMul, Nat.reduceEqDiff, Go.Addr.add, ↓reduceIte] at hx225_1)
    (try simp only [show (1 : Int).toNat = 1 from rfl, Nat.reduceMul, Nat.reduceEqDiff, Go.Addr.add, ↓reduceIte] at hx225_2)
    (try simp only [show (1 : Int).toNat = 1 from rfl, Nat.reduceMul, Nat.reduceEqDiff, Go.Addr.add, ↓reduceIte] at hx225_3)
    (try simp only [show (1 : Int).toNat = 1 from rfl, Nat.reduceMul, Nat.reduceEqDiff, Go.Addr.add, ↓reduceIte] at hx225_4)
    (try simp only [show (1 : Int).toNat = 1 from rfl, Nat.reduceMul, Nat.reduceEqDiff, Go.Addr.add, ↓reduceIte] at hx225_5)
    have qi225 : (1 < l0.length) = True := eq_true (by omega)
    (try rw [show ((1 : Int)).toNat = 1 from rfl] at hx225_0)
    (try rw [show 1 * 6 = 6 from rfl] at hx225_0)
    (try rw [show ((1 : Int)).toNat = 1 from rfl] at hx225_1)
    (try rw [show 1 * 6 = 6 from rfl] at hx225_1)
    (try rw [show ((1 : Int)).toNat = 1 from rfl] at hx225_2)
    (try rw [show 1 * 6 = 6 from rfl] at hx225_2)
    (try rw [show ((1 : Int)).toNat = 1 from rfl] at hx225_3)
    (try rw [show 1 * 6 = 6 from rfl] at hx225_3)
    (try rw [show ((1 : Int)).toNat = 1 from rfl] at hx225_4)
    (try rw [show 1 * 6 = 6 from rfl] at hx225_4)
    (try rw [show ((1 : Int)).toNat = 1 from rfl] at hx225_5)
    (try rw [show 1 * 6 = 6 from rfl] at hx225_5)
    replace p225 := eq_true p225
    replace q225 := eq_true q225
    have p226 : 0 ≤ (1 : Int) := (by omega)
    have q226 : 1 < (l0.length : Int) := of_decide_eq_true (by first | (with_reducible assumption) | assumption)
    obtain ⟨ad226, e226, hx226_0, hx226_1, hx226_2, hx226_3, hx226_4, hx226_5⟩ := at_T39 HR0.out 1 p226 q226
    obtain rfl : ad225 = ad226 := (by injection e226)
    (try simp only [show (1 : Int).toNat = 1 from rfl, Nat.reduceMul, Nat.reduceEqDiff, Go.Addr.add, ↓reduceIte] at hx226_0)
    (try simp only [show (1 : Int).toNat = 1 from rfl, Nat.reduceMul, Nat.reduceEqDiff, Go.Addr.add, ↓reduceIte] at hx226_1)
    (try simp only [show (1 : Int).toNat = 1 from rfl, Nat.reduceMul, Nat.reduceEqDiff, Go.Addr.add, ↓reduceIte] at hx226_2)
    (try simp only [show (1 : Int).toNat = 1 from rfl, Nat.reduceMul, Nat.reduceEqDiff, Go.Addr.add, ↓reduceIte] at hx226_3)
    (try simp only [show (1 : Int).toNat = 1 from rfl, Nat.reduceMul, Nat.reduceEqDiff, Go.Addr.add, ↓reduceIte] at hx226_4)
    (try simp only [show (1 : Int).toNat = 1 from rfl, Nat.reduceMul, Nat.reduceEqDiff, Go.Addr.add, ↓reduceIte] at hx226_5)
    have qi226 : (1 < l0.length) = True := eq_true (by omega)
    (try rw [show ((1 : Int)).toNat = 1 from rfl] at hx226_0)
    (try rw [show 1 * 6 = 6 from rfl] at hx226_0)
    (try rw [show ((1 : Int)).toNat = 1 from rfl] at hx226_1)
    (try rw [show 1 * 6 = 6 from rfl] at hx226_1)
    (try rw [show ((1 : Int)).toNat = 1 from rfl] at hx226_2)
    (try rw [show 1 * 6 = 6 from rfl] at hx226_2)
    (try rw [show ((1 : Int)).toNat = 1 from rfl] at hx226_3)
    (try rw [show 1 * 6 = 6 from rfl] at hx226_3)
    (try rw [show ((1 : Int)).toNat = 1 from rfl] at hx226_4)
    (try rw [show 1 * 6 = 6 from rfl] at hx226_4)
    (try rw [show ((1 : Int)).toNat = 1 from rfl] at hx226_5)
    (try rw [show 1 * 6 = 6 from rfl] at hx226_5)
    replace p226 := eq_true p226
    replace q226 := eq_true q226
    go_enter Try.func45, Try.ntmps45
    go_wp2
    repeat (go_quiet (fail); try go_wp2)
    go_loopg [8, 9] k (fun kq v8 v9 w' => ∃ (x8_1 : Int) (x9_1 : Int), v8 = .int .i64 x8_1 ∧ v9 = .int .i64 x9_1 ∧ Aside0 (hopmeshref50_carries.l0 kq l0 l1 (wrap64 (((rd_T39 l0 1).f4) + (wrap64 (a2 * ((rd_T39 l0 1).f3))))) x8_1 x9_1 = some r) ∧ Aside0 (kq ≤ k) ∧ Aside0 (Below w.heap.size w w'))
    case atStart => exact ⟨((-1)), (0), (by first | rfl | (simp; done) | (simp [*]; done)), (by first | rfl | (simp; done) | (simp [*]; done)), H', ⟨Nat.le_refl _⟩, ⟨by repeat (first | (with_reducible first | exact HB.out | apply below_alloc | apply pw_below_drewN | apply below_drew1) | exact HB.out)⟩⟩
    case round =>
      clear H'
      try clear c1
      try clear p2
      try clear q2
      try clear hx2
      try clear qi2
      try clear c4
      try clear c4b0
      try clear c4b1
      try clear hx225_0
      try clear hx225_1
      try clear hx225_2
      try clear hx225_3
      try clear hx225_4
      try clear hx225_5
      try clear hx226_0
      try clear hx226_1
      try clear hx226_2
      try clear hx226_3
      try clear hx226_4
      try clear hx226_5
      try clear p225
      try clear p226
      try clear q225
      try clear q226
      obtain ⟨x8_1, x9_1, rfl, rfl, HA, HK1, HB⟩ := hrel
      cases gk with
      | zero => exact absurd HA.out (by simp [hopmeshref50_carries.l0])
      | succ k1 =>
        have H := HA.out
        clear HA
        simp only [hopmeshref50_carries.l0] at H
        by_cases c5 : x9_1 < (l1.length : Int)
        · rw [if_pos c5] at H
          have c5b0 : decide (x9_1 < (l1.length : Int)) = true := decide_eq_true c5
          clear c5
          by_cases c6 : 0 < (l0.length : Int)
          · rw [if_pos c6] at H
            have c6b0 : decide (0 < (l0.length : Int)) = true := decide_eq_true c6
            have c6b1 : decide (0 < l0.length) = true := decide_eq_true (by omega)
            clear c6
            replace H := Option.bind_eq_some_iff.mp H
            obtain ⟨t228, A70, H⟩ := H
            replace H : (if t228 = true then (if 0 ≤ x9_1 then (if ((rd_T34 l1 x9_1).f2) < (wrap64 (((rd_T39 l0 1).f4) + (wrap64 (a2 * ((rd_T39 l0 1).f3))))) then (hopmeshref50_carries.l0 k1 l0 l1 (wrap64 (((rd_T39 l0 1).f4) + (wrap64 (a2 * ((rd_T39 l0 1).f3))))) (mx x8_1 ((rd_T34 l1 x9_1).f1)) (wrap64 (x9_1 + 1))) else (hopmeshref50_carries.l0 k1 l0 l1 (wrap64 (((rd_T39 l0 1).f4) + (wrap64 (a2 * ((rd_T39 l0 1).f3))))) x8_1 (wrap64 (x9_1 + 1)))) else (none)) else (hopmeshref50_carries.l0 k1 l0 l1 (wrap64 (((rd_T39 l0 1).f4) + (wrap64 (a2 * ((rd_T39 l0 1).f3))))) x8_1 (wrap64 (x9_1 + 1)))) = some r := H
            have A7 := Aside0.mk A70
            clear A70
            by_cases c8 : t228 = true
            · subst c8
              have H1 : (if 0 ≤ x9_1 then (if ((rd_T34 l1 x9_1).f2) < (wrap64 (((rd_T39 l0 1).f4) + (wrap64 (a2 * ((rd_T39 l0 1).f3))))) then (hopmeshref50_carries.l0 k1 l0 l1 (wrap64 (((rd_T39 l0 1).f4) + (wrap64 (a2 * ((rd_T39 l0 1).f3))))) (mx x8_1 ((rd_T34 l1 x9_1).f1)) (wrap64 (x9_1 + 1))) else (hopmeshref50_carries.l0 k1 l0 l1 (wrap64 (((rd_T39 l0 1).f4) + (wrap64 (a2 * ((rd_T39 l0 1).f3))))) x8_1 (wrap64 (x9_1 + 1)))) else (none)) = some r := by rw [if_pos rfl] at H; exact H
              clear H
              have H := H1
              clear H1
              by_cases c9 : 0 ≤ x9_1
              · rw [if_pos c9] at H
                have c9b0 : decide (0 ≤ x9_1) = true := decide_eq_true c9
                clear c9
                by_cases c10 : ((rd_T34 l1 x9_1).f2) < (wrap64 (((rd_T39 l0 1).f4) + (wrap64 (a2 * ((rd_T39 l0 1).f3)))))
                · rw [if_pos c10] at H
                  have c10b0 : decide (((rd_T34 l1 x9_1).f2) < (wrap64 (((rd_T39 l0 1).f4) + (wrap64 (a2 * ((rd_T39 l0 1).f3)))))) = true := decide_eq_true c10
                  clear c10
                  obtain ⟨ji11, hji11⟩ : ∃ j_ : Int, (mx x8_1 ((rd_T34 l1 x9_1).f1)) = j_ := ⟨_, rfl⟩
                  replace H : (hopmeshref50_carries.l0 k1 l0 l1 (wrap64 (((rd_T39 l0 1).f4) + (wrap64 (a2 * ((rd_T39 l0 1).f3))))) ji11 (wrap64 (x9_1 + 1))) = some r := by first | (rw [hji11] at H; exact H) | (simp only [hji11] at H ⊢; exact H)
                  (try rw [hji11] at A7)
                  have hji11_ : (if x8_1 < ((rd_T34 l1 x9_1).f1) then ((rd_T34 l1 x9_1).f1) else x8_1) = ji11 := hji11
                  have H' := Aside0.mk H
                  clear H
                  have p227 : 0 ≤ (0 : Int) := (by omega)
                  have q227 : 0 < (l0.length : Int) := of_decide_eq_true (by first | (with_reducible assumption) | assumption)
                  obtain ⟨ad227, e227, hx227_0, hx227_1, hx227_2, hx227_3, hx227_4, hx227_5⟩ := at_T39 HR0.out 0 p227 q227
                  obtain rfl : ad225 = ad227 := (by injection e227)
                  have qi227 : (0 < l0.length) = True := eq_true (by omega)
                  (try rw [show ((0 : Int)).toNat = 0 from rfl] at hx227_0)
                  (try rw [show 0 * 6 = 0 from rfl] at hx227_0)
                  (try rw [Addr.add_zero'] at hx227_0)
                  (try rw [show ((0 : Int)).toNat = 0 from rfl] at hx227_1)
                  (try rw [show 0 * 6 = 0 from rfl] at hx227_1)
                  (try rw [Addr.add_zero'] at hx227_1)
                  (try rw [show ((0 : Int)).toNat = 0 from rfl] at hx227_2)
                  (try rw [show 0 * 6 = 0 from rfl] at hx227_2)
                  (try rw [Addr.add_zero'] at hx227_2)
                  (try rw [show ((0 : Int)).toNat = 0 from rfl] at hx227_3)
                  (try rw [show 0 * 6 = 0 from rfl] at hx227_3)
                  (try rw [Addr.add_zero'] at hx227_3)
                  (try rw [show ((0 : Int)).toNat = 0 from rfl] at hx227_4)
                  (try rw [show 0 * 6 = 0 from rfl] at hx227_4)
                  (try rw [Addr.add_zero'] at hx227_4)
                  (try rw [show ((0 : Int)).toNat = 0 from rfl] at hx227_5)
                  (try rw [show 0 * 6 = 0 from rfl] at hx227_5)
                  (try rw [Addr.add_zero'] at hx227_5)
                  replace hx227_0 := (HB.out.cell (World.block_lt_of_cell? w _ hx227_0)).trans hx227_0
                  replace hx227_1 := (HB.out.cell (World.block_lt_of_cell? w _ hx227_1)).trans hx227_1
                  replace hx227_2 := (HB.out.cell (World.block_lt_of_cell? w _ hx227_2)).trans hx227_2
                  replace hx227_3 := (HB.out.cell (World.block_lt_of_cell? w _ hx227_3)).trans hx227_3
                  replace hx227_4 := (HB.out.cell (World.block_lt_of_cell? w _ hx227_4)).trans hx227_4
                  replace hx227_5 := (HB.out.cell (World.block_lt_of_cell? w _ hx227_5)).trans hx227_5
                  replace p227 := eq_true p227
                  replace q227 := eq_true q227
                  go_wp2_with (first | (go_at_call 47; (with_reducible refine (hopmeshref50_counts.calls k1 ((rd_T39 l0 0).f0) ((rd_T39 l0 0).f1) ((rd_T39 l0 0).f2) ((rd_T39 l0 0).f3) ((rd_T39 l0 0).f4) ((rd_T39 l0 0).f5) _ _ l1 x9_1 true _ ?side1 ?side2 A7.out).mono ?_); (case side1 => repeat (first | exact (Kd.C_below HR1.out HB.out) | (with_reducible refine Kd.C_alloc ?_ _) | (with_reducible refine Kd.C_drewN ?_ _) | (with_reducible refine Kd.C_drew ?_))); (case side2 => exact HC1.out); rintro e w12 ⟨rfl, hb⟩; have n0_ := Aside0.mk (below_step (by repeat (first | (with_reducible first | exact HB.out | apply below_alloc | apply pw_below_drewN | apply below_drew1) | exact HB.out)) hb); clear HB; have HB := n0_; clear n0_; (try clear hb); (try clear hb2); (try clear hk); (try clear hi); have p229 : 0 ≤ (x9_1 : Int) := of_decide_eq_true (by first | (with_reducible assumption) | assumption); have q229 : x9_1 < (l1.length : Int) := of_decide_eq_true (by first | (with_reducible assumption) | assumption); obtain ⟨ad229, e229, hx229_0, hx229_1, hx229_2⟩ := at_T34 HR1.out x9_1 p229 q229; cases e229; replace hx229_0 := (HB.out.cell (World.block_lt_of_cell? w _ hx229_0)).trans hx229_0; replace hx229_1 := (HB.out.cell (World.block_lt_of_cell? w _ hx229_1)).trans hx229_1; replace hx229_2 := (HB.out.cell (World.block_lt_of_cell? w _ hx229_2)).trans hx229_2; replace p229 := eq_true p229; replace q229 := eq_true q229; have p230 : 0 ≤ (x9_1 : Int) := of_decide_eq_true (by first | (with_reducible assumption) | assumption); have q230 : x9_1 < (l1.length : Int) := of_decide_eq_true (by first | (with_reducible assumption) | assumption); obtain ⟨ad230, e230, hx230_0, hx230_1, hx230_2⟩ := at_T34 HR1.out x9_1 p230 q230; obtain rfl : ad229 = ad230 := (by injection e230); replace hx230_0 := (HB.out.cell (World.block_lt_of_cell? w _ hx230_0)).trans hx230_0; replace hx230_1 := (HB.out.cell (World.block_lt_of_cell? w _ hx230_1)).trans hx230_1; replace hx230_2 := (HB.out.cell (World.block_lt_of_cell? w _ hx230_2)).trans hx230_2; replace p230 := eq_true p230; replace q230 := eq_true q230))
                  repeat (go_quiet (first | (go_at_call 47; (with_reducible refine (hopmeshref50_counts.calls k1 ((rd_T39 l0 0).f0) ((rd_T39 l0 0).f1) ((rd_T39 l0 0).f2) ((rd_T39 l0 0).f3) ((rd_T39 l0 0).f4) ((rd_T39 l0 0).f5) _ _ l1 x9_1 true _ ?side1 ?side2 A7.out).mono ?_); (case side1 => repeat (first | exact (Kd.C_below HR1.out HB.out) | (with_reducible refine Kd.C_alloc ?_ _) | (with_reducible refine Kd.C_drewN ?_ _) | (with_reducible refine Kd.C_drew ?_))); (case side2 => exact HC1.out); rintro e w12 ⟨rfl, hb⟩; have n0_ := Aside0.mk (below_step (by repeat (first | (with_reducible first | exact HB.out | apply below_alloc | apply pw_below_drewN | apply below_drew1) | exact HB.out)) hb); clear HB; have HB := n0_; clear n0_; (try clear hb); (try clear hb2); (try clear hk); (try clear hi); have p229 : 0 ≤ (x9_1 : Int) := of_decide_eq_true (by first | (with_reducible assumption) | assumption); have q229 : x9_1 < (l1.length : Int) := of_decide_eq_true (by first | (with_reducible assumption) | assumption); obtain ⟨ad229, e229, hx229_0, hx229_1, hx229_2⟩ := at_T34 HR1.out x9_1 p229 q229; cases e229; replace hx229_0 := (HB.out.cell (World.block_lt_of_cell? w _ hx229_0)).trans hx229_0; replace hx229_1 := (HB.out.cell (World.block_lt_of_cell? w _ hx229_1)).trans hx229_1; replace hx229_2 := (HB.out.cell (World.block_lt_of_cell? w _ hx229_2)).trans hx229_2; replace p229 := eq_true p229; replace q229 := eq_true q229; have p230 : 0 ≤ (x9_1 : Int) := of_decide_eq_true (by first | (with_reducible assumption) | assumption); have q230 : x9_1 < (l1.length : Int) := of_decide_eq_true (by first | (with_reducible assumption) | assumption); obtain ⟨ad230, e230, hx230_0, hx230_1, hx230_2⟩ := at_T34 HR1.out x9_1 p230 q230; obtain rfl : ad229 = ad230 := (by injection e230); replace hx230_0 := (HB.out.cell (World.block_lt_of_cell? w _ hx230_0)).trans hx230_0; replace hx230_1 := (HB.out.cell (World.block_lt_of_cell? w _ hx230_1)).trans hx230_1; replace hx230_2 := (HB.out.cell (World.block_lt_of_cell? w _ hx230_2)).trans hx230_2; replace p230 := eq_true p230; replace q230 := eq_true q230)); try go_wp2_with (first | (go_at_call 47; (with_reducible refine (hopmeshref50_counts.calls k1 ((rd_T39 l0 0).f0) ((rd_T39 l0 0).f1) ((rd_T39 l0 0).f2) ((rd_T39 l0 0).f3) ((rd_T39 l0 0).f4) ((rd_T39 l0 0).f5) _ _ l1 x9_1 true _ ?side1 ?side2 A7.out).mono ?_); (case side1 => repeat (first | exact (Kd.C_below HR1.out HB.out) | (with_reducible refine Kd.C_alloc ?_ _) | (with_reducible refine Kd.C_drewN ?_ _) | (with_reducible refine Kd.C_drew ?_))); (case side2 => exact HC1.out); rintro e w12 ⟨rfl, hb⟩; have n0_ := Aside0.mk (below_step (by repeat (first | (with_reducible first | exact HB.out | apply below_alloc | apply pw_below_drewN | apply below_drew1) | exact HB.out)) hb); clear HB; have HB := n0_; clear n0_; (try clear hb); (try clear hb2); (try clear hk); (try clear hi); have p229 : 0 ≤ (x9_1 : Int) := of_decide_eq_true (by first | (with_reducible assumption) | assumption); have q229 : x9_1 < (l1.length : Int) := of_decide_eq_true (by first | (with_reducible assumption) | assumption); obtain ⟨ad229, e229, hx229_0, hx229_1, hx229_2⟩ := at_T34 HR1.out x9_1 p229 q229; cases e229; replace hx229_0 := (HB.out.cell (World.block_lt_of_cell? w _ hx229_0)).trans hx229_0; replace hx229_1 := (HB.out.cell (World.block_lt_of_cell? w _ hx229_1)).trans hx229_1; replace hx229_2 := (HB.out.cell (World.block_lt_of_cell? w _ hx229_2)).trans hx229_2; replace p229 := eq_true p229; replace q229 := eq_true q229; have p230 : 0 ≤ (x9_1 : Int) := of_decide_eq_true (by first | (with_reducible assumption) | assumption); have q230 : x9_1 < (l1.length : Int) := of_decide_eq_true (by first | (with_reducible assumption) | assumption); obtain ⟨ad230, e230, hx230_0, hx230_1, hx230_2⟩ := at_T34 HR1.out x9_1 p230 q230; obtain rfl : ad229 = ad230 := (by injection e230); replace hx230_0 := (HB.out.cell (World.block_lt_of_cell? w _ hx230_0)).trans hx230_0; replace hx230_1 := (HB.out.cell (World.block_lt_of_cell? w _ hx230_1)).trans hx230_1; replace hx230_2 := (HB.out.cell (World.block_lt_of_cell? w _ hx230_2)).trans hx230_2; replace p230 := eq_true p230; replace q230 := eq_true q230)))
                  go_roundg k1
                  case measure => have := HK1.out; omega
                  case rel => exact ⟨(ji11), (wrap64 (x9_1 + 1)), (by first | rfl | (simp; done) | (simp only [← hji11] <;> (first | rfl | simp)) | (simp [*]; done)), (by first | rfl | (simp; done) | (simp [*]; done)), H', ⟨by have := HK1.out; omega⟩, ⟨by repeat (first | (with_reducible first | exact HB.out | apply below_alloc | apply pw_below_drewN | apply below_drew1) | exact HB.out)⟩⟩
                · rw [if_neg c10] at H
                  have c10b0 : decide (((rd_T34 l1 x9_1).f2) < (wrap64 (((rd_T39 l0 1).f4) + (wrap64 (a2 * ((rd_T39 l0 1).f3)))))) = false := decide_eq_false c10
                  clear c10
                  have H' := Aside0.mk H
                  clear H
                  have p227 : 0 ≤ (0 : Int) := (by omega)
                  have q227 : 0 < (l0.length : Int) := of_decide_eq_true (by first | (with_reducible assumption) | assumption)
                  obtain ⟨ad227, e227, hx227_0, hx227_1, hx227_2, hx227_3, hx227_4, hx227_5⟩ := at_T39 HR0.out 0 p227 q227
                  obtain rfl : ad225 = ad227 := (by injection e227)
                  have qi227 : (0 < l0.length) = True := eq_true (by omega)
                  (try rw [show ((0 : Int)).toNat = 0 from rfl] at hx227_0)
                  (try rw [show 0 * 6 = 0 from rfl] at hx227_0)
                  (try rw [Addr.add_zero'] at hx227_0)
                  (try rw [show ((0 : Int)).toNat = 0 from rfl] at hx227_1)
                  (try rw [show 0 * 6 = 0 from rfl] at hx227_1)
                  (try rw [Addr.add_zero'] at hx227_1)
                  (try rw [show ((0 : Int)).toNat = 0 from rfl] at hx227_2)
                  (try rw [show 0 * 6 = 0 from rfl] at hx227_2)
                  (try rw [Addr.add_zero'] at hx227_2)
                  (try rw [show ((0 : Int)).toNat = 0 from rfl] at hx227_3)
                  (try rw [show 0 * 6 = 0 from rfl] at hx227_3)
                  (try rw [Addr.add_zero'] at hx227_3)
                  (try rw [show ((0 : Int)).toNat = 0 from rfl] at hx227_4)
                  (try rw [show 0 * 6 = 0 from rfl] at hx227_4)
                  (try rw [Addr.add_zero'] at hx227_4)
                  (try rw [show ((0 : Int)).toNat = 0 from rfl] at hx227_5)
                  (try rw [show 0 * 6 = 0 from rfl] at hx227_5)
                  (try rw [Addr.add_zero'] at hx227_5)
                  replace hx227_0 := (HB.out.cell (World.block_lt_of_cell? w _ hx227_0)).trans hx227_0
                  replace hx227_1 := (HB.out.cell (World.block_lt_of_cell? w _ hx227_1)).trans hx227_1
                  replace hx227_2 := (HB.out.cell (World.block_lt_of_cell? w _ hx227_2)).trans hx227_2
                  replace hx227_3 := (HB.out.cell (World.block_lt_of_cell? w _ hx227_3)).trans hx227_3
                  replace hx227_4 := (HB.out.cell (World.block_lt_of_cell? w _ hx227_4)).trans hx227_4
                  replace hx227_5 := (HB.out.cell (World.block_lt_of_cell? w _ hx227_5)).trans hx227_5
                  replace p227 := eq_true p227
                  replace q227 := eq_true q227
                  go_wp2_with (first | (go_at_call 47; (with_reducible refine (hopmeshref50_counts.calls k1 ((rd_T39 l0 0).f0) ((rd_T39 l0 0).f1) ((rd_T39 l0 0).f2) ((rd_T39 l0 0).f3) ((rd_T39 l0 0).f4) ((rd_T39 l0 0).f5) _ _ l1 x9_1 true _ ?side1 ?side2 A7.out).mono ?_); (case side1 => repeat (first | exact (Kd.C_below HR1.out HB.out) | (with_reducible refine Kd.C_alloc ?_ _) | (with_reducible refine Kd.C_drewN ?_ _) | (with_reducible refine Kd.C_drew ?_))); (case side2 => exact HC1.out); rintro e w13 ⟨rfl, hb⟩; have n0_ := Aside0.mk (below_step (by repeat (first | (with_reducible first | exact HB.out | apply below_alloc | apply pw_below_drewN | apply below_drew1) | exact HB.out)) hb); clear HB; have HB := n0_; clear n0_; (try clear hb); (try clear hb2); (try clear hk); (try clear hi); have p229 : 0 ≤ (x9_1 : Int) := of_decide_eq_true (by first | (with_reducible assumption) | assumption); have q229 : x9_1 < (l1.length : Int) := of_decide_eq_true (by first | (with_reducible assumption) | assumption); obtain ⟨ad229, e229, hx229_0, hx229_1, hx229_2⟩ := at_T34 HR1.out x9_1 p229 q229; cases e229; replace hx229_0 := (HB.out.cell (World.block_lt_of_cell? w _ hx229_0)).trans hx229_0; replace hx229_1 := (HB.out.cell (World.block_lt_of_cell? w _ hx229_1)).trans hx229_1; replace hx229_2 := (HB.out.cell (World.block_lt_of_cell? w _ hx229_2)).trans hx229_2; replace p229 := eq_true p229; replace q229 := eq_true q229))
                  repeat (go_quiet (first | (go_at_call 47; (with_reducible refine (hopmeshref50_counts.calls k1 ((rd_T39 l0 0).f0) ((rd_T39 l0 0).f1) ((rd_T39 l0 0).f2) ((rd_T39 l0 0).f3) ((rd_T39 l0 0).f4) ((rd_T39 l0 0).f5) _ _ l1 x9_1 true _ ?side1 ?side2 A7.out).mono ?_); (case side1 => repeat (first | exact (Kd.C_below HR1.out HB.out) | (with_reducible refine Kd.C_alloc ?_ _) | (with_reducible refine Kd.C_drewN ?_ _) | (with_reducible refine Kd.C_drew ?_))); (case side2 => exact HC1.out); rintro e w13 ⟨rfl, hb⟩; have n0_ := Aside0.mk (below_step (by repeat (first | (with_reducible first | exact HB.out | apply below_alloc | apply pw_below_drewN | apply below_drew1) | exact HB.out)) hb); clear HB; have HB := n0_; clear n0_; (try clear hb); (try clear hb2); (try clear hk); (try clear hi); have p229 : 0 ≤ (x9_1 : Int) := of_decide_eq_true (by first | (with_reducible assumption) | assumption); have q229 : x9_1 < (l1.length : Int) := of_decide_eq_true (by first | (with_reducible assumption) | assumption); obtain ⟨ad229, e229, hx229_0, hx229_1, hx229_2⟩ := at_T34 HR1.out x9_1 p229 q229; cases e229; replace hx229_0 := (HB.out.cell (World.block_lt_of_cell? w _ hx229_0)).trans hx229_0; replace hx229_1 := (HB.out.cell (World.block_lt_of_cell? w _ hx229_1)).trans hx229_1; replace hx229_2 := (HB.out.cell (World.block_lt_of_cell? w _ hx229_2)).trans hx229_2; replace p229 := eq_true p229; replace q229 := eq_true q229)); try go_wp2_with (first | (go_at_call 47; (with_reducible refine (hopmeshref50_counts.calls k1 ((rd_T39 l0 0).f0) ((rd_T39 l0 0).f1) ((rd_T39 l0 0).f2) ((rd_T39 l0 0).f3) ((rd_T39 l0 0).f4) ((rd_T39 l0 0).f5) _ _ l1 x9_1 true _ ?side1 ?side2 A7.out).mono ?_); (case side1 => repeat (first | exact (Kd.C_below HR1.out HB.out) | (with_reducible refine Kd.C_alloc ?_ _) | (with_reducible refine Kd.C_drewN ?_ _) | (with_reducible refine Kd.C_drew ?_))); (case side2 => exact HC1.out); rintro e w13 ⟨rfl, hb⟩; have n0_ := Aside0.mk (below_step (by repeat (first | (with_reducible first | exact HB.out | apply below_alloc | apply pw_below_drewN | apply below_drew1) | exact HB.out)) hb); clear HB; have HB := n0_; clear n0_; (try clear hb); (try clear hb2); (try clear hk); (try clear hi); have p229 : 0 ≤ (x9_1 : Int) := of_decide_eq_true (by first | (with_reducible assumption) | assumption); have q229 : x9_1 < (l1.length : Int) := of_decide_eq_true (by first | (with_reducible assumption) | assumption); obtain ⟨ad229, e229, hx229_0, hx229_1, hx229_2⟩ := at_T34 HR1.out x9_1 p229 q229; cases e229; replace hx229_0 := (HB.out.cell (World.block_lt_of_cell? w _ hx229_0)).trans hx229_0; replace hx229_1 := (HB.out.cell (World.block_lt_of_cell? w _ hx229_1)).trans hx229_1; replace hx229_2 := (HB.out.cell (World.block_lt_of_cell? w _ hx229_2)).trans hx229_2; replace p229 := eq_true p229; replace q229 := eq_true q229)))
                  go_roundg k1
                  case measure => have := HK1.out; omega
                  case rel => exact ⟨(x8_1), (wrap64 (x9_1 + 1)), (by first | rfl | (simp; done) | (simp [*]; done)), (by first | rfl | (simp; done) | (simp [*]; done)), H', ⟨by have := HK1.out; omega⟩, ⟨by repeat (first | (with_reducible first | exact HB.out | apply below_alloc | apply pw_below_drewN | apply below_drew1) | exact HB.out)⟩⟩
              · rw [if_neg c9] at H
                exact absurd H (by simp)
            · replace c8 := Bool.eq_false_iff.mpr c8
              subst c8
              have H1 : (hopmeshref50_carries.l0 k1 l0 l1 (wrap64 (((rd_T39 l0 1).f4) + (wrap64 (a2 * ((rd_T39 l0 1).f3))))) x8_1 (wrap64 (x9_1 + 1))) = some r := by rw [if_neg (show ¬ (false = true) by decide)] at H; exact H
              clear H
              have H := H1
              clear H1
              have H' := Aside0.mk H
              clear H
              have p227 : 0 ≤ (0 : Int) := (by omega)
              have q227 : 0 < (l0.length : Int) := of_decide_eq_true (by first | (with_reducible assumption) | assumption)
              obtain ⟨ad227, e227, hx227_0, hx227_1, hx227_2, hx227_3, hx227_4, hx227_5⟩ := at_T39 HR0.out 0 p227 q227
              obtain rfl : ad225 = ad227 := (by injection e227)
              have qi227 : (0 < l0.length) = True := eq_true (by omega)
              (try rw [show ((0 : Int)).toNat = 0 from rfl] at hx227_0)
              (try rw [show 0 * 6 = 0 from rfl] at hx227_0)
              (try rw [Addr.add_zero'] at hx227_0)
              (try rw [show ((0 : Int)).toNat = 0 from rfl] at hx227_1)
              (try rw [show 0 * 6 = 0 from rfl] at hx227_1)
              (try rw [Addr.add_zero'] at hx227_1)
              (try rw [show ((0 : Int)).toNat = 0 from rfl] at hx227_2)
              (try rw [show 0 * 6 = 0 from rfl] at hx227_2)
              (try rw [Addr.add_zero'] at hx227_2)
              (try rw [show ((0 : Int)).toNat = 0 from rfl] at hx227_3)
              (try rw [show 0 * 6 = 0 from rfl] at hx227_3)
              (try rw [Addr.add_zero'] at hx227_3)
              (try rw [show ((0 : Int)).toNat = 0 from rfl] at hx227_4)
              (try rw [show 0 * 6 = 0 from rfl] at hx227_4)
              (try rw [Addr.add_zero'] at hx227_4)
              (try rw [show ((0 : Int)).toNat = 0 from rfl] at hx227_5)
              (try rw [show 0 * 6 = 0 from rfl] at hx227_5)
              (try rw [Addr.add_zero'] at hx227_5)
              replace hx227_0 := (HB.out.cell (World.block_lt_of_cell? w _ hx227_0)).trans hx227_0
              replace hx227_1 := (HB.out.cell (World.block_lt_of_cell? w _ hx227_1)).trans hx227_1
              replace hx227_2 := (HB.out.cell (World.block_lt_of_cell? w _ hx227_2)).trans hx227_2
              replace hx227_3 := (HB.out.cell (World.block_lt_of_cell? w _ hx227_3)).trans hx227_3
              replace hx227_4 := (HB.out.cell (World.block_lt_of_cell? w _ hx227_4)).trans hx227_4
              replace hx227_5 := (HB.out.cell (World.block_lt_of_cell? w _ hx227_5)).trans hx227_5
              replace p227 := eq_true p227
              replace q227 := eq_true q227
              go_wp2_with (first | (go_at_call 47; (with_reducible refine (hopmeshref50_counts.calls k1 ((rd_T39 l0 0).f0) ((rd_T39 l0 0).f1) ((rd_T39 l0 0).f2) ((rd_T39 l0 0).f3) ((rd_T39 l0 0).f4) ((rd_T39 l0 0).f5) _ _ l1 x9_1 false _ ?side1 ?side2 A7.out).mono ?_); (case side1 => repeat (first | exact (Kd.C_below HR1.out HB.out) | (with_reducible refine Kd.C_alloc ?_ _) | (with_reducible refine Kd.C_drewN ?_ _) | (with_reducible refine Kd.C_drew ?_))); (case side2 => exact HC1.out); rintro e w14 ⟨rfl, hb⟩; have n0_ := Aside0.mk (below_step (by repeat (first | (with_reducible first | exact HB.out | apply below_alloc | apply pw_below_drewN | apply below_drew1) | exact HB.out)) hb); clear HB; have HB := n0_; clear n0_; (try clear hb); (try clear hb2); (try clear hk); (try clear hi)))
              repeat (go_quiet (first | (go_at_call 47; (with_reducible refine (hopmeshref50_counts.calls k1 ((rd_T39 l0 0).f0) ((rd_T39 l0 0).f1) ((rd_T39 l0 0).f2) ((rd_T39 l0 0).f3) ((rd_T39 l0 0).f4) ((rd_T39 l0 0).f5) _ _ l1 x9_1 false _ ?side1 ?side2 A7.out).mono ?_); (case side1 => repeat (first | exact (Kd.C_below HR1.out HB.out) | (with_reducible refine Kd.C_alloc ?_ _) | (with_reducible refine Kd.C_drewN ?_ _) | (with_reducible refine Kd.C_drew ?_))); (case side2 => exact HC1.out); rintro e w14 ⟨rfl, hb⟩; have n0_ := Aside0.mk (below_step (by repeat (first | (with_reducible first | exact HB.out | apply below_alloc | apply pw_below_drewN | apply below_drew1) | exact HB.out)) hb); clear HB; have HB := n0_; clear n0_; (try clear hb); (try clear hb2); (try clear hk); (try clear hi))); try go_wp2_with (first | (go_at_call 47; (with_reducible refine (hopmeshref50_counts.calls k1 ((rd_T39 l0 0).f0) ((rd_T39 l0 0).f1) ((rd_T39 l0 0).f2) ((rd_T39 l0 0).f3) ((rd_T39 l0 0).f4) ((rd_T39 l0 0).f5) _ _ l1 x9_1 false _ ?side1 ?side2 A7.out).mono ?_); (case side1 => repeat (first | exact (Kd.C_below HR1.out HB.out) | (with_reducible refine Kd.C_alloc ?_ _) | (with_reducible refine Kd.C_drewN ?_ _) | (with_reducible refine Kd.C_drew ?_))); (case side2 => exact HC1.out); rintro e w14 ⟨rfl, hb⟩; have n0_ := Aside0.mk (below_step (by repeat (first | (with_reducible first | exact HB.out | apply below_alloc | apply pw_below_drewN | apply below_drew1) | exact HB.out)) hb); clear HB; have HB := n0_; clear n0_; (try clear hb); (try clear hb2); (try clear hk); (try clear hi))))
              go_roundg k1
              case measure => have := HK1.out; omega
              case rel => exact ⟨(x8_1), (wrap64 (x9_1 + 1)), (by first | rfl | (simp; done) | (simp [*]; done)), (by first | rfl | (simp; done) | (simp [*]; done)), H', ⟨by have := HK1.out; omega⟩, ⟨by repeat (first | (with_reducible first | exact HB.out | apply below_alloc | apply pw_below_drewN | apply below_drew1) | exact HB.out)⟩⟩
          · rw [if_neg c6] at H
            exact absurd H (by simp)
        · rw [if_neg c5] at H
          have c5b0 : decide (x9_1 < (l1.length : Int)) = false := decide_eq_false c5
          clear c5
          obtain rfl := Option.some.inj H
          go_wp2
          repeat (go_quiet (fail); try go_wp2)
          go_ret
          exact ⟨by first | rfl | (simp [errW_none, errW_some] <;> rfl) | (simp [*, errW_none, errW_some] <;> rfl), by repeat (first | (with_reducible first | exact HB.out | apply below_alloc | apply pw_below_drewN | apply below_drew1) | exact HB.out)⟩
  · rw [if_neg c4] at H
    exact absurd H (by simp)

end Go.Proofs.Ytnjljajopdpjjaa.PX
