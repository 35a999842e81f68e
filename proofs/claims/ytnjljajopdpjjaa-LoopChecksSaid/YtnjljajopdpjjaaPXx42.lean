-- Written by wip/xprint.py, a program of this claim's own, over the kit's print program. Lean checks it.
import Derived.Test.YtnjljajopdpjjaaPXx0
import Derived.Test.YtnjljajopdpjjaaPXx17
namespace Go.Proofs.Ytnjljajopdpjjaa.PX
open Go.RowKit Go.Proofs.YtnjljajopdpjjaaW.PrintWords Go.Proofs.YtnjljajopdpjjaaW.PrintLast Go.Proofs.YtnjljajopdpjjaaW.PrintMore
attribute [local go_sem] max2_int min2_int max_two min_two max_three min_three max_four min_four   -- for this text's walks alone
set_option linter.unusedVariables false
set_option linter.unusedSimpArgs false

/-! ### hopmeshref50_Check: function 35 -/
mutual
def hopmeshref50_Check.j0 : Nat → Int → List (S23) → Bool → Option (Int × Int)
  | 0, _, _, _ => none
  | k + 1, x0, x1, x13 => if x13 = true then (some ((-1), 2)) else (if (x1.length : Int) > 8 then (some ((-1), 8)) else (hopmeshref50_Check.l0 k x0 x1 0))
def hopmeshref50_Check.l0 : Nat → Int → List (S23) → Int → Option (Int × Int)
  | 0, _, _, _ => none
  | k + 1, x0, x1, x6 => if x6 < (x1.length : Int) then (if 0 ≤ x6 then ((hopmeshref50_Fault.f k x0 ((rd_T23 x1 x6).f0) ((rd_T23 x1 x6).f1) ((rd_T23 x1 x6).f2) ((rd_T23 x1 x6).f3) ((rd_T23 x1 x6).f4) ((rd_T23 x1 x6).f5) ((rd_T23 x1 x6).f6)).bind fun t425 => (if t425 = 0 then (if x6 > 0 then (if 0 ≤ (wrap64 (x6 - 1)) then (if (wrap64 (x6 - 1)) < (x1.length : Int) then (if ((rd_T23 x1 x6).f0) ≤ ((rd_T23 x1 (wrap64 (x6 - 1))).f0) then (some (x6, 5)) else (hopmeshref50_Check.l0 k x0 x1 (wrap64 (x6 + 1)))) else (none)) else (none)) else (hopmeshref50_Check.l0 k x0 x1 (wrap64 (x6 + 1)))) else (some (x6, t425)))) else (none)) else (some ((-1), 0))
end
def hopmeshref50_Check.f (k : Nat) (a0 : Int) (l1 : List (S23)) : Option (Int × Int) := if a0 < 2 then (hopmeshref50_Check.j0 k a0 l1 true) else (hopmeshref50_Check.j0 k a0 l1 (decide (a0 > 32)))
theorem hopmeshref50_Check.mono_l : ∀ k, (∀ y0 y1 y2, LeO (hopmeshref50_Check.j0 k y0 y1 y2) (hopmeshref50_Check.j0 (k + 1) y0 y1 y2)) ∧ (∀ y0 y1 y2, LeO (hopmeshref50_Check.l0 k y0 y1 y2) (hopmeshref50_Check.l0 (k + 1) y0 y1 y2))
  | 0 => ⟨fun _ _ _ r h => by simp [hopmeshref50_Check.j0] at h, fun _ _ _ r h => by simp [hopmeshref50_Check.l0] at h⟩
  | k + 1 => by
    obtain ⟨ih0, ih1⟩ := hopmeshref50_Check.mono_l k
    refine ⟨?_, ?_⟩
    · intro y0 y1 y2
      unfold hopmeshref50_Check.j0
      repeat' first
      | (with_reducible exact ih0 _ _ _)
      | (with_reducible exact ih1 _ _ _)
      | (with_reducible exact hopmeshref50_Fault.mono _ _ _ _ _ _ _ _ _)
      | (with_reducible exact LeO.refl _)
      | (with_reducible exact LeO.none _)
      | (with_reducible refine LeO.ite ?_ ?_)
      | (with_reducible refine LeO.bind ?_ (fun _ => ?_))
      | exact ih0 _ _ _
      | exact ih1 _ _ _
      | exact hopmeshref50_Fault.mono _ _ _ _ _ _ _ _ _
      | exact LeO.none _
      | refine LeO.ite ?_ ?_
      | refine LeO.bind ?_ (fun _ => ?_)
    · intro y0 y1 y2
      unfold hopmeshref50_Check.l0
      repeat' first
      | (with_reducible exact ih0 _ _ _)
      | (with_reducible exact ih1 _ _ _)
      | (with_reducible exact hopmeshref50_Fault.mono _ _ _ _ _ _ _ _ _)
      | (with_reducible exact LeO.refl _)
      | (with_reducible exact LeO.none _)
      | (with_reducible refine LeO.ite ?_ ?_)
      | (with_reducible refine LeO.bind ?_ (fun _ => ?_))
      | exact ih0 _ _ _
      | exact ih1 _ _ _
      | exact hopmeshref50_Fault.mono _ _ _ _ _ _ _ _ _
      | exact LeO.none _
      | refine LeO.ite ?_ ?_
      | refine LeO.bind ?_ (fun _ => ?_)
theorem hopmeshref50_Check.mono : ∀ a0 a1 k, LeO (hopmeshref50_Check.f k a0 a1) (hopmeshref50_Check.f (k + 1) a0 a1) := by
  intro a0 a1 k
  obtain ⟨ih0, ih1⟩ := hopmeshref50_Check.mono_l k
  unfold hopmeshref50_Check.f
  repeat' first
      | (with_reducible exact ih0 _ _ _)
      | (with_reducible exact ih1 _ _ _)
      | (with_reducible exact hopmeshref50_Fault.mono _ _ _ _ _ _ _ _ _)
      | (with_reducible exact LeO.refl _)
      | (with_reducible exact LeO.none _)
      | (with_reducible refine LeO.ite ?_ ?_)
      | (with_reducible refine LeO.bind ?_ (fun _ => ?_))
      | exact ih0 _ _ _
      | exact ih1 _ _ _
      | exact hopmeshref50_Fault.mono _ _ _ _ _ _ _ _ _
      | exact LeO.none _
      | refine LeO.ite ?_ ?_
      | refine LeO.bind ?_ (fun _ => ?_)
set_option maxHeartbeats 8000000 in
set_option maxRecDepth 100000 in
theorem hopmeshref50_Check.calls (k : Nat) (a0 : Int) (A1 : Option Addr) (c1 : Nat) (l1 : List (S23)) (r1 : Int) (r2 : Int) (w : World) (hr1 : Kd.C k23 w A1 l1.length l1) (hc1 : l1.length ≤ c1) (h : hopmeshref50_Check.f k a0 l1 = some (r1, r2)) :
    Calls Try.prog 35 #[.int .i64 a0, .slice A1 l1.length c1] w fun e w' => e = .returned (.tuple #[.int .i64 r1, .int .i64 r2]) ∧ Below w.heap.size w w' := by
  have hu23 := Try.underlying23
  have HR1 := Aside0.mk hr1
  have HC1 := Aside0.mk hc1
  clear hr1 hc1
  have HB := Aside0.mk (Below.refl w.heap.size w)
  have H : (if a0 < 2 then (hopmeshref50_Check.j0 k a0 l1 true) else (hopmeshref50_Check.j0 k a0 l1 (decide (a0 > 32)))) = some (r1, r2) := h
  clear h
  have HC3 := Aside0.mk H
  clear H
  go_enter Try.func35, Try.ntmps35
  go_upto_region 1 with (fail)
  repeat (go_quiet (fail); go_upto_region 1 with (fail))
  go_cut [13] (fun v13 wc => ∃ (kq : Nat) (x13_2 : Bool), v13 = .bool x13_2 ∧ Aside0 (hopmeshref50_Check.j0 kq a0 l1 x13_2 = some (r1, r2)) ∧ Aside0 (kq ≤ k) ∧ Aside0 (Below w.heap.size w wc))
  case first =>
    have H := HC3.out
    clear HC3
    by_cases c4 : a0 < 2
    · rw [if_pos c4] at H
      have c4b0 : decide (a0 < 2) = true := decide_eq_true c4
      clear c4
      (first | rw [c4b0] | (simp only [i64_w, i32_w]; rw [c4b0]) | skip)
      have H' := Aside0.mk H
      clear H
      go_wp2
      repeat (go_quiet (fail); try go_wp2)
      go_meet
      case rel => exact ⟨_, (true), (by first | rfl | (simp; done) | (simp [*]; done)), H', ⟨by first | omega | exact Nat.le_refl _⟩, ⟨by repeat (first | (with_reducible first | exact HB.out | apply below_alloc | apply pw_below_drewN | apply below_drew1) | exact HB.out)⟩⟩
    · rw [if_neg c4] at H
      have c4b0 : decide (a0 < 2) = false := decide_eq_false c4
      clear c4
      (first | rw [c4b0] | (simp only [i64_w, i32_w]; rw [c4b0]) | skip)
      have H' := Aside0.mk H
      clear H
      go_wp2
      repeat (go_quiet (fail); try go_wp2)
      go_meet
      case rel => exact ⟨_, (decide (a0 > 32)), (by first | rfl | (simp; done) | (simp [*]; done)), H', ⟨by first | omega | exact Nat.le_refl _⟩, ⟨by repeat (first | (with_reducible first | exact HB.out | apply below_alloc | apply pw_below_drewN | apply below_drew1) | exact HB.out)⟩⟩
  case rest =>
    clear HC3
    try clear c1
    try clear p2
    try clear c3
    try clear c4
    try clear c4b0
    obtain ⟨kq, x13_2, rfl, HA, HJ2, HB⟩ := hcut
    cases kq with
    | zero => exact absurd HA.out (by simp [hopmeshref50_Check.j0])
    | succ kj2 =>
      have H := HA.out
      clear HA
      simp only [hopmeshref50_Check.j0] at H
      by_cases c5 : x13_2 = true
      · subst c5
        have H1 : (some ((-1), 2)) = some (r1, r2) := by rw [if_pos rfl] at H; exact H
        clear H
        have H := H1
        clear H1
        simp only [Option.some.injEq, Prod.mk.injEq] at H
        obtain ⟨rfl, rfl⟩ := H
        go_wp2
        repeat (go_quiet (fail); try go_wp2)
        go_ret2
        exact ⟨by first | rfl | (simp [errW_none, errW_some] <;> rfl) | (simp [*, errW_none, errW_some] <;> rfl), by repeat (first | (with_reducible first | exact HB.out | apply below_alloc | apply pw_below_drewN | apply below_drew1) | exact HB.out)⟩
      · replace c5 := Bool.eq_false_iff.mpr c5
        subst c5
        have H1 : (if (l1.length : Int) > 8 then (some ((-1), 8)) else (hopmeshref50_Check.l0 kj2 a0 l1 0)) = some (r1, r2) := by rw [if_neg (show ¬ (false = true) by decide)] at H; exact H
        clear H
        have H := H1
        clear H1
        by_cases c6 : (l1.length : Int) > 8
        · rw [if_pos c6] at H
          have c6b0 : decide (8 < (l1.length : Int)) = true := decide_eq_true c6
          have c6b1 : decide (8 < l1.length) = true := decide_eq_true (by omega)
          clear c6
          simp only [Option.some.injEq, Prod.mk.injEq] at H
          obtain ⟨rfl, rfl⟩ := H
          go_wp2
          repeat (go_quiet (fail); try go_wp2)
          go_ret2
          exact ⟨by first | rfl | (simp [errW_none, errW_some] <;> rfl) | (simp [*, errW_none, errW_some] <;> rfl), by repeat (first | (with_reducible first | exact HB.out | apply below_alloc | apply pw_below_drewN | apply below_drew1) | exact HB.out)⟩
        · rw [if_neg c6] at H
          have c6b0 : decide (8 < (l1.length : Int)) = false := decide_eq_false c6
          have c6b1 : decide (8 < l1.length) = false := decide_eq_false (by omega)
          clear c6
          have H' := Aside0.mk H
          clear H
          go_wp2
          repeat (go_quiet (fail); try go_wp2)
          go_loopg [6] kj2 (fun kq v6 w' => ∃ (x6_2 : Int), v6 = .int .i64 x6_2 ∧ Aside0 (hopmeshref50_Check.l0 kq a0 l1 x6_2 = some (r1, r2)) ∧ Aside0 (kq ≤ kj2) ∧ Aside0 (Below w.heap.size w w'))
          case atStart => exact ⟨(0), (by first | rfl | (simp; done) | (simp [*]; done)), H', ⟨Nat.le_refl _⟩, ⟨by repeat (first | (with_reducible first | exact HB.out | apply below_alloc | apply pw_below_drewN | apply below_drew1) | exact HB.out)⟩⟩
          case round =>
            clear H'
            try clear c1
            try clear p2
            try clear c3
            try clear c4
            try clear c4b0
            try clear c5
            try clear c6
            try clear c6b0
            try clear c6b1
            try clear p2
            obtain ⟨x6_2, rfl, HA, HK2, HB⟩ := hrel
            cases gk with
            | zero => exact absurd HA.out (by simp [hopmeshref50_Check.l0])
            | succ k2 =>
              have H := HA.out
              clear HA
              simp only [hopmeshref50_Check.l0] at H
              by_cases c7 : x6_2 < (l1.length : Int)
              · rw [if_pos c7] at H
                have c7b0 : decide (x6_2 < (l1.length : Int)) = true := decide_eq_true c7
                clear c7
                by_cases c8 : 0 ≤ x6_2
                · rw [if_pos c8] at H
                  have c8b0 : decide (0 ≤ x6_2) = true := decide_eq_true c8
                  clear c8
                  replace H := Option.bind_eq_some_iff.mp H
                  obtain ⟨t425, A90, H⟩ := H
                  replace H : (if t425 = 0 then (if x6_2 > 0 then (if 0 ≤ (wrap64 (x6_2 - 1)) then (if (wrap64 (x6_2 - 1)) < (l1.length : Int) then (if ((rd_T23 l1 x6_2).f0) ≤ ((rd_T23 l1 (wrap64 (x6_2 - 1))).f0) then (some (x6_2, 5)) else (hopmeshref50_Check.l0 k2 a0 l1 (wrap64 (x6_2 + 1)))) else (none)) else (none)) else (hopmeshref50_Check.l0 k2 a0 l1 (wrap64 (x6_2 + 1)))) else (some (x6_2, t425))) = some (r1, r2) := H
                  have A9 := Aside0.mk A90
                  clear A90
                  by_cases c10 : t425 = 0
                  · rw [if_pos c10] at H
                    have c10b0 : (t425 == 0) = true := beq_iff_eq.mpr c10
                    have c10b1 : (t425 != 0) = false := bne_eq_false_iff_eq.mpr c10
                    clear c10
                    by_cases c11 : x6_2 > 0
                    · rw [if_pos c11] at H
                      have c11b0 : decide (0 < x6_2) = true := decide_eq_true c11
                      clear c11
                      obtain ⟨ji12, hji12⟩ : ∃ j_ : Int, (wrap64 (x6_2 - 1)) = j_ := ⟨_, rfl⟩
                      replace H : (if 0 ≤ (ji12) then (if (ji12) < (l1.length : Int) then (if ((rd_T23 l1 x6_2).f0) ≤ ((rd_T23 l1 (ji12)).f0) then (some (x6_2, 5)) else (hopmeshref50_Check.l0 k2 a0 l1 (wrap64 (x6_2 + 1)))) else (none)) else (none)) = some (r1, r2) := by first | (rw [hji12] at H; exact H) | (simp only [hji12] at H ⊢; exact H)
                      (try rw [hji12] at A9)
                      have hji12w : (IntKind.i64.wrap (x6_2 - 1)) = ji12 := (i64_w _).trans hji12
                      by_cases c13 : 0 ≤ (ji12)
                      · rw [if_pos c13] at H
                        have c13b0 : decide (0 ≤ (ji12)) = true := decide_eq_true c13
                        clear c13
                        by_cases c14 : (ji12) < (l1.length : Int)
                        · rw [if_pos c14] at H
                          have c14b0 : decide ((ji12) < (l1.length : Int)) = true := decide_eq_true c14
                          clear c14
                          by_cases c15 : ((rd_T23 l1 x6_2).f0) ≤ ((rd_T23 l1 (ji12)).f0)
                          · rw [if_pos c15] at H
                            have c15b0 : decide (((rd_T23 l1 x6_2).f0) ≤ ((rd_T23 l1 (ji12)).f0)) = true := decide_eq_true c15
                            clear c15
                            simp only [Option.some.injEq, Prod.mk.injEq] at H
                            obtain ⟨rfl, rfl⟩ := H
                            have p424 : 0 ≤ (x6_2 : Int) := of_decide_eq_true (by first | (with_reducible assumption) | assumption)
                            have q424 : x6_2 < (l1.length : Int) := of_decide_eq_true (by first | (with_reducible assumption) | assumption)
                            obtain ⟨ad424, e424, hx424_0, hx424_1, hx424_2, hx424_3, hx424_4, hx424_5, hx424_6⟩ := at_T23 HR1.out x6_2 p424 q424
                            cases e424
                            replace hx424_0 := (HB.out.cell (World.block_lt_of_cell? w _ hx424_0)).trans hx424_0
                            replace hx424_1 := (HB.out.cell (World.block_lt_of_cell? w _ hx424_1)).trans hx424_1
                            replace hx424_2 := (HB.out.cell (World.block_lt_of_cell? w _ hx424_2)).trans hx424_2
                            replace hx424_3 := (HB.out.cell (World.block_lt_of_cell? w _ hx424_3)).trans hx424_3
                            replace hx424_4 := (HB.out.cell (World.block_lt_of_cell? w _ hx424_4)).trans hx424_4
                            replace hx424_5 := (HB.out.cell (World.block_lt_of_cell? w _ hx424_5)).trans hx424_5
                            replace hx424_6 := (HB.out.cell (World.block_lt_of_cell? w _ hx424_6)).trans hx424_6
                            replace p424 := eq_true p424
                            replace q424 := eq_true q424
                            go_wp2_with (first | (go_at_call 52; (with_reducible refine (hopmeshref50_Fault.calls k2 a0 ((rd_T23 l1 x6_2).f0) ((rd_T23 l1 x6_2).f1) ((rd_T23 l1 x6_2).f2) ((rd_T23 l1 x6_2).f3) ((rd_T23 l1 x6_2).f4) ((rd_T23 l1 x6_2).f5) ((rd_T23 l1 x6_2).f6) t425 _ A9.out).mono ?_); rintro e w16 ⟨rfl, hb⟩; have n0_ := Aside0.mk (below_step (by repeat (first | (with_reducible first | exact HB.out | apply below_alloc | apply pw_below_drewN | apply below_drew1) | exact HB.out)) hb); clear HB; have HB := n0_; clear n0_; (try clear hb); (try clear hb2); (try clear hk); (try clear hi); have p426 : 0 ≤ (x6_2 : Int) := of_decide_eq_true (by first | (with_reducible assumption) | assumption); have q426 : x6_2 < (l1.length : Int) := of_decide_eq_true (by first | (with_reducible assumption) | assumption); obtain ⟨ad426, e426, hx426_0, hx426_1, hx426_2, hx426_3, hx426_4, hx426_5, hx426_6⟩ := at_T23 HR1.out x6_2 p426 q426; obtain rfl : ad424 = ad426 := (by injection e426); replace hx426_0 := (HB.out.cell (World.block_lt_of_cell? w _ hx426_0)).trans hx426_0; replace hx426_1 := (HB.out.cell (World.block_lt_of_cell? w _ hx426_1)).trans hx426_1; replace hx426_2 := (HB.out.cell (World.block_lt_of_cell? w _ hx426_2)).trans hx426_2; replace hx426_3 := (HB.out.cell (World.block_lt_of_cell? w _ hx426_3)).trans hx426_3; replace hx426_4 := (HB.out.cell (World.block_lt_of_cell? w _ hx426_4)).trans hx426_4; replace hx426_5 := (HB.out.cell (World.block_lt_of_cell? w _ hx426_5)).trans hx426_5; replace hx426_6 := (HB.out.cell (World.block_lt_of_cell? w _ hx426_6)).trans hx426_6; replace p426 := eq_true p426; replace q426 := eq_true q426; have p427 : 0 ≤ ((ji12) : Int) := of_decide_eq_true (by first | (with_reducible assumption) | assumption); have q427 : (ji12) < (l1.length : Int) := of_decide_eq_true (by first | (with_reducible assumption) | assumption); obtain ⟨ad427, e427, hx427_0, hx427_1, hx427_2, hx427_3, hx427_4, hx427_5, hx427_6⟩ := at_T23 HR1.out (ji12) p427 q427; obtain rfl : ad424 = ad427 := (by injection e427); replace hx427_0 := (HB.out.cell (World.block_lt_of_cell? w _ hx427_0)).trans hx427_0; replace hx427_1 := (HB.out.cell (World.block_lt_of_cell? w _ hx427_1)).trans hx427_1; replace hx427_2 := (HB.out.cell (World.block_lt_of_cell? w _ hx427_2)).trans hx427_2; replace hx427_3 := (HB.out.cell (World.block_lt_of_cell? w _ hx427_3)).trans hx427_3; replace hx427_4 := (HB.out.cell (World.block_lt_of_cell? w _ hx427_4)).trans hx427_4; replace hx427_5 := (HB.out.cell (World.block_lt_of_cell? w _ hx427_5)).trans hx427_5; replace hx427_6 := (HB.out.cell (World.block_lt_of_cell? w _ hx427_6)).trans hx427_6; replace p427 := eq_true p427; replace q427 := eq_true q427))
                            repeat (go_quiet (first | (go_at_call 52; (with_reducible refine (hopmeshref50_Fault.calls k2 a0 ((rd_T23 l1 x6_2).f0) ((rd_T23 l1 x6_2).f1) ((rd_T23 l1 x6_2).f2) ((rd_T23 l1 x6_2).f3) ((rd_T23 l1 x6_2).f4) ((rd_T23 l1 x6_2).f5) ((rd_T23 l1 x6_2).f6) t425 _ A9.out).mono ?_); rintro e w16 ⟨rfl, hb⟩; have n0_ := Aside0.mk (below_step (by repeat (first | (with_reducible first | exact HB.out | apply below_alloc | apply pw_below_drewN | apply below_drew1) | exact HB.out)) hb); clear HB; have HB := n0_; clear n0_; (try clear hb); (try clear hb2); (try clear hk); (try clear hi); have p426 : 0 ≤ (x6_2 : Int) := of_decide_eq_true (by first | (with_reducible assumption) | assumption); have q426 : x6_2 < (l1.length : Int) := of_decide_eq_true (by first | (with_reducible assumption) | assumption); obtain ⟨ad426, e426, hx426_0, hx426_1, hx426_2, hx426_3, hx426_4, hx426_5, hx426_6⟩ := at_T23 HR1.out x6_2 p426 q426; obtain rfl : ad424 = ad426 := (by injection e426); replace hx426_0 := (HB.out.cell (World.block_lt_of_cell? w _ hx426_0)).trans hx426_0; replace hx426_1 := (HB.out.cell (World.block_lt_of_cell? w _ hx426_1)).trans hx426_1; replace hx426_2 := (HB.out.cell (World.block_lt_of_cell? w _ hx426_2)).trans hx426_2; replace hx426_3 := (HB.out.cell (World.block_lt_of_cell? w _ hx426_3)).trans hx426_3; replace hx426_4 := (HB.out.cell (World.block_lt_of_cell? w _ hx426_4)).trans hx426_4; replace hx426_5 := (HB.out.cell (World.block_lt_of_cell? w _ hx426_5)).trans hx426_5; replace hx426_6 := (HB.out.cell (World.block_lt_of_cell? w _ hx426_6)).trans hx426_6; replace p426 := eq_true p426; replace q426 := eq_true q426; have p427 : 0 ≤ ((ji12) : Int) := of_decide_eq_true (by first | (with_reducible assumption) | assumption); have q427 : (ji12) < (l1.length : Int) := of_decide_eq_true (by first | (with_reducible assumption) | assumption); obtain ⟨ad427, e427, hx427_0, hx427_1, hx427_2, hx427_3, hx427_4, hx427_5, hx427_6⟩ := at_T23 HR1.out (ji12) p427 q427; obtain rfl : ad424 = ad427 := (by injection e427); replace hx427_0 := (HB.out.cell (World.block_lt_of_cell? w _ hx427_0)).trans hx427_0; replace hx427_1 := (HB.out.cell (World.block_lt_of_cell? w _ hx427_1)).trans hx427_1; replace hx427_2 := (HB.out.cell (World.block_lt_of_cell? w _ hx427_2)).trans hx427_2; replace hx427_3 := (HB.out.cell (World.block_lt_of_cell? w _ hx427_3)).trans hx427_3; replace hx427_4 := (HB.out.cell (World.block_lt_of_cell? w _ hx427_4)).trans hx427_4; replace hx427_5 := (HB.out.cell (World.block_lt_of_cell? w _ hx427_5)).trans hx427_5; replace hx427_6 := (HB.out.cell (World.block_lt_of_cell? w _ hx427_6)).trans hx427_6; replace p427 := eq_true p427; replace q427 := eq_true q427)); try go_wp2_with (first | (go_at_call 52; (with_reducible refine (hopmeshref50_Fault.calls k2 a0 ((rd_T23 l1 x6_2).f0) ((rd_T23 l1 x6_2).f1) ((rd_T23 l1 x6_2).f2) ((rd_T23 l1 x6_2).f3) ((rd_T23 l1 x6_2).f4) ((rd_T23 l1 x6_2).f5) ((rd_T23 l1 x6_2).f6) t425 _ A9.out).mono ?_); rintro e w16 ⟨rfl, hb⟩; have n0_ := Aside0.mk (below_step (by repeat (first | (with_reducible first | exact HB.out | apply below_alloc | apply pw_below_drewN | apply below_drew1) | exact HB.out)) hb); clear HB; have HB := n0_; clear n0_; (try clear hb); (try clear hb2); (try clear hk); (try clear hi); have p426 : 0 ≤ (x6_2 : Int) := of_decide_eq_true (by first | (with_reducible assumption) | assumption); have q426 : x6_2 < (l1.length : Int) := of_decide_eq_true (by first | (with_reducible assumption) | assumption); obtain ⟨ad426, e426, hx426_0, hx426_1, hx426_2, hx426_3, hx426_4, hx426_5, hx426_6⟩ := at_T23 HR1.out x6_2 p426 q426; obtain rfl : ad424 = ad426 := (by injection e426); replace hx426_0 := (HB.out.cell (World.block_lt_of_cell? w _ hx426_0)).trans hx426_0; replace hx426_1 := (HB.out.cell (World.block_lt_of_cell? w _ hx426_1)).trans hx426_1; replace hx426_2 := (HB.out.cell (World.block_lt_of_cell? w _ hx426_2)).trans hx426_2; replace hx426_3 := (HB.out.cell (World.block_lt_of_cell? w _ hx426_3)).trans hx426_3; replace hx426_4 := (HB.out.cell (World.block_lt_of_cell? w _ hx426_4)).trans hx426_4; replace hx426_5 := (HB.out.cell (World.block_lt_of_cell? w _ hx426_5)).trans hx426_5; replace hx426_6 := (HB.out.cell (World.block_lt_of_cell? w _ hx426_6)).trans hx426_6; replace p426 := eq_true p426; replace q426 := eq_true q426; have p427 : 0 ≤ ((ji12) : Int) := of_decide_eq_true (by first | (with_reducible assumption) | assumption); have q427 : (ji12) < (l1.length : Int) := of_decide_eq_true (by first | (with_reducible assumption) | assumption); obtain ⟨ad427, e427, hx427_0, hx427_1, hx427_2, hx427_3, hx427_4, hx427_5, hx427_6⟩ := at_T23 HR1.out (ji12) p427 q427; obtain rfl : ad424 = ad427 := (by injection e427); replace hx427_0 := (HB.out.cell (World.block_lt_of_cell? w _ hx427_0)).trans hx427_0; replace hx427_1 := (HB.out.cell (World.block_lt_of_cell? w _ hx427_1)).trans hx427_1; replace hx427_2 := (HB.out.cell (World.block_lt_of_cell? w _ hx427_2)).trans hx427_2; replace hx427_3 := (HB.out.cell (World.block_lt_of_cell? w _ hx427_3)).trans hx427_3; replace hx427_4 := (HB.out.cell (World.block_lt_of_cell? w _ hx427_4)).trans hx427_4; replace hx427_5 := (HB.out.cell (World.block_lt_of_cell? w _ hx427_5)).trans hx427_5; replace hx427_6 := (HB.out.cell (World.block_lt_of_cell? w _ hx427_6)).trans hx427_6; replace p427 := eq_true p427; replace q427 := eq_true q427)))
                            go_ret2
                            exact ⟨by first | rfl | (simp [errW_none, errW_some] <;> rfl) | (simp only [← hji12]; first | rfl | (simp [errW_none, errW_some] <;> rfl)) | (simp [*, errW_none, errW_some] <;> rfl), by repeat (first | (with_reducible first | exact HB.out | apply below_alloc | apply pw_below_drewN | apply below_drew1) | exact HB.out)⟩
                          · rw [if_neg c15] at H
                            have c15b0 : decide (((rd_T23 l1 x6_2).f0) ≤ ((rd_T23 l1 (ji12)).f0)) = false := decide_eq_false c15
                            clear c15
                            have H' := Aside0.mk H
                            clear H
                            have p424 : 0 ≤ (x6_2 : Int) := of_decide_eq_true (by first | (with_reducible assumption) | assumption)
                            have q424 : x6_2 < (l1.length : Int) := of_decide_eq_true (by first | (with_reducible assumption) | assumption)
                            obtain ⟨ad424, e424, hx424_0, hx424_1, hx424_2, hx424_3, hx424_4, hx424_5, hx424_6⟩ := at_T23 HR1.out x6_2 p424 q424
                            cases e424
                            replace hx424_0 := (HB.out.cell (World.block_lt_of_cell? w _ hx424_0)).trans hx424_0
                            replace hx424_1 := (HB.out.cell (World.block_lt_of_cell? w _ hx424_1)).trans hx424_1
                            replace hx424_2 := (HB.out.cell (World.block_lt_of_cell? w _ hx424_2)).trans hx424_2
                            replace hx424_3 := (HB.out.cell (World.block_lt_of_cell? w _ hx424_3)).trans hx424_3
                            replace hx424_4 := (HB.out.cell (World.block_lt_of_cell? w _ hx424_4)).trans hx424_4
                            replace hx424_5 := (HB.out.cell (World.block_lt_of_cell? w _ hx424_5)).trans hx424_5
                            replace hx424_6 := (HB.out.cell (World.block_lt_of_cell? w _ hx424_6)).trans hx424_6
                            replace p424 := eq_true p424
                            replace q424 := eq_true q424
                            go_wp2_with (first | (go_at_call 52; (with_reducible refine (hopmeshref50_Fault.calls k2 a0 ((rd_T23 l1 x6_2).f0) ((rd_T23 l1 x6_2).f1) ((rd_T23 l1 x6_2).f2) ((rd_T23 l1 x6_2).f3) ((rd_T23 l1 x6_2).f4) ((rd_T23 l1 x6_2).f5) ((rd_T23 l1 x6_2).f6) t425 _ A9.out).mono ?_); rintro e w17 ⟨rfl, hb⟩; have n0_ := Aside0.mk (below_step (by repeat (first | (with_reducible first | exact HB.out | apply below_alloc | apply pw_below_drewN | apply below_drew1) | exact HB.out)) hb); clear HB; have HB := n0_; clear n0_; (try clear hb); (try clear hb2); (try clear hk); (try clear hi); have p426 : 0 ≤ (x6_2 : Int) := of_decide_eq_true (by first | (with_reducible assumption) | assumption); have q426 : x6_2 < (l1.length : Int) := of_decide_eq_true (by first | (with_reducible assumption) | assumption); obtain ⟨ad426, e426, hx426_0, hx426_1, hx426_2, hx426_3, hx426_4, hx426_5, hx426_6⟩ := at_T23 HR1.out x6_2 p426 q426; obtain rfl : ad424 = ad426 := (by injection e426); replace hx426_0 := (HB.out.cell (World.block_lt_of_cell? w _ hx426_0)).trans hx426_0; replace hx426_1 := (HB.out.cell (World.block_lt_of_cell? w _ hx426_1)).trans hx426_1; replace hx426_2 := (HB.out.cell (World.block_lt_of_cell? w _ hx426_2)).trans hx426_2; replace hx426_3 := (HB.out.cell (World.block_lt_of_cell? w _ hx426_3)).trans hx426_3; replace hx426_4 := (HB.out.cell (World.block_lt_of_cell? w _ hx426_4)).trans hx426_4; replace hx426_5 := (HB.out.cell (World.block_lt_of_cell? w _ hx426_5)).trans hx426_5; replace hx426_6 := (HB.out.cell (World.block_lt_of_cell? w _ hx426_6)).trans hx426_6; replace p426 := eq_true p426; replace q426 := eq_true q426; have p427 : 0 ≤ ((ji12) : Int) := of_decide_eq_true (by first | (with_reducible assumption) | assumption); have q427 : (ji12) < (l1.length : Int) := of_decide_eq_true (by first | (with_reducible assumption) | assumption); obtain ⟨ad427, e427, hx427_0, hx427_1, hx427_2, hx427_3, hx427_4, hx427_5, hx427_6⟩ := at_T23 HR1.out (ji12) p427 q427; obtain rfl : ad424 = ad427 := (by injection e427); replace hx427_0 := (HB.out.cell (World.block_lt_of_cell? w _ hx427_0)).trans hx427_0; replace hx427_1 := (HB.out.cell (World.block_lt_of_cell? w _ hx427_1)).trans hx427_1; replace hx427_2 := (HB.out.cell (World.block_lt_of_cell? w _ hx427_2)).trans hx427_2; replace hx427_3 := (HB.out.cell (World.block_lt_of_cell? w _ hx427_3)).trans hx427_3; replace hx427_4 := (HB.out.cell (World.block_lt_of_cell? w _ hx427_4)).trans hx427_4; replace hx427_5 := (HB.out.cell (World.block_lt_of_cell? w _ hx427_5)).trans hx427_5; replace hx427_6 := (HB.out.cell (World.block_lt_of_cell? w _ hx427_6)).trans hx427_6; replace p427 := eq_true p427; replace q427 := eq_true q427))
                            repeat (go_quiet (first | (go_at_call 52; (with_reducible refine (hopmeshref50_Fault.calls k2 a0 ((rd_T23 l1 x6_2).f0) ((rd_T23 l1 x6_2).f1) ((rd_T23 l1 x6_2).f2) ((rd_T23 l1 x6_2).f3) ((rd_T23 l1 x6_2).f4) ((rd_T23 l1 x6_2).f5) ((rd_T23 l1 x6_2).f6) t425 _ A9.out).mono ?_); rintro e w17 ⟨rfl, hb⟩; have n0_ := Aside0.mk (below_step (by repeat (first | (with_reducible first | exact HB.out | apply below_alloc | apply pw_below_drewN | apply below_drew1) | exact HB.out)) hb); clear HB; have HB := n0_; clear n0_; (try clear hb); (try clear hb2); (try clear hk); (try clear hi); have p426 : 0 ≤ (x6_2 : Int) := of_decide_eq_true (by first | (with_reducible assumption) | assumption); have q426 : x6_2 < (l1.length : Int) := of_decide_eq_true (by first | (with_reducible assumption) | assumption); obtain ⟨ad426, e426, hx426_0, hx426_1, hx426_2, hx426_3, hx426_4, hx426_5, hx426_6⟩ := at_T23 HR1.out x6_2 p426 q426; obtain rfl : ad424 = ad426 := (by injection e426); replace hx426_0 := (HB.out.cell (World.block_lt_of_cell? w _ hx426_0)).trans hx426_0; replace hx426_1 := (HB.out.cell (World.block_lt_of_cell? w _ hx426_1)).trans hx426_1; replace hx426_2 := (HB.out.cell (World.block_lt_of_cell? w _ hx426_2)).trans hx426_2; replace hx426_3 := (HB.out.cell (World.block_lt_of_cell? w _ hx426_3)).trans hx426_3; replace hx426_4 := (HB.out.cell (World.block_lt_of_cell? w _ hx426_4)).trans hx426_4; replace hx426_5 := (HB.out.cell (World.block_lt_of_cell? w _ hx426_5)).trans hx426_5; replace hx426_6 := (HB.out.cell (World.block_lt_of_cell? w _ hx426_6)).trans hx426_6; replace p426 := eq_true p426; replace q426 := eq_true q426; have p427 : 0 ≤ ((ji12) : Int) := of_decide_eq_true (by first | (with_reducible assumption) | assumption); have q427 : (ji12) < (l1.length : Int) := of_decide_eq_true (by first | (with_reducible assumption) | assumption); obtain ⟨ad427, e427, hx427_0, hx427_1, hx427_2, hx427_3, hx427_4, hx427_5, hx427_6⟩ := at_T23 HR1.out (ji12) p427 q427; obtain rfl : ad424 = ad427 := (by injection e427); replace hx427_0 := (HB.out.cell (World.block_lt_of_cell? w _ hx427_0)).trans hx427_0; replace hx427_1 := (HB.out.cell (World.block_lt_of_cell? w _ hx427_1)).trans hx427_1; replace hx427_2 := (HB.out.cell (World.block_lt_of_cell? w _ hx427_2)).trans hx427_2; replace hx427_3 := (HB.out.cell (World.block_lt_of_cell? w _ hx427_3)).trans hx427_3; replace hx427_4 := (HB.out.cell (World.block_lt_of_cell? w _ hx427_4)).trans hx427_4; replace hx427_5 := (HB.out.cell (World.block_lt_of_cell? w _ hx427_5)).trans hx427_5; replace hx427_6 := (HB.out.cell (World.block_lt_of_cell? w _ hx427_6)).trans hx427_6; replace p427 := eq_true p427; replace q427 := eq_true q427)); try go_wp2_with (first | (go_at_call 52; (with_reducible refine (hopmeshref50_Fault.calls k2 a0 ((rd_T23 l1 x6_2).f0) ((rd_T23 l1 x6_2).f1) ((rd_T23 l1 x6_2).f2) ((rd_T23 l1 x6_2).f3) ((rd_T23 l1 x6_2).f4) ((rd_T23 l1 x6_2).f5) ((rd_T23 l1 x6_2).f6) t425 _ A9.out).mono ?_); rintro e w17 ⟨rfl, hb⟩; have n0_ := Aside0.mk (below_step (by repeat (first | (with_reducible first | exact HB.out | apply below_alloc | apply pw_below_drewN | apply below_drew1) | exact HB.out)) hb); clear HB; have HB := n0_; clear n0_; (try clear hb); (try clear hb2); (try clear hk); (try clear hi); have p426 : 0 ≤ (x6_2 : Int) := of_decide_eq_true (by first | (with_reducible assumption) | assumption); have q426 : x6_2 < (l1.length : Int) := of_decide_eq_true (by first | (with_reducible assumption) | assumption); obtain ⟨ad426, e426, hx426_0, hx426_1, hx426_2, hx426_3, hx426_4, hx426_5, hx426_6⟩ := at_T23 HR1.out x6_2 p426 q426; obtain rfl : ad424 = ad426 := (by injection e426); replace hx426_0 := (HB.out.cell (World.block_lt_of_cell? w _ hx426_0)).trans hx426_0; replace hx426_1 := (HB.out.cell (World.block_lt_of_cell? w _ hx426_1)).trans hx426_1; replace hx426_2 := (HB.out.cell (World.block_lt_of_cell? w _ hx426_2)).trans hx426_2; replace hx426_3 := (HB.out.cell (World.block_lt_of_cell? w _ hx426_3)).trans hx426_3; replace hx426_4 := (HB.out.cell (World.block_lt_of_cell? w _ hx426_4)).trans hx426_4; replace hx426_5 := (HB.out.cell (World.block_lt_of_cell? w _ hx426_5)).trans hx426_5; replace hx426_6 := (HB.out.cell (World.block_lt_of_cell? w _ hx426_6)).trans hx426_6; replace p426 := eq_true p426; replace q426 := eq_true q426; have p427 : 0 ≤ ((ji12) : Int) := of_decide_eq_true (by first | (with_reducible assumption) | assumption); have q427 : (ji12) < (l1.length : Int) := of_decide_eq_true (by first | (with_reducible assumption) | assumption); obtain ⟨ad427, e427, hx427_0, hx427_1, hx427_2, hx427_3, hx427_4, hx427_5, hx427_6⟩ := at_T23 HR1.out (ji12) p427 q427; obtain rfl : ad424 = ad427 := (by injection e427); replace hx427_0 := (HB.out.cell (World.block_lt_of_cell? w _ hx427_0)).trans hx427_0; replace hx427_1 := (HB.out.cell (World.block_lt_of_cell? w _ hx427_1)).trans hx427_1; replace hx427_2 := (HB.out.cell (World.block_lt_of_cell? w _ hx427_2)).trans hx427_2; replace hx427_3 := (HB.out.cell (World.block_lt_of_cell? w _ hx427_3)).trans hx427_3; replace hx427_4 := (HB.out.cell (World.block_lt_of_cell? w _ hx427_4)).trans hx427_4; replace hx427_5 := (HB.out.cell (World.block_lt_of_cell? w _ hx427_5)).trans hx427_5; replace hx427_6 := (HB.out.cell (World.block_lt_of_cell? w _ hx427_6)).trans hx427_6; replace p427 := eq_true p427; replace q427 := eq_true q427)))
                            go_roundg k2
                            case measure => have := HJ2.out; have := HK2.out; omega
                            case rel => exact ⟨(wrap64 (x6_2 + 1)), (by first | rfl | (simp; done) | (simp [*]; done)), H', ⟨by have := HJ2.out; have := HK2.out; omega⟩, ⟨by repeat (first | (with_reducible first | exact HB.out | apply below_alloc | apply pw_below_drewN | apply below_drew1) | exact HB.out)⟩⟩
                        · rw [if_neg c14] at H
                          exact absurd H (by simp)
                      · rw [if_neg c13] at H
                        exact absurd H (by simp)
                    · rw [if_neg c11] at H
                      have c11b0 : decide (0 < x6_2) = false := decide_eq_false c11
                      clear c11
                      have H' := Aside0.mk H
                      clear H
                      have p424 : 0 ≤ (x6_2 : Int) := of_decide_eq_true (by first | (with_reducible assumption) | assumption)
                      have q424 : x6_2 < (l1.length : Int) := of_decide_eq_true (by first | (with_reducible assumption) | assumption)
                      obtain ⟨ad424, e424, hx424_0, hx424_1, hx424_2, hx424_3, hx424_4, hx424_5, hx424_6⟩ := at_T23 HR1.out x6_2 p424 q424
                      cases e424
                      replace hx424_0 := (HB.out.cell (World.block_lt_of_cell? w _ hx424_0)).trans hx424_0
                      replace hx424_1 := (HB.out.cell (World.block_lt_of_cell? w _ hx424_1)).trans hx424_1
                      replace hx424_2 := (HB.out.cell (World.block_lt_of_cell? w _ hx424_2)).trans hx424_2
                      replace hx424_3 := (HB.out.cell (World.block_lt_of_cell? w _ hx424_3)).trans hx424_3
                      replace hx424_4 := (HB.out.cell (World.block_lt_of_cell? w _ hx424_4)).trans hx424_4
                      replace hx424_5 := (HB.out.cell (World.block_lt_of_cell? w _ hx424_5)).trans hx424_5
                      replace hx424_6 := (HB.out.cell (World.block_lt_of_cell? w _ hx424_6)).trans hx424_6
                      replace p424 := eq_true p424
                      replace q424 := eq_true q424
                      go_wp2_with (first | (go_at_call 52; (with_reducible refine (hopmeshref50_Fault.calls k2 a0 ((rd_T23 l1 x6_2).f0) ((rd_T23 l1 x6_2).f1) ((rd_T23 l1 x6_2).f2) ((rd_T23 l1 x6_2).f3) ((rd_T23 l1 x6_2).f4) ((rd_T23 l1 x6_2).f5) ((rd_T23 l1 x6_2).f6) t425 _ A9.out).mono ?_); rintro e w18 ⟨rfl, hb⟩; have n0_ := Aside0.mk (below_step (by repeat (first | (with_reducible first | exact HB.out | apply below_alloc | apply pw_below_drewN | apply below_drew1) | exact HB.out)) hb); clear HB; have HB := n0_; clear n0_; (try clear hb); (try clear hb2); (try clear hk); (try clear hi)))
                      repeat (go_quiet (first | (go_at_call 52; (with_reducible refine (hopmeshref50_Fault.calls k2 a0 ((rd_T23 l1 x6_2).f0) ((rd_T23 l1 x6_2).f1) ((rd_T23 l1 x6_2).f2) ((rd_T23 l1 x6_2).f3) ((rd_T23 l1 x6_2).f4) ((rd_T23 l1 x6_2).f5) ((rd_T23 l1 x6_2).f6) t425 _ A9.out).mono ?_); rintro e w18 ⟨rfl, hb⟩; have n0_ := Aside0.mk (below_step (by repeat (first | (with_reducible first | exact HB.out | apply below_alloc | apply pw_below_drewN | apply below_drew1) | exact HB.out)) hb); clear HB; have HB := n0_; clear n0_; (try clear hb); (try clear hb2); (try clear hk); (try clear hi))); try go_wp2_with (first | (go_at_call 52; (with_reducible refine (hopmeshref50_Fault.calls k2 a0 ((rd_T23 l1 x6_2).f0) ((rd_T23 l1 x6_2).f1) ((rd_T23 l1 x6_2).f2) ((rd_T23 l1 x6_2).f3) ((rd_T23 l1 x6_2).f4) ((rd_T23 l1 x6_2).f5) ((rd_T23 l1 x6_2).f6) t425 _ A9.out).mono ?_); rintro e w18 ⟨rfl, hb⟩; have n0_ := Aside0.mk (below_step (by repeat (first | (with_reducible first | exact HB.out | apply below_alloc | apply pw_below_drewN | apply below_drew1) | exact HB.out)) hb); clear HB; have HB := n0_; clear n0_; (try clear hb); (try clear hb2); (try clear hk); (try clear hi))))
                      go_roundg k2
                      case measure => have := HJ2.out; have := HK2.out; omega
                      case rel => exact ⟨(wrap64 (x6_2 + 1)), (by first | rfl | (simp; done) | (simp [*]; done)), H', ⟨by have := HJ2.out; have := HK2.out; omega⟩, ⟨by repeat (first | (with_reducible first | exact HB.out | apply below_alloc | apply pw_below_drewN | apply below_drew1) | exact HB.out)⟩⟩
                  · rw [if_neg c10] at H
                    have c10b0 : (t425 == 0) = false := beq_eq_false_iff_ne.mpr c10
                    have c10b1 : (t425 != 0) = true := bne_iff_ne.mpr c10
                    simp only [Option.some.injEq, Prod.mk.injEq] at H
                    obtain ⟨rfl, rfl⟩ := H
                    have p424 : 0 ≤ (x6_2 : Int) := of_decide_eq_true (by first | (with_reducible assumption) | assumption)
                    have q424 : x6_2 < (l1.length : Int) := of_decide_eq_true (by first | (with_reducible assumption) | assumption)
                    obtain ⟨ad424, e424, hx424_0, hx424_1, hx424_2, hx424_3, hx424_4, hx424_5, hx424_6⟩ := at_T23 HR1.out x6_2 p424 q424
                    cases e424
                    replace hx424_0 := (HB.out.cell (World.block_lt_of_cell? w _ hx424_0)).trans hx424_0
                    replace hx424_1 := (HB.out.cell (World.block_lt_of_cell? w _ hx424_1)).trans hx424_1
                    replace hx424_2 := (HB.out.cell (World.block_lt_of_cell? w _ hx424_2)).trans hx424_2
                    replace hx424_3 := (HB.out.cell (World.block_lt_of_cell? w _ hx424_3)).trans hx424_3
                    replace hx424_4 := (HB.out.cell (World.block_lt_of_cell? w _ hx424_4)).trans hx424_4
                    replace hx424_5 := (HB.out.cell (World.block_lt_of_cell? w _ hx424_5)).trans hx424_5
                    replace hx424_6 := (HB.out.cell (World.block_lt_of_cell? w _ hx424_6)).trans hx424_6
                    replace p424 := eq_true p424
                    replace q424 := eq_true q424
                    go_wp2_with (first | (go_at_call 52; (with_reducible refine (hopmeshref50_Fault.calls k2 a0 ((rd_T23 l1 x6_2).f0) ((rd_T23 l1 x6_2).f1) ((rd_T23 l1 x6_2).f2) ((rd_T23 l1 x6_2).f3) ((rd_T23 l1 x6_2).f4) ((rd_T23 l1 x6_2).f5) ((rd_T23 l1 x6_2).f6) t425 _ A9.out).mono ?_); rintro e w19 ⟨rfl, hb⟩; have n0_ := Aside0.mk (below_step (by repeat (first | (with_reducible first | exact HB.out | apply below_alloc | apply pw_below_drewN | apply below_drew1) | exact HB.out)) hb); clear HB; have HB := n0_; clear n0_; (try clear hb); (try clear hb2); (try clear hk); (try clear hi)))
                    repeat (go_quiet (first | (go_at_call 52; (with_reducible refine (hopmeshref50_Fault.calls k2 a0 ((rd_T23 l1 x6_2).f0) ((rd_T23 l1 x6_2).f1) ((rd_T23 l1 x6_2).f2) ((rd_T23 l1 x6_2).f3) ((rd_T23 l1 x6_2).f4) ((rd_T23 l1 x6_2).f5) ((rd_T23 l1 x6_2).f6) t425 _ A9.out).mono ?_); rintro e w19 ⟨rfl, hb⟩; have n0_ := Aside0.mk (below_step (by repeat (first | (with_reducible first | exact HB.out | apply below_alloc | apply pw_below_drewN | apply below_drew1) | exact HB.out)) hb); clear HB; have HB := n0_; clear n0_; (try clear hb); (try clear hb2); (try clear hk); (try clear hi))); try go_wp2_with (first | (go_at_call 52; (with_reducible refine (hopmeshref50_Fault.calls k2 a0 ((rd_T23 l1 x6_2).f0) ((rd_T23 l1 x6_2).f1) ((rd_T23 l1 x6_2).f2) ((rd_T23 l1 x6_2).f3) ((rd_T23 l1 x6_2).f4) ((rd_T23 l1 x6_2).f5) ((rd_T23 l1 x6_2).f6) t425 _ A9.out).mono ?_); rintro e w19 ⟨rfl, hb⟩; have n0_ := Aside0.mk (below_step (by repeat (first | (with_reducible first | exact HB.out | apply below_alloc | apply pw_below_drewN | apply below_drew1) | exact HB.out)) hb); clear HB; have HB := n0_; clear n0_; (try clear hb); (try clear hb2); (try clear hk); (try clear hi))))
                    go_ret2
                    exact ⟨by first | rfl | (simp [errW_none, errW_some] <;> rfl) | (simp [*, errW_none, errW_some] <;> rfl), by repeat (first | (with_reducible first | exact HB.out | apply below_alloc | apply pw_below_drewN | apply below_drew1) | exact HB.out)⟩
                · rw [if_neg c8] at H
                  exact absurd H (by simp)
              · rw [if_neg c7] at H
                have c7b0 : decide (x6_2 < (l1.length : Int)) = false := decide_eq_false c7
                clear c7
                simp only [Option.some.injEq, Prod.mk.injEq] at H
                obtain ⟨rfl, rfl⟩ := H
                go_wp2
                repeat (go_quiet (fail); try go_wp2)
                go_ret2
                exact ⟨by first | rfl | (simp [errW_none, errW_some] <;> rfl) | (simp [*, errW_none, errW_some] <;> rfl), by repeat (first | (with_reducible first | exact HB.out | apply below_alloc | apply pw_below_drewN | apply below_drew1) | exact HB.out)⟩

end Go.Proofs.Ytnjljajopdpjjaa.PX
