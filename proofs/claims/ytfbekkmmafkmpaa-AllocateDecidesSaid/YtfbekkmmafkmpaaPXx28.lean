-- Written by wip/xprint.py, a program of this claim's own, over the kit's print program. Lean checks it.
import Derived.Test.YtfbekkmmafkmpaaPXx0
import Derived.Test.YtfbekkmmafkmpaaPXx23
import Derived.Test.YtfbekkmmafkmpaaPXx25
import Derived.Test.YtfbekkmmafkmpaaPXx26
import Derived.Test.YtfbekkmmafkmpaaPXx27
namespace Go.Proofs.Ytfbekkmmafkmpaa.PX
open Go.RowKit Go.Proofs.YtfbekkmmafkmpaaW.PrintWords Go.Proofs.YtfbekkmmafkmpaaW.PrintLast Go.Proofs.YtfbekkmmafkmpaaW.PrintMore
attribute [local go_sem] max2_int min2_int max_two min_two max_three min_three max_four min_four   -- for this text's walks alone
set_option linter.unusedVariables false
set_option linter.unusedSimpArgs false

/-! ### hopmeshref29_Decide: function 15 -/
mutual
def hopmeshref29_Decide.j0 : Nat → List (S39) → Int → Int → Int → Bool → Option (Int × Int × Int)
  | 0, _, _, _, _, _ => none
  | k + 1, x0, x1, x2, x3, x30 => if x30 = true then (some (0, 0, 2)) else ((hopmeshref29_Load.f k x0).bind fun bt198 => (if (x0.length : Int) < x2 then (some (1, mn 8 (wrap64 (x2 - (x0.length : Int))), 0)) else (if (x0.length : Int) = 0 then (if x1 > 0 then (if x3 > 0 then (some (1, 1, 0)) else (some (0, 0, 0))) else (some (0, 0, 0))) else (if x1 > (wrap64 (4 * (x0.length : Int))) then (hopmeshref29_Decide.j1 k x0 x1 x2 x3 (x0.length : Int) bt198.1 bt198.2 (decide ((x0.length : Int) < x3))) else (hopmeshref29_Decide.j1 k x0 x1 x2 x3 (x0.length : Int) bt198.1 bt198.2 false)))))
def hopmeshref29_Decide.j1 : Nat → List (S39) → Int → Int → Int → Int → Int → Int → Bool → Option (Int × Int × Int)
  | 0, _, _, _, _, _, _, _, _ => none
  | k + 1, x0, x1, x2, x3, x11, x12, x13, x61 => if x61 = true then (some (1, mn (mn 8 (wrap64 (x3 - x11))) (wrap64 (Int.tdiv (wrap64 ((wrap64 (x1 - (wrap64 (4 * x11)))) + 3)) 4)), 0)) else (if x13 < (wrap64 (8 * x11)) then (some (0, 0, 0)) else (if (wrap64 (4 * x12)) ≥ (wrap64 (3 * x13)) then (hopmeshref29_Decide.j2 k x0 x2 x11 x12 x13 (decide (x11 < x3))) else (hopmeshref29_Decide.j2 k x0 x2 x11 x12 x13 false)))
def hopmeshref29_Decide.j2 : Nat → List (S39) → Int → Int → Int → Int → Bool → Option (Int × Int × Int)
  | 0, _, _, _, _, _, _ => none
  | k + 1, x0, x2, x11, x12, x13, x85 => if x85 = true then (some (1, 1, 0)) else (if (wrap64 (4 * x12)) < x13 then (if x11 > x2 then (hopmeshref29_Decide.j3 k x0 (decide (x11 > 1))) else (hopmeshref29_Decide.j3 k x0 false)) else (hopmeshref29_Decide.j3 k x0 false))
def hopmeshref29_Decide.j3 : Nat → List (S39) → Bool → Option (Int × Int × Int)
  | 0, _, _ => none
  | k + 1, x0, x98 => if x98 = true then (some (2, 1, 0)) else ((hopmeshref29_Worst.f x0).bind fun bt200 => (if bt200.2 = true then (some (3, 1, 0)) else (some (0, 0, 0))))
end
def hopmeshref29_Decide.f (k : Nat) (l0 : List (S39)) (a1 : Int) (a2 : Int) (a3 : Int) : Option (Int × Int × Int) := (hopmeshref29_Check.f l0).bind fun t196 => (if t196 = 0 then (if a1 < 0 then (hopmeshref29_Decide.j0 k l0 a1 a2 a3 true) else (if a1 > 1048576 then (hopmeshref29_Decide.j0 k l0 a1 a2 a3 true) else ((hopmeshref29_limits.f a2 a3).bind fun t197 => (hopmeshref29_Decide.j0 k l0 a1 a2 a3 (!t197))))) else (some (0, 0, 1)))
theorem hopmeshref29_Decide.mono_l : ∀ k, (∀ y0 y1 y2 y3 y4, LeO (hopmeshref29_Decide.j0 k y0 y1 y2 y3 y4) (hopmeshref29_Decide.j0 (k + 1) y0 y1 y2 y3 y4)) ∧ (∀ y0 y1 y2 y3 y4 y5 y6 y7, LeO (hopmeshref29_Decide.j1 k y0 y1 y2 y3 y4 y5 y6 y7) (hopmeshref29_Decide.j1 (k + 1) y0 y1 y2 y3 y4 y5 y6 y7)) ∧ (∀ y0 y1 y2 y3 y4 y5, LeO (hopmeshref29_Decide.j2 k y0 y1 y2 y3 y4 y5) (hopmeshref29_Decide.j2 (k + 1) y0 y1 y2 y3 y4 y5)) ∧ (∀ y0 y1, LeO (hopmeshref29_Decide.j3 k y0 y1) (hopmeshref29_Decide.j3 (k + 1) y0 y1))
  | 0 => ⟨fun _ _ _ _ _ r h => by simp [hopmeshref29_Decide.j0] at h, fun _ _ _ _ _ _ _ _ r h => by simp [hopmeshref29_Decide.j1] at h, fun _ _ _ _ _ _ r h => by simp [hopmeshref29_Decide.j2] at h, fun _ _ r h => by simp [hopmeshref29_Decide.j3] at h⟩
  | k + 1 => by
    obtain ⟨ih0, ih1, ih2, ih3⟩ := hopmeshref29_Decide.mono_l k
    refine ⟨?_, ?_, ?_, ?_⟩
    · intro y0 y1 y2 y3 y4
      unfold hopmeshref29_Decide.j0
      repeat' first
      | (with_reducible exact ih0 _ _ _ _ _)
      | (with_reducible exact ih1 _ _ _ _ _ _ _ _)
      | (with_reducible exact ih2 _ _ _ _ _ _)
      | (with_reducible exact ih3 _ _)
      | (with_reducible exact hopmeshref29_Load.mono _ _)
      | (with_reducible exact LeO.refl _)
      | (with_reducible exact LeO.none _)
      | (with_reducible refine LeO.ite ?_ ?_)
      | (with_reducible refine LeO.bind ?_ (fun _ => ?_))
      | exact ih0 _ _ _ _ _
      | exact ih1 _ _ _ _ _ _ _ _
      | exact ih2 _ _ _ _ _ _
      | exact ih3 _ _
      | exact hopmeshref29_Load.mono _ _
      | exact LeO.none _
      | refine LeO.ite ?_ ?_
      | refine LeO.bind ?_ (fun _ => ?_)
    · intro y0 y1 y2 y3 y4 y5 y6 y7
      unfold hopmeshref29_Decide.j1
      repeat' first
      | (with_reducible exact ih0 _ _ _ _ _)
      | (with_reducible exact ih1 _ _ _ _ _ _ _ _)
      | (with_reducible exact ih2 _ _ _ _ _ _)
      | (with_reducible exact ih3 _ _)
      | (with_reducible exact hopmeshref29_Load.mono _ _)
      | (with_reducible exact LeO.refl _)
      | (with_reducible exact LeO.none _)
      | (with_reducible refine LeO.ite ?_ ?_)
      | (with_reducible refine LeO.bind ?_ (fun _ => ?_))
      | exact ih0 _ _ _ _ _
      | exact ih1 _ _ _ _ _ _ _ _
      | exact ih2 _ _ _ _ _ _
      | exact ih3 _ _
      | exact hopmeshref29_Load.mono _ _
      | exact LeO.none _
      | refine LeO.ite ?_ ?_
      | refine LeO.bind ?_ (fun _ => ?_)
    · intro y0 y1 y2 y3 y4 y5
      unfold hopmeshref29_Decide.j2
      repeat' first
      | (with_reducible exact ih0 _ _ _ _ _)
      | (with_reducible exact ih1 _ _ _ _ _ _ _ _)
      | (with_reducible exact ih2 _ _ _ _ _ _)
      | (with_reducible exact ih3 _ _)
      | (with_reducible exact hopmeshref29_Load.mono _ _)
      | (with_reducible exact LeO.refl _)
      | (with_reducible exact LeO.none _)
      | (with_reducible refine LeO.ite ?_ ?_)
      | (with_reducible refine LeO.bind ?_ (fun _ => ?_))
      | exact ih0 _ _ _ _ _
      | exact ih1 _ _ _ _ _ _ _ _
      | exact ih2 _ _ _ _ _ _
      | exact ih3 _ _
      | exact hopmeshref29_Load.mono _ _
      | exact LeO.none _
      | refine LeO.ite ?_ ?_
      | refine LeO.bind ?_ (fun _ => ?_)
    · intro y0 y1
      unfold hopmeshref29_Decide.j3
      repeat' first
      | (with_reducible exact ih0 _ _ _ _ _)
      | (with_reducible exact ih1 _ _ _ _ _ _ _ _)
      | (with_reducible exact ih2 _ _ _ _ _ _)
      | (with_reducible exact ih3 _ _)
      | (with_reducible exact hopmeshref29_Load.mono _ _)
      | (with_reducible exact LeO.refl _)
      | (with_reducible exact LeO.none _)
      | (with_reducible refine LeO.ite ?_ ?_)
      | (with_reducible refine LeO.bind ?_ (fun _ => ?_))
      | exact ih0 _ _ _ _ _
      | exact ih1 _ _ _ _ _ _ _ _
      | exact ih2 _ _ _ _ _ _
      | exact ih3 _ _
      | exact hopmeshref29_Load.mono _ _
      | exact LeO.none _
      | refine LeO.ite ?_ ?_
      | refine LeO.bind ?_ (fun _ => ?_)
theorem hopmeshref29_Decide.mono : ∀ a0 a1 a2 a3 k, LeO (hopmeshref29_Decide.f k a0 a1 a2 a3) (hopmeshref29_Decide.f (k + 1) a0 a1 a2 a3) := by
  intro a0 a1 a2 a3 k
  obtain ⟨ih0, ih1, ih2, ih3⟩ := hopmeshref29_Decide.mono_l k
  unfold hopmeshref29_Decide.f
  repeat' first
      | (with_reducible exact ih0 _ _ _ _ _)
      | (with_reducible exact ih1 _ _ _ _ _ _ _ _)
      | (with_reducible exact ih2 _ _ _ _ _ _)
      | (with_reducible exact ih3 _ _)
      | (with_reducible exact hopmeshref29_Load.mono _ _)
      | (with_reducible exact LeO.refl _)
      | (with_reducible exact LeO.none _)
      | (with_reducible refine LeO.ite ?_ ?_)
      | (with_reducible refine LeO.bind ?_ (fun _ => ?_))
      | exact ih0 _ _ _ _ _
      | exact ih1 _ _ _ _ _ _ _ _
      | exact ih2 _ _ _ _ _ _
      | exact ih3 _ _
      | exact hopmeshref29_Load.mono _ _
      | exact LeO.none _
      | refine LeO.ite ?_ ?_
      | refine LeO.bind ?_ (fun _ => ?_)
set_option maxHeartbeats 8000000 in
set_option maxRecDepth 100000 in
theorem hopmeshref29_Decide.calls (k : Nat) (A0 : Option Addr) (c0 : Nat) (l0 : List (S39)) (a1 : Int) (a2 : Int) (a3 : Int) (r1 : Int) (r2 : Int) (r3 : Int) (w : World) (hr0 : Kd.C k39 w A0 l0.length l0) (hc0 : l0.length ≤ c0) (h : hopmeshref29_Decide.f k l0 a1 a2 a3 = some (r1, r2, r3)) :
    Calls Try.prog 15 #[.slice A0 l0.length c0, .int .i64 a1, .int .i64 a2, .int .i64 a3] w fun e w' => e = .returned (.tuple #[.int .i64 r1, .int .i64 r2, .int .i64 r3]) ∧ Below w.heap.size w w' := by
  have HR0 := Aside0.mk hr0
  have HC0 := Aside0.mk hc0
  clear hr0 hc0
  have HB := Aside0.mk (Below.refl w.heap.size w)
  have H : ((hopmeshref29_Check.f l0).bind fun t196 => (if t196 = 0 then (if a1 < 0 then (hopmeshref29_Decide.j0 k l0 a1 a2 a3 true) else (if a1 > 1048576 then (hopmeshref29_Decide.j0 k l0 a1 a2 a3 true) else ((hopmeshref29_limits.f a2 a3).bind fun t197 => (hopmeshref29_Decide.j0 k l0 a1 a2 a3 (!t197))))) else (some (0, 0, 1)))) = some (r1, r2, r3) := h
  clear h
  replace H := Option.bind_eq_some_iff.mp H
  obtain ⟨t196, A50, H⟩ := H
  replace H : (if t196 = 0 then (if a1 < 0 then (hopmeshref29_Decide.j0 k l0 a1 a2 a3 true) else (if a1 > 1048576 then (hopmeshref29_Decide.j0 k l0 a1 a2 a3 true) else ((hopmeshref29_limits.f a2 a3).bind fun t197 => (hopmeshref29_Decide.j0 k l0 a1 a2 a3 (!t197))))) else (some (0, 0, 1))) = some (r1, r2, r3) := H
  have A5 := Aside0.mk A50
  clear A50
  by_cases c6 : t196 = 0
  · rw [if_pos c6] at H
    have c6b0 : (t196 == 0) = true := beq_iff_eq.mpr c6
    have c6b1 : (t196 != 0) = false := bne_eq_false_iff_eq.mpr c6
    clear c6
    have HC7 := Aside0.mk H
    clear H
    go_enter Try.func15, Try.ntmps15
    go_upto_region 3 with (first | ((with_reducible refine gate_callee (f := 32) rfl ?_); refine goesL_ (some 17) rfl rfl Try.func32 (by kernel_rfl) rfl #[.slice A0 l0.length c0] rfl (by (try simp only [List.map_toArray, List.map_cons, List.map_nil]); first | done | rfl | (simp only [List.length_drop, List.length_take]; rfl)) ?_; (with_reducible refine (hopmeshref29_Check.calls _ _ l0 t196 _ ?side1 ?side2 A5.out).mono ?_); (case side1 => repeat (first | exact HR0.out | (with_reducible refine Kd.C_alloc ?_ _) | (with_reducible refine Kd.C_drewN ?_ _) | (with_reducible refine Kd.C_drew ?_))); (case side2 => exact HC0.out); rintro e w8 ⟨rfl, hb⟩; refine ⟨_, rfl, ?_⟩; have n0_ := Aside0.mk (below_step (by repeat (first | (with_reducible first | exact HB.out | apply below_alloc | apply pw_below_drewN | apply below_drew1) | exact HB.out)) hb); clear HB; have HB := n0_; clear n0_; (try clear hb); (try clear hb2); (try clear hk); (try clear hi)))
    (try simp only [Act.put, List.setIfInBounds_toArray, List.set_cons_zero, List.set_cons_succ])
    go_cut [30] (fun v30 wc => ∃ (kq : Nat) (x30_6 : Bool), v30 = .bool x30_6 ∧ Aside0 (hopmeshref29_Decide.j0 kq l0 a1 a2 a3 x30_6 = some (r1, r2, r3)) ∧ Aside0 (kq ≤ k) ∧ Aside0 (Below w.heap.size w wc))
    case first =>
      have H := HC7.out
      clear HC7
      by_cases c9 : a1 < 0
      · rw [if_pos c9] at H
        have c9b0 : decide (a1 < 0) = true := decide_eq_true c9
        clear c9
        (first | rw [c9b0] | (simp only [i64_w, i32_w]; rw [c9b0]) | skip)
        have H' := Aside0.mk H
        clear H
        go_wp2
        go_meet
        case rel => exact ⟨_, (true), (by first | rfl | (simp; done) | (simp [*]; done)), H', ⟨by first | omega | exact Nat.le_refl _⟩, ⟨by repeat (first | (with_reducible first | exact HB.out | apply below_alloc | apply pw_below_drewN | apply below_drew1) | exact HB.out)⟩⟩
      · rw [if_neg c9] at H
        have c9b0 : decide (a1 < 0) = false := decide_eq_false c9
        clear c9
        (first | rw [c9b0] | (simp only [i64_w, i32_w]; rw [c9b0]) | skip)
        by_cases c10 : a1 > 1048576
        · rw [if_pos c10] at H
          have c10b0 : decide (1048576 < a1) = true := decide_eq_true c10
          clear c10
          have H' := Aside0.mk H
          clear H
          go_wp2
          go_meet
          case rel => exact ⟨_, (true), (by first | rfl | (simp; done) | (simp [*]; done)), H', ⟨by first | omega | exact Nat.le_refl _⟩, ⟨by repeat (first | (with_reducible first | exact HB.out | apply below_alloc | apply pw_below_drewN | apply below_drew1) | exact HB.out)⟩⟩
        · rw [if_neg c10] at H
          have c10b0 : decide (1048576 < a1) = false := decide_eq_false c10
          clear c10
          replace H := Option.bind_eq_some_iff.mp H
          obtain ⟨t197, A110, H⟩ := H
          replace H : (hopmeshref29_Decide.j0 k l0 a1 a2 a3 (!t197)) = some (r1, r2, r3) := H
          have A11 := Aside0.mk A110
          clear A110
          have H' := Aside0.mk H
          clear H
          go_wp2_with (first | (go_at_call 42; (with_reducible refine (hopmeshref29_limits.calls a2 a3 t197 _ A11.out).mono ?_); rintro e w' ⟨rfl, ⟨nd, rfl⟩⟩))
          go_meet
          case rel => exact ⟨_, (!t197), (by first | rfl | (simp; done) | (simp [*]; done)), H', ⟨by first | omega | exact Nat.le_refl _⟩, ⟨by repeat (first | (with_reducible first | exact HB.out | apply below_alloc | apply pw_below_drewN | apply below_drew1) | exact HB.out)⟩⟩
    case rest =>
      clear HC7
      try clear c1
      try clear p2
      try clear c3
      try clear c6
      try clear c6b0
      try clear c6b1
      try clear c9
      try clear c9b0
      try clear c10
      try clear c10b0
      obtain ⟨kq, x30_6, rfl, HA, HJ6, HB⟩ := hcut
      cases kq with
      | zero => exact absurd HA.out (by simp [hopmeshref29_Decide.j0])
      | succ kj6 =>
        have H := HA.out
        clear HA
        simp only [hopmeshref29_Decide.j0] at H
        by_cases c12 : x30_6 = true
        · subst c12
          have H1 : (some (0, 0, 2)) = some (r1, r2, r3) := by rw [if_pos rfl] at H; exact H
          clear H
          have H := H1
          clear H1
          simp only [Option.some.injEq, Prod.mk.injEq] at H
          obtain ⟨rfl, rfl, rfl⟩ := H
          go_wp2
          go_ret3
          exact ⟨by first | rfl | (simp [errW_none, errW_some] <;> rfl) | (simp [*, errW_none, errW_some] <;> rfl), by repeat (first | (with_reducible first | exact HB.out | apply below_alloc | apply pw_below_drewN | apply below_drew1) | exact HB.out)⟩
        · replace c12 := Bool.eq_false_iff.mpr c12
          subst c12
          have H1 : ((hopmeshref29_Load.f kj6 l0).bind fun bt198 => (if (l0.length : Int) < a2 then (some (1, mn 8 (wrap64 (a2 - (l0.length : Int))), 0)) else (if (l0.length : Int) = 0 then (if a1 > 0 then (if a3 > 0 then (some (1, 1, 0)) else (some (0, 0, 0))) else (some (0, 0, 0))) else (if a1 > (wrap64 (4 * (l0.length : Int))) then (hopmeshref29_Decide.j1 kj6 l0 a1 a2 a3 (l0.length : Int) bt198.1 bt198.2 (decide ((l0.length : Int) < a3))) else (hopmeshref29_Decide.j1 kj6 l0 a1 a2 a3 (l0.length : Int) bt198.1 bt198.2 false))))) = some (r1, r2, r3) := by rw [if_neg (show ¬ (false = true) by decide)] at H; exact H
          clear H
          have H := H1
          clear H1
          replace H := Option.bind_eq_some_iff.mp H
          obtain ⟨⟨t198, t199⟩, A130, H⟩ := H
          replace H : (if (l0.length : Int) < a2 then (some (1, mn 8 (wrap64 (a2 - (l0.length : Int))), 0)) else (if (l0.length : Int) = 0 then (if a1 > 0 then (if a3 > 0 then (some (1, 1, 0)) else (some (0, 0, 0))) else (some (0, 0, 0))) else (if a1 > (wrap64 (4 * (l0.length : Int))) then (hopmeshref29_Decide.j1 kj6 l0 a1 a2 a3 (l0.length : Int) t198 t199 (decide ((l0.length : Int) < a3))) else (hopmeshref29_Decide.j1 kj6 l0 a1 a2 a3 (l0.length : Int) t198 t199 false)))) = some (r1, r2, r3) := H
          have A13 := Aside0.mk A130
          clear A130
          by_cases c14 : (l0.length : Int) < a2
          · rw [if_pos c14] at H
            have c14b0 : decide ((l0.length : Int) < a2) = true := decide_eq_true c14
            clear c14
            obtain ⟨ji15, hji15⟩ : ∃ j_ : Int, (mn 8 (wrap64 (a2 - (l0.length : Int)))) = j_ := ⟨_, rfl⟩
            replace H : (some (1, ji15, 0)) = some (r1, r2, r3) := by first | (rw [hji15] at H; exact H) | (simp only [hji15] at H ⊢; exact H)
            (try rw [hji15] at A13)
            have hji15_ : (if (wrap64 (a2 - (l0.length : Int))) < 8 then (wrap64 (a2 - (l0.length : Int))) else 8) = ji15 := hji15
            simp only [Option.some.injEq, Prod.mk.injEq] at H
            obtain ⟨rfl, rfl, rfl⟩ := H
            go_wp2_with (first | ((with_reducible refine gate_callee (f := 31) rfl ?_); refine goesL_ (some 35) rfl rfl Try.func31 (by kernel_rfl) rfl #[.slice A0 l0.length c0] rfl (by (try simp only [List.map_toArray, List.map_cons, List.map_nil]); first | done | rfl | (simp only [List.length_drop, List.length_take]; rfl)) ?_; (with_reducible refine (hopmeshref29_Load.calls kj6 _ _ l0 t198 t199 _ ?side1 ?side2 A13.out).mono ?_); (case side1 => repeat (first | exact (Kd.C_below HR0.out HB.out) | (with_reducible refine Kd.C_alloc ?_ _) | (with_reducible refine Kd.C_drewN ?_ _) | (with_reducible refine Kd.C_drew ?_))); (case side2 => exact HC0.out); rintro e w16 ⟨rfl, hb⟩; refine ⟨_, rfl, ?_⟩; have n0_ := Aside0.mk (below_step (by repeat (first | (with_reducible first | exact HB.out | apply below_alloc | apply pw_below_drewN | apply below_drew1) | exact HB.out)) hb); clear HB; have HB := n0_; clear n0_; (try clear hb); (try clear hb2); (try clear hk); (try clear hi)))
            go_ret3
            exact ⟨by first | rfl | (simp [errW_none, errW_some] <;> rfl) | (simp only [← hji15]; first | rfl | (simp [errW_none, errW_some] <;> rfl)) | (simp [*, errW_none, errW_some] <;> rfl), by repeat (first | (with_reducible first | exact HB.out | apply below_alloc | apply pw_below_drewN | apply below_drew1) | exact HB.out)⟩
          · rw [if_neg c14] at H
            have c14b0 : decide ((l0.length : Int) < a2) = false := decide_eq_false c14
            clear c14
            by_cases c17 : (l0.length : Int) = 0
            · rw [if_pos c17] at H
              have c17b0 : ((l0.length : Int) == 0) = true := beq_iff_eq.mpr c17
              have c17b1 : ((l0.length : Int) != 0) = false := bne_eq_false_iff_eq.mpr c17
              clear c17
              by_cases c18 : a1 > 0
              · rw [if_pos c18] at H
                have c18b0 : decide (0 < a1) = true := decide_eq_true c18
                clear c18
                by_cases c19 : a3 > 0
                · rw [if_pos c19] at H
                  have c19b0 : decide (0 < a3) = true := decide_eq_true c19
                  clear c19
                  simp only [Option.some.injEq, Prod.mk.injEq] at H
                  obtain ⟨rfl, rfl, rfl⟩ := H
                  go_wp2_with (first | ((with_reducible refine gate_callee (f := 31) rfl ?_); refine goesL_ (some 35) rfl rfl Try.func31 (by kernel_rfl) rfl #[.slice A0 l0.length c0] rfl (by (try simp only [List.map_toArray, List.map_cons, List.map_nil]); first | done | rfl | (simp only [List.length_drop, List.length_take]; rfl)) ?_; (with_reducible refine (hopmeshref29_Load.calls kj6 _ _ l0 t198 t199 _ ?side1 ?side2 A13.out).mono ?_); (case side1 => repeat (first | exact (Kd.C_below HR0.out HB.out) | (with_reducible refine Kd.C_alloc ?_ _) | (with_reducible refine Kd.C_drewN ?_ _) | (with_reducible refine Kd.C_drew ?_))); (case side2 => exact HC0.out); rintro e w20 ⟨rfl, hb⟩; refine ⟨_, rfl, ?_⟩; have n0_ := Aside0.mk (below_step (by repeat (first | (with_reducible first | exact HB.out | apply below_alloc | apply pw_below_drewN | apply below_drew1) | exact HB.out)) hb); clear HB; have HB := n0_; clear n0_; (try clear hb); (try clear hb2); (try clear hk); (try clear hi)))
                  go_ret3
                  exact ⟨by first | rfl | (simp [errW_none, errW_some] <;> rfl) | (simp [*, errW_none, errW_some] <;> rfl), by repeat (first | (with_reducible first | exact HB.out | apply below_alloc | apply pw_below_drewN | apply below_drew1) | exact HB.out)⟩
                · rw [if_neg c19] at H
                  have c19b0 : decide (0 < a3) = false := decide_eq_false c19
                  clear c19
                  simp only [Option.some.injEq, Prod.mk.injEq] at H
                  obtain ⟨rfl, rfl, rfl⟩ := H
                  go_wp2_with (first | ((with_reducible refine gate_callee (f := 31) rfl ?_); refine goesL_ (some 35) rfl rfl Try.func31 (by kernel_rfl) rfl #[.slice A0 l0.length c0] rfl (by (try simp only [List.map_toArray, List.map_cons, List.map_nil]); first | done | rfl | (simp only [List.length_drop, List.length_take]; rfl)) ?_; (with_reducible refine (hopmeshref29_Load.calls kj6 _ _ l0 t198 t199 _ ?side1 ?side2 A13.out).mono ?_); (case side1 => repeat (first | exact (Kd.C_below HR0.out HB.out) | (with_reducible refine Kd.C_alloc ?_ _) | (with_reducible refine Kd.C_drewN ?_ _) | (with_reducible refine Kd.C_drew ?_))); (case side2 => exact HC0.out); rintro e w21 ⟨rfl, hb⟩; refine ⟨_, rfl, ?_⟩; have n0_ := Aside0.mk (below_step (by repeat (first | (with_reducible first | exact HB.out | apply below_alloc | apply pw_below_drewN | apply below_drew1) | exact HB.out)) hb); clear HB; have HB := n0_; clear n0_; (try clear hb); (try clear hb2); (try clear hk); (try clear hi)))
                  go_ret3
                  exact ⟨by first | rfl | (simp [errW_none, errW_some] <;> rfl) | (simp [*, errW_none, errW_some] <;> rfl), by repeat (first | (with_reducible first | exact HB.out | apply below_alloc | apply pw_below_drewN | apply below_drew1) | exact HB.out)⟩
              · rw [if_neg c18] at H
                have c18b0 : decide (0 < a1) = false := decide_eq_false c18
                clear c18
                simp only [Option.some.injEq, Prod.mk.injEq] at H
                obtain ⟨rfl, rfl, rfl⟩ := H
                go_wp2_with (first | ((with_reducible refine gate_callee (f := 31) rfl ?_); refine goesL_ (some 35) rfl rfl Try.func31 (by kernel_rfl) rfl #[.slice A0 l0.length c0] rfl (by (try simp only [List.map_toArray, List.map_cons, List.map_nil]); first | done | rfl | (simp only [List.length_drop, List.length_take]; rfl)) ?_; (with_reducible refine (hopmeshref29_Load.calls kj6 _ _ l0 t198 t199 _ ?side1 ?side2 A13.out).mono ?_); (case side1 => repeat (first | exact (Kd.C_below HR0.out HB.out) | (with_reducible refine Kd.C_alloc ?_ _) | (with_reducible refine Kd.C_drewN ?_ _) | (with_reducible refine Kd.C_drew ?_))); (case side2 => exact HC0.out); rintro e w22 ⟨rfl, hb⟩; refine ⟨_, rfl, ?_⟩; have n0_ := Aside0.mk (below_step (by repeat (first | (with_reducible first | exact HB.out | apply below_alloc | apply pw_below_drewN | apply below_drew1) | exact HB.out)) hb); clear HB; have HB := n0_; clear n0_; (try clear hb); (try clear hb2); (try clear hk); (try clear hi)))
                go_ret3
                exact ⟨by first | rfl | (simp [errW_none, errW_some] <;> rfl) | (simp [*, errW_none, errW_some] <;> rfl), by repeat (first | (with_reducible first | exact HB.out | apply below_alloc | apply pw_below_drewN | apply below_drew1) | exact HB.out)⟩
            · rw [if_neg c17] at H
              have c17b0 : ((l0.length : Int) == 0) = false := beq_eq_false_iff_ne.mpr c17
              have c17b1 : ((l0.length : Int) != 0) = true := bne_iff_ne.mpr c17
              have c17b2 : ¬ (l0 = []) := fun h_ => c17 (by rw [h_]; rfl)
              have HC23 := Aside0.mk H
              clear H
              go_upto_region 13 with (first | ((with_reducible refine gate_callee (f := 31) rfl ?_); refine goesL_ (some 35) rfl rfl Try.func31 (by kernel_rfl) rfl #[.slice A0 l0.length c0] rfl (by (try simp only [List.map_toArray, List.map_cons, List.map_nil]); first | done | rfl | (simp only [List.length_drop, List.length_take]; rfl)) ?_; (with_reducible refine (hopmeshref29_Load.calls kj6 _ _ l0 t198 t199 _ ?side1 ?side2 A13.out).mono ?_); (case side1 => repeat (first | exact (Kd.C_below HR0.out HB.out) | (with_reducible refine Kd.C_alloc ?_ _) | (with_reducible refine Kd.C_drewN ?_ _) | (with_reducible refine Kd.C_drew ?_))); (case side2 => exact HC0.out); rintro e w24 ⟨rfl, hb⟩; refine ⟨_, rfl, ?_⟩; have n0_ := Aside0.mk (below_step (by repeat (first | (with_reducible first | exact HB.out | apply below_alloc | apply pw_below_drewN | apply below_drew1) | exact HB.out)) hb); clear HB; have HB := n0_; clear n0_; (try clear hb); (try clear hb2); (try clear hk); (try clear hi)))
              (try simp only [Act.put, List.setIfInBounds_toArray, List.set_cons_zero, List.set_cons_succ])
              go_cut [61] (fun v61 wc => ∃ (kq : Nat) (x61_22 : Bool), v61 = .bool x61_22 ∧ Aside0 (hopmeshref29_Decide.j1 kq l0 a1 a2 a3 (l0.length : Int) t198 t199 x61_22 = some (r1, r2, r3)) ∧ Aside0 (kq ≤ kj6) ∧ Aside0 (Below w.heap.size w wc))
              case first =>
                have H := HC23.out
                clear HC23
                by_cases c25 : a1 > (wrap64 (4 * (l0.length : Int)))
                · rw [if_pos c25] at H
                  have c25b0 : decide ((wrap64 (4 * (l0.length : Int))) < a1) = true := decide_eq_true c25
                  clear c25
                  (first | rw [c25b0] | (simp only [i64_w, i32_w]; rw [c25b0]) | skip)
                  have H' := Aside0.mk H
                  clear H
                  go_wp2
                  go_meet
                  case rel => exact ⟨_, (decide ((l0.length : Int) < a3)), (by first | rfl | (simp; done) | (simp [*]; done)), H', ⟨by have := HJ6.out; first | omega | exact Nat.le_refl _⟩, ⟨by repeat (first | (with_reducible first | exact HB.out | apply below_alloc | apply pw_below_drewN | apply below_drew1) | exact HB.out)⟩⟩
                · rw [if_neg c25] at H
                  have c25b0 : decide ((wrap64 (4 * (l0.length : Int))) < a1) = false := decide_eq_false c25
                  clear c25
                  (first | rw [c25b0] | (simp only [i64_w, i32_w]; rw [c25b0]) | skip)
                  have H' := Aside0.mk H
                  clear H
                  go_wp2
                  go_meet
                  case rel => exact ⟨_, (false), (by first | rfl | (simp; done) | (simp [*]; done)), H', ⟨by have := HJ6.out; first | omega | exact Nat.le_refl _⟩, ⟨by repeat (first | (with_reducible first | exact HB.out | apply below_alloc | apply pw_below_drewN | apply below_drew1) | exact HB.out)⟩⟩
              case rest =>
                clear HC23
                try clear c1
                try clear c2
                try clear p2
                try clear c3
                try clear c6
                try clear c6b0
                try clear c6b1
                try clear p6
                try clear c9
                try clear c9b0
                try clear c10
                try clear c10b0
                try clear c12
                try clear c14
                try clear c14b0
                try clear c15
                try clear c17
                try clear c17b0
                try clear c17b1
                try clear c17b2
                try clear c18
                try clear c18b0
                try clear c19
                try clear c19b0
                try clear c25
                try clear c25b0
                try clear p2
                obtain ⟨kq, x61_22, rfl, HA, HJ22, HB⟩ := hcut
                cases kq with
                | zero => exact absurd HA.out (by simp [hopmeshref29_Decide.j1])
                | succ kj22 =>
                  have H := HA.out
                  clear HA
                  simp only [hopmeshref29_Decide.j1] at H
                  by_cases c26 : x61_22 = true
                  · subst c26
                    have H1 : (some (1, mn (mn 8 (wrap64 (a3 - (l0.length : Int)))) (wrap64 (Int.tdiv (wrap64 ((wrap64 (a1 - (wrap64 (4 * (l0.length : Int))))) + 3)) 4)), 0)) = some (r1, r2, r3) := by rw [if_pos rfl] at H; exact H
                    clear H
                    have H := H1
                    clear H1
                    obtain ⟨ji27, hji27⟩ : ∃ j_ : Int, (mn 8 (wrap64 (a3 - (l0.length : Int)))) = j_ := ⟨_, rfl⟩
                    replace H : (some (1, mn (ji27) (wrap64 (Int.tdiv (wrap64 ((wrap64 (a1 - (wrap64 (4 * (l0.length : Int))))) + 3)) 4)), 0)) = some (r1, r2, r3) := by first | (rw [hji27] at H; exact H) | (simp only [hji27] at H ⊢; exact H)
                    have hji27_ : (if (wrap64 (a3 - (l0.length : Int))) < 8 then (wrap64 (a3 - (l0.length : Int))) else 8) = ji27 := hji27
                    obtain ⟨ji28, hji28⟩ : ∃ j_ : Int, (mn (ji27) (wrap64 (Int.tdiv (wrap64 ((wrap64 (a1 - (wrap64 (4 * (l0.length : Int))))) + 3)) 4))) = j_ := ⟨_, rfl⟩
                    replace H : (some (1, ji28, 0)) = some (r1, r2, r3) := by first | (rw [hji28] at H; exact H) | (simp only [hji28] at H ⊢; exact H)
                    have hji28_ : (if (wrap64 (Int.tdiv (wrap64 ((wrap64 (a1 - (wrap64 (4 * (l0.length : Int))))) + 3)) 4)) < (ji27) then (wrap64 (Int.tdiv (wrap64 ((wrap64 (a1 - (wrap64 (4 * (l0.length : Int))))) + 3)) 4)) else (ji27)) = ji28 := hji28
                    simp only [Option.some.injEq, Prod.mk.injEq] at H
                    obtain ⟨rfl, rfl, rfl⟩ := H
                    go_wp2
                    go_ret3
                    exact ⟨by first | rfl | (simp [errW_none, errW_some] <;> rfl) | (simp only [← hji27, ← hji28]; first | rfl | (simp [errW_none, errW_some] <;> rfl)) | (simp [*, errW_none, errW_some] <;> rfl), by repeat (first | (with_reducible first | exact HB.out | apply below_alloc | apply pw_below_drewN | apply below_drew1) | exact HB.out)⟩
                  · replace c26 := Bool.eq_false_iff.mpr c26
                    subst c26
                    have H1 : (if t199 < (wrap64 (8 * (l0.length : Int))) then (some (0, 0, 0)) else (if (wrap64 (4 * t198)) ≥ (wrap64 (3 * t199)) then (hopmeshref29_Decide.j2 kj22 l0 a2 (l0.length : Int) t198 t199 (decide ((l0.length : Int) < a3))) else (hopmeshref29_Decide.j2 kj22 l0 a2 (l0.length : Int) t198 t199 false))) = some (r1, r2, r3) := by rw [if_neg (show ¬ (false = true) by decide)] at H; exact H
                    clear H
                    have H := H1
                    clear H1
                    by_cases c29 : t199 < (wrap64 (8 * (l0.length : Int)))
                    · rw [if_pos c29] at H
                      have c29b0 : decide (t199 < (wrap64 (8 * (l0.length : Int)))) = true := decide_eq_true c29
                      clear c29
                      simp only [Option.some.injEq, Prod.mk.injEq] at H
                      obtain ⟨rfl, rfl, rfl⟩ := H
                      go_wp2
                      go_ret3
                      exact ⟨by first | rfl | (simp [errW_none, errW_some] <;> rfl) | (simp [*, errW_none, errW_some] <;> rfl), by repeat (first | (with_reducible first | exact HB.out | apply below_alloc | apply pw_below_drewN | apply below_drew1) | exact HB.out)⟩
                    · rw [if_neg c29] at H
                      have c29b0 : decide (t199 < (wrap64 (8 * (l0.length : Int)))) = false := decide_eq_false c29
                      clear c29
                      have HC30 := Aside0.mk H
                      clear H
                      go_upto_region 17 with (fail)
                      go_cut [85] (fun v85 wc => ∃ (kq : Nat) (x85_29 : Bool), v85 = .bool x85_29 ∧ Aside0 (hopmeshref29_Decide.j2 kq l0 a2 (l0.length : Int) t198 t199 x85_29 = some (r1, r2, r3)) ∧ Aside0 (kq ≤ kj22) ∧ Aside0 (Below w.heap.size w wc))
                      case first =>
                        have H := HC30.out
                        clear HC30
                        by_cases c31 : (wrap64 (4 * t198)) ≥ (wrap64 (3 * t199))
                        · rw [if_pos c31] at H
                          have c31b0 : decide ((wrap64 (3 * t199)) ≤ (wrap64 (4 * t198))) = true := decide_eq_true c31
                          clear c31
                          (first | rw [c31b0] | (simp only [i64_w, i32_w]; rw [c31b0]) | skip)
                          have H' := Aside0.mk H
                          clear H
                          go_wp2
                          go_meet
                          case rel => exact ⟨_, (decide ((l0.length : Int) < a3)), (by first | rfl | (simp; done) | (simp [*]; done)), H', ⟨by have := HJ6.out; have := HJ22.out; first | omega | exact Nat.le_refl _⟩, ⟨by repeat (first | (with_reducible first | exact HB.out | apply below_alloc | apply pw_below_drewN | apply below_drew1) | exact HB.out)⟩⟩
                        · rw [if_neg c31] at H
                          have c31b0 : decide ((wrap64 (3 * t199)) ≤ (wrap64 (4 * t198))) = false := decide_eq_false c31
                          clear c31
                          (first | rw [c31b0] | (simp only [i64_w, i32_w]; rw [c31b0]) | skip)
                          have H' := Aside0.mk H
                          clear H
                          go_wp2
                          go_meet
                          case rel => exact ⟨_, (false), (by first | rfl | (simp; done) | (simp [*]; done)), H', ⟨by have := HJ6.out; have := HJ22.out; first | omega | exact Nat.le_refl _⟩, ⟨by repeat (first | (with_reducible first | exact HB.out | apply below_alloc | apply pw_below_drewN | apply below_drew1) | exact HB.out)⟩⟩
                      case rest =>
                        clear HC30
                        try clear c1
                        try clear c2
                        try clear p2
                        try clear c3
                        try clear c6
                        try clear c6b0
                        try clear c6b1
                        try clear p6
                        try clear c9
                        try clear c9b0
                        try clear c10
                        try clear c10b0
                        try clear c12
                        try clear c14
                        try clear c14b0
                        try clear c15
                        try clear c17
                        try clear c17b0
                        try clear c17b1
                        try clear c17b2
                        try clear c18
                        try clear c18b0
                        try clear c19
                        try clear c19b0
                        try clear c25
                        try clear c25b0
                        try clear c26
                        try clear c29
                        try clear c29b0
                        try clear c31
                        try clear c31b0
                        try clear p2
                        try clear p6
                        obtain ⟨kq, x85_29, rfl, HA, HJ29, HB⟩ := hcut
                        cases kq with
                        | zero => exact absurd HA.out (by simp [hopmeshref29_Decide.j2])
                        | succ kj29 =>
                          have H := HA.out
                          clear HA
                          simp only [hopmeshref29_Decide.j2] at H
                          by_cases c32 : x85_29 = true
                          · subst c32
                            have H1 : (some (1, 1, 0)) = some (r1, r2, r3) := by rw [if_pos rfl] at H; exact H
                            clear H
                            have H := H1
                            clear H1
                            simp only [Option.some.injEq, Prod.mk.injEq] at H
                            obtain ⟨rfl, rfl, rfl⟩ := H
                            go_wp2
                            go_ret3
                            exact ⟨by first | rfl | (simp [errW_none, errW_some] <;> rfl) | (simp [*, errW_none, errW_some] <;> rfl), by repeat (first | (with_reducible first | exact HB.out | apply below_alloc | apply pw_below_drewN | apply below_drew1) | exact HB.out)⟩
                          · replace c32 := Bool.eq_false_iff.mpr c32
                            subst c32
                            have H1 : (if (wrap64 (4 * t198)) < t199 then (if (l0.length : Int) > a2 then (hopmeshref29_Decide.j3 kj29 l0 (decide ((l0.length : Int) > 1))) else (hopmeshref29_Decide.j3 kj29 l0 false)) else (hopmeshref29_Decide.j3 kj29 l0 false)) = some (r1, r2, r3) := by rw [if_neg (show ¬ (false = true) by decide)] at H; exact H
                            clear H
                            have H := H1
                            clear H1
                            have HC33 := Aside0.mk H
                            clear H
                            go_upto_region 19 with (fail)
                            go_cut [98] (fun v98 wc => ∃ (kq : Nat) (x98_32 : Bool), v98 = .bool x98_32 ∧ Aside0 (hopmeshref29_Decide.j3 kq l0 x98_32 = some (r1, r2, r3)) ∧ Aside0 (kq ≤ kj29) ∧ Aside0 (Below w.heap.size w wc))
                            case first =>
                              have H := HC33.out
                              clear HC33
                              by_cases c34 : (wrap64 (4 * t198)) < t199
                              · rw [if_pos c34] at H
                                have c34b0 : decide ((wrap64 (4 * t198)) < t199) = true := decide_eq_true c34
                                clear c34
                                (first | rw [c34b0] | (simp only [i64_w, i32_w]; rw [c34b0]) | skip)
                                by_cases c35 : (l0.length : Int) > a2
                                · rw [if_pos c35] at H
                                  have c35b0 : decide (a2 < (l0.length : Int)) = true := decide_eq_true c35
                                  clear c35
                                  have H' := Aside0.mk H
                                  clear H
                                  go_wp2
                                  go_meet
                                  case rel => exact ⟨_, (decide ((l0.length : Int) > 1)), (by first | rfl | (simp; done) | (simp [*]; done)), H', ⟨by have := HJ6.out; have := HJ22.out; have := HJ29.out; first | omega | exact Nat.le_refl _⟩, ⟨by repeat (first | (with_reducible first | exact HB.out | apply below_alloc | apply pw_below_drewN | apply below_drew1) | exact HB.out)⟩⟩
                                · rw [if_neg c35] at H
                                  have c35b0 : decide (a2 < (l0.length : Int)) = false := decide_eq_false c35
                                  clear c35
                                  have H' := Aside0.mk H
                                  clear H
                                  go_wp2
                                  go_meet
                                  case rel => exact ⟨_, (false), (by first | rfl | (simp; done) | (simp [*]; done)), H', ⟨by have := HJ6.out; have := HJ22.out; have := HJ29.out; first | omega | exact Nat.le_refl _⟩, ⟨by repeat (first | (with_reducible first | exact HB.out | apply below_alloc | apply pw_below_drewN | apply below_drew1) | exact HB.out)⟩⟩
                              · rw [if_neg c34] at H
                                have c34b0 : decide ((wrap64 (4 * t198)) < t199) = false := decide_eq_false c34
                                clear c34
                                (first | rw [c34b0] | (simp only [i64_w, i32_w]; rw [c34b0]) | skip)
                                have H' := Aside0.mk H
                                clear H
                                go_wp2
                                go_meet
                                case rel => exact ⟨_, (false), (by first | rfl | (simp; done) | (simp [*]; done)), H', ⟨by have := HJ6.out; have := HJ22.out; have := HJ29.out; first | omega | exact Nat.le_refl _⟩, ⟨by repeat (first | (with_reducible first | exact HB.out | apply below_alloc | apply pw_below_drewN | apply below_drew1) | exact HB.out)⟩⟩
                            case rest =>
                              clear HC33
                              try clear c1
                              try clear c2
                              try clear p2
                              try clear c3
                              try clear c6
                              try clear c6b0
                              try clear c6b1
                              try clear p6
                              try clear c9
                              try clear c9b0
                              try clear c10
                              try clear c10b0
                              try clear c12
                              try clear c14
                              try clear c14b0
                              try clear c15
                              try clear c17
                              try clear c17b0
                              try clear c17b1
                              try clear c17b2
                              try clear c18
                              try clear c18b0
                              try clear c19
                              try clear c19b0
                              try clear c25
                              try clear c25b0
                              try clear c26
                              try clear c29
                              try clear c29b0
                              try clear c31
                              try clear c31b0
                              try clear c32
                              try clear c34
                              try clear c34b0
                              try clear c35
                              try clear c35b0
                              try clear p2
                              try clear p6
                              obtain ⟨kq, x98_32, rfl, HA, HJ32, HB⟩ := hcut
                              cases kq with
                              | zero => exact absurd HA.out (by simp [hopmeshref29_Decide.j3])
                              | succ kj32 =>
                                have H := HA.out
                                clear HA
                                simp only [hopmeshref29_Decide.j3] at H
                                by_cases c36 : x98_32 = true
                                · subst c36
                                  have H1 : (some (2, 1, 0)) = some (r1, r2, r3) := by rw [if_pos rfl] at H; exact H
                                  clear H
                                  have H := H1
                                  clear H1
                                  simp only [Option.some.injEq, Prod.mk.injEq] at H
                                  obtain ⟨rfl, rfl, rfl⟩ := H
                                  go_wp2
                                  go_ret3
                                  exact ⟨by first | rfl | (simp [errW_none, errW_some] <;> rfl) | (simp [*, errW_none, errW_some] <;> rfl), by repeat (first | (with_reducible first | exact HB.out | apply below_alloc | apply pw_below_drewN | apply below_drew1) | exact HB.out)⟩
                                · replace c36 := Bool.eq_false_iff.mpr c36
                                  subst c36
                                  have H1 : ((hopmeshref29_Worst.f l0).bind fun bt200 => (if bt200.2 = true then (some (3, 1, 0)) else (some (0, 0, 0)))) = some (r1, r2, r3) := by rw [if_neg (show ¬ (false = true) by decide)] at H; exact H
                                  clear H
                                  have H := H1
                                  clear H1
                                  replace H := Option.bind_eq_some_iff.mp H
                                  obtain ⟨⟨t200, t201⟩, A370, H⟩ := H
                                  replace H : (if t201 = true then (some (3, 1, 0)) else (some (0, 0, 0))) = some (r1, r2, r3) := H
                                  have A37 := Aside0.mk A370
                                  clear A370
                                  by_cases c38 : t201 = true
                                  · subst c38
                                    have H1 : (some (3, 1, 0)) = some (r1, r2, r3) := by rw [if_pos rfl] at H; exact H
                                    clear H
                                    have H := H1
                                    clear H1
                                    simp only [Option.some.injEq, Prod.mk.injEq] at H
                                    obtain ⟨rfl, rfl, rfl⟩ := H
                                    go_wp2_with (first | ((with_reducible refine gate_callee (f := 13) rfl ?_); refine goesL_ (some 101) rfl rfl Try.func13 (by kernel_rfl) rfl #[.slice A0 l0.length c0] rfl (by (try simp only [List.map_toArray, List.map_cons, List.map_nil]); first | done | rfl | (simp only [List.length_drop, List.length_take]; rfl)) ?_; (with_reducible refine (hopmeshref29_Worst.calls _ _ l0 t200 true _ ?side1 ?side2 A37.out).mono ?_); (case side1 => repeat (first | exact (Kd.C_below HR0.out HB.out) | (with_reducible refine Kd.C_alloc ?_ _) | (with_reducible refine Kd.C_drewN ?_ _) | (with_reducible refine Kd.C_drew ?_))); (case side2 => exact HC0.out); rintro e w39 ⟨rfl, hb⟩; refine ⟨_, rfl, ?_⟩; have n0_ := Aside0.mk (below_step (by repeat (first | (with_reducible first | exact HB.out | apply below_alloc | apply pw_below_drewN | apply below_drew1) | exact HB.out)) hb); clear HB; have HB := n0_; clear n0_; (try clear hb); (try clear hb2); (try clear hk); (try clear hi)))
                                    go_ret3
                                    exact ⟨by first | rfl | (simp [errW_none, errW_some] <;> rfl) | (simp [*, errW_none, errW_some] <;> rfl), by repeat (first | (with_reducible first | exact HB.out | apply below_alloc | apply pw_below_drewN | apply below_drew1) | exact HB.out)⟩
                                  · replace c38 := Bool.eq_false_iff.mpr c38
                                    subst c38
                                    have H1 : (some (0, 0, 0)) = some (r1, r2, r3) := by rw [if_neg (show ¬ (false = true) by decide)] at H; exact H
                                    clear H
                                    have H := H1
                                    clear H1
                                    simp only [Option.some.injEq, Prod.mk.injEq] at H
                                    obtain ⟨rfl, rfl, rfl⟩ := H
                                    go_wp2_with (first | ((with_reducible refine gate_callee (f := 13) rfl ?_); refine goesL_ (some 101) rfl rfl Try.func13 (by kernel_rfl) rfl #[.slice A0 l0.length c0] rfl (by (try simp only [List.map_toArray, List.map_cons, List.map_nil]); first | done | rfl | (simp only [List.length_drop, List.length_take]; rfl)) ?_; (with_reducible refine (hopmeshref29_Worst.calls _ _ l0 t200 false _ ?side1 ?side2 A37.out).mono ?_); (case side1 => repeat (first | exact (Kd.C_below HR0.out HB.out) | (with_reducible refine Kd.C_alloc ?_ _) | (with_reducible refine Kd.C_drewN ?_ _) | (with_reducible refine Kd.C_drew ?_))); (case side2 => exact HC0.out); rintro e w40 ⟨rfl, hb⟩; refine ⟨_, rfl, ?_⟩; have n0_ := Aside0.mk (below_step (by repeat (first | (with_reducible first | exact HB.out | apply below_alloc | apply pw_below_drewN | apply below_drew1) | exact HB.out)) hb); clear HB; have HB := n0_; clear n0_; (try clear hb); (try clear hb2); (try clear hk); (try clear hi)))
                                    go_ret3
                                    exact ⟨by first | rfl | (simp [errW_none, errW_some] <;> rfl) | (simp [*, errW_none, errW_some] <;> rfl), by repeat (first | (with_reducible first | exact HB.out | apply below_alloc | apply pw_below_drewN | apply below_drew1) | exact HB.out)⟩
  · rw [if_neg c6] at H
    have c6b0 : (t196 == 0) = false := beq_eq_false_iff_ne.mpr c6
    have c6b1 : (t196 != 0) = true := bne_iff_ne.mpr c6
    simp only [Option.some.injEq, Prod.mk.injEq] at H
    obtain ⟨rfl, rfl, rfl⟩ := H
    go_enter Try.func15, Try.ntmps15
    go_wp2_with (first | ((with_reducible refine gate_callee (f := 32) rfl ?_); refine goesL_ (some 17) rfl rfl Try.func32 (by kernel_rfl) rfl #[.slice A0 l0.length c0] rfl (by (try simp only [List.map_toArray, List.map_cons, List.map_nil]); first | done | rfl | (simp only [List.length_drop, List.length_take]; rfl)) ?_; (with_reducible refine (hopmeshref29_Check.calls _ _ l0 t196 _ ?side1 ?side2 A5.out).mono ?_); (case side1 => repeat (first | exact HR0.out | (with_reducible refine Kd.C_alloc ?_ _) | (with_reducible refine Kd.C_drewN ?_ _) | (with_reducible refine Kd.C_drew ?_))); (case side2 => exact HC0.out); rintro e w41 ⟨rfl, hb⟩; refine ⟨_, rfl, ?_⟩; have n0_ := Aside0.mk (below_step (by repeat (first | (with_reducible first | exact HB.out | apply below_alloc | apply pw_below_drewN | apply below_drew1) | exact HB.out)) hb); clear HB; have HB := n0_; clear n0_; (try clear hb); (try clear hb2); (try clear hk); (try clear hi)))
    go_ret3
    exact ⟨by first | rfl | (simp [errW_none, errW_some] <;> rfl) | (simp [*, errW_none, errW_some] <;> rfl), by repeat (first | (with_reducible first | exact HB.out | apply below_alloc | apply pw_below_drewN | apply below_drew1) | exact HB.out)⟩

end Go.Proofs.Ytfbekkmmafkmpaa.PX
