-- Written by wip/xprint.py, a program of this claim's own, over the kit's print program. Lean checks it.
import Derived.Test.YtfbekkmmafkmpaaPXx0
import Derived.Test.YtfbekkmmafkmpaaPXx18
import Derived.Test.YtfbekkmmafkmpaaPXx19
import Derived.Test.YtfbekkmmafkmpaaPXx21
import Derived.Test.YtfbekkmmafkmpaaPXx30
namespace Go.Proofs.Ytfbekkmmafkmpaa.PX
open Go.RowKit Go.Proofs.YtfbekkmmafkmpaaW.PrintWords Go.Proofs.YtfbekkmmafkmpaaW.PrintLast Go.Proofs.YtfbekkmmafkmpaaW.PrintMore
attribute [local go_sem] max2_int min2_int max_two min_two max_three min_three max_four min_four   -- for this text's walks alone
set_option linter.unusedVariables false
set_option linter.unusedSimpArgs false

/-! ### hopmeshlaw29_AllocateNoSwing: function 5 -/
mutual
def hopmeshlaw29_AllocateNoSwing.l0 : Nat → Int → Int → Int → Int → Int → Int → Int → Option (Bool)
  | 0, _, _, _, _, _, _, _ => none
  | k + 1, x0, x9, x10, x11, x12, x13, x35 => if x35 < 70 then ((hopmeshlaw29_cells.f k x11 x12).bind fun t250 => ((allocate_Decide.f k t250 0 x10 x9).bind fun bt253 => (if bt253.2.2 = 0 then (if bt253.1 = 1 then (hopmeshlaw29_AllocateNoSwing.j1 k x0 x9 x10 x11 x12 x13 bt253.1 bt253.2.1 x35 false) else (hopmeshlaw29_AllocateNoSwing.j1 k x0 x9 x10 x11 x12 x13 bt253.1 bt253.2.1 x35 (bt253.1 != 2))) else (some false)))) else (some false)
def hopmeshlaw29_AllocateNoSwing.j1 : Nat → Int → Int → Int → Int → Int → Int → Int → Int → Int → Bool → Option (Bool)
  | 0, _, _, _, _, _, _, _, _, _, _ => none
  | k + 1, x0, x9, x10, x11, x12, x13, x14, x15, x35, x54 => if x54 = true then ((allocate_Settle.f k (Int.tmod (wrap64 (x0)) 65) x12 x10 x9).bind fun bt256 => (if bt256.2 = 0 then (some (bt256.1 == x11)) else (some false))) else (if x15 < 1 then (hopmeshlaw29_AllocateNoSwing.j2 k x0 x9 x10 x11 x12 x14 x15 x35 true) else (if x15 > 8 then (hopmeshlaw29_AllocateNoSwing.j2 k x0 x9 x10 x11 x12 x14 x15 x35 true) else (if x13 = 0 then (hopmeshlaw29_AllocateNoSwing.j2 k x0 x9 x10 x11 x12 x14 x15 x35 false) else (hopmeshlaw29_AllocateNoSwing.j2 k x0 x9 x10 x11 x12 x14 x15 x35 (x13 != x14)))))
def hopmeshlaw29_AllocateNoSwing.j2 : Nat → Int → Int → Int → Int → Int → Int → Int → Int → Bool → Option (Bool)
  | 0, _, _, _, _, _, _, _, _, _ => none
  | k + 1, x0, x9, x10, x11, x12, x14, x15, x35, x86 => if x86 = true then (some false) else (if x14 = 1 then (if (wrap64 (x11 + x15)) < 0 then (some false) else (if (wrap64 (x11 + x15)) > 64 then (some false) else (hopmeshlaw29_AllocateNoSwing.l0 k x0 x9 x10 (wrap64 (x11 + x15)) x12 x14 (wrap64 (x35 + 1))))) else (if (wrap64 (x11 - x15)) < 0 then (some false) else (if (wrap64 (x11 - x15)) > 64 then (some false) else (hopmeshlaw29_AllocateNoSwing.l0 k x0 x9 x10 (wrap64 (x11 - x15)) x12 x14 (wrap64 (x35 + 1))))))
end
def hopmeshlaw29_AllocateNoSwing.f (k : Nat) (a0 : Int) (a1 : Int) (a2 : Int) (a3 : Int) : Option (Bool) := (hopmeshlaw29_awake.f k).bind fun t249 => (if t249 = true then (if (wrap64 ((Int.tmod (wrap64 (a3)) 65) + 1)) = 0 then (none) else (hopmeshlaw29_AllocateNoSwing.l0 k a0 (Int.tmod (wrap64 (a3)) 65) (Int.tmod (wrap64 (a2)) (wrap64 ((Int.tmod (wrap64 (a3)) 65) + 1))) (Int.tmod (wrap64 (a0)) 65) (Int.tmod (wrap64 (a1)) 80) 0 0)) else (some false))
theorem hopmeshlaw29_AllocateNoSwing.mono_l : ∀ k, (∀ y0 y1 y2 y3 y4 y5 y6, LeO (hopmeshlaw29_AllocateNoSwing.l0 k y0 y1 y2 y3 y4 y5 y6) (hopmeshlaw29_AllocateNoSwing.l0 (k + 1) y0 y1 y2 y3 y4 y5 y6)) ∧ (∀ y0 y1 y2 y3 y4 y5 y6 y7 y8 y9, LeO (hopmeshlaw29_AllocateNoSwing.j1 k y0 y1 y2 y3 y4 y5 y6 y7 y8 y9) (hopmeshlaw29_AllocateNoSwing.j1 (k + 1) y0 y1 y2 y3 y4 y5 y6 y7 y8 y9)) ∧ (∀ y0 y1 y2 y3 y4 y5 y6 y7 y8, LeO (hopmeshlaw29_AllocateNoSwing.j2 k y0 y1 y2 y3 y4 y5 y6 y7 y8) (hopmeshlaw29_AllocateNoSwing.j2 (k + 1) y0 y1 y2 y3 y4 y5 y6 y7 y8))
  | 0 => ⟨fun _ _ _ _ _ _ _ r h => by simp [hopmeshlaw29_AllocateNoSwing.l0] at h, fun _ _ _ _ _ _ _ _ _ _ r h => by simp [hopmeshlaw29_AllocateNoSwing.j1] at h, fun _ _ _ _ _ _ _ _ _ r h => by simp [hopmeshlaw29_AllocateNoSwing.j2] at h⟩
  | k + 1 => by
    obtain ⟨ih0, ih1, ih2⟩ := hopmeshlaw29_AllocateNoSwing.mono_l k
    refine ⟨?_, ?_, ?_⟩
    · intro y0 y1 y2 y3 y4 y5 y6
      unfold hopmeshlaw29_AllocateNoSwing.l0
      repeat' first
      | (with_reducible exact ih0 _ _ _ _ _ _ _)
      | (with_reducible exact ih1 _ _ _ _ _ _ _ _ _ _)
      | (with_reducible exact ih2 _ _ _ _ _ _ _ _ _)
      | (with_reducible exact allocate_Decide.mono _ _ _ _ _)
      | (with_reducible exact allocate_Settle.mono _ _ _ _ _)
      | (with_reducible exact hopmeshlaw29_awake.mono _)
      | (with_reducible exact hopmeshlaw29_cells.mono _ _ _)
      | (with_reducible exact LeO.refl _)
      | (with_reducible exact LeO.none _)
      | (with_reducible refine LeO.ite ?_ ?_)
      | (with_reducible refine LeO.bind ?_ (fun _ => ?_))
      | exact ih0 _ _ _ _ _ _ _
      | exact ih1 _ _ _ _ _ _ _ _ _ _
      | exact ih2 _ _ _ _ _ _ _ _ _
      | exact allocate_Decide.mono _ _ _ _ _
      | exact allocate_Settle.mono _ _ _ _ _
      | exact hopmeshlaw29_awake.mono _
      | exact hopmeshlaw29_cells.mono _ _ _
      | exact LeO.none _
      | refine LeO.ite ?_ ?_
      | refine LeO.bind ?_ (fun _ => ?_)
    · intro y0 y1 y2 y3 y4 y5 y6 y7 y8 y9
      unfold hopmeshlaw29_AllocateNoSwing.j1
      repeat' first
      | (with_reducible exact ih0 _ _ _ _ _ _ _)
      | (with_reducible exact ih1 _ _ _ _ _ _ _ _ _ _)
      | (with_reducible exact ih2 _ _ _ _ _ _ _ _ _)
      | (with_reducible exact allocate_Decide.mono _ _ _ _ _)
      | (with_reducible exact allocate_Settle.mono _ _ _ _ _)
      | (with_reducible exact hopmeshlaw29_awake.mono _)
      | (with_reducible exact hopmeshlaw29_cells.mono _ _ _)
      | (with_reducible exact LeO.refl _)
      | (with_reducible exact LeO.none _)
      | (with_reducible refine LeO.ite ?_ ?_)
      | (with_reducible refine LeO.bind ?_ (fun _ => ?_))
      | exact ih0 _ _ _ _ _ _ _
      | exact ih1 _ _ _ _ _ _ _ _ _ _
      | exact ih2 _ _ _ _ _ _ _ _ _
      | exact allocate_Decide.mono _ _ _ _ _
      | exact allocate_Settle.mono _ _ _ _ _
      | exact hopmeshlaw29_awake.mono _
      | exact hopmeshlaw29_cells.mono _ _ _
      | exact LeO.none _
      | refine LeO.ite ?_ ?_
      | refine LeO.bind ?_ (fun _ => ?_)
    · intro y0 y1 y2 y3 y4 y5 y6 y7 y8
      unfold hopmeshlaw29_AllocateNoSwing.j2
      repeat' first
      | (with_reducible exact ih0 _ _ _ _ _ _ _)
      | (with_reducible exact ih1 _ _ _ _ _ _ _ _ _ _)
      | (with_reducible exact ih2 _ _ _ _ _ _ _ _ _)
      | (with_reducible exact allocate_Decide.mono _ _ _ _ _)
      | (with_reducible exact allocate_Settle.mono _ _ _ _ _)
      | (with_reducible exact hopmeshlaw29_awake.mono _)
      | (with_reducible exact hopmeshlaw29_cells.mono _ _ _)
      | (with_reducible exact LeO.refl _)
      | (with_reducible exact LeO.none _)
      | (with_reducible refine LeO.ite ?_ ?_)
      | (with_reducible refine LeO.bind ?_ (fun _ => ?_))
      | exact ih0 _ _ _ _ _ _ _
      | exact ih1 _ _ _ _ _ _ _ _ _ _
      | exact ih2 _ _ _ _ _ _ _ _ _
      | exact allocate_Decide.mono _ _ _ _ _
      | exact allocate_Settle.mono _ _ _ _ _
      | exact hopmeshlaw29_awake.mono _
      | exact hopmeshlaw29_cells.mono _ _ _
      | exact LeO.none _
      | refine LeO.ite ?_ ?_
      | refine LeO.bind ?_ (fun _ => ?_)
theorem hopmeshlaw29_AllocateNoSwing.mono : ∀ a0 a1 a2 a3 k, LeO (hopmeshlaw29_AllocateNoSwing.f k a0 a1 a2 a3) (hopmeshlaw29_AllocateNoSwing.f (k + 1) a0 a1 a2 a3) := by
  intro a0 a1 a2 a3 k
  obtain ⟨ih0, ih1, ih2⟩ := hopmeshlaw29_AllocateNoSwing.mono_l k
  unfold hopmeshlaw29_AllocateNoSwing.f
  repeat' first
      | (with_reducible exact ih0 _ _ _ _ _ _ _)
      | (with_reducible exact ih1 _ _ _ _ _ _ _ _ _ _)
      | (with_reducible exact ih2 _ _ _ _ _ _ _ _ _)
      | (with_reducible exact allocate_Decide.mono _ _ _ _ _)
      | (with_reducible exact allocate_Settle.mono _ _ _ _ _)
      | (with_reducible exact hopmeshlaw29_awake.mono _)
      | (with_reducible exact hopmeshlaw29_cells.mono _ _ _)
      | (with_reducible exact LeO.refl _)
      | (with_reducible exact LeO.none _)
      | (with_reducible refine LeO.ite ?_ ?_)
      | (with_reducible refine LeO.bind ?_ (fun _ => ?_))
      | exact ih0 _ _ _ _ _ _ _
      | exact ih1 _ _ _ _ _ _ _ _ _ _
      | exact ih2 _ _ _ _ _ _ _ _ _
      | exact allocate_Decide.mono _ _ _ _ _
      | exact allocate_Settle.mono _ _ _ _ _
      | exact hopmeshlaw29_awake.mono _
      | exact hopmeshlaw29_cells.mono _ _ _
      | exact LeO.none _
      | refine LeO.ite ?_ ?_
      | refine LeO.bind ?_ (fun _ => ?_)
set_option maxHeartbeats 8000000 in
set_option maxRecDepth 100000 in
theorem hopmeshlaw29_AllocateNoSwing.calls (k : Nat) (a0 : Int) (a1 : Int) (a2 : Int) (a3 : Int) (r : Bool) (w : World) (h : hopmeshlaw29_AllocateNoSwing.f k a0 a1 a2 a3 = some r) :
    Calls Try.prog 5 #[.int .u8 a0, .int .u8 a1, .int .u8 a2, .int .u8 a3] w fun e w' => e = .returned (.bool r) ∧ Below w.heap.size w w' := by
  have HB := Aside0.mk (Below.refl w.heap.size w)
  have H : ((hopmeshlaw29_awake.f k).bind fun t249 => (if t249 = true then (if (wrap64 ((Int.tmod (wrap64 (a3)) 65) + 1)) = 0 then (none) else (hopmeshlaw29_AllocateNoSwing.l0 k a0 (Int.tmod (wrap64 (a3)) 65) (Int.tmod (wrap64 (a2)) (wrap64 ((Int.tmod (wrap64 (a3)) 65) + 1))) (Int.tmod (wrap64 (a0)) 65) (Int.tmod (wrap64 (a1)) 80) 0 0)) else (some false))) = some r := h
  clear h
  replace H := Option.bind_eq_some_iff.mp H
  obtain ⟨t249, A50, H⟩ := H
  replace H : (if t249 = true then (if (wrap64 ((Int.tmod (wrap64 (a3)) 65) + 1)) = 0 then (none) else (hopmeshlaw29_AllocateNoSwing.l0 k a0 (Int.tmod (wrap64 (a3)) 65) (Int.tmod (wrap64 (a2)) (wrap64 ((Int.tmod (wrap64 (a3)) 65) + 1))) (Int.tmod (wrap64 (a0)) 65) (Int.tmod (wrap64 (a1)) 80) 0 0)) else (some false)) = some r := H
  have A5 := Aside0.mk A50
  clear A50
  by_cases c6 : t249 = true
  · subst c6
    have H1 : (if (wrap64 ((Int.tmod (wrap64 (a3)) 65) + 1)) = 0 then (none) else (hopmeshlaw29_AllocateNoSwing.l0 k a0 (Int.tmod (wrap64 (a3)) 65) (Int.tmod (wrap64 (a2)) (wrap64 ((Int.tmod (wrap64 (a3)) 65) + 1))) (Int.tmod (wrap64 (a0)) 65) (Int.tmod (wrap64 (a1)) 80) 0 0)) = some r := by rw [if_pos rfl] at H; exact H
    clear H
    have H := H1
    clear H1
    by_cases c7 : (wrap64 ((Int.tmod (wrap64 (a3)) 65) + 1)) = 0
    · rw [if_pos c7] at H
      exact absurd H (by simp)
    · rw [if_neg c7] at H
      have c7b0 : ((wrap64 ((Int.tmod (wrap64 (a3)) 65) + 1)) == 0) = false := beq_eq_false_iff_ne.mpr c7
      have c7b1 : ((wrap64 ((Int.tmod (wrap64 (a3)) 65) + 1)) != 0) = true := bne_iff_ne.mpr c7
      have H' := Aside0.mk H
      clear H
      go_enter Try.func5, Try.ntmps5
      go_wp2_with (first | ((with_reducible refine gate_callee (f := 10) rfl ?_); refine goesL_ (some 19) rfl rfl Try.func10 (by kernel_rfl) rfl #[] rfl (by (try simp only [List.map_toArray, List.map_cons, List.map_nil]); first | done | rfl | (simp only [List.length_drop, List.length_take]; rfl)) ?_; (with_reducible refine (hopmeshlaw29_awake.calls k  true _ A5.out).mono ?_); rintro e w8 ⟨rfl, hb⟩; refine ⟨_, rfl, ?_⟩; have n0_ := Aside0.mk (below_step (by repeat (first | (with_reducible first | exact HB.out | apply below_alloc | apply pw_below_drewN | apply below_drew1) | exact HB.out)) hb); clear HB; have HB := n0_; clear n0_; (try clear hb); (try clear hb2); (try clear hk); (try clear hi)))
      go_loopg [11, 13, 35] k (fun kq v11 v13 v35 w' => ∃ (x11_1 : Int) (x13_1 : Int) (x35_1 : Int), v11 = .int .i64 x11_1 ∧ v13 = .int .i64 x13_1 ∧ v35 = .int .i64 x35_1 ∧ Aside0 (hopmeshlaw29_AllocateNoSwing.l0 kq a0 (Int.tmod (wrap64 (a3)) 65) (Int.tmod (wrap64 (a2)) (wrap64 ((Int.tmod (wrap64 (a3)) 65) + 1))) x11_1 (Int.tmod (wrap64 (a1)) 80) x13_1 x35_1 = some r) ∧ Aside0 (kq ≤ k) ∧ Aside0 (Below w.heap.size w w'))
      case atStart => exact ⟨(Int.tmod (wrap64 (a0)) 65), (0), (0), (by first | rfl | (simp; done) | (simp [*]; done)), (by first | rfl | (simp; done) | (simp [*]; done)), (by first | rfl | (simp; done) | (simp [*]; done)), H', ⟨Nat.le_refl _⟩, ⟨by repeat (first | (with_reducible first | exact HB.out | apply below_alloc | apply pw_below_drewN | apply below_drew1) | exact HB.out)⟩⟩
      case round =>
        clear H'
        try clear c1
        try clear p2
        try clear c5
        try clear c6
        try clear p6
        try clear c7
        try clear c7b0
        try clear c7b1
        obtain ⟨x11_1, x13_1, x35_1, rfl, rfl, rfl, HA, HK1, HB⟩ := hrel
        cases gk with
        | zero => exact absurd HA.out (by simp [hopmeshlaw29_AllocateNoSwing.l0])
        | succ k1 =>
          have H := HA.out
          clear HA
          simp only [hopmeshlaw29_AllocateNoSwing.l0] at H
          by_cases c9 : x35_1 < 70
          · rw [if_pos c9] at H
            have c9b0 : decide (x35_1 < 70) = true := decide_eq_true c9
            clear c9
            replace H := Option.bind_eq_some_iff.mp H
            obtain ⟨t250, A100, H⟩ := H
            replace H : ((allocate_Decide.f k1 t250 0 (Int.tmod (wrap64 (a2)) (wrap64 ((Int.tmod (wrap64 (a3)) 65) + 1))) (Int.tmod (wrap64 (a3)) 65)).bind fun bt253 => (if bt253.2.2 = 0 then (if bt253.1 = 1 then (hopmeshlaw29_AllocateNoSwing.j1 k1 a0 (Int.tmod (wrap64 (a3)) 65) (Int.tmod (wrap64 (a2)) (wrap64 ((Int.tmod (wrap64 (a3)) 65) + 1))) x11_1 (Int.tmod (wrap64 (a1)) 80) x13_1 bt253.1 bt253.2.1 x35_1 false) else (hopmeshlaw29_AllocateNoSwing.j1 k1 a0 (Int.tmod (wrap64 (a3)) 65) (Int.tmod (wrap64 (a2)) (wrap64 ((Int.tmod (wrap64 (a3)) 65) + 1))) x11_1 (Int.tmod (wrap64 (a1)) 80) x13_1 bt253.1 bt253.2.1 x35_1 (bt253.1 != 2))) else (some false))) = some r := H
            have A10 := Aside0.mk A100
            clear A100
            replace H := Option.bind_eq_some_iff.mp H
            obtain ⟨⟨t253, t254, t255⟩, A110, H⟩ := H
            replace H : (if t255 = 0 then (if t253 = 1 then (hopmeshlaw29_AllocateNoSwing.j1 k1 a0 (Int.tmod (wrap64 (a3)) 65) (Int.tmod (wrap64 (a2)) (wrap64 ((Int.tmod (wrap64 (a3)) 65) + 1))) x11_1 (Int.tmod (wrap64 (a1)) 80) x13_1 t253 t254 x35_1 false) else (hopmeshlaw29_AllocateNoSwing.j1 k1 a0 (Int.tmod (wrap64 (a3)) 65) (Int.tmod (wrap64 (a2)) (wrap64 ((Int.tmod (wrap64 (a3)) 65) + 1))) x11_1 (Int.tmod (wrap64 (a1)) 80) x13_1 t253 t254 x35_1 (t253 != 2))) else (some false)) = some r := H
            have A11 := Aside0.mk A110
            clear A110
            by_cases c12 : t255 = 0
            · rw [if_pos c12] at H
              have c12b0 : (t255 == 0) = true := beq_iff_eq.mpr c12
              have c12b1 : (t255 != 0) = false := bne_eq_false_iff_eq.mpr c12
              clear c12
              have HC13 := Aside0.mk H
              clear H
              go_upto_region 11 with (first | ((with_reducible refine gate_callee (f := 17) rfl ?_); refine goesL_ (some 40) rfl rfl Try.func17 (by kernel_rfl) rfl #[.int .i64 x11_1, .int .i64 (Int.tmod (wrap64 (a1)) 80)] rfl (by (try simp only [List.map_toArray, List.map_cons, List.map_nil]); first | done | rfl | (simp only [List.length_drop, List.length_take]; rfl)) ?_; (with_reducible refine (hopmeshlaw29_cells.calls k1 x11_1 (Int.tmod (wrap64 (a1)) 80) t250 _ A10.out).mono ?_); rintro e w14 ⟨v251, rfl, ho0, hb⟩; refine ⟨_, rfl, ?_⟩; have n0_ := Aside0.mk (Kd.R_lower ho0 (below_size (by repeat (first | (with_reducible first | exact HB.out | apply below_alloc | apply pw_below_drewN | apply below_drew1) | exact HB.out)))); have n1_ := Aside0.mk (below_step (by repeat (first | (with_reducible first | exact HB.out | apply below_alloc | apply pw_below_drewN | apply below_drew1) | exact HB.out)) hb); clear HB; have HO252 := n0_; have HB := n1_; clear n0_ n1_; (try clear hb); (try clear hb2); (try clear hk); (try clear hi); (try clear ho0); obtain ⟨Ao15, co15, eo15⟩ := Kd.R_slice HO252.out; subst eo15) | ((with_reducible refine gate_callee (f := 14) rfl ?_); refine goesL_ (some 43) rfl rfl Try.func14 (by kernel_rfl) rfl #[.slice Ao15 t250.length co15, .int .i64 0, .int .i64 (Int.tmod (wrap64 (a2)) (wrap64 ((Int.tmod (wrap64 (a3)) 65) + 1))), .int .i64 (Int.tmod (wrap64 (a3)) 65)] rfl (by (try simp only [List.map_toArray, List.map_cons, List.map_nil]); first | done | rfl | (simp only [List.length_drop, List.length_take]; rfl)) ?_; (with_reducible refine (allocate_Decide.calls k1 _ _ t250 0 (Int.tmod (wrap64 (a2)) (wrap64 ((Int.tmod (wrap64 (a3)) 65) + 1))) (Int.tmod (wrap64 (a3)) 65) t253 t254 t255 _ ?side1 ?side2 A11.out).mono ?_); (case side1 => repeat (first | exact (Kd.R_reads' HO252.out).2.2 | (with_reducible refine Kd.C_alloc ?_ _) | (with_reducible refine Kd.C_drewN ?_ _) | (with_reducible refine Kd.C_drew ?_))); (case side2 => exact (Kd.R_reads' HO252.out).2.1); rintro e w16 ⟨rfl, hb⟩; refine ⟨_, rfl, ?_⟩; have n0_ := Aside0.mk (Kd.R_below (by (with_reducible repeat (first | apply Kd.R_alloc | apply Kd.R_drewN | apply Kd.R_drew)); exact HO252.out) hb); have n1_ := Aside0.mk (below_step (by repeat (first | (with_reducible first | exact HB.out | apply below_alloc | apply pw_below_drewN | apply below_drew1) | exact HB.out)) hb); clear HO252; clear HB; have HO252 := n0_; have HB := n1_; clear n0_ n1_; (try clear hb); (try clear hb2); (try clear hk); (try clear hi)))
              (try simp only [Act.put, List.setIfInBounds_toArray, List.set_cons_zero, List.set_cons_succ])
              go_cut [54] (fun v54 wc => ∃ (kq : Nat) (x54_12 : Bool), v54 = .bool x54_12 ∧ Aside0 (hopmeshlaw29_AllocateNoSwing.j1 kq a0 (Int.tmod (wrap64 (a3)) 65) (Int.tmod (wrap64 (a2)) (wrap64 ((Int.tmod (wrap64 (a3)) 65) + 1))) x11_1 (Int.tmod (wrap64 (a1)) 80) x13_1 t253 t254 x35_1 x54_12 = some r) ∧ Aside0 (kq ≤ k1) ∧ Aside0 (Below w.heap.size w wc))
              case first =>
                have H := HC13.out
                clear HC13
                by_cases c17 : t253 = 1
                · rw [if_pos c17] at H
                  have c17b0 : (t253 == 1) = true := beq_iff_eq.mpr c17
                  have c17b1 : (t253 != 1) = false := bne_eq_false_iff_eq.mpr c17
                  clear c17
                  (first | rw [c17b0] | (simp only [i64_w, i32_w]; rw [c17b0]) | skip)
                  have H' := Aside0.mk H
                  clear H
                  go_wp2
                  go_meet
                  case rel => exact ⟨_, (false), (by first | rfl | (simp; done) | (simp [*]; done)), H', ⟨by have := HK1.out; first | omega | exact Nat.le_refl _⟩, ⟨by repeat (first | (with_reducible first | exact HB.out | apply below_alloc | apply pw_below_drewN | apply below_drew1) | exact HB.out)⟩⟩
                · rw [if_neg c17] at H
                  have c17b0 : (t253 == 1) = false := beq_eq_false_iff_ne.mpr c17
                  have c17b1 : (t253 != 1) = true := bne_iff_ne.mpr c17
                  (first | rw [c17b0] | (simp only [i64_w, i32_w]; rw [c17b0]) | skip)
                  have H' := Aside0.mk H
                  clear H
                  go_wp2
                  go_meet
                  case rel => exact ⟨_, ((t253 != 2)), (by first | rfl | (simp; done) | (simp [*]; done)), H', ⟨by have := HK1.out; first | omega | exact Nat.le_refl _⟩, ⟨by repeat (first | (with_reducible first | exact HB.out | apply below_alloc | apply pw_below_drewN | apply below_drew1) | exact HB.out)⟩⟩
              case rest =>
                clear HC13
                try clear c1
                try clear p2
                try clear c5
                try clear c6
                try clear p6
                try clear c7
                try clear c7b0
                try clear c7b1
                try clear c9
                try clear c9b0
                try clear c10
                try clear c12
                try clear c12b0
                try clear c12b1
                try clear c14
                try clear c17
                try clear c17b0
                try clear c17b1
                try clear p2
                try clear p6
                obtain ⟨kq, x54_12, rfl, HA, HJ12, HB⟩ := hcut
                cases kq with
                | zero => exact absurd HA.out (by simp [hopmeshlaw29_AllocateNoSwing.j1])
                | succ kj12 =>
                  have H := HA.out
                  clear HA
                  simp only [hopmeshlaw29_AllocateNoSwing.j1] at H
                  by_cases c18 : x54_12 = true
                  · subst c18
                    have H1 : ((allocate_Settle.f kj12 (Int.tmod (wrap64 (a0)) 65) (Int.tmod (wrap64 (a1)) 80) (Int.tmod (wrap64 (a2)) (wrap64 ((Int.tmod (wrap64 (a3)) 65) + 1))) (Int.tmod (wrap64 (a3)) 65)).bind fun bt256 => (if bt256.2 = 0 then (some (bt256.1 == x11_1)) else (some false))) = some r := by rw [if_pos rfl] at H; exact H
                    clear H
                    have H := H1
                    clear H1
                    replace H := Option.bind_eq_some_iff.mp H
                    obtain ⟨⟨t256, t257⟩, A190, H⟩ := H
                    replace H : (if t257 = 0 then (some (t256 == x11_1)) else (some false)) = some r := H
                    have A19 := Aside0.mk A190
                    clear A190
                    by_cases c20 : t257 = 0
                    · rw [if_pos c20] at H
                      have c20b0 : (t257 == 0) = true := beq_iff_eq.mpr c20
                      have c20b1 : (t257 != 0) = false := bne_eq_false_iff_eq.mpr c20
                      clear c20
                      obtain rfl := Option.some.inj H
                      go_wp2_with (first | ((with_reducible refine gate_callee (f := 16) rfl ?_); refine goesL_ (some 62) rfl rfl Try.func16 (by kernel_rfl) rfl #[.int .i64 (Int.tmod (wrap64 (a0)) 65), .int .i64 (Int.tmod (wrap64 (a1)) 80), .int .i64 (Int.tmod (wrap64 (a2)) (wrap64 ((Int.tmod (wrap64 (a3)) 65) + 1))), .int .i64 (Int.tmod (wrap64 (a3)) 65)] rfl (by (try simp only [List.map_toArray, List.map_cons, List.map_nil]); first | done | rfl | (simp only [List.length_drop, List.length_take]; rfl)) ?_; (with_reducible refine (allocate_Settle.calls kj12 (Int.tmod (wrap64 (a0)) 65) (Int.tmod (wrap64 (a1)) 80) (Int.tmod (wrap64 (a2)) (wrap64 ((Int.tmod (wrap64 (a3)) 65) + 1))) (Int.tmod (wrap64 (a3)) 65) t256 t257 _ A19.out).mono ?_); rintro e w21 ⟨rfl, hb⟩; refine ⟨_, rfl, ?_⟩; have n0_ := Aside0.mk (below_step (by repeat (first | (with_reducible first | exact HB.out | apply below_alloc | apply pw_below_drewN | apply below_drew1) | exact HB.out)) hb); clear HB; have HB := n0_; clear n0_; (try clear hb); (try clear hb2); (try clear hk); (try clear hi)))
                      go_ret
                      exact ⟨by first | rfl | (simp [errW_none, errW_some] <;> rfl) | (simp [*, errW_none, errW_some] <;> rfl), by repeat (first | (with_reducible first | exact HB.out | apply below_alloc | apply pw_below_drewN | apply below_drew1) | exact HB.out)⟩
                    · rw [if_neg c20] at H
                      have c20b0 : (t257 == 0) = false := beq_eq_false_iff_ne.mpr c20
                      have c20b1 : (t257 != 0) = true := bne_iff_ne.mpr c20
                      obtain rfl := Option.some.inj H
                      go_wp2_with (first | ((with_reducible refine gate_callee (f := 16) rfl ?_); refine goesL_ (some 62) rfl rfl Try.func16 (by kernel_rfl) rfl #[.int .i64 (Int.tmod (wrap64 (a0)) 65), .int .i64 (Int.tmod (wrap64 (a1)) 80), .int .i64 (Int.tmod (wrap64 (a2)) (wrap64 ((Int.tmod (wrap64 (a3)) 65) + 1))), .int .i64 (Int.tmod (wrap64 (a3)) 65)] rfl (by (try simp only [List.map_toArray, List.map_cons, List.map_nil]); first | done | rfl | (simp only [List.length_drop, List.length_take]; rfl)) ?_; (with_reducible refine (allocate_Settle.calls kj12 (Int.tmod (wrap64 (a0)) 65) (Int.tmod (wrap64 (a1)) 80) (Int.tmod (wrap64 (a2)) (wrap64 ((Int.tmod (wrap64 (a3)) 65) + 1))) (Int.tmod (wrap64 (a3)) 65) t256 t257 _ A19.out).mono ?_); rintro e w22 ⟨rfl, hb⟩; refine ⟨_, rfl, ?_⟩; have n0_ := Aside0.mk (below_step (by repeat (first | (with_reducible first | exact HB.out | apply below_alloc | apply pw_below_drewN | apply below_drew1) | exact HB.out)) hb); clear HB; have HB := n0_; clear n0_; (try clear hb); (try clear hb2); (try clear hk); (try clear hi)))
                      go_ret
                      exact ⟨by first | rfl | (simp [errW_none, errW_some] <;> rfl) | (simp [*, errW_none, errW_some] <;> rfl), by repeat (first | (with_reducible first | exact HB.out | apply below_alloc | apply pw_below_drewN | apply below_drew1) | exact HB.out)⟩
                  · replace c18 := Bool.eq_false_iff.mpr c18
                    subst c18
                    have H1 : (if t254 < 1 then (hopmeshlaw29_AllocateNoSwing.j2 kj12 a0 (Int.tmod (wrap64 (a3)) 65) (Int.tmod (wrap64 (a2)) (wrap64 ((Int.tmod (wrap64 (a3)) 65) + 1))) x11_1 (Int.tmod (wrap64 (a1)) 80) t253 t254 x35_1 true) else (if t254 > 8 then (hopmeshlaw29_AllocateNoSwing.j2 kj12 a0 (Int.tmod (wrap64 (a3)) 65) (Int.tmod (wrap64 (a2)) (wrap64 ((Int.tmod (wrap64 (a3)) 65) + 1))) x11_1 (Int.tmod (wrap64 (a1)) 80) t253 t254 x35_1 true) else (if x13_1 = 0 then (hopmeshlaw29_AllocateNoSwing.j2 kj12 a0 (Int.tmod (wrap64 (a3)) 65) (Int.tmod (wrap64 (a2)) (wrap64 ((Int.tmod (wrap64 (a3)) 65) + 1))) x11_1 (Int.tmod (wrap64 (a1)) 80) t253 t254 x35_1 false) else (hopmeshlaw29_AllocateNoSwing.j2 kj12 a0 (Int.tmod (wrap64 (a3)) 65) (Int.tmod (wrap64 (a2)) (wrap64 ((Int.tmod (wrap64 (a3)) 65) + 1))) x11_1 (Int.tmod (wrap64 (a1)) 80) t253 t254 x35_1 (x13_1 != t253))))) = some r := by rw [if_neg (show ¬ (false = true) by decide)] at H; exact H
                    clear H
                    have H := H1
                    clear H1
                    have HC23 := Aside0.mk H
                    clear H
                    go_upto_region 14 with (fail)
                    go_cut [86] (fun v86 wc => ∃ (kq : Nat) (x86_22 : Bool), v86 = .bool x86_22 ∧ Aside0 (hopmeshlaw29_AllocateNoSwing.j2 kq a0 (Int.tmod (wrap64 (a3)) 65) (Int.tmod (wrap64 (a2)) (wrap64 ((Int.tmod (wrap64 (a3)) 65) + 1))) x11_1 (Int.tmod (wrap64 (a1)) 80) t253 t254 x35_1 x86_22 = some r) ∧ Aside0 (kq ≤ kj12) ∧ Aside0 (Below w.heap.size w wc))
                    case first =>
                      have H := HC23.out
                      clear HC23
                      by_cases c24 : t254 < 1
                      · rw [if_pos c24] at H
                        have c24b0 : decide (t254 < 1) = true := decide_eq_true c24
                        clear c24
                        (first | rw [c24b0] | (simp only [i64_w, i32_w]; rw [c24b0]) | skip)
                        have H' := Aside0.mk H
                        clear H
                        go_wp2
                        go_meet
                        case rel => exact ⟨_, (true), (by first | rfl | (simp; done) | (simp [*]; done)), H', ⟨by have := HK1.out; have := HJ12.out; first | omega | exact Nat.le_refl _⟩, ⟨by repeat (first | (with_reducible first | exact HB.out | apply below_alloc | apply pw_below_drewN | apply below_drew1) | exact HB.out)⟩⟩
                      · rw [if_neg c24] at H
                        have c24b0 : decide (t254 < 1) = false := decide_eq_false c24
                        clear c24
                        (first | rw [c24b0] | (simp only [i64_w, i32_w]; rw [c24b0]) | skip)
                        by_cases c25 : t254 > 8
                        · rw [if_pos c25] at H
                          have c25b0 : decide (8 < t254) = true := decide_eq_true c25
                          clear c25
                          have H' := Aside0.mk H
                          clear H
                          go_wp2
                          go_meet
                          case rel => exact ⟨_, (true), (by first | rfl | (simp; done) | (simp [*]; done)), H', ⟨by have := HK1.out; have := HJ12.out; first | omega | exact Nat.le_refl _⟩, ⟨by repeat (first | (with_reducible first | exact HB.out | apply below_alloc | apply pw_below_drewN | apply below_drew1) | exact HB.out)⟩⟩
                        · rw [if_neg c25] at H
                          have c25b0 : decide (8 < t254) = false := decide_eq_false c25
                          clear c25
                          by_cases c26 : x13_1 = 0
                          · rw [if_pos c26] at H
                            have c26b0 : (x13_1 == 0) = true := beq_iff_eq.mpr c26
                            have c26b1 : (x13_1 != 0) = false := bne_eq_false_iff_eq.mpr c26
                            clear c26
                            have H' := Aside0.mk H
                            clear H
                            go_wp2
                            go_meet
                            case rel => exact ⟨_, (false), (by first | rfl | (simp; done) | (simp [*]; done)), H', ⟨by have := HK1.out; have := HJ12.out; first | omega | exact Nat.le_refl _⟩, ⟨by repeat (first | (with_reducible first | exact HB.out | apply below_alloc | apply pw_below_drewN | apply below_drew1) | exact HB.out)⟩⟩
                          · rw [if_neg c26] at H
                            have c26b0 : (x13_1 == 0) = false := beq_eq_false_iff_ne.mpr c26
                            have c26b1 : (x13_1 != 0) = true := bne_iff_ne.mpr c26
                            have H' := Aside0.mk H
                            clear H
                            go_wp2
                            go_meet
                            case rel => exact ⟨_, ((x13_1 != t253)), (by first | rfl | (simp; done) | (simp [*]; done)), H', ⟨by have := HK1.out; have := HJ12.out; first | omega | exact Nat.le_refl _⟩, ⟨by repeat (first | (with_reducible first | exact HB.out | apply below_alloc | apply pw_below_drewN | apply below_drew1) | exact HB.out)⟩⟩
                    case rest =>
                      clear HC23
                      try clear c1
                      try clear c2
                      try clear p2
                      try clear c5
                      try clear c6
                      try clear p6
                      try clear c7
                      try clear c7b0
                      try clear c7b1
                      try clear c9
                      try clear c9b0
                      try clear c10
                      try clear c12
                      try clear c12b0
                      try clear c12b1
                      try clear c14
                      try clear c16
                      try clear c17
                      try clear c17b0
                      try clear c17b1
                      try clear c18
                      try clear c20
                      try clear c20b0
                      try clear c20b1
                      try clear c24
                      try clear c24b0
                      try clear c25
                      try clear c25b0
                      try clear c26
                      try clear c26b0
                      try clear c26b1
                      try clear p2
                      try clear p6
                      obtain ⟨kq, x86_22, rfl, HA, HJ22, HB⟩ := hcut
                      cases kq with
                      | zero => exact absurd HA.out (by simp [hopmeshlaw29_AllocateNoSwing.j2])
                      | succ kj22 =>
                        have H := HA.out
                        clear HA
                        simp only [hopmeshlaw29_AllocateNoSwing.j2] at H
                        by_cases c27 : x86_22 = true
                        · subst c27
                          have H1 : (some false) = some r := by rw [if_pos rfl] at H; exact H
                          clear H
                          have H := H1
                          clear H1
                          obtain rfl := Option.some.inj H
                          go_wp2
                          go_ret
                          exact ⟨by first | rfl | (simp [errW_none, errW_some] <;> rfl) | (simp [*, errW_none, errW_some] <;> rfl), by repeat (first | (with_reducible first | exact HB.out | apply below_alloc | apply pw_below_drewN | apply below_drew1) | exact HB.out)⟩
                        · replace c27 := Bool.eq_false_iff.mpr c27
                          subst c27
                          have H1 : (if t253 = 1 then (if (wrap64 (x11_1 + t254)) < 0 then (some false) else (if (wrap64 (x11_1 + t254)) > 64 then (some false) else (hopmeshlaw29_AllocateNoSwing.l0 kj22 a0 (Int.tmod (wrap64 (a3)) 65) (Int.tmod (wrap64 (a2)) (wrap64 ((Int.tmod (wrap64 (a3)) 65) + 1))) (wrap64 (x11_1 + t254)) (Int.tmod (wrap64 (a1)) 80) t253 (wrap64 (x35_1 + 1))))) else (if (wrap64 (x11_1 - t254)) < 0 then (some false) else (if (wrap64 (x11_1 - t254)) > 64 then (some false) else (hopmeshlaw29_AllocateNoSwing.l0 kj22 a0 (Int.tmod (wrap64 (a3)) 65) (Int.tmod (wrap64 (a2)) (wrap64 ((Int.tmod (wrap64 (a3)) 65) + 1))) (wrap64 (x11_1 - t254)) (Int.tmod (wrap64 (a1)) 80) t253 (wrap64 (x35_1 + 1)))))) = some r := by rw [if_neg (show ¬ (false = true) by decide)] at H; exact H
                          clear H
                          have H := H1
                          clear H1
                          by_cases c28 : t253 = 1
                          · rw [if_pos c28] at H
                            have c28b0 : (t253 == 1) = true := beq_iff_eq.mpr c28
                            have c28b1 : (t253 != 1) = false := bne_eq_false_iff_eq.mpr c28
                            clear c28
                            by_cases c29 : (wrap64 (x11_1 + t254)) < 0
                            · rw [if_pos c29] at H
                              have c29b0 : decide ((wrap64 (x11_1 + t254)) < 0) = true := decide_eq_true c29
                              clear c29
                              obtain rfl := Option.some.inj H
                              go_wp2
                              go_ret
                              exact ⟨by first | rfl | (simp [errW_none, errW_some] <;> rfl) | (simp [*, errW_none, errW_some] <;> rfl), by repeat (first | (with_reducible first | exact HB.out | apply below_alloc | apply pw_below_drewN | apply below_drew1) | exact HB.out)⟩
                            · rw [if_neg c29] at H
                              have c29b0 : decide ((wrap64 (x11_1 + t254)) < 0) = false := decide_eq_false c29
                              clear c29
                              by_cases c30 : (wrap64 (x11_1 + t254)) > 64
                              · rw [if_pos c30] at H
                                have c30b0 : decide (64 < (wrap64 (x11_1 + t254))) = true := decide_eq_true c30
                                clear c30
                                obtain rfl := Option.some.inj H
                                go_wp2
                                go_ret
                                exact ⟨by first | rfl | (simp [errW_none, errW_some] <;> rfl) | (simp [*, errW_none, errW_some] <;> rfl), by repeat (first | (with_reducible first | exact HB.out | apply below_alloc | apply pw_below_drewN | apply below_drew1) | exact HB.out)⟩
                              · rw [if_neg c30] at H
                                have c30b0 : decide (64 < (wrap64 (x11_1 + t254))) = false := decide_eq_false c30
                                clear c30
                                have H' := Aside0.mk H
                                clear H
                                go_wp2
                                go_roundg kj22
                                case measure => have := HK1.out; have := HJ12.out; have := HJ22.out; omega
                                case rel => exact ⟨(wrap64 (x11_1 + t254)), (t253), (wrap64 (x35_1 + 1)), (by first | rfl | (simp; done) | (simp [*]; done)), (by first | rfl | (simp; done) | (simp [*]; done)), (by first | rfl | (simp; done) | (simp [*]; done)), H', ⟨by have := HK1.out; have := HJ12.out; have := HJ22.out; omega⟩, ⟨by repeat (first | (with_reducible first | exact HB.out | apply below_alloc | apply pw_below_drewN | apply below_drew1) | exact HB.out)⟩⟩
                          · rw [if_neg c28] at H
                            have c28b0 : (t253 == 1) = false := beq_eq_false_iff_ne.mpr c28
                            have c28b1 : (t253 != 1) = true := bne_iff_ne.mpr c28
                            by_cases c31 : (wrap64 (x11_1 - t254)) < 0
                            · rw [if_pos c31] at H
                              have c31b0 : decide ((wrap64 (x11_1 - t254)) < 0) = true := decide_eq_true c31
                              clear c31
                              obtain rfl := Option.some.inj H
                              go_wp2
                              go_ret
                              exact ⟨by first | rfl | (simp [errW_none, errW_some] <;> rfl) | (simp [*, errW_none, errW_some] <;> rfl), by repeat (first | (with_reducible first | exact HB.out | apply below_alloc | apply pw_below_drewN | apply below_drew1) | exact HB.out)⟩
                            · rw [if_neg c31] at H
                              have c31b0 : decide ((wrap64 (x11_1 - t254)) < 0) = false := decide_eq_false c31
                              clear c31
                              by_cases c32 : (wrap64 (x11_1 - t254)) > 64
                              · rw [if_pos c32] at H
                                have c32b0 : decide (64 < (wrap64 (x11_1 - t254))) = true := decide_eq_true c32
                                clear c32
                                obtain rfl := Option.some.inj H
                                go_wp2
                                go_ret
                                exact ⟨by first | rfl | (simp [errW_none, errW_some] <;> rfl) | (simp [*, errW_none, errW_some] <;> rfl), by repeat (first | (with_reducible first | exact HB.out | apply below_alloc | apply pw_below_drewN | apply below_drew1) | exact HB.out)⟩
                              · rw [if_neg c32] at H
                                have c32b0 : decide (64 < (wrap64 (x11_1 - t254))) = false := decide_eq_false c32
                                clear c32
                                have H' := Aside0.mk H
                                clear H
                                go_wp2
                                go_roundg kj22
                                case measure => have := HK1.out; have := HJ12.out; have := HJ22.out; omega
                                case rel => exact ⟨(wrap64 (x11_1 - t254)), (t253), (wrap64 (x35_1 + 1)), (by first | rfl | (simp; done) | (simp [*]; done)), (by first | rfl | (simp; done) | (simp [*]; done)), (by first | rfl | (simp; done) | (simp [*]; done)), H', ⟨by have := HK1.out; have := HJ12.out; have := HJ22.out; omega⟩, ⟨by repeat (first | (with_reducible first | exact HB.out | apply below_alloc | apply pw_below_drewN | apply below_drew1) | exact HB.out)⟩⟩
            · rw [if_neg c12] at H
              have c12b0 : (t255 == 0) = false := beq_eq_false_iff_ne.mpr c12
              have c12b1 : (t255 != 0) = true := bne_iff_ne.mpr c12
              obtain rfl := Option.some.inj H
              go_wp2_with (first | ((with_reducible refine gate_callee (f := 17) rfl ?_); refine goesL_ (some 40) rfl rfl Try.func17 (by kernel_rfl) rfl #[.int .i64 x11_1, .int .i64 (Int.tmod (wrap64 (a1)) 80)] rfl (by (try simp only [List.map_toArray, List.map_cons, List.map_nil]); first | done | rfl | (simp only [List.length_drop, List.length_take]; rfl)) ?_; (with_reducible refine (hopmeshlaw29_cells.calls k1 x11_1 (Int.tmod (wrap64 (a1)) 80) t250 _ A10.out).mono ?_); rintro e w33 ⟨v251, rfl, ho0, hb⟩; refine ⟨_, rfl, ?_⟩; have n0_ := Aside0.mk (Kd.R_lower ho0 (below_size (by repeat (first | (with_reducible first | exact HB.out | apply below_alloc | apply pw_below_drewN | apply below_drew1) | exact HB.out)))); have n1_ := Aside0.mk (below_step (by repeat (first | (with_reducible first | exact HB.out | apply below_alloc | apply pw_below_drewN | apply below_drew1) | exact HB.out)) hb); clear HB; have HO252 := n0_; have HB := n1_; clear n0_ n1_; (try clear hb); (try clear hb2); (try clear hk); (try clear hi); (try clear ho0); obtain ⟨Ao34, co34, eo34⟩ := Kd.R_slice HO252.out; subst eo34) | ((with_reducible refine gate_callee (f := 14) rfl ?_); refine goesL_ (some 43) rfl rfl Try.func14 (by kernel_rfl) rfl #[.slice Ao34 t250.length co34, .int .i64 0, .int .i64 (Int.tmod (wrap64 (a2)) (wrap64 ((Int.tmod (wrap64 (a3)) 65) + 1))), .int .i64 (Int.tmod (wrap64 (a3)) 65)] rfl (by (try simp only [List.map_toArray, List.map_cons, List.map_nil]); first | done | rfl | (simp only [List.length_drop, List.length_take]; rfl)) ?_; (with_reducible refine (allocate_Decide.calls k1 _ _ t250 0 (Int.tmod (wrap64 (a2)) (wrap64 ((Int.tmod (wrap64 (a3)) 65) + 1))) (Int.tmod (wrap64 (a3)) 65) t253 t254 t255 _ ?side1 ?side2 A11.out).mono ?_); (case side1 => repeat (first | exact (Kd.R_reads' HO252.out).2.2 | (with_reducible refine Kd.C_alloc ?_ _) | (with_reducible refine Kd.C_drewN ?_ _) | (with_reducible refine Kd.C_drew ?_))); (case side2 => exact (Kd.R_reads' HO252.out).2.1); rintro e w35 ⟨rfl, hb⟩; refine ⟨_, rfl, ?_⟩; have n0_ := Aside0.mk (Kd.R_below (by (with_reducible repeat (first | apply Kd.R_alloc | apply Kd.R_drewN | apply Kd.R_drew)); exact HO252.out) hb); have n1_ := Aside0.mk (below_step (by repeat (first | (with_reducible first | exact HB.out | apply below_alloc | apply pw_below_drewN | apply below_drew1) | exact HB.out)) hb); clear HO252; clear HB; have HO252 := n0_; have HB := n1_; clear n0_ n1_; (try clear hb); (try clear hb2); (try clear hk); (try clear hi)))
              go_ret
              exact ⟨by first | rfl | (simp [errW_none, errW_some] <;> rfl) | (simp [*, errW_none, errW_some] <;> rfl), by repeat (first | (with_reducible first | exact HB.out | apply below_alloc | apply pw_below_drewN | apply below_drew1) | exact HB.out)⟩
          · rw [if_neg c9] at H
            have c9b0 : decide (x35_1 < 70) = false := decide_eq_false c9
            clear c9
            obtain rfl := Option.some.inj H
            go_wp2
            go_ret
            exact ⟨by first | rfl | (simp [errW_none, errW_some] <;> rfl) | (simp [*, errW_none, errW_some] <;> rfl), by repeat (first | (with_reducible first | exact HB.out | apply below_alloc | apply pw_below_drewN | apply below_drew1) | exact HB.out)⟩
  · replace c6 := Bool.eq_false_iff.mpr c6
    subst c6
    have H1 : (some false) = some r := by rw [if_neg (show ¬ (false = true) by decide)] at H; exact H
    clear H
    have H := H1
    clear H1
    obtain rfl := Option.some.inj H
    go_enter Try.func5, Try.ntmps5
    go_wp2_with (first | ((with_reducible refine gate_callee (f := 10) rfl ?_); refine goesL_ (some 19) rfl rfl Try.func10 (by kernel_rfl) rfl #[] rfl (by (try simp only [List.map_toArray, List.map_cons, List.map_nil]); first | done | rfl | (simp only [List.length_drop, List.length_take]; rfl)) ?_; (with_reducible refine (hopmeshlaw29_awake.calls k  false _ A5.out).mono ?_); rintro e w36 ⟨rfl, hb⟩; refine ⟨_, rfl, ?_⟩; have n0_ := Aside0.mk (below_step (by repeat (first | (with_reducible first | exact HB.out | apply below_alloc | apply pw_below_drewN | apply below_drew1) | exact HB.out)) hb); clear HB; have HB := n0_; clear n0_; (try clear hb); (try clear hb2); (try clear hk); (try clear hi)))
    go_ret
    exact ⟨by first | rfl | (simp [errW_none, errW_some] <;> rfl) | (simp [*, errW_none, errW_some] <;> rfl), by repeat (first | (with_reducible first | exact HB.out | apply below_alloc | apply pw_below_drewN | apply below_drew1) | exact HB.out)⟩

/-- THE ONE PURE STATEMENT of hopmeshlaw29_AllocateNoSwing: yours. -/
def hopmeshlaw29_AllocateNoSwing.Pure : Prop := ∀ (a0 : Int) (a1 : Int) (a2 : Int) (a3 : Int), (Lit.int .u8 a0).wf = true → (Lit.int .u8 a1).wf = true → (Lit.int .u8 a2).wf = true → (Lit.int .u8 a3).wf = true → ∃ k, hopmeshlaw29_AllocateNoSwing.f k a0 a1 a2 a3 = some true
theorem hopmeshlaw29_AllocateNoSwing.walk (P : hopmeshlaw29_AllocateNoSwing.Pure) (a0 : Int) (a1 : Int) (a2 : Int) (a3 : Int) (w : World) (w0 : (Lit.int .u8 a0).wf = true) (w1 : (Lit.int .u8 a1).wf = true) (w2 : (Lit.int .u8 a2).wf = true) (w3 : (Lit.int .u8 a3).wf = true) :
    Calls Try.prog 5 #[.int .u8 a0, .int .u8 a1, .int .u8 a2, .int .u8 a3] w fun e w' => e = .returned (.bool true) ∧ Below w.heap.size w w' := by
  obtain ⟨k, h⟩ := P a0 a1 a2 a3 w0 w1 w2 w3
  refine (hopmeshlaw29_AllocateNoSwing.calls k a0 a1 a2 a3 true w h).mono ?_
  rintro e w' ⟨rfl, hd⟩
  exact ⟨rfl, hd⟩

end Go.Proofs.Ytfbekkmmafkmpaa.PX
