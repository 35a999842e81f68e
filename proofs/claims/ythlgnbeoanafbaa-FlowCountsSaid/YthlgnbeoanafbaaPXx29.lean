-- Written by wip/xprint.py, a program of this claim's own, over the kit's print program. Lean checks it.
import Derived.Test.YthlgnbeoanafbaaPXx0
import Derived.Test.YthlgnbeoanafbaaPXx7
import Derived.Test.YthlgnbeoanafbaaPXx13
import Derived.Test.YthlgnbeoanafbaaPXx14
import Derived.Test.YthlgnbeoanafbaaPXx28
namespace Go.Proofs.Ythlgnbeoanafbaa.PX
open Go.RowKit Go.Proofs.YthlgnbeoanafbaaW.PrintWords Go.Proofs.YthlgnbeoanafbaaW.PrintLast Go.Proofs.YthlgnbeoanafbaaW.PrintMore
attribute [local go_sem] max2_int min2_int max_two min_two max_three min_three max_four min_four   -- for this text's walks alone
set_option linter.unusedVariables false
set_option linter.unusedSimpArgs false

/-! ### hopmeshlaw32_FlowCounts: function 7 -/
mutual
def hopmeshlaw32_FlowCounts.j0 : Nat → List (S23) → Int → Int → Bool → Option (Bool)
  | 0, _, _, _, _ => none
  | k + 1, x0, x1, x5, x44 => if x44 = true then (some false) else (hopmeshlaw32_FlowCounts.l0 k x1 x5 x0 (x0.length : Int) 0)
def hopmeshlaw32_FlowCounts.l0 : Nat → Int → Int → List (S23) → Int → Int → Option (Bool)
  | 0, _, _, _, _, _ => none
  | k + 1, x1, x5, x45, x46, x47 => if x47 < x46 then (if 0 ≤ x47 then (if x47 < (x45.length : Int) then ((flow_Frames.f ((rd_T23 x45 x47).f0) ((rd_T23 x45 x47).f1) ((rd_T23 x45 x47).f2) ((rd_T23 x45 x47).f3) ((rd_T23 x45 x47).f4) ((rd_T23 x45 x47).f5) (wrap64 (((rd_T23 x45 x47).f4) + (wrap64 (x1)))) (wrap64 ((wrap64 (((rd_T23 x45 x47).f4) + (wrap64 (x1)))) + x5))).bind fun bt200 => (if ((rd_T23 x45 x47).f3) = 0 then (none) else (if (Int.tmod x5 ((rd_T23 x45 x47).f3)) = 0 then (if bt200.2 = 0 then (hopmeshlaw32_FlowCounts.j2 k x1 x5 (wrap64 (((rd_T23 x45 x47).f4) + (wrap64 (x1)))) bt200.1 x45 x46 x47 ((bt200.1.length : Int) != (wrap64 (Int.tdiv x5 ((rd_T23 x45 x47).f3)))) ((rd_T23 x45 x47).f0) ((rd_T23 x45 x47).f1) ((rd_T23 x45 x47).f2) ((rd_T23 x45 x47).f3) ((rd_T23 x45 x47).f4) ((rd_T23 x45 x47).f5)) else (hopmeshlaw32_FlowCounts.j2 k x1 x5 (wrap64 (((rd_T23 x45 x47).f4) + (wrap64 (x1)))) bt200.1 x45 x46 x47 true ((rd_T23 x45 x47).f0) ((rd_T23 x45 x47).f1) ((rd_T23 x45 x47).f2) ((rd_T23 x45 x47).f3) ((rd_T23 x45 x47).f4) ((rd_T23 x45 x47).f5))) else (hopmeshlaw32_FlowCounts.j2 k x1 x5 (wrap64 (((rd_T23 x45 x47).f4) + (wrap64 (x1)))) bt200.1 x45 x46 x47 true ((rd_T23 x45 x47).f0) ((rd_T23 x45 x47).f1) ((rd_T23 x45 x47).f2) ((rd_T23 x45 x47).f3) ((rd_T23 x45 x47).f4) ((rd_T23 x45 x47).f5))))) else (none)) else (none)) else (some true)
def hopmeshlaw32_FlowCounts.j2 : Nat → Int → Int → Int → List Int → List (S23) → Int → Int → Bool → Int → Int → Int → Int → Int → Int → Option (Bool)
  | 0, _, _, _, _, _, _, _, _, _, _, _, _, _, _ => none
  | k + 1, x1, x5, x9, x10, x45, x46, x47, x82, x200000, x200001, x200002, x200003, x200004, x200005 => if x82 = true then (some false) else (hopmeshlaw32_FlowCounts.l1 k x1 x5 x9 x45 x46 x47 x10 (x10.length : Int) 0 x200000 x200001 x200002 x200003 x200004 x200005)
def hopmeshlaw32_FlowCounts.l1 : Nat → Int → Int → Int → List (S23) → Int → Int → List Int → Int → Int → Int → Int → Int → Int → Int → Int → Option (Bool)
  | 0, _, _, _, _, _, _, _, _, _, _, _, _, _, _, _ => none
  | k + 1, x1, x5, x9, x45, x46, x47, x83, x84, x85, x200000, x200001, x200002, x200003, x200004, x200005 => if x85 < x84 then (if 0 ≤ x85 then (if x85 < (x83.length : Int) then ((flow_Window.f x200000 x200001 x200002 x200003 x200004 x200005 (rd x83 x85)).bind fun bt205 => (if bt205.2.2 = 0 then (if bt205.1 < x9 then (some false) else (if bt205.1 ≥ (wrap64 (x9 + x5)) then (some false) else (hopmeshlaw32_FlowCounts.l1 k x1 x5 x9 x45 x46 x47 x83 x84 (wrap64 (x85 + 1)) x200000 x200001 x200002 x200003 x200004 x200005))) else (some false))) else (none)) else (none)) else (hopmeshlaw32_FlowCounts.l0 k x1 x5 x45 x46 (wrap64 (x47 + 1)))
end
def hopmeshlaw32_FlowCounts.f (k : Nat) (l0 : List (S23)) (a1 : Int) : Option (Bool) := (hopmeshlaw32_awake.f k).bind fun t195 => (if t195 = true then (if (l0.length : Int) > 16 then (some true) else ((flow_Hyper.f k l0).bind fun bt196 => (if bt196.2 = 0 then (if bt196.1 < 1 then (hopmeshlaw32_FlowCounts.j0 k l0 a1 bt196.1 true) else (hopmeshlaw32_FlowCounts.j0 k l0 a1 bt196.1 (decide (bt196.1 > 512)))) else (if bt196.1 = 0 then (if bt196.2 = 1 then (some true) else (some (bt196.2 == 21))) else (some false))))) else (some false))
theorem hopmeshlaw32_FlowCounts.mono_l : ∀ k, (∀ y0 y1 y2 y3, LeO (hopmeshlaw32_FlowCounts.j0 k y0 y1 y2 y3) (hopmeshlaw32_FlowCounts.j0 (k + 1) y0 y1 y2 y3)) ∧ (∀ y0 y1 y2 y3 y4, LeO (hopmeshlaw32_FlowCounts.l0 k y0 y1 y2 y3 y4) (hopmeshlaw32_FlowCounts.l0 (k + 1) y0 y1 y2 y3 y4)) ∧ (∀ y0 y1 y2 y3 y4 y5 y6 y7 y8 y9 y10 y11 y12 y13, LeO (hopmeshlaw32_FlowCounts.j2 k y0 y1 y2 y3 y4 y5 y6 y7 y8 y9 y10 y11 y12 y13) (hopmeshlaw32_FlowCounts.j2 (k + 1) y0 y1 y2 y3 y4 y5 y6 y7 y8 y9 y10 y11 y12 y13)) ∧ (∀ y0 y1 y2 y3 y4 y5 y6 y7 y8 y9 y10 y11 y12 y13 y14, LeO (hopmeshlaw32_FlowCounts.l1 k y0 y1 y2 y3 y4 y5 y6 y7 y8 y9 y10 y11 y12 y13 y14) (hopmeshlaw32_FlowCounts.l1 (k + 1) y0 y1 y2 y3 y4 y5 y6 y7 y8 y9 y10 y11 y12 y13 y14))
  | 0 => ⟨fun _ _ _ _ r h => by simp [hopmeshlaw32_FlowCounts.j0] at h, fun _ _ _ _ _ r h => by simp [hopmeshlaw32_FlowCounts.l0] at h, fun _ _ _ _ _ _ _ _ _ _ _ _ _ _ r h => by simp [hopmeshlaw32_FlowCounts.j2] at h, fun _ _ _ _ _ _ _ _ _ _ _ _ _ _ _ r h => by simp [hopmeshlaw32_FlowCounts.l1] at h⟩
  | k + 1 => by
    obtain ⟨ih0, ih1, ih2, ih3⟩ := hopmeshlaw32_FlowCounts.mono_l k
    refine ⟨?_, ?_, ?_, ?_⟩
    · intro y0 y1 y2 y3
      unfold hopmeshlaw32_FlowCounts.j0
      repeat' first
      | (with_reducible exact ih0 _ _ _ _)
      | (with_reducible exact ih1 _ _ _ _ _)
      | (with_reducible exact ih2 _ _ _ _ _ _ _ _ _ _ _ _ _ _)
      | (with_reducible exact ih3 _ _ _ _ _ _ _ _ _ _ _ _ _ _ _)
      | (with_reducible exact flow_Hyper.mono _ _)
      | (with_reducible exact hopmeshlaw32_awake.mono _)
      | (with_reducible exact LeO.refl _)
      | (with_reducible exact LeO.none _)
      | (with_reducible refine LeO.ite ?_ ?_)
      | (with_reducible refine LeO.bind ?_ (fun _ => ?_))
      | exact ih0 _ _ _ _
      | exact ih1 _ _ _ _ _
      | exact ih2 _ _ _ _ _ _ _ _ _ _ _ _ _ _
      | exact ih3 _ _ _ _ _ _ _ _ _ _ _ _ _ _ _
      | exact flow_Hyper.mono _ _
      | exact hopmeshlaw32_awake.mono _
      | exact LeO.none _
      | refine LeO.ite ?_ ?_
      | refine LeO.bind ?_ (fun _ => ?_)
    · intro y0 y1 y2 y3 y4
      unfold hopmeshlaw32_FlowCounts.l0
      repeat' first
      | (with_reducible exact ih0 _ _ _ _)
      | (with_reducible exact ih1 _ _ _ _ _)
      | (with_reducible exact ih2 _ _ _ _ _ _ _ _ _ _ _ _ _ _)
      | (with_reducible exact ih3 _ _ _ _ _ _ _ _ _ _ _ _ _ _ _)
      | (with_reducible exact flow_Hyper.mono _ _)
      | (with_reducible exact hopmeshlaw32_awake.mono _)
      | (with_reducible exact LeO.refl _)
      | (with_reducible exact LeO.none _)
      | (with_reducible refine LeO.ite ?_ ?_)
      | (with_reducible refine LeO.bind ?_ (fun _ => ?_))
      | exact ih0 _ _ _ _
      | exact ih1 _ _ _ _ _
      | exact ih2 _ _ _ _ _ _ _ _ _ _ _ _ _ _
      | exact ih3 _ _ _ _ _ _ _ _ _ _ _ _ _ _ _
      | exact flow_Hyper.mono _ _
      | exact hopmeshlaw32_awake.mono _
      | exact LeO.none _
      | refine LeO.ite ?_ ?_
      | refine LeO.bind ?_ (fun _ => ?_)
    · intro y0 y1 y2 y3 y4 y5 y6 y7 y8 y9 y10 y11 y12 y13
      unfold hopmeshlaw32_FlowCounts.j2
      repeat' first
      | (with_reducible exact ih0 _ _ _ _)
      | (with_reducible exact ih1 _ _ _ _ _)
      | (with_reducible exact ih2 _ _ _ _ _ _ _ _ _ _ _ _ _ _)
      | (with_reducible exact ih3 _ _ _ _ _ _ _ _ _ _ _ _ _ _ _)
      | (with_reducible exact flow_Hyper.mono _ _)
      | (with_reducible exact hopmeshlaw32_awake.mono _)
      | (with_reducible exact LeO.refl _)
      | (with_reducible exact LeO.none _)
      | (with_reducible refine LeO.ite ?_ ?_)
      | (with_reducible refine LeO.bind ?_ (fun _ => ?_))
      | exact ih0 _ _ _ _
      | exact ih1 _ _ _ _ _
      | exact ih2 _ _ _ _ _ _ _ _ _ _ _ _ _ _
      | exact ih3 _ _ _ _ _ _ _ _ _ _ _ _ _ _ _
      | exact flow_Hyper.mono _ _
      | exact hopmeshlaw32_awake.mono _
      | exact LeO.none _
      | refine LeO.ite ?_ ?_
      | refine LeO.bind ?_ (fun _ => ?_)
    · intro y0 y1 y2 y3 y4 y5 y6 y7 y8 y9 y10 y11 y12 y13 y14
      unfold hopmeshlaw32_FlowCounts.l1
      repeat' first
      | (with_reducible exact ih0 _ _ _ _)
      | (with_reducible exact ih1 _ _ _ _ _)
      | (with_reducible exact ih2 _ _ _ _ _ _ _ _ _ _ _ _ _ _)
      | (with_reducible exact ih3 _ _ _ _ _ _ _ _ _ _ _ _ _ _ _)
      | (with_reducible exact flow_Hyper.mono _ _)
      | (with_reducible exact hopmeshlaw32_awake.mono _)
      | (with_reducible exact LeO.refl _)
      | (with_reducible exact LeO.none _)
      | (with_reducible refine LeO.ite ?_ ?_)
      | (with_reducible refine LeO.bind ?_ (fun _ => ?_))
      | exact ih0 _ _ _ _
      | exact ih1 _ _ _ _ _
      | exact ih2 _ _ _ _ _ _ _ _ _ _ _ _ _ _
      | exact ih3 _ _ _ _ _ _ _ _ _ _ _ _ _ _ _
      | exact flow_Hyper.mono _ _
      | exact hopmeshlaw32_awake.mono _
      | exact LeO.none _
      | refine LeO.ite ?_ ?_
      | refine LeO.bind ?_ (fun _ => ?_)
theorem hopmeshlaw32_FlowCounts.mono : ∀ a0 a1 k, LeO (hopmeshlaw32_FlowCounts.f k a0 a1) (hopmeshlaw32_FlowCounts.f (k + 1) a0 a1) := by
  intro a0 a1 k
  obtain ⟨ih0, ih1, ih2, ih3⟩ := hopmeshlaw32_FlowCounts.mono_l k
  unfold hopmeshlaw32_FlowCounts.f
  repeat' first
      | (with_reducible exact ih0 _ _ _ _)
      | (with_reducible exact ih1 _ _ _ _ _)
      | (with_reducible exact ih2 _ _ _ _ _ _ _ _ _ _ _ _ _ _)
      | (with_reducible exact ih3 _ _ _ _ _ _ _ _ _ _ _ _ _ _ _)
      | (with_reducible exact flow_Hyper.mono _ _)
      | (with_reducible exact hopmeshlaw32_awake.mono _)
      | (with_reducible exact LeO.refl _)
      | (with_reducible exact LeO.none _)
      | (with_reducible refine LeO.ite ?_ ?_)
      | (with_reducible refine LeO.bind ?_ (fun _ => ?_))
      | exact ih0 _ _ _ _
      | exact ih1 _ _ _ _ _
      | exact ih2 _ _ _ _ _ _ _ _ _ _ _ _ _ _
      | exact ih3 _ _ _ _ _ _ _ _ _ _ _ _ _ _ _
      | exact flow_Hyper.mono _ _
      | exact hopmeshlaw32_awake.mono _
      | exact LeO.none _
      | refine LeO.ite ?_ ?_
      | refine LeO.bind ?_ (fun _ => ?_)
set_option maxHeartbeats 8000000 in
set_option maxRecDepth 100000 in
theorem hopmeshlaw32_FlowCounts.calls (k : Nat) (A0 : Option Addr) (c0 : Nat) (l0 : List (S23)) (a1 : Int) (r : Bool) (w : World) (hr0 : Kd.C k23 w A0 l0.length l0) (hc0 : l0.length ≤ c0) (h : hopmeshlaw32_FlowCounts.f k l0 a1 = some r) :
    Calls Try.prog 7 #[.slice A0 l0.length c0, .int .u16 a1] w fun e w' => e = .returned (.bool r) ∧ Below w.heap.size w w' := by
  have hu23 := Try.underlying23
  have HR0 := Aside0.mk hr0
  have HC0 := Aside0.mk hc0
  clear hr0 hc0
  have HB := Aside0.mk (Below.refl w.heap.size w)
  have H : ((hopmeshlaw32_awake.f k).bind fun t195 => (if t195 = true then (if (l0.length : Int) > 16 then (some true) else ((flow_Hyper.f k l0).bind fun bt196 => (if bt196.2 = 0 then (if bt196.1 < 1 then (hopmeshlaw32_FlowCounts.j0 k l0 a1 bt196.1 true) else (hopmeshlaw32_FlowCounts.j0 k l0 a1 bt196.1 (decide (bt196.1 > 512)))) else (if bt196.1 = 0 then (if bt196.2 = 1 then (some true) else (some (bt196.2 == 21))) else (some false))))) else (some false))) = some r := h
  clear h
  replace H := Option.bind_eq_some_iff.mp H
  obtain ⟨t195, A30, H⟩ := H
  replace H : (if t195 = true then (if (l0.length : Int) > 16 then (some true) else ((flow_Hyper.f k l0).bind fun bt196 => (if bt196.2 = 0 then (if bt196.1 < 1 then (hopmeshlaw32_FlowCounts.j0 k l0 a1 bt196.1 true) else (hopmeshlaw32_FlowCounts.j0 k l0 a1 bt196.1 (decide (bt196.1 > 512)))) else (if bt196.1 = 0 then (if bt196.2 = 1 then (some true) else (some (bt196.2 == 21))) else (some false))))) else (some false)) = some r := H
  have A3 := Aside0.mk A30
  clear A30
  by_cases c4 : t195 = true
  · subst c4
    have H1 : (if (l0.length : Int) > 16 then (some true) else ((flow_Hyper.f k l0).bind fun bt196 => (if bt196.2 = 0 then (if bt196.1 < 1 then (hopmeshlaw32_FlowCounts.j0 k l0 a1 bt196.1 true) else (hopmeshlaw32_FlowCounts.j0 k l0 a1 bt196.1 (decide (bt196.1 > 512)))) else (if bt196.1 = 0 then (if bt196.2 = 1 then (some true) else (some (bt196.2 == 21))) else (some false))))) = some r := by rw [if_pos rfl] at H; exact H
    clear H
    have H := H1
    clear H1
    by_cases c5 : (l0.length : Int) > 16
    · rw [if_pos c5] at H
      have c5b0 : decide (16 < (l0.length : Int)) = true := decide_eq_true c5
      have c5b1 : decide (16 < l0.length) = true := decide_eq_true (by omega)
      clear c5
      obtain rfl := Option.some.inj H
      go_enter Try.func7, Try.ntmps7
      go_wp2_with (first | ((with_reducible refine gate_callee (f := 10) rfl ?_); refine goesL_ (some 17) rfl rfl Try.func10 (by kernel_rfl) rfl #[] rfl (by (try simp only [List.map_toArray, List.map_cons, List.map_nil]); first | done | rfl | (simp only [List.length_drop, List.length_take]; rfl)) ?_; (with_reducible refine (hopmeshlaw32_awake.calls k  true _ A3.out).mono ?_); rintro e w6 ⟨rfl, hb⟩; refine ⟨_, rfl, ?_⟩; have n0_ := Aside0.mk (below_step (by repeat (first | (with_reducible first | exact HB.out | apply below_alloc | apply pw_below_drewN | apply below_drew1) | exact HB.out)) hb); clear HB; have HB := n0_; clear n0_; (try clear hb); (try clear hb2); (try clear hk); (try clear hi)))
      go_ret
      exact ⟨by first | rfl | (simp [errW_none, errW_some] <;> rfl) | (simp [*, errW_none, errW_some] <;> rfl), by repeat (first | (with_reducible first | exact HB.out | apply below_alloc | apply pw_below_drewN | apply below_drew1) | exact HB.out)⟩
    · rw [if_neg c5] at H
      have c5b0 : decide (16 < (l0.length : Int)) = false := decide_eq_false c5
      have c5b1 : decide (16 < l0.length) = false := decide_eq_false (by omega)
      clear c5
      replace H := Option.bind_eq_some_iff.mp H
      obtain ⟨⟨t196, t197⟩, A70, H⟩ := H
      replace H : (if t197 = 0 then (if t196 < 1 then (hopmeshlaw32_FlowCounts.j0 k l0 a1 t196 true) else (hopmeshlaw32_FlowCounts.j0 k l0 a1 t196 (decide (t196 > 512)))) else (if t196 = 0 then (if t197 = 1 then (some true) else (some (t197 == 21))) else (some false))) = some r := H
      have A7 := Aside0.mk A70
      clear A70
      by_cases c8 : t197 = 0
      · rw [if_pos c8] at H
        have c8b0 : (t197 == 0) = true := beq_iff_eq.mpr c8
        have c8b1 : (t197 != 0) = false := bne_eq_false_iff_eq.mpr c8
        clear c8
        have HC9 := Aside0.mk H
        clear H
        go_enter Try.func7, Try.ntmps7
        go_upto_region 8 with (first | ((with_reducible refine gate_callee (f := 10) rfl ?_); refine goesL_ (some 17) rfl rfl Try.func10 (by kernel_rfl) rfl #[] rfl (by (try simp only [List.map_toArray, List.map_cons, List.map_nil]); first | done | rfl | (simp only [List.length_drop, List.length_take]; rfl)) ?_; (with_reducible refine (hopmeshlaw32_awake.calls k  true _ A3.out).mono ?_); rintro e w10 ⟨rfl, hb⟩; refine ⟨_, rfl, ?_⟩; have n0_ := Aside0.mk (below_step (by repeat (first | (with_reducible first | exact HB.out | apply below_alloc | apply pw_below_drewN | apply below_drew1) | exact HB.out)) hb); clear HB; have HB := n0_; clear n0_; (try clear hb); (try clear hb2); (try clear hk); (try clear hi)) | ((with_reducible refine gate_callee (f := 16) rfl ?_); refine goesL_ (some 24) rfl rfl Try.func16 (by kernel_rfl) rfl #[.slice A0 l0.length c0] rfl (by (try simp only [List.map_toArray, List.map_cons, List.map_nil]); first | done | rfl | (simp only [List.length_drop, List.length_take]; rfl)) ?_; (with_reducible refine (flow_Hyper.calls k _ _ l0 t196 t197 _ ?side1 ?side2 A7.out).mono ?_); (case side1 => repeat (first | exact (Kd.C_below HR0.out HB.out) | (with_reducible refine Kd.C_alloc ?_ _) | (with_reducible refine Kd.C_drewN ?_ _) | (with_reducible refine Kd.C_drew ?_))); (case side2 => exact HC0.out); rintro e w11 ⟨rfl, hb⟩; refine ⟨_, rfl, ?_⟩; have n0_ := Aside0.mk (below_step (by repeat (first | (with_reducible first | exact HB.out | apply below_alloc | apply pw_below_drewN | apply below_drew1) | exact HB.out)) hb); clear HB; have HB := n0_; clear n0_; (try clear hb); (try clear hb2); (try clear hk); (try clear hi)))
        (try simp only [Act.put, List.setIfInBounds_toArray, List.set_cons_zero, List.set_cons_succ])
        go_cut [44] (fun v44 wc => ∃ (kq : Nat) (x44_8 : Bool), v44 = .bool x44_8 ∧ Aside0 (hopmeshlaw32_FlowCounts.j0 kq l0 a1 t196 x44_8 = some r) ∧ Aside0 (kq ≤ k) ∧ Aside0 (Below w.heap.size w wc))
        case first =>
          have H := HC9.out
          clear HC9
          by_cases c12 : t196 < 1
          · rw [if_pos c12] at H
            have c12b0 : decide (t196 < 1) = true := decide_eq_true c12
            clear c12
            (first | rw [c12b0] | (simp only [i64_w, i32_w]; rw [c12b0]) | skip)
            have H' := Aside0.mk H
            clear H
            go_wp2
            go_meet
            case rel => exact ⟨_, (true), (by first | rfl | (simp; done) | (simp [*]; done)), H', ⟨by first | omega | exact Nat.le_refl _⟩, ⟨by repeat (first | (with_reducible first | exact HB.out | apply below_alloc | apply pw_below_drewN | apply below_drew1) | exact HB.out)⟩⟩
          · rw [if_neg c12] at H
            have c12b0 : decide (t196 < 1) = false := decide_eq_false c12
            clear c12
            (first | rw [c12b0] | (simp only [i64_w, i32_w]; rw [c12b0]) | skip)
            have H' := Aside0.mk H
            clear H
            go_wp2
            go_meet
            case rel => exact ⟨_, (decide (t196 > 512)), (by first | rfl | (simp; done) | (simp [*]; done)), H', ⟨by first | omega | exact Nat.le_refl _⟩, ⟨by repeat (first | (with_reducible first | exact HB.out | apply below_alloc | apply pw_below_drewN | apply below_drew1) | exact HB.out)⟩⟩
        case rest =>
          clear HC9
          try clear c1
          try clear p2
          try clear c4
          try clear c5
          try clear c5b0
          try clear c5b1
          try clear c7
          try clear c8
          try clear c8b0
          try clear c8b1
          try clear c10
          try clear c12
          try clear c12b0
          obtain ⟨kq, x44_8, rfl, HA, HJ8, HB⟩ := hcut
          cases kq with
          | zero => exact absurd HA.out (by simp [hopmeshlaw32_FlowCounts.j0])
          | succ kj8 =>
            have H := HA.out
            clear HA
            simp only [hopmeshlaw32_FlowCounts.j0] at H
            by_cases c13 : x44_8 = true
            · subst c13
              have H1 : (some false) = some r := by rw [if_pos rfl] at H; exact H
              clear H
              have H := H1
              clear H1
              obtain rfl := Option.some.inj H
              go_wp2
              go_ret
              exact ⟨by first | rfl | (simp [errW_none, errW_some] <;> rfl) | (simp [*, errW_none, errW_some] <;> rfl), by repeat (first | (with_reducible first | exact HB.out | apply below_alloc | apply pw_below_drewN | apply below_drew1) | exact HB.out)⟩
            · replace c13 := Bool.eq_false_iff.mpr c13
              subst c13
              have H1 : (hopmeshlaw32_FlowCounts.l0 kj8 a1 t196 l0 (l0.length : Int) 0) = some r := by rw [if_neg (show ¬ (false = true) by decide)] at H; exact H
              clear H
              have H := H1
              clear H1
              have H' := Aside0.mk H
              clear H
              go_wp2
              go_loopg [47] kj8 (fun kq v47 w' => ∃ (x47_2 : Int), v47 = .int .i64 x47_2 ∧ Aside0 (hopmeshlaw32_FlowCounts.l0 kq a1 t196 l0 (l0.length : Int) x47_2 = some r) ∧ Aside0 (kq ≤ kj8) ∧ Aside0 (Below w.heap.size w w'))
              case atStart => exact ⟨(0), (by first | rfl | (simp; done) | (simp [*]; done)), H', ⟨Nat.le_refl _⟩, ⟨by repeat (first | (with_reducible first | exact HB.out | apply below_alloc | apply pw_below_drewN | apply below_drew1) | exact HB.out)⟩⟩
              case round =>
                clear H'
                try clear c1
                try clear p2
                try clear c4
                try clear c5
                try clear c5b0
                try clear c5b1
                try clear c7
                try clear c8
                try clear c8b0
                try clear c8b1
                try clear c10
                try clear c12
                try clear c12b0
                try clear c13
                try clear p2
                obtain ⟨x47_2, rfl, HA, HK2, HB⟩ := hrel
                cases gk with
                | zero => exact absurd HA.out (by simp [hopmeshlaw32_FlowCounts.l0])
                | succ k2 =>
                  have H := HA.out
                  clear HA
                  simp only [hopmeshlaw32_FlowCounts.l0] at H
                  by_cases c14 : x47_2 < (l0.length : Int)
                  · rw [if_pos c14] at H
                    have c14b0 : decide (x47_2 < (l0.length : Int)) = true := decide_eq_true c14
                    clear c14
                    by_cases c15 : 0 ≤ x47_2
                    · rw [if_pos c15] at H
                      have c15b0 : decide (0 ≤ x47_2) = true := decide_eq_true c15
                      clear c15
                      by_cases c16 : x47_2 < (l0.length : Int)
                      · rw [if_pos c16] at H
                        have c16b0 : decide (x47_2 < (l0.length : Int)) = true := decide_eq_true c16
                        clear c16
                        replace H := Option.bind_eq_some_iff.mp H
                        obtain ⟨⟨t200, t203⟩, A170, H⟩ := H
                        replace H : (if ((rd_T23 l0 x47_2).f3) = 0 then (none) else (if (Int.tmod t196 ((rd_T23 l0 x47_2).f3)) = 0 then (if t203 = 0 then (hopmeshlaw32_FlowCounts.j2 k2 a1 t196 (wrap64 (((rd_T23 l0 x47_2).f4) + (wrap64 (a1)))) t200 l0 (l0.length : Int) x47_2 ((t200.length : Int) != (wrap64 (Int.tdiv t196 ((rd_T23 l0 x47_2).f3)))) ((rd_T23 l0 x47_2).f0) ((rd_T23 l0 x47_2).f1) ((rd_T23 l0 x47_2).f2) ((rd_T23 l0 x47_2).f3) ((rd_T23 l0 x47_2).f4) ((rd_T23 l0 x47_2).f5)) else (hopmeshlaw32_FlowCounts.j2 k2 a1 t196 (wrap64 (((rd_T23 l0 x47_2).f4) + (wrap64 (a1)))) t200 l0 (l0.length : Int) x47_2 true ((rd_T23 l0 x47_2).f0) ((rd_T23 l0 x47_2).f1) ((rd_T23 l0 x47_2).f2) ((rd_T23 l0 x47_2).f3) ((rd_T23 l0 x47_2).f4) ((rd_T23 l0 x47_2).f5))) else (hopmeshlaw32_FlowCounts.j2 k2 a1 t196 (wrap64 (((rd_T23 l0 x47_2).f4) + (wrap64 (a1)))) t200 l0 (l0.length : Int) x47_2 true ((rd_T23 l0 x47_2).f0) ((rd_T23 l0 x47_2).f1) ((rd_T23 l0 x47_2).f2) ((rd_T23 l0 x47_2).f3) ((rd_T23 l0 x47_2).f4) ((rd_T23 l0 x47_2).f5)))) = some r := H
                        have A17 := Aside0.mk A170
                        clear A170
                        have HC18 := Aside0.mk H
                        clear H
                        have p198 : 0 ≤ (x47_2 : Int) := of_decide_eq_true (by first | (with_reducible assumption) | assumption)
                        have q198 : x47_2 < (l0.length : Int) := of_decide_eq_true (by first | (with_reducible assumption) | assumption)
                        obtain ⟨ad198, e198, hx198_0, hx198_1, hx198_2, hx198_3, hx198_4, hx198_5⟩ := at_T23 HR0.out x47_2 p198 q198
                        cases e198
                        replace hx198_0 := (HB.out.cell (World.block_lt_of_cell? w _ hx198_0)).trans hx198_0
                        replace hx198_1 := (HB.out.cell (World.block_lt_of_cell? w _ hx198_1)).trans hx198_1
                        replace hx198_2 := (HB.out.cell (World.block_lt_of_cell? w _ hx198_2)).trans hx198_2
                        replace hx198_3 := (HB.out.cell (World.block_lt_of_cell? w _ hx198_3)).trans hx198_3
                        replace hx198_4 := (HB.out.cell (World.block_lt_of_cell? w _ hx198_4)).trans hx198_4
                        replace hx198_5 := (HB.out.cell (World.block_lt_of_cell? w _ hx198_5)).trans hx198_5
                        replace p198 := eq_true p198
                        replace q198 := eq_true q198
                        go_upto_region 15 with (first | ((with_reducible refine gate_dst (N := 8) rfl ?_); (try (refine gate_guard (by rfl) ?_; dsimp only)); refine box_event ?hg (N := 8) ?hd (cs := #[.int .i64 0, .int .i64 0, .int .i64 0, .int .i64 0, .int .i64 0, .int .i64 0]) (t := 23) ?hr ?_; (case hd => rfl); (case hg => rfl); (case hr => first | (go_simp; done) | (go_simp; rfl)); intro gb199 hg w19 hbox hb; have n0_ := Aside0.mk (below_step (by repeat (first | (with_reducible first | exact HB.out | apply below_alloc | apply pw_below_drewN | apply below_drew1) | exact HB.out)) hb); have n1_ := Aside0.mk (hbox); have n2_ := Aside0.mk ((by rw [hg]; exact (below_size (by repeat (first | (with_reducible first | exact HB.out | apply below_alloc | apply pw_below_drewN | apply below_drew1) | exact HB.out))) : w.heap.size ≤ gb199)); have n3_ := Aside0.mk ((by rw [hg]; exact (below_size (by repeat (first | (with_reducible first | exact HB.out | apply below_alloc | apply pw_below_drewN | apply below_drew1) | exact HB.out))) : w.heap.size ≤ gb199)); clear HB; have HB := n0_; have BK199 := n1_; have GW199 := n2_; have GE199 := n3_; clear n0_ n1_ n2_ n3_; clear hb hbox hg; have hcz20_0 : w19.cell? ⟨gb199, 0, none⟩ = some (.int .i64 0) := (blk_cell BK199.out 0).trans rfl; have hcz20_1 : w19.cell? ⟨gb199, 1, none⟩ = some (.int .i64 0) := (blk_cell BK199.out 1).trans rfl; have hcz20_2 : w19.cell? ⟨gb199, 2, none⟩ = some (.int .i64 0) := (blk_cell BK199.out 2).trans rfl; have hcz20_3 : w19.cell? ⟨gb199, 3, none⟩ = some (.int .i64 0) := (blk_cell BK199.out 3).trans rfl; have hcz20_4 : w19.cell? ⟨gb199, 4, none⟩ = some (.int .i64 0) := (blk_cell BK199.out 4).trans rfl; have hcz20_5 : w19.cell? ⟨gb199, 5, none⟩ = some (.int .i64 0) := (blk_cell BK199.out 5).trans rfl; have hfz20_0 := blk_frozen BK199.out 0; have hfz20_1 := blk_frozen BK199.out 1; have hfz20_2 := blk_frozen BK199.out 2; have hfz20_3 := blk_frozen BK199.out 3; have hfz20_4 := blk_frozen BK199.out 4; have hfz20_5 := blk_frozen BK199.out 5) | ((with_reducible refine gate_callee (f := 24) rfl ?_); refine goesL_ (some 62) rfl rfl Try.func24 (by kernel_rfl) rfl #[.agg #[.int .i64 ((rd_T23 l0 x47_2).f0), .int .i64 ((rd_T23 l0 x47_2).f1), .int .i64 ((rd_T23 l0 x47_2).f2), .int .i64 ((rd_T23 l0 x47_2).f3), .int .i64 ((rd_T23 l0 x47_2).f4), .int .i64 ((rd_T23 l0 x47_2).f5)], .int .i64 (wrap64 (((rd_T23 l0 x47_2).f4) + (wrap64 (a1)))), .int .i64 (wrap64 ((wrap64 (((rd_T23 l0 x47_2).f4) + (wrap64 (a1)))) + t196))] rfl (by (try simp only [List.map_toArray, List.map_cons, List.map_nil]); first | done | rfl | (simp only [List.length_drop, List.length_take]; rfl)) ?_; (with_reducible refine (flow_Frames.calls ((rd_T23 l0 x47_2).f0) ((rd_T23 l0 x47_2).f1) ((rd_T23 l0 x47_2).f2) ((rd_T23 l0 x47_2).f3) ((rd_T23 l0 x47_2).f4) ((rd_T23 l0 x47_2).f5) (wrap64 (((rd_T23 l0 x47_2).f4) + (wrap64 (a1)))) (wrap64 ((wrap64 (((rd_T23 l0 x47_2).f4) + (wrap64 (a1)))) + t196)) t200 t203 _ A17.out).mono ?_); rintro e w21 ⟨v201, rfl, ho0, hb⟩; refine ⟨_, rfl, ?_⟩; have n0_ := Aside0.mk (Kd.R_lower ho0 (below_size (by repeat (first | (with_reducible first | exact HB.out | apply below_alloc | apply pw_below_drewN | apply below_drew1 | refine below_set ?_ GE199.out) | exact HB.out)))); have n1_ := Aside0.mk (blk_below (g := gb199) (o := .cells #[.int .i64 ((rd_T23 l0 x47_2).f0), .int .i64 ((rd_T23 l0 x47_2).f1), .int .i64 ((rd_T23 l0 x47_2).f2), .int .i64 ((rd_T23 l0 x47_2).f3), .int .i64 ((rd_T23 l0 x47_2).f4), .int .i64 ((rd_T23 l0 x47_2).f5)] 23 (0, 0)) (by (with_reducible repeat (first | refine blk_drewN ?_ _ | refine blk_drew ?_ | refine blk_alloc ?_ _)); refine blk_put (cs := #[.int .i64 ((rd_T23 l0 x47_2).f0), .int .i64 ((rd_T23 l0 x47_2).f1), .int .i64 ((rd_T23 l0 x47_2).f2), .int .i64 ((rd_T23 l0 x47_2).f3), .int .i64 ((rd_T23 l0 x47_2).f4), .int .i64 0]) ?_ 5 _ rfl; (with_reducible repeat (first | refine blk_drewN ?_ _ | refine blk_drew ?_ | refine blk_alloc ?_ _)); refine blk_put (cs := #[.int .i64 ((rd_T23 l0 x47_2).f0), .int .i64 ((rd_T23 l0 x47_2).f1), .int .i64 ((rd_T23 l0 x47_2).f2), .int .i64 ((rd_T23 l0 x47_2).f3), .int .i64 0, .int .i64 0]) ?_ 4 _ rfl; (with_reducible repeat (first | refine blk_drewN ?_ _ | refine blk_drew ?_ | refine blk_alloc ?_ _)); refine blk_put (cs := #[.int .i64 ((rd_T23 l0 x47_2).f0), .int .i64 ((rd_T23 l0 x47_2).f1), .int .i64 ((rd_T23 l0 x47_2).f2), .int .i64 0, .int .i64 0, .int .i64 0]) ?_ 3 _ rfl; (with_reducible repeat (first | refine blk_drewN ?_ _ | refine blk_drew ?_ | refine blk_alloc ?_ _)); refine blk_put (cs := #[.int .i64 ((rd_T23 l0 x47_2).f0), .int .i64 ((rd_T23 l0 x47_2).f1), .int .i64 0, .int .i64 0, .int .i64 0, .int .i64 0]) ?_ 2 _ rfl; (with_reducible repeat (first | refine blk_drewN ?_ _ | refine blk_drew ?_ | refine blk_alloc ?_ _)); refine blk_put (cs := #[.int .i64 ((rd_T23 l0 x47_2).f0), .int .i64 0, .int .i64 0, .int .i64 0, .int .i64 0, .int .i64 0]) ?_ 1 _ rfl; (with_reducible repeat (first | refine blk_drewN ?_ _ | refine blk_drew ?_ | refine blk_alloc ?_ _)); refine blk_put (cs := #[.int .i64 0, .int .i64 0, .int .i64 0, .int .i64 0, .int .i64 0, .int .i64 0]) ?_ 0 _ rfl; (with_reducible repeat (first | refine blk_drewN ?_ _ | refine blk_drew ?_ | refine blk_alloc ?_ _)); exact BK199.out) hb); have n2_ := Aside0.mk (below_step (by repeat (first | (with_reducible first | exact HB.out | apply below_alloc | apply pw_below_drewN | apply below_drew1 | refine below_set ?_ GE199.out) | exact HB.out)) hb); clear BK199; clear HB; have HO202 := n0_; have BK199 := n1_; have HB := n2_; clear n0_ n1_ n2_; (try clear hb); (try clear hb2); (try clear hk); (try clear hi); (try clear ho0)))
                        (try simp only [Act.put, List.setIfInBounds_toArray, List.set_cons_zero, List.set_cons_succ])
                        go_cut [82] (fun v82 wc => ∃ (kq : Nat) (x82_17 : Bool), v82 = .bool x82_17 ∧ Aside0 (hopmeshlaw32_FlowCounts.j2 kq a1 t196 (wrap64 (((rd_T23 l0 x47_2).f4) + (wrap64 (a1)))) t200 l0 (l0.length : Int) x47_2 x82_17 ((rd_T23 l0 x47_2).f0) ((rd_T23 l0 x47_2).f1) ((rd_T23 l0 x47_2).f2) ((rd_T23 l0 x47_2).f3) ((rd_T23 l0 x47_2).f4) ((rd_T23 l0 x47_2).f5) = some r) ∧ Aside0 (kq ≤ k2) ∧ Aside0 (Kd.R (Kd.int .i64) 3 wc w.heap.size (fun _ => True) v201 t200) ∧ Aside0 (wc.heap[gb199]? = some (.cells #[.int .i64 ((rd_T23 l0 x47_2).f0), .int .i64 ((rd_T23 l0 x47_2).f1), .int .i64 ((rd_T23 l0 x47_2).f2), .int .i64 ((rd_T23 l0 x47_2).f3), .int .i64 ((rd_T23 l0 x47_2).f4), .int .i64 ((rd_T23 l0 x47_2).f5)] 23 (0, 0))) ∧ Aside0 (Below w.heap.size w wc))
                        case first =>
                          have H := HC18.out
                          clear HC18
                          by_cases c22 : ((rd_T23 l0 x47_2).f3) = 0
                          · rw [if_pos c22] at H
                            exact absurd H (by simp)
                          · rw [if_neg c22] at H
                            have c22b0 : (((rd_T23 l0 x47_2).f3) == 0) = false := beq_eq_false_iff_ne.mpr c22
                            have c22b1 : (((rd_T23 l0 x47_2).f3) != 0) = true := bne_iff_ne.mpr c22
                            (first | rw [c22b0] | (simp only [i64_w, i32_w]; rw [c22b0]) | skip)
                            by_cases c23 : (Int.tmod t196 ((rd_T23 l0 x47_2).f3)) = 0
                            · rw [if_pos c23] at H
                              have c23b0 : ((Int.tmod t196 ((rd_T23 l0 x47_2).f3)) == 0) = true := beq_iff_eq.mpr c23
                              have c23b1 : ((Int.tmod t196 ((rd_T23 l0 x47_2).f3)) != 0) = false := bne_eq_false_iff_eq.mpr c23
                              clear c23
                              by_cases c24 : t203 = 0
                              · rw [if_pos c24] at H
                                have c24b0 : (t203 == 0) = true := beq_iff_eq.mpr c24
                                have c24b1 : (t203 != 0) = false := bne_eq_false_iff_eq.mpr c24
                                clear c24
                                have H' := Aside0.mk H
                                clear H
                                have hcz25_0 : w21.cell? ⟨gb199, 0, none⟩ = some (.int .i64 ((rd_T23 l0 x47_2).f0)) := (blk_cell BK199.out 0).trans rfl
                                have hcz25_1 : w21.cell? ⟨gb199, 1, none⟩ = some (.int .i64 ((rd_T23 l0 x47_2).f1)) := (blk_cell BK199.out 1).trans rfl
                                have hcz25_2 : w21.cell? ⟨gb199, 2, none⟩ = some (.int .i64 ((rd_T23 l0 x47_2).f2)) := (blk_cell BK199.out 2).trans rfl
                                have hcz25_3 : w21.cell? ⟨gb199, 3, none⟩ = some (.int .i64 ((rd_T23 l0 x47_2).f3)) := (blk_cell BK199.out 3).trans rfl
                                have hcz25_4 : w21.cell? ⟨gb199, 4, none⟩ = some (.int .i64 ((rd_T23 l0 x47_2).f4)) := (blk_cell BK199.out 4).trans rfl
                                have hcz25_5 : w21.cell? ⟨gb199, 5, none⟩ = some (.int .i64 ((rd_T23 l0 x47_2).f5)) := (blk_cell BK199.out 5).trans rfl
                                have hfz25_0 := blk_frozen BK199.out 0
                                have hfz25_1 := blk_frozen BK199.out 1
                                have hfz25_2 := blk_frozen BK199.out 2
                                have hfz25_3 := blk_frozen BK199.out 3
                                have hfz25_4 := blk_frozen BK199.out 4
                                have hfz25_5 := blk_frozen BK199.out 5
                                obtain ⟨Ao26, co26, eo26⟩ := Kd.R_slice HO202.out
                                subst eo26
                                go_wp2
                                go_meet
                                case rel => exact ⟨_, (((t200.length : Int) != (wrap64 (Int.tdiv t196 ((rd_T23 l0 x47_2).f3))))), (by first | rfl | (simp; done) | (simp [*]; done)), H', ⟨by have := HJ8.out; have := HK2.out; first | omega | exact Nat.le_refl _⟩, ⟨by (with_reducible repeat (first | apply Kd.R_alloc | apply Kd.R_drewN | apply Kd.R_drew)); exact HO202.out⟩, ⟨by (with_reducible repeat (first | refine blk_drewN ?_ _ | refine blk_drew ?_ | refine blk_alloc ?_ _)); exact BK199.out⟩, ⟨by repeat (first | (with_reducible first | exact HB.out | apply below_alloc | apply pw_below_drewN | apply below_drew1 | refine below_set ?_ GE199.out) | exact HB.out)⟩⟩
                              · rw [if_neg c24] at H
                                have c24b0 : (t203 == 0) = false := beq_eq_false_iff_ne.mpr c24
                                have c24b1 : (t203 != 0) = true := bne_iff_ne.mpr c24
                                have H' := Aside0.mk H
                                clear H
                                have hcz27_0 : w21.cell? ⟨gb199, 0, none⟩ = some (.int .i64 ((rd_T23 l0 x47_2).f0)) := (blk_cell BK199.out 0).trans rfl
                                have hcz27_1 : w21.cell? ⟨gb199, 1, none⟩ = some (.int .i64 ((rd_T23 l0 x47_2).f1)) := (blk_cell BK199.out 1).trans rfl
                                have hcz27_2 : w21.cell? ⟨gb199, 2, none⟩ = some (.int .i64 ((rd_T23 l0 x47_2).f2)) := (blk_cell BK199.out 2).trans rfl
                                have hcz27_3 : w21.cell? ⟨gb199, 3, none⟩ = some (.int .i64 ((rd_T23 l0 x47_2).f3)) := (blk_cell BK199.out 3).trans rfl
                                have hcz27_4 : w21.cell? ⟨gb199, 4, none⟩ = some (.int .i64 ((rd_T23 l0 x47_2).f4)) := (blk_cell BK199.out 4).trans rfl
                                have hcz27_5 : w21.cell? ⟨gb199, 5, none⟩ = some (.int .i64 ((rd_T23 l0 x47_2).f5)) := (blk_cell BK199.out 5).trans rfl
                                have hfz27_0 := blk_frozen BK199.out 0
                                have hfz27_1 := blk_frozen BK199.out 1
                                have hfz27_2 := blk_frozen BK199.out 2
                                have hfz27_3 := blk_frozen BK199.out 3
                                have hfz27_4 := blk_frozen BK199.out 4
                                have hfz27_5 := blk_frozen BK199.out 5
                                go_wp2
                                go_meet
                                case rel => exact ⟨_, (true), (by first | rfl | (simp; done) | (simp [*]; done)), H', ⟨by have := HJ8.out; have := HK2.out; first | omega | exact Nat.le_refl _⟩, ⟨by (with_reducible repeat (first | apply Kd.R_alloc | apply Kd.R_drewN | apply Kd.R_drew)); exact HO202.out⟩, ⟨by (with_reducible repeat (first | refine blk_drewN ?_ _ | refine blk_drew ?_ | refine blk_alloc ?_ _)); exact BK199.out⟩, ⟨by repeat (first | (with_reducible first | exact HB.out | apply below_alloc | apply pw_below_drewN | apply below_drew1 | refine below_set ?_ GE199.out) | exact HB.out)⟩⟩
                            · rw [if_neg c23] at H
                              have c23b0 : ((Int.tmod t196 ((rd_T23 l0 x47_2).f3)) == 0) = false := beq_eq_false_iff_ne.mpr c23
                              have c23b1 : ((Int.tmod t196 ((rd_T23 l0 x47_2).f3)) != 0) = true := bne_iff_ne.mpr c23
                              have H' := Aside0.mk H
                              clear H
                              have hcz28_0 : w21.cell? ⟨gb199, 0, none⟩ = some (.int .i64 ((rd_T23 l0 x47_2).f0)) := (blk_cell BK199.out 0).trans rfl
                              have hcz28_1 : w21.cell? ⟨gb199, 1, none⟩ = some (.int .i64 ((rd_T23 l0 x47_2).f1)) := (blk_cell BK199.out 1).trans rfl
                              have hcz28_2 : w21.cell? ⟨gb199, 2, none⟩ = some (.int .i64 ((rd_T23 l0 x47_2).f2)) := (blk_cell BK199.out 2).trans rfl
                              have hcz28_3 : w21.cell? ⟨gb199, 3, none⟩ = some (.int .i64 ((rd_T23 l0 x47_2).f3)) := (blk_cell BK199.out 3).trans rfl
                              have hcz28_4 : w21.cell? ⟨gb199, 4, none⟩ = some (.int .i64 ((rd_T23 l0 x47_2).f4)) := (blk_cell BK199.out 4).trans rfl
                              have hcz28_5 : w21.cell? ⟨gb199, 5, none⟩ = some (.int .i64 ((rd_T23 l0 x47_2).f5)) := (blk_cell BK199.out 5).trans rfl
                              have hfz28_0 := blk_frozen BK199.out 0
                              have hfz28_1 := blk_frozen BK199.out 1
                              have hfz28_2 := blk_frozen BK199.out 2
                              have hfz28_3 := blk_frozen BK199.out 3
                              have hfz28_4 := blk_frozen BK199.out 4
                              have hfz28_5 := blk_frozen BK199.out 5
                              go_wp2
                              go_meet
                              case rel => exact ⟨_, (true), (by first | rfl | (simp; done) | (simp [*]; done)), H', ⟨by have := HJ8.out; have := HK2.out; first | omega | exact Nat.le_refl _⟩, ⟨by (with_reducible repeat (first | apply Kd.R_alloc | apply Kd.R_drewN | apply Kd.R_drew)); exact HO202.out⟩, ⟨by (with_reducible repeat (first | refine blk_drewN ?_ _ | refine blk_drew ?_ | refine blk_alloc ?_ _)); exact BK199.out⟩, ⟨by repeat (first | (with_reducible first | exact HB.out | apply below_alloc | apply pw_below_drewN | apply below_drew1 | refine below_set ?_ GE199.out) | exact HB.out)⟩⟩
                        case rest =>
                          clear HC18
                          try clear c1
                          try clear p1
                          try clear q1
                          try clear hx1
                          try clear c2
                          try clear p2
                          try clear c4
                          try clear c5
                          try clear c5b0
                          try clear c5b1
                          try clear p6
                          try clear c7
                          try clear c8
                          try clear c8b0
                          try clear c8b1
                          try clear c10
                          try clear c12
                          try clear c12b0
                          try clear c13
                          try clear c14
                          try clear c14b0
                          try clear c15
                          try clear c15b0
                          try clear c16
                          try clear c16b0
                          try clear p19
                          try clear q19
                          try clear hx19
                          try clear c22
                          try clear c22b0
                          try clear c22b1
                          try clear c23
                          try clear c23b0
                          try clear c23b1
                          try clear c24
                          try clear c24b0
                          try clear c24b1
                          try clear hcz20_0
                          try clear hcz20_1
                          try clear hcz20_2
                          try clear hcz20_3
                          try clear hcz20_4
                          try clear hcz20_5
                          try clear hcz25_0
                          try clear hcz25_1
                          try clear hcz25_2
                          try clear hcz25_3
                          try clear hcz25_4
                          try clear hcz25_5
                          try clear hcz27_0
                          try clear hcz27_1
                          try clear hcz27_2
                          try clear hcz27_3
                          try clear hcz27_4
                          try clear hcz27_5
                          try clear hcz28_0
                          try clear hcz28_1
                          try clear hcz28_2
                          try clear hcz28_3
                          try clear hcz28_4
                          try clear hcz28_5
                          try clear hfz20_0
                          try clear hfz20_1
                          try clear hfz20_2
                          try clear hfz20_3
                          try clear hfz20_4
                          try clear hfz20_5
                          try clear hfz25_0
                          try clear hfz25_1
                          try clear hfz25_2
                          try clear hfz25_3
                          try clear hfz25_4
                          try clear hfz25_5
                          try clear hfz27_0
                          try clear hfz27_1
                          try clear hfz27_2
                          try clear hfz27_3
                          try clear hfz27_4
                          try clear hfz27_5
                          try clear hfz28_0
                          try clear hfz28_1
                          try clear hfz28_2
                          try clear hfz28_3
                          try clear hfz28_4
                          try clear hfz28_5
                          try clear hx198_0
                          try clear hx198_1
                          try clear hx198_2
                          try clear hx198_3
                          try clear hx198_4
                          try clear hx198_5
                          try clear p198
                          try clear p2
                          try clear q198
                          obtain ⟨kq, x82_17, rfl, HA, HJ17, HO_10, BK199, HB⟩ := hcut
                          cases kq with
                          | zero => exact absurd HA.out (by simp [hopmeshlaw32_FlowCounts.j2])
                          | succ kj17 =>
                            have H := HA.out
                            clear HA
                            simp only [hopmeshlaw32_FlowCounts.j2] at H
                            by_cases c29 : x82_17 = true
                            · subst c29
                              have H1 : (some false) = some r := by rw [if_pos rfl] at H; exact H
                              clear H
                              have H := H1
                              clear H1
                              obtain rfl := Option.some.inj H
                              go_wp2
                              go_ret
                              exact ⟨by first | rfl | (simp [errW_none, errW_some] <;> rfl) | (simp [*, errW_none, errW_some] <;> rfl), by repeat (first | (with_reducible first | exact HB.out | apply below_alloc | apply pw_below_drewN | apply below_drew1 | refine below_set ?_ GE199.out) | exact HB.out)⟩
                            · replace c29 := Bool.eq_false_iff.mpr c29
                              subst c29
                              have H1 : (hopmeshlaw32_FlowCounts.l1 kj17 a1 t196 (wrap64 (((rd_T23 l0 x47_2).f4) + (wrap64 (a1)))) l0 (l0.length : Int) x47_2 t200 (t200.length : Int) 0 ((rd_T23 l0 x47_2).f0) ((rd_T23 l0 x47_2).f1) ((rd_T23 l0 x47_2).f2) ((rd_T23 l0 x47_2).f3) ((rd_T23 l0 x47_2).f4) ((rd_T23 l0 x47_2).f5)) = some r := by rw [if_neg (show ¬ (false = true) by decide)] at H; exact H
                              clear H
                              have H := H1
                              clear H1
                              have H' := Aside0.mk H
                              clear H
                              obtain ⟨Ao30, co30, eo30⟩ := Kd.R_slice HO_10.out
                              subst eo30
                              go_wp2
                              go_loopg [85] kj17 (fun kq v85 w' => ∃ (x85_4 : Int), v85 = .int .i64 x85_4 ∧ Aside0 (hopmeshlaw32_FlowCounts.l1 kq a1 t196 (wrap64 (((rd_T23 l0 x47_2).f4) + (wrap64 (a1)))) l0 (l0.length : Int) x47_2 t200 (t200.length : Int) x85_4 ((rd_T23 l0 x47_2).f0) ((rd_T23 l0 x47_2).f1) ((rd_T23 l0 x47_2).f2) ((rd_T23 l0 x47_2).f3) ((rd_T23 l0 x47_2).f4) ((rd_T23 l0 x47_2).f5) = some r) ∧ Aside0 (kq ≤ kj17) ∧ Aside0 (Kd.R (Kd.int .i64) 3 w' w.heap.size (fun _ => True) (.slice Ao30 t200.length co30) t200) ∧ Aside0 (w'.heap[gb199]? = some (.cells #[.int .i64 ((rd_T23 l0 x47_2).f0), .int .i64 ((rd_T23 l0 x47_2).f1), .int .i64 ((rd_T23 l0 x47_2).f2), .int .i64 ((rd_T23 l0 x47_2).f3), .int .i64 ((rd_T23 l0 x47_2).f4), .int .i64 ((rd_T23 l0 x47_2).f5)] 23 (0, 0))) ∧ Aside0 (Below w.heap.size w w'))
                              case atStart => exact ⟨(0), (by first | rfl | (simp; done) | (simp [*]; done)), H', ⟨Nat.le_refl _⟩, ⟨by (with_reducible repeat (first | apply Kd.R_alloc | apply Kd.R_drewN | apply Kd.R_drew)); exact HO_10.out⟩, ⟨by (with_reducible repeat (first | refine blk_drewN ?_ _ | refine blk_drew ?_ | refine blk_alloc ?_ _)); exact BK199.out⟩, ⟨by repeat (first | (with_reducible first | exact HB.out | apply below_alloc | apply pw_below_drewN | apply below_drew1 | refine below_set ?_ GE199.out) | exact HB.out)⟩⟩
                              case round =>
                                clear H'
                                try clear c1
                                try clear p1
                                try clear q1
                                try clear hx1
                                try clear c2
                                try clear p2
                                try clear c4
                                try clear c5
                                try clear c5b0
                                try clear c5b1
                                try clear p6
                                try clear c7
                                try clear c8
                                try clear c8b0
                                try clear c8b1
                                try clear c10
                                try clear c12
                                try clear c12b0
                                try clear c13
                                try clear c14
                                try clear c14b0
                                try clear c15
                                try clear c15b0
                                try clear c16
                                try clear c16b0
                                try clear p19
                                try clear q19
                                try clear hx19
                                try clear c22
                                try clear c22b0
                                try clear c22b1
                                try clear c23
                                try clear c23b0
                                try clear c23b1
                                try clear c24
                                try clear c24b0
                                try clear c24b1
                                try clear c29
                                try clear hcz20_0
                                try clear hcz20_1
                                try clear hcz20_2
                                try clear hcz20_3
                                try clear hcz20_4
                                try clear hcz20_5
                                try clear hcz25_0
                                try clear hcz25_1
                                try clear hcz25_2
                                try clear hcz25_3
                                try clear hcz25_4
                                try clear hcz25_5
                                try clear hcz27_0
                                try clear hcz27_1
                                try clear hcz27_2
                                try clear hcz27_3
                                try clear hcz27_4
                                try clear hcz27_5
                                try clear hcz28_0
                                try clear hcz28_1
                                try clear hcz28_2
                                try clear hcz28_3
                                try clear hcz28_4
                                try clear hcz28_5
                                try clear hfz20_0
                                try clear hfz20_1
                                try clear hfz20_2
                                try clear hfz20_3
                                try clear hfz20_4
                                try clear hfz20_5
                                try clear hfz25_0
                                try clear hfz25_1
                                try clear hfz25_2
                                try clear hfz25_3
                                try clear hfz25_4
                                try clear hfz25_5
                                try clear hfz27_0
                                try clear hfz27_1
                                try clear hfz27_2
                                try clear hfz27_3
                                try clear hfz27_4
                                try clear hfz27_5
                                try clear hfz28_0
                                try clear hfz28_1
                                try clear hfz28_2
                                try clear hfz28_3
                                try clear hfz28_4
                                try clear hfz28_5
                                try clear hx198_0
                                try clear hx198_1
                                try clear hx198_2
                                try clear hx198_3
                                try clear hx198_4
                                try clear hx198_5
                                try clear p1
                                try clear p19
                                try clear p198
                                try clear p2
                                try clear p6
                                try clear q1
                                try clear q19
                                try clear q198
                                obtain ⟨x85_4, rfl, HA, HK4, HO_83, BK199, HB⟩ := hrel
                                cases gk with
                                | zero => exact absurd HA.out (by simp [hopmeshlaw32_FlowCounts.l1])
                                | succ k4 =>
                                  have H := HA.out
                                  clear HA
                                  simp only [hopmeshlaw32_FlowCounts.l1] at H
                                  by_cases c31 : x85_4 < (t200.length : Int)
                                  · rw [if_pos c31] at H
                                    have c31b0 : decide (x85_4 < (t200.length : Int)) = true := decide_eq_true c31
                                    clear c31
                                    by_cases c32 : 0 ≤ x85_4
                                    · rw [if_pos c32] at H
                                      have c32b0 : decide (0 ≤ x85_4) = true := decide_eq_true c32
                                      clear c32
                                      by_cases c33 : x85_4 < (t200.length : Int)
                                      · rw [if_pos c33] at H
                                        have c33b0 : decide (x85_4 < (t200.length : Int)) = true := decide_eq_true c33
                                        clear c33
                                        replace H := Option.bind_eq_some_iff.mp H
                                        obtain ⟨⟨t205, t206, t207⟩, A340, H⟩ := H
                                        replace H : (if t207 = 0 then (if t205 < (wrap64 (((rd_T23 l0 x47_2).f4) + (wrap64 (a1)))) then (some false) else (if t205 ≥ (wrap64 ((wrap64 (((rd_T23 l0 x47_2).f4) + (wrap64 (a1)))) + t196)) then (some false) else (hopmeshlaw32_FlowCounts.l1 k4 a1 t196 (wrap64 (((rd_T23 l0 x47_2).f4) + (wrap64 (a1)))) l0 (l0.length : Int) x47_2 t200 (t200.length : Int) (wrap64 (x85_4 + 1)) ((rd_T23 l0 x47_2).f0) ((rd_T23 l0 x47_2).f1) ((rd_T23 l0 x47_2).f2) ((rd_T23 l0 x47_2).f3) ((rd_T23 l0 x47_2).f4) ((rd_T23 l0 x47_2).f5)))) else (some false)) = some r := H
                                        have A34 := Aside0.mk A340
                                        clear A340
                                        by_cases c35 : t207 = 0
                                        · rw [if_pos c35] at H
                                          have c35b0 : (t207 == 0) = true := beq_iff_eq.mpr c35
                                          have c35b1 : (t207 != 0) = false := bne_eq_false_iff_eq.mpr c35
                                          clear c35
                                          by_cases c36 : t205 < (wrap64 (((rd_T23 l0 x47_2).f4) + (wrap64 (a1))))
                                          · rw [if_pos c36] at H
                                            have c36b0 : decide (t205 < (wrap64 (((rd_T23 l0 x47_2).f4) + (wrap64 (a1))))) = true := decide_eq_true c36
                                            clear c36
                                            obtain rfl := Option.some.inj H
                                            have p204 : 0 ≤ (x85_4 : Int) := of_decide_eq_true (by first | (with_reducible assumption) | assumption)
                                            have q204 : x85_4 < (t200.length : Int) := of_decide_eq_true (by first | (with_reducible assumption) | assumption)
                                            obtain ⟨ad204, e204, hx204_0⟩ := Kd.at_int (Kd.R_reads' HO_83.out).2.2 x85_4 p204 q204
                                            cases e204
                                            replace p204 := eq_true p204
                                            replace q204 := eq_true q204
                                            have hcz37_0 : wr.cell? ⟨gb199, 0, none⟩ = some (.int .i64 ((rd_T23 l0 x47_2).f0)) := (blk_cell BK199.out 0).trans rfl
                                            have hcz37_1 : wr.cell? ⟨gb199, 1, none⟩ = some (.int .i64 ((rd_T23 l0 x47_2).f1)) := (blk_cell BK199.out 1).trans rfl
                                            have hcz37_2 : wr.cell? ⟨gb199, 2, none⟩ = some (.int .i64 ((rd_T23 l0 x47_2).f2)) := (blk_cell BK199.out 2).trans rfl
                                            have hcz37_3 : wr.cell? ⟨gb199, 3, none⟩ = some (.int .i64 ((rd_T23 l0 x47_2).f3)) := (blk_cell BK199.out 3).trans rfl
                                            have hcz37_4 : wr.cell? ⟨gb199, 4, none⟩ = some (.int .i64 ((rd_T23 l0 x47_2).f4)) := (blk_cell BK199.out 4).trans rfl
                                            have hcz37_5 : wr.cell? ⟨gb199, 5, none⟩ = some (.int .i64 ((rd_T23 l0 x47_2).f5)) := (blk_cell BK199.out 5).trans rfl
                                            have hfz37_0 := blk_frozen BK199.out 0
                                            have hfz37_1 := blk_frozen BK199.out 1
                                            have hfz37_2 := blk_frozen BK199.out 2
                                            have hfz37_3 := blk_frozen BK199.out 3
                                            have hfz37_4 := blk_frozen BK199.out 4
                                            have hfz37_5 := blk_frozen BK199.out 5
                                            go_wp2_with (first | ((with_reducible refine gate_callee (f := 11) rfl ?_); refine goesL_ (some 92) rfl rfl Try.func11 (by kernel_rfl) rfl #[.agg #[.int .i64 ((rd_T23 l0 x47_2).f0), .int .i64 ((rd_T23 l0 x47_2).f1), .int .i64 ((rd_T23 l0 x47_2).f2), .int .i64 ((rd_T23 l0 x47_2).f3), .int .i64 ((rd_T23 l0 x47_2).f4), .int .i64 ((rd_T23 l0 x47_2).f5)], .int .i64 (rd t200 x85_4)] rfl (by (try simp only [List.map_toArray, List.map_cons, List.map_nil]); first | done | rfl | (simp only [List.length_drop, List.length_take]; rfl)) ?_; (with_reducible refine (flow_Window.calls ((rd_T23 l0 x47_2).f0) ((rd_T23 l0 x47_2).f1) ((rd_T23 l0 x47_2).f2) ((rd_T23 l0 x47_2).f3) ((rd_T23 l0 x47_2).f4) ((rd_T23 l0 x47_2).f5) (rd t200 x85_4) t205 t206 t207 _ A34.out).mono ?_); rintro e w38 ⟨rfl, hb⟩; refine ⟨_, rfl, ?_⟩; have n0_ := Aside0.mk (Kd.R_below (by (with_reducible repeat (first | apply Kd.R_alloc | apply Kd.R_drewN | apply Kd.R_drew)); exact HO_83.out) hb); have n1_ := Aside0.mk (blk_below (g := gb199) (o := .cells #[.int .i64 ((rd_T23 l0 x47_2).f0), .int .i64 ((rd_T23 l0 x47_2).f1), .int .i64 ((rd_T23 l0 x47_2).f2), .int .i64 ((rd_T23 l0 x47_2).f3), .int .i64 ((rd_T23 l0 x47_2).f4), .int .i64 ((rd_T23 l0 x47_2).f5)] 23 (0, 0)) (by (with_reducible repeat (first | refine blk_drewN ?_ _ | refine blk_drew ?_ | refine blk_alloc ?_ _)); exact BK199.out) hb); have n2_ := Aside0.mk (below_step (by repeat (first | (with_reducible first | exact HB.out | apply below_alloc | apply pw_below_drewN | apply below_drew1 | refine below_set ?_ GE199.out) | exact HB.out)) hb); clear HO_83; clear BK199; clear HB; have HO_83 := n0_; have BK199 := n1_; have HB := n2_; clear n0_ n1_ n2_; (try clear hb); (try clear hb2); (try clear hk); (try clear hi)))
                                            go_ret
                                            exact ⟨by first | rfl | (simp [errW_none, errW_some] <;> rfl) | (simp [*, errW_none, errW_some] <;> rfl), by repeat (first | (with_reducible first | exact HB.out | apply below_alloc | apply pw_below_drewN | apply below_drew1 | refine below_set ?_ GE199.out) | exact HB.out)⟩
                                          · rw [if_neg c36] at H
                                            have c36b0 : decide (t205 < (wrap64 (((rd_T23 l0 x47_2).f4) + (wrap64 (a1))))) = false := decide_eq_false c36
                                            clear c36
                                            by_cases c39 : t205 ≥ (wrap64 ((wrap64 (((rd_T23 l0 x47_2).f4) + (wrap64 (a1)))) + t196))
                                            · rw [if_pos c39] at H
                                              have c39b0 : decide ((wrap64 ((wrap64 (((rd_T23 l0 x47_2).f4) + (wrap64 (a1)))) + t196)) ≤ t205) = true := decide_eq_true c39
                                              clear c39
                                              obtain rfl := Option.some.inj H
                                              have p204 : 0 ≤ (x85_4 : Int) := of_decide_eq_true (by first | (with_reducible assumption) | assumption)
                                              have q204 : x85_4 < (t200.length : Int) := of_decide_eq_true (by first | (with_reducible assumption) | assumption)
                                              obtain ⟨ad204, e204, hx204_0⟩ := Kd.at_int (Kd.R_reads' HO_83.out).2.2 x85_4 p204 q204
                                              cases e204
                                              replace p204 := eq_true p204
                                              replace q204 := eq_true q204
                                              have hcz40_0 : wr.cell? ⟨gb199, 0, none⟩ = some (.int .i64 ((rd_T23 l0 x47_2).f0)) := (blk_cell BK199.out 0).trans rfl
                                              have hcz40_1 : wr.cell? ⟨gb199, 1, none⟩ = some (.int .i64 ((rd_T23 l0 x47_2).f1)) := (blk_cell BK199.out 1).trans rfl
                                              have hcz40_2 : wr.cell? ⟨gb199, 2, none⟩ = some (.int .i64 ((rd_T23 l0 x47_2).f2)) := (blk_cell BK199.out 2).trans rfl
                                              have hcz40_3 : wr.cell? ⟨gb199, 3, none⟩ = some (.int .i64 ((rd_T23 l0 x47_2).f3)) := (blk_cell BK199.out 3).trans rfl
                                              have hcz40_4 : wr.cell? ⟨gb199, 4, none⟩ = some (.int .i64 ((rd_T23 l0 x47_2).f4)) := (blk_cell BK199.out 4).trans rfl
                                              have hcz40_5 : wr.cell? ⟨gb199, 5, none⟩ = some (.int .i64 ((rd_T23 l0 x47_2).f5)) := (blk_cell BK199.out 5).trans rfl
                                              have hfz40_0 := blk_frozen BK199.out 0
                                              have hfz40_1 := blk_frozen BK199.out 1
                                              have hfz40_2 := blk_frozen BK199.out 2
                                              have hfz40_3 := blk_frozen BK199.out 3
                                              have hfz40_4 := blk_frozen BK199.out 4
                                              have hfz40_5 := blk_frozen BK199.out 5
                                              go_wp2_with (first | ((with_reducible refine gate_callee (f := 11) rfl ?_); refine goesL_ (some 92) rfl rfl Try.func11 (by kernel_rfl) rfl #[.agg #[.int .i64 ((rd_T23 l0 x47_2).f0), .int .i64 ((rd_T23 l0 x47_2).f1), .int .i64 ((rd_T23 l0 x47_2).f2), .int .i64 ((rd_T23 l0 x47_2).f3), .int .i64 ((rd_T23 l0 x47_2).f4), .int .i64 ((rd_T23 l0 x47_2).f5)], .int .i64 (rd t200 x85_4)] rfl (by (try simp only [List.map_toArray, List.map_cons, List.map_nil]); first | done | rfl | (simp only [List.length_drop, List.length_take]; rfl)) ?_; (with_reducible refine (flow_Window.calls ((rd_T23 l0 x47_2).f0) ((rd_T23 l0 x47_2).f1) ((rd_T23 l0 x47_2).f2) ((rd_T23 l0 x47_2).f3) ((rd_T23 l0 x47_2).f4) ((rd_T23 l0 x47_2).f5) (rd t200 x85_4) t205 t206 t207 _ A34.out).mono ?_); rintro e w41 ⟨rfl, hb⟩; refine ⟨_, rfl, ?_⟩; have n0_ := Aside0.mk (Kd.R_below (by (with_reducible repeat (first | apply Kd.R_alloc | apply Kd.R_drewN | apply Kd.R_drew)); exact HO_83.out) hb); have n1_ := Aside0.mk (blk_below (g := gb199) (o := .cells #[.int .i64 ((rd_T23 l0 x47_2).f0), .int .i64 ((rd_T23 l0 x47_2).f1), .int .i64 ((rd_T23 l0 x47_2).f2), .int .i64 ((rd_T23 l0 x47_2).f3), .int .i64 ((rd_T23 l0 x47_2).f4), .int .i64 ((rd_T23 l0 x47_2).f5)] 23 (0, 0)) (by (with_reducible repeat (first | refine blk_drewN ?_ _ | refine blk_drew ?_ | refine blk_alloc ?_ _)); exact BK199.out) hb); have n2_ := Aside0.mk (below_step (by repeat (first | (with_reducible first | exact HB.out | apply below_alloc | apply pw_below_drewN | apply below_drew1 | refine below_set ?_ GE199.out) | exact HB.out)) hb); clear HO_83; clear BK199; clear HB; have HO_83 := n0_; have BK199 := n1_; have HB := n2_; clear n0_ n1_ n2_; (try clear hb); (try clear hb2); (try clear hk); (try clear hi)))
                                              go_ret
                                              exact ⟨by first | rfl | (simp [errW_none, errW_some] <;> rfl) | (simp [*, errW_none, errW_some] <;> rfl), by repeat (first | (with_reducible first | exact HB.out | apply below_alloc | apply pw_below_drewN | apply below_drew1 | refine below_set ?_ GE199.out) | exact HB.out)⟩
                                            · rw [if_neg c39] at H
                                              have c39b0 : decide ((wrap64 ((wrap64 (((rd_T23 l0 x47_2).f4) + (wrap64 (a1)))) + t196)) ≤ t205) = false := decide_eq_false c39
                                              clear c39
                                              have H' := Aside0.mk H
                                              clear H
                                              have p204 : 0 ≤ (x85_4 : Int) := of_decide_eq_true (by first | (with_reducible assumption) | assumption)
                                              have q204 : x85_4 < (t200.length : Int) := of_decide_eq_true (by first | (with_reducible assumption) | assumption)
                                              obtain ⟨ad204, e204, hx204_0⟩ := Kd.at_int (Kd.R_reads' HO_83.out).2.2 x85_4 p204 q204
                                              cases e204
                                              replace p204 := eq_true p204
                                              replace q204 := eq_true q204
                                              have hcz42_0 : wr.cell? ⟨gb199, 0, none⟩ = some (.int .i64 ((rd_T23 l0 x47_2).f0)) := (blk_cell BK199.out 0).trans rfl
                                              have hcz42_1 : wr.cell? ⟨gb199, 1, none⟩ = some (.int .i64 ((rd_T23 l0 x47_2).f1)) := (blk_cell BK199.out 1).trans rfl
                                              have hcz42_2 : wr.cell? ⟨gb199, 2, none⟩ = some (.int .i64 ((rd_T23 l0 x47_2).f2)) := (blk_cell BK199.out 2).trans rfl
                                              have hcz42_3 : wr.cell? ⟨gb199, 3, none⟩ = some (.int .i64 ((rd_T23 l0 x47_2).f3)) := (blk_cell BK199.out 3).trans rfl
                                              have hcz42_4 : wr.cell? ⟨gb199, 4, none⟩ = some (.int .i64 ((rd_T23 l0 x47_2).f4)) := (blk_cell BK199.out 4).trans rfl
                                              have hcz42_5 : wr.cell? ⟨gb199, 5, none⟩ = some (.int .i64 ((rd_T23 l0 x47_2).f5)) := (blk_cell BK199.out 5).trans rfl
                                              have hfz42_0 := blk_frozen BK199.out 0
                                              have hfz42_1 := blk_frozen BK199.out 1
                                              have hfz42_2 := blk_frozen BK199.out 2
                                              have hfz42_3 := blk_frozen BK199.out 3
                                              have hfz42_4 := blk_frozen BK199.out 4
                                              have hfz42_5 := blk_frozen BK199.out 5
                                              go_wp2_with (first | ((with_reducible refine gate_callee (f := 11) rfl ?_); refine goesL_ (some 92) rfl rfl Try.func11 (by kernel_rfl) rfl #[.agg #[.int .i64 ((rd_T23 l0 x47_2).f0), .int .i64 ((rd_T23 l0 x47_2).f1), .int .i64 ((rd_T23 l0 x47_2).f2), .int .i64 ((rd_T23 l0 x47_2).f3), .int .i64 ((rd_T23 l0 x47_2).f4), .int .i64 ((rd_T23 l0 x47_2).f5)], .int .i64 (rd t200 x85_4)] rfl (by (try simp only [List.map_toArray, List.map_cons, List.map_nil]); first | done | rfl | (simp only [List.length_drop, List.length_take]; rfl)) ?_; (with_reducible refine (flow_Window.calls ((rd_T23 l0 x47_2).f0) ((rd_T23 l0 x47_2).f1) ((rd_T23 l0 x47_2).f2) ((rd_T23 l0 x47_2).f3) ((rd_T23 l0 x47_2).f4) ((rd_T23 l0 x47_2).f5) (rd t200 x85_4) t205 t206 t207 _ A34.out).mono ?_); rintro e w43 ⟨rfl, hb⟩; refine ⟨_, rfl, ?_⟩; have n0_ := Aside0.mk (Kd.R_below (by (with_reducible repeat (first | apply Kd.R_alloc | apply Kd.R_drewN | apply Kd.R_drew)); exact HO_83.out) hb); have n1_ := Aside0.mk (blk_below (g := gb199) (o := .cells #[.int .i64 ((rd_T23 l0 x47_2).f0), .int .i64 ((rd_T23 l0 x47_2).f1), .int .i64 ((rd_T23 l0 x47_2).f2), .int .i64 ((rd_T23 l0 x47_2).f3), .int .i64 ((rd_T23 l0 x47_2).f4), .int .i64 ((rd_T23 l0 x47_2).f5)] 23 (0, 0)) (by (with_reducible repeat (first | refine blk_drewN ?_ _ | refine blk_drew ?_ | refine blk_alloc ?_ _)); exact BK199.out) hb); have n2_ := Aside0.mk (below_step (by repeat (first | (with_reducible first | exact HB.out | apply below_alloc | apply pw_below_drewN | apply below_drew1 | refine below_set ?_ GE199.out) | exact HB.out)) hb); clear HO_83; clear BK199; clear HB; have HO_83 := n0_; have BK199 := n1_; have HB := n2_; clear n0_ n1_ n2_; (try clear hb); (try clear hb2); (try clear hk); (try clear hi)))
                                              go_roundg k4
                                              case measure => have := HJ8.out; have := HK2.out; have := HJ17.out; have := HK4.out; omega
                                              case rel => exact ⟨(wrap64 (x85_4 + 1)), (by first | rfl | (simp; done) | (simp [*]; done)), H', ⟨by have := HJ8.out; have := HK2.out; have := HJ17.out; have := HK4.out; omega⟩, ⟨by (with_reducible repeat (first | apply Kd.R_alloc | apply Kd.R_drewN | apply Kd.R_drew)); exact HO_83.out⟩, ⟨by (with_reducible repeat (first | refine blk_drewN ?_ _ | refine blk_drew ?_ | refine blk_alloc ?_ _)); exact BK199.out⟩, ⟨by repeat (first | (with_reducible first | exact HB.out | apply below_alloc | apply pw_below_drewN | apply below_drew1 | refine below_set ?_ GE199.out) | exact HB.out)⟩⟩
                                        · rw [if_neg c35] at H
                                          have c35b0 : (t207 == 0) = false := beq_eq_false_iff_ne.mpr c35
                                          have c35b1 : (t207 != 0) = true := bne_iff_ne.mpr c35
                                          obtain rfl := Option.some.inj H
                                          have p204 : 0 ≤ (x85_4 : Int) := of_decide_eq_true (by first | (with_reducible assumption) | assumption)
                                          have q204 : x85_4 < (t200.length : Int) := of_decide_eq_true (by first | (with_reducible assumption) | assumption)
                                          obtain ⟨ad204, e204, hx204_0⟩ := Kd.at_int (Kd.R_reads' HO_83.out).2.2 x85_4 p204 q204
                                          cases e204
                                          replace p204 := eq_true p204
                                          replace q204 := eq_true q204
                                          have hcz44_0 : wr.cell? ⟨gb199, 0, none⟩ = some (.int .i64 ((rd_T23 l0 x47_2).f0)) := (blk_cell BK199.out 0).trans rfl
                                          have hcz44_1 : wr.cell? ⟨gb199, 1, none⟩ = some (.int .i64 ((rd_T23 l0 x47_2).f1)) := (blk_cell BK199.out 1).trans rfl
                                          have hcz44_2 : wr.cell? ⟨gb199, 2, none⟩ = some (.int .i64 ((rd_T23 l0 x47_2).f2)) := (blk_cell BK199.out 2).trans rfl
                                          have hcz44_3 : wr.cell? ⟨gb199, 3, none⟩ = some (.int .i64 ((rd_T23 l0 x47_2).f3)) := (blk_cell BK199.out 3).trans rfl
                                          have hcz44_4 : wr.cell? ⟨gb199, 4, none⟩ = some (.int .i64 ((rd_T23 l0 x47_2).f4)) := (blk_cell BK199.out 4).trans rfl
                                          have hcz44_5 : wr.cell? ⟨gb199, 5, none⟩ = some (.int .i64 ((rd_T23 l0 x47_2).f5)) := (blk_cell BK199.out 5).trans rfl
                                          have hfz44_0 := blk_frozen BK199.out 0
                                          have hfz44_1 := blk_frozen BK199.out 1
                                          have hfz44_2 := blk_frozen BK199.out 2
                                          have hfz44_3 := blk_frozen BK199.out 3
                                          have hfz44_4 := blk_frozen BK199.out 4
                                          have hfz44_5 := blk_frozen BK199.out 5
                                          go_wp2_with (first | ((with_reducible refine gate_callee (f := 11) rfl ?_); refine goesL_ (some 92) rfl rfl Try.func11 (by kernel_rfl) rfl #[.agg #[.int .i64 ((rd_T23 l0 x47_2).f0), .int .i64 ((rd_T23 l0 x47_2).f1), .int .i64 ((rd_T23 l0 x47_2).f2), .int .i64 ((rd_T23 l0 x47_2).f3), .int .i64 ((rd_T23 l0 x47_2).f4), .int .i64 ((rd_T23 l0 x47_2).f5)], .int .i64 (rd t200 x85_4)] rfl (by (try simp only [List.map_toArray, List.map_cons, List.map_nil]); first | done | rfl | (simp only [List.length_drop, List.length_take]; rfl)) ?_; (with_reducible refine (flow_Window.calls ((rd_T23 l0 x47_2).f0) ((rd_T23 l0 x47_2).f1) ((rd_T23 l0 x47_2).f2) ((rd_T23 l0 x47_2).f3) ((rd_T23 l0 x47_2).f4) ((rd_T23 l0 x47_2).f5) (rd t200 x85_4) t205 t206 t207 _ A34.out).mono ?_); rintro e w45 ⟨rfl, hb⟩; refine ⟨_, rfl, ?_⟩; have n0_ := Aside0.mk (Kd.R_below (by (with_reducible repeat (first | apply Kd.R_alloc | apply Kd.R_drewN | apply Kd.R_drew)); exact HO_83.out) hb); have n1_ := Aside0.mk (blk_below (g := gb199) (o := .cells #[.int .i64 ((rd_T23 l0 x47_2).f0), .int .i64 ((rd_T23 l0 x47_2).f1), .int .i64 ((rd_T23 l0 x47_2).f2), .int .i64 ((rd_T23 l0 x47_2).f3), .int .i64 ((rd_T23 l0 x47_2).f4), .int .i64 ((rd_T23 l0 x47_2).f5)] 23 (0, 0)) (by (with_reducible repeat (first | refine blk_drewN ?_ _ | refine blk_drew ?_ | refine blk_alloc ?_ _)); exact BK199.out) hb); have n2_ := Aside0.mk (below_step (by repeat (first | (with_reducible first | exact HB.out | apply below_alloc | apply pw_below_drewN | apply below_drew1 | refine below_set ?_ GE199.out) | exact HB.out)) hb); clear HO_83; clear BK199; clear HB; have HO_83 := n0_; have BK199 := n1_; have HB := n2_; clear n0_ n1_ n2_; (try clear hb); (try clear hb2); (try clear hk); (try clear hi)))
                                          go_ret
                                          exact ⟨by first | rfl | (simp [errW_none, errW_some] <;> rfl) | (simp [*, errW_none, errW_some] <;> rfl), by repeat (first | (with_reducible first | exact HB.out | apply below_alloc | apply pw_below_drewN | apply below_drew1 | refine below_set ?_ GE199.out) | exact HB.out)⟩
                                      · rw [if_neg c33] at H
                                        exact absurd H (by simp)
                                    · rw [if_neg c32] at H
                                      exact absurd H (by simp)
                                  · rw [if_neg c31] at H
                                    have c31b0 : decide (x85_4 < (t200.length : Int)) = false := decide_eq_false c31
                                    clear c31
                                    have H' := Aside0.mk H
                                    clear H
                                    go_wp2
                                    go_roundg k4
                                    case measure => have := HJ8.out; have := HK2.out; have := HJ17.out; have := HK4.out; omega
                                    case rel => exact ⟨(wrap64 (x47_2 + 1)), (by first | rfl | (simp; done) | (simp [*]; done)), H', ⟨by have := HJ8.out; have := HK2.out; have := HJ17.out; have := HK4.out; omega⟩, ⟨by repeat (first | (with_reducible first | exact HB.out | apply below_alloc | apply pw_below_drewN | apply below_drew1 | refine below_set ?_ GE199.out) | exact HB.out)⟩⟩
                      · rw [if_neg c16] at H
                        exact absurd H (by simp)
                    · rw [if_neg c15] at H
                      exact absurd H (by simp)
                  · rw [if_neg c14] at H
                    have c14b0 : decide (x47_2 < (l0.length : Int)) = false := decide_eq_false c14
                    clear c14
                    obtain rfl := Option.some.inj H
                    go_wp2
                    go_ret
                    exact ⟨by first | rfl | (simp [errW_none, errW_some] <;> rfl) | (simp [*, errW_none, errW_some] <;> rfl), by repeat (first | (with_reducible first | exact HB.out | apply below_alloc | apply pw_below_drewN | apply below_drew1) | exact HB.out)⟩
      · rw [if_neg c8] at H
        have c8b0 : (t197 == 0) = false := beq_eq_false_iff_ne.mpr c8
        have c8b1 : (t197 != 0) = true := bne_iff_ne.mpr c8
        by_cases c46 : t196 = 0
        · rw [if_pos c46] at H
          have c46b0 : (t196 == 0) = true := beq_iff_eq.mpr c46
          have c46b1 : (t196 != 0) = false := bne_eq_false_iff_eq.mpr c46
          clear c46
          by_cases c47 : t197 = 1
          · rw [if_pos c47] at H
            have c47b0 : (t197 == 1) = true := beq_iff_eq.mpr c47
            have c47b1 : (t197 != 1) = false := bne_eq_false_iff_eq.mpr c47
            clear c47
            obtain rfl := Option.some.inj H
            go_enter Try.func7, Try.ntmps7
            go_wp2_with (first | ((with_reducible refine gate_callee (f := 10) rfl ?_); refine goesL_ (some 17) rfl rfl Try.func10 (by kernel_rfl) rfl #[] rfl (by (try simp only [List.map_toArray, List.map_cons, List.map_nil]); first | done | rfl | (simp only [List.length_drop, List.length_take]; rfl)) ?_; (with_reducible refine (hopmeshlaw32_awake.calls k  true _ A3.out).mono ?_); rintro e w48 ⟨rfl, hb⟩; refine ⟨_, rfl, ?_⟩; have n0_ := Aside0.mk (below_step (by repeat (first | (with_reducible first | exact HB.out | apply below_alloc | apply pw_below_drewN | apply below_drew1) | exact HB.out)) hb); clear HB; have HB := n0_; clear n0_; (try clear hb); (try clear hb2); (try clear hk); (try clear hi)) | ((with_reducible refine gate_callee (f := 16) rfl ?_); refine goesL_ (some 24) rfl rfl Try.func16 (by kernel_rfl) rfl #[.slice A0 l0.length c0] rfl (by (try simp only [List.map_toArray, List.map_cons, List.map_nil]); first | done | rfl | (simp only [List.length_drop, List.length_take]; rfl)) ?_; (with_reducible refine (flow_Hyper.calls k _ _ l0 t196 t197 _ ?side1 ?side2 A7.out).mono ?_); (case side1 => repeat (first | exact (Kd.C_below HR0.out HB.out) | (with_reducible refine Kd.C_alloc ?_ _) | (with_reducible refine Kd.C_drewN ?_ _) | (with_reducible refine Kd.C_drew ?_))); (case side2 => exact HC0.out); rintro e w49 ⟨rfl, hb⟩; refine ⟨_, rfl, ?_⟩; have n0_ := Aside0.mk (below_step (by repeat (first | (with_reducible first | exact HB.out | apply below_alloc | apply pw_below_drewN | apply below_drew1) | exact HB.out)) hb); clear HB; have HB := n0_; clear n0_; (try clear hb); (try clear hb2); (try clear hk); (try clear hi)))
            go_ret
            exact ⟨by first | rfl | (simp [errW_none, errW_some] <;> rfl) | (simp [*, errW_none, errW_some] <;> rfl), by repeat (first | (with_reducible first | exact HB.out | apply below_alloc | apply pw_below_drewN | apply below_drew1) | exact HB.out)⟩
          · rw [if_neg c47] at H
            have c47b0 : (t197 == 1) = false := beq_eq_false_iff_ne.mpr c47
            have c47b1 : (t197 != 1) = true := bne_iff_ne.mpr c47
            obtain rfl := Option.some.inj H
            go_enter Try.func7, Try.ntmps7
            go_wp2_with (first | ((with_reducible refine gate_callee (f := 10) rfl ?_); refine goesL_ (some 17) rfl rfl Try.func10 (by kernel_rfl) rfl #[] rfl (by (try simp only [List.map_toArray, List.map_cons, List.map_nil]); first | done | rfl | (simp only [List.length_drop, List.length_take]; rfl)) ?_; (with_reducible refine (hopmeshlaw32_awake.calls k  true _ A3.out).mono ?_); rintro e w50 ⟨rfl, hb⟩; refine ⟨_, rfl, ?_⟩; have n0_ := Aside0.mk (below_step (by repeat (first | (with_reducible first | exact HB.out | apply below_alloc | apply pw_below_drewN | apply below_drew1) | exact HB.out)) hb); clear HB; have HB := n0_; clear n0_; (try clear hb); (try clear hb2); (try clear hk); (try clear hi)) | ((with_reducible refine gate_callee (f := 16) rfl ?_); refine goesL_ (some 24) rfl rfl Try.func16 (by kernel_rfl) rfl #[.slice A0 l0.length c0] rfl (by (try simp only [List.map_toArray, List.map_cons, List.map_nil]); first | done | rfl | (simp only [List.length_drop, List.length_take]; rfl)) ?_; (with_reducible refine (flow_Hyper.calls k _ _ l0 t196 t197 _ ?side1 ?side2 A7.out).mono ?_); (case side1 => repeat (first | exact (Kd.C_below HR0.out HB.out) | (with_reducible refine Kd.C_alloc ?_ _) | (with_reducible refine Kd.C_drewN ?_ _) | (with_reducible refine Kd.C_drew ?_))); (case side2 => exact HC0.out); rintro e w51 ⟨rfl, hb⟩; refine ⟨_, rfl, ?_⟩; have n0_ := Aside0.mk (below_step (by repeat (first | (with_reducible first | exact HB.out | apply below_alloc | apply pw_below_drewN | apply below_drew1) | exact HB.out)) hb); clear HB; have HB := n0_; clear n0_; (try clear hb); (try clear hb2); (try clear hk); (try clear hi)))
            go_ret
            exact ⟨by first | rfl | (simp [errW_none, errW_some] <;> rfl) | (simp [*, errW_none, errW_some] <;> rfl), by repeat (first | (with_reducible first | exact HB.out | apply below_alloc | apply pw_below_drewN | apply below_drew1) | exact HB.out)⟩
        · rw [if_neg c46] at H
          have c46b0 : (t196 == 0) = false := beq_eq_false_iff_ne.mpr c46
          have c46b1 : (t196 != 0) = true := bne_iff_ne.mpr c46
          obtain rfl := Option.some.inj H
          go_enter Try.func7, Try.ntmps7
          go_wp2_with (first | ((with_reducible refine gate_callee (f := 10) rfl ?_); refine goesL_ (some 17) rfl rfl Try.func10 (by kernel_rfl) rfl #[] rfl (by (try simp only [List.map_toArray, List.map_cons, List.map_nil]); first | done | rfl | (simp only [List.length_drop, List.length_take]; rfl)) ?_; (with_reducible refine (hopmeshlaw32_awake.calls k  true _ A3.out).mono ?_); rintro e w52 ⟨rfl, hb⟩; refine ⟨_, rfl, ?_⟩; have n0_ := Aside0.mk (below_step (by repeat (first | (with_reducible first | exact HB.out | apply below_alloc | apply pw_below_drewN | apply below_drew1) | exact HB.out)) hb); clear HB; have HB := n0_; clear n0_; (try clear hb); (try clear hb2); (try clear hk); (try clear hi)) | ((with_reducible refine gate_callee (f := 16) rfl ?_); refine goesL_ (some 24) rfl rfl Try.func16 (by kernel_rfl) rfl #[.slice A0 l0.length c0] rfl (by (try simp only [List.map_toArray, List.map_cons, List.map_nil]); first | done | rfl | (simp only [List.length_drop, List.length_take]; rfl)) ?_; (with_reducible refine (flow_Hyper.calls k _ _ l0 t196 t197 _ ?side1 ?side2 A7.out).mono ?_); (case side1 => repeat (first | exact (Kd.C_below HR0.out HB.out) | (with_reducible refine Kd.C_alloc ?_ _) | (with_reducible refine Kd.C_drewN ?_ _) | (with_reducible refine Kd.C_drew ?_))); (case side2 => exact HC0.out); rintro e w53 ⟨rfl, hb⟩; refine ⟨_, rfl, ?_⟩; have n0_ := Aside0.mk (below_step (by repeat (first | (with_reducible first | exact HB.out | apply below_alloc | apply pw_below_drewN | apply below_drew1) | exact HB.out)) hb); clear HB; have HB := n0_; clear n0_; (try clear hb); (try clear hb2); (try clear hk); (try clear hi)))
          go_ret
          exact ⟨by first | rfl | (simp [errW_none, errW_some] <;> rfl) | (simp [*, errW_none, errW_some] <;> rfl), by repeat (first | (with_reducible first | exact HB.out | apply below_alloc | apply pw_below_drewN | apply below_drew1) | exact HB.out)⟩
  · replace c4 := Bool.eq_false_iff.mpr c4
    subst c4
    have H1 : (some false) = some r := by rw [if_neg (show ¬ (false = true) by decide)] at H; exact H
    clear H
    have H := H1
    clear H1
    obtain rfl := Option.some.inj H
    go_enter Try.func7, Try.ntmps7
    go_wp2_with (first | ((with_reducible refine gate_callee (f := 10) rfl ?_); refine goesL_ (some 17) rfl rfl Try.func10 (by kernel_rfl) rfl #[] rfl (by (try simp only [List.map_toArray, List.map_cons, List.map_nil]); first | done | rfl | (simp only [List.length_drop, List.length_take]; rfl)) ?_; (with_reducible refine (hopmeshlaw32_awake.calls k  false _ A3.out).mono ?_); rintro e w54 ⟨rfl, hb⟩; refine ⟨_, rfl, ?_⟩; have n0_ := Aside0.mk (below_step (by repeat (first | (with_reducible first | exact HB.out | apply below_alloc | apply pw_below_drewN | apply below_drew1) | exact HB.out)) hb); clear HB; have HB := n0_; clear n0_; (try clear hb); (try clear hb2); (try clear hk); (try clear hi)))
    go_ret
    exact ⟨by first | rfl | (simp [errW_none, errW_some] <;> rfl) | (simp [*, errW_none, errW_some] <;> rfl), by repeat (first | (with_reducible first | exact HB.out | apply below_alloc | apply pw_below_drewN | apply below_drew1) | exact HB.out)⟩

end Go.Proofs.Ythlgnbeoanafbaa.PX
