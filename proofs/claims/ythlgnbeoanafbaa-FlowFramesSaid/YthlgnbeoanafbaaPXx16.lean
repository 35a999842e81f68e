-- Written by wip/xprint.py, a program of this claim's own, over the kit's print program. Lean checks it.
import Derived.Test.YthlgnbeoanafbaaPXx0
import Derived.Test.YthlgnbeoanafbaaPXx15
namespace Go.Proofs.Ythlgnbeoanafbaa.PX
open Go.RowKit Go.Proofs.YthlgnbeoanafbaaW.PrintWords Go.Proofs.YthlgnbeoanafbaaW.PrintLast Go.Proofs.YthlgnbeoanafbaaW.PrintMore
attribute [local go_sem] max2_int min2_int max_two min_two max_three min_three max_four min_four   -- for this text's walks alone
set_option linter.unusedVariables false
set_option linter.unusedSimpArgs false

/-! ### hopmeshref32_Fault: function 38 -/
def hopmeshref32_Fault.j0 : Nat → Bool → Int → Int → Int → Int → Int → Int → Option (Int)
  | 0, _, _, _, _, _, _, _ => none
  | k + 1, x47, x132000, x132001, x132002, x132003, x132004, x132005 => if x47 = true then (some 2) else (if x132001 = x132002 then (some 1) else (some 0))
def hopmeshref32_Fault.f (k : Nat) (a0 : Int) (a1_0 : Int) (a1_1 : Int) (a1_2 : Int) (a1_3 : Int) (a1_4 : Int) (a1_5 : Int) : Option (Int) := (hopmeshref32_in.f a1_0 0 255).bind fun t132 => (if t132 = true then ((hopmeshref32_in.f a1_1 0 (wrap64 (a0 - 1))).bind fun t133 => (if t133 = true then ((hopmeshref32_in.f a1_2 0 (wrap64 (a0 - 1))).bind fun t134 => (if t134 = true then ((hopmeshref32_in.f a1_3 1 512).bind fun t135 => (if t135 = true then ((hopmeshref32_in.f a1_4 0 (wrap64 (a1_3 - 1))).bind fun t136 => (if t136 = true then ((hopmeshref32_in.f a1_5 1 a1_3).bind fun t137 => (hopmeshref32_Fault.j0 k (!t137) a1_0 a1_1 a1_2 a1_3 a1_4 a1_5)) else (hopmeshref32_Fault.j0 k true a1_0 a1_1 a1_2 a1_3 a1_4 a1_5))) else (hopmeshref32_Fault.j0 k true a1_0 a1_1 a1_2 a1_3 a1_4 a1_5))) else (hopmeshref32_Fault.j0 k true a1_0 a1_1 a1_2 a1_3 a1_4 a1_5))) else (hopmeshref32_Fault.j0 k true a1_0 a1_1 a1_2 a1_3 a1_4 a1_5))) else (hopmeshref32_Fault.j0 k true a1_0 a1_1 a1_2 a1_3 a1_4 a1_5))
theorem hopmeshref32_Fault.mono_l : ∀ k, (∀ y0 y1 y2 y3 y4 y5 y6, LeO (hopmeshref32_Fault.j0 k y0 y1 y2 y3 y4 y5 y6) (hopmeshref32_Fault.j0 (k + 1) y0 y1 y2 y3 y4 y5 y6))
  | 0 => fun _ _ _ _ _ _ _ r h => by simp [hopmeshref32_Fault.j0] at h
  | k + 1 => by
    have ih0 := hopmeshref32_Fault.mono_l k
    · intro y0 y1 y2 y3 y4 y5 y6
      unfold hopmeshref32_Fault.j0
      repeat' first
      | (with_reducible exact ih0 _ _ _ _ _ _ _)
      | (with_reducible exact LeO.refl _)
      | (with_reducible exact LeO.none _)
      | (with_reducible refine LeO.ite ?_ ?_)
      | (with_reducible refine LeO.bind ?_ (fun _ => ?_))
      | exact ih0 _ _ _ _ _ _ _
      | exact LeO.none _
      | refine LeO.ite ?_ ?_
      | refine LeO.bind ?_ (fun _ => ?_)
theorem hopmeshref32_Fault.mono : ∀ a0 a1 a2 a3 a4 a5 a6 k, LeO (hopmeshref32_Fault.f k a0 a1 a2 a3 a4 a5 a6) (hopmeshref32_Fault.f (k + 1) a0 a1 a2 a3 a4 a5 a6) := by
  intro a0 a1 a2 a3 a4 a5 a6 k
  have ih0 := hopmeshref32_Fault.mono_l k
  unfold hopmeshref32_Fault.f
  repeat' first
      | (with_reducible exact ih0 _ _ _ _ _ _ _)
      | (with_reducible exact LeO.refl _)
      | (with_reducible exact LeO.none _)
      | (with_reducible refine LeO.ite ?_ ?_)
      | (with_reducible refine LeO.bind ?_ (fun _ => ?_))
      | exact ih0 _ _ _ _ _ _ _
      | exact LeO.none _
      | refine LeO.ite ?_ ?_
      | refine LeO.bind ?_ (fun _ => ?_)
set_option maxHeartbeats 8000000 in
set_option maxRecDepth 100000 in
theorem hopmeshref32_Fault.calls (k : Nat) (a0 : Int) (a1_0 : Int) (a1_1 : Int) (a1_2 : Int) (a1_3 : Int) (a1_4 : Int) (a1_5 : Int) (r : Int) (w : World) (h : hopmeshref32_Fault.f k a0 a1_0 a1_1 a1_2 a1_3 a1_4 a1_5 = some r) :
    Calls Try.prog 38 #[.int .i64 a0, .agg #[.int .i64 a1_0, .int .i64 a1_1, .int .i64 a1_2, .int .i64 a1_3, .int .i64 a1_4, .int .i64 a1_5]] w fun e w' => e = .returned (.int .i64 r) ∧ Below w.heap.size w w' := by
  have hu23 := Try.underlying23
  have HB := Aside0.mk (Below.refl w.heap.size w)
  have H : ((hopmeshref32_in.f a1_0 0 255).bind fun t132 => (if t132 = true then ((hopmeshref32_in.f a1_1 0 (wrap64 (a0 - 1))).bind fun t133 => (if t133 = true then ((hopmeshref32_in.f a1_2 0 (wrap64 (a0 - 1))).bind fun t134 => (if t134 = true then ((hopmeshref32_in.f a1_3 1 512).bind fun t135 => (if t135 = true then ((hopmeshref32_in.f a1_4 0 (wrap64 (a1_3 - 1))).bind fun t136 => (if t136 = true then ((hopmeshref32_in.f a1_5 1 a1_3).bind fun t137 => (hopmeshref32_Fault.j0 k (!t137) a1_0 a1_1 a1_2 a1_3 a1_4 a1_5)) else (hopmeshref32_Fault.j0 k true a1_0 a1_1 a1_2 a1_3 a1_4 a1_5))) else (hopmeshref32_Fault.j0 k true a1_0 a1_1 a1_2 a1_3 a1_4 a1_5))) else (hopmeshref32_Fault.j0 k true a1_0 a1_1 a1_2 a1_3 a1_4 a1_5))) else (hopmeshref32_Fault.j0 k true a1_0 a1_1 a1_2 a1_3 a1_4 a1_5))) else (hopmeshref32_Fault.j0 k true a1_0 a1_1 a1_2 a1_3 a1_4 a1_5))) = some r := h
  clear h
  have HC3 := Aside0.mk H
  clear H
  go_enter Try.func38, Try.ntmps38
  go_upto_region 1 with (first | ((with_reducible refine gate_dst (N := 3) rfl ?_); refine box_event ?hg (N := 3) ?hd (cs := #[.int .i64 a1_0, .int .i64 a1_1, .int .i64 a1_2, .int .i64 a1_3, .int .i64 a1_4, .int .i64 a1_5]) (t := 23) ?hr ?_; (case hd => rfl); (case hg => rfl); (case hr => first | (go_simp; done) | (go_simp; rfl)); intro gb131 hg w4 hbox hb; have n0_ := Aside0.mk (below_step (by repeat (first | (with_reducible first | exact HB.out | apply below_alloc | apply pw_below_drewN | apply below_drew1) | exact HB.out)) hb); have n1_ := Aside0.mk (hbox); have n2_ := Aside0.mk ((by rw [hg]; exact (below_size (by repeat (first | (with_reducible first | exact HB.out | apply below_alloc | apply pw_below_drewN | apply below_drew1) | exact HB.out))) : w.heap.size ≤ gb131)); have n3_ := Aside0.mk ((by rw [hg]; exact (below_size (by repeat (first | (with_reducible first | exact HB.out | apply below_alloc | apply pw_below_drewN | apply below_drew1) | exact HB.out))) : w.heap.size ≤ gb131)); clear HB; have HB := n0_; have BK131 := n1_; have GW131 := n2_; have GE131 := n3_; clear n0_ n1_ n2_ n3_; clear hb hbox hg))
  (try simp only [Act.put, List.setIfInBounds_toArray, List.set_cons_zero, List.set_cons_succ])
  go_cut [47] (fun v47 wc => ∃ (kq : Nat) (x47_2 : Bool), v47 = .bool x47_2 ∧ Aside0 (hopmeshref32_Fault.j0 kq x47_2 a1_0 a1_1 a1_2 a1_3 a1_4 a1_5 = some r) ∧ Aside0 (kq ≤ k) ∧ Aside0 (wc.heap[gb131]? = some (.cells #[.int .i64 a1_0, .int .i64 a1_1, .int .i64 a1_2, .int .i64 a1_3, .int .i64 a1_4, .int .i64 a1_5] 23 (0, 0))) ∧ Aside0 (Below w.heap.size w wc))
  case first =>
    have H := HC3.out
    clear HC3
    replace H := Option.bind_eq_some_iff.mp H
    obtain ⟨t132, A50, H⟩ := H
    replace H : (if t132 = true then ((hopmeshref32_in.f a1_1 0 (wrap64 (a0 - 1))).bind fun t133 => (if t133 = true then ((hopmeshref32_in.f a1_2 0 (wrap64 (a0 - 1))).bind fun t134 => (if t134 = true then ((hopmeshref32_in.f a1_3 1 512).bind fun t135 => (if t135 = true then ((hopmeshref32_in.f a1_4 0 (wrap64 (a1_3 - 1))).bind fun t136 => (if t136 = true then ((hopmeshref32_in.f a1_5 1 a1_3).bind fun t137 => (hopmeshref32_Fault.j0 k (!t137) a1_0 a1_1 a1_2 a1_3 a1_4 a1_5)) else (hopmeshref32_Fault.j0 k true a1_0 a1_1 a1_2 a1_3 a1_4 a1_5))) else (hopmeshref32_Fault.j0 k true a1_0 a1_1 a1_2 a1_3 a1_4 a1_5))) else (hopmeshref32_Fault.j0 k true a1_0 a1_1 a1_2 a1_3 a1_4 a1_5))) else (hopmeshref32_Fault.j0 k true a1_0 a1_1 a1_2 a1_3 a1_4 a1_5))) else (hopmeshref32_Fault.j0 k true a1_0 a1_1 a1_2 a1_3 a1_4 a1_5)) = some r := H
    have A5 := Aside0.mk A50
    clear A50
    by_cases c6 : t132 = true
    · subst c6
      have H1 : ((hopmeshref32_in.f a1_1 0 (wrap64 (a0 - 1))).bind fun t133 => (if t133 = true then ((hopmeshref32_in.f a1_2 0 (wrap64 (a0 - 1))).bind fun t134 => (if t134 = true then ((hopmeshref32_in.f a1_3 1 512).bind fun t135 => (if t135 = true then ((hopmeshref32_in.f a1_4 0 (wrap64 (a1_3 - 1))).bind fun t136 => (if t136 = true then ((hopmeshref32_in.f a1_5 1 a1_3).bind fun t137 => (hopmeshref32_Fault.j0 k (!t137) a1_0 a1_1 a1_2 a1_3 a1_4 a1_5)) else (hopmeshref32_Fault.j0 k true a1_0 a1_1 a1_2 a1_3 a1_4 a1_5))) else (hopmeshref32_Fault.j0 k true a1_0 a1_1 a1_2 a1_3 a1_4 a1_5))) else (hopmeshref32_Fault.j0 k true a1_0 a1_1 a1_2 a1_3 a1_4 a1_5))) else (hopmeshref32_Fault.j0 k true a1_0 a1_1 a1_2 a1_3 a1_4 a1_5))) = some r := by rw [if_pos rfl] at H; exact H
      clear H
      have H := H1
      clear H1
      replace H := Option.bind_eq_some_iff.mp H
      obtain ⟨t133, A70, H⟩ := H
      replace H : (if t133 = true then ((hopmeshref32_in.f a1_2 0 (wrap64 (a0 - 1))).bind fun t134 => (if t134 = true then ((hopmeshref32_in.f a1_3 1 512).bind fun t135 => (if t135 = true then ((hopmeshref32_in.f a1_4 0 (wrap64 (a1_3 - 1))).bind fun t136 => (if t136 = true then ((hopmeshref32_in.f a1_5 1 a1_3).bind fun t137 => (hopmeshref32_Fault.j0 k (!t137) a1_0 a1_1 a1_2 a1_3 a1_4 a1_5)) else (hopmeshref32_Fault.j0 k true a1_0 a1_1 a1_2 a1_3 a1_4 a1_5))) else (hopmeshref32_Fault.j0 k true a1_0 a1_1 a1_2 a1_3 a1_4 a1_5))) else (hopmeshref32_Fault.j0 k true a1_0 a1_1 a1_2 a1_3 a1_4 a1_5))) else (hopmeshref32_Fault.j0 k true a1_0 a1_1 a1_2 a1_3 a1_4 a1_5)) = some r := H
      have A7 := Aside0.mk A70
      clear A70
      by_cases c8 : t133 = true
      · subst c8
        have H1 : ((hopmeshref32_in.f a1_2 0 (wrap64 (a0 - 1))).bind fun t134 => (if t134 = true then ((hopmeshref32_in.f a1_3 1 512).bind fun t135 => (if t135 = true then ((hopmeshref32_in.f a1_4 0 (wrap64 (a1_3 - 1))).bind fun t136 => (if t136 = true then ((hopmeshref32_in.f a1_5 1 a1_3).bind fun t137 => (hopmeshref32_Fault.j0 k (!t137) a1_0 a1_1 a1_2 a1_3 a1_4 a1_5)) else (hopmeshref32_Fault.j0 k true a1_0 a1_1 a1_2 a1_3 a1_4 a1_5))) else (hopmeshref32_Fault.j0 k true a1_0 a1_1 a1_2 a1_3 a1_4 a1_5))) else (hopmeshref32_Fault.j0 k true a1_0 a1_1 a1_2 a1_3 a1_4 a1_5))) = some r := by rw [if_pos rfl] at H; exact H
        clear H
        have H := H1
        clear H1
        replace H := Option.bind_eq_some_iff.mp H
        obtain ⟨t134, A90, H⟩ := H
        replace H : (if t134 = true then ((hopmeshref32_in.f a1_3 1 512).bind fun t135 => (if t135 = true then ((hopmeshref32_in.f a1_4 0 (wrap64 (a1_3 - 1))).bind fun t136 => (if t136 = true then ((hopmeshref32_in.f a1_5 1 a1_3).bind fun t137 => (hopmeshref32_Fault.j0 k (!t137) a1_0 a1_1 a1_2 a1_3 a1_4 a1_5)) else (hopmeshref32_Fault.j0 k true a1_0 a1_1 a1_2 a1_3 a1_4 a1_5))) else (hopmeshref32_Fault.j0 k true a1_0 a1_1 a1_2 a1_3 a1_4 a1_5))) else (hopmeshref32_Fault.j0 k true a1_0 a1_1 a1_2 a1_3 a1_4 a1_5)) = some r := H
        have A9 := Aside0.mk A90
        clear A90
        by_cases c10 : t134 = true
        · subst c10
          have H1 : ((hopmeshref32_in.f a1_3 1 512).bind fun t135 => (if t135 = true then ((hopmeshref32_in.f a1_4 0 (wrap64 (a1_3 - 1))).bind fun t136 => (if t136 = true then ((hopmeshref32_in.f a1_5 1 a1_3).bind fun t137 => (hopmeshref32_Fault.j0 k (!t137) a1_0 a1_1 a1_2 a1_3 a1_4 a1_5)) else (hopmeshref32_Fault.j0 k true a1_0 a1_1 a1_2 a1_3 a1_4 a1_5))) else (hopmeshref32_Fault.j0 k true a1_0 a1_1 a1_2 a1_3 a1_4 a1_5))) = some r := by rw [if_pos rfl] at H; exact H
          clear H
          have H := H1
          clear H1
          replace H := Option.bind_eq_some_iff.mp H
          obtain ⟨t135, A110, H⟩ := H
          replace H : (if t135 = true then ((hopmeshref32_in.f a1_4 0 (wrap64 (a1_3 - 1))).bind fun t136 => (if t136 = true then ((hopmeshref32_in.f a1_5 1 a1_3).bind fun t137 => (hopmeshref32_Fault.j0 k (!t137) a1_0 a1_1 a1_2 a1_3 a1_4 a1_5)) else (hopmeshref32_Fault.j0 k true a1_0 a1_1 a1_2 a1_3 a1_4 a1_5))) else (hopmeshref32_Fault.j0 k true a1_0 a1_1 a1_2 a1_3 a1_4 a1_5)) = some r := H
          have A11 := Aside0.mk A110
          clear A110
          by_cases c12 : t135 = true
          · subst c12
            have H1 : ((hopmeshref32_in.f a1_4 0 (wrap64 (a1_3 - 1))).bind fun t136 => (if t136 = true then ((hopmeshref32_in.f a1_5 1 a1_3).bind fun t137 => (hopmeshref32_Fault.j0 k (!t137) a1_0 a1_1 a1_2 a1_3 a1_4 a1_5)) else (hopmeshref32_Fault.j0 k true a1_0 a1_1 a1_2 a1_3 a1_4 a1_5))) = some r := by rw [if_pos rfl] at H; exact H
            clear H
            have H := H1
            clear H1
            replace H := Option.bind_eq_some_iff.mp H
            obtain ⟨t136, A130, H⟩ := H
            replace H : (if t136 = true then ((hopmeshref32_in.f a1_5 1 a1_3).bind fun t137 => (hopmeshref32_Fault.j0 k (!t137) a1_0 a1_1 a1_2 a1_3 a1_4 a1_5)) else (hopmeshref32_Fault.j0 k true a1_0 a1_1 a1_2 a1_3 a1_4 a1_5)) = some r := H
            have A13 := Aside0.mk A130
            clear A130
            by_cases c14 : t136 = true
            · subst c14
              have H1 : ((hopmeshref32_in.f a1_5 1 a1_3).bind fun t137 => (hopmeshref32_Fault.j0 k (!t137) a1_0 a1_1 a1_2 a1_3 a1_4 a1_5)) = some r := by rw [if_pos rfl] at H; exact H
              clear H
              have H := H1
              clear H1
              replace H := Option.bind_eq_some_iff.mp H
              obtain ⟨t137, A150, H⟩ := H
              replace H : (hopmeshref32_Fault.j0 k (!t137) a1_0 a1_1 a1_2 a1_3 a1_4 a1_5) = some r := H
              have A15 := Aside0.mk A150
              clear A150
              have H' := Aside0.mk H
              clear H
              have hcz16_0 : w4.cell? ⟨gb131, 0, none⟩ = some (.int .i64 a1_0) := (blk_cell BK131.out 0).trans rfl
              have hcz16_1 : w4.cell? ⟨gb131, 1, none⟩ = some (.int .i64 a1_1) := (blk_cell BK131.out 1).trans rfl
              have hcz16_2 : w4.cell? ⟨gb131, 2, none⟩ = some (.int .i64 a1_2) := (blk_cell BK131.out 2).trans rfl
              have hcz16_3 : w4.cell? ⟨gb131, 3, none⟩ = some (.int .i64 a1_3) := (blk_cell BK131.out 3).trans rfl
              have hcz16_4 : w4.cell? ⟨gb131, 4, none⟩ = some (.int .i64 a1_4) := (blk_cell BK131.out 4).trans rfl
              have hcz16_5 : w4.cell? ⟨gb131, 5, none⟩ = some (.int .i64 a1_5) := (blk_cell BK131.out 5).trans rfl
              have hfz16_0 := blk_frozen BK131.out 0
              have hfz16_1 := blk_frozen BK131.out 1
              have hfz16_2 := blk_frozen BK131.out 2
              have hfz16_3 := blk_frozen BK131.out 3
              have hfz16_4 := blk_frozen BK131.out 4
              have hfz16_5 := blk_frozen BK131.out 5
              go_wp2_with (first | ((with_reducible refine gate_callee (f := 37) rfl ?_); refine goesL_ (some 7) rfl rfl Try.func37 (by kernel_rfl) rfl #[.int .i64 a1_0, .int .i64 0, .int .i64 255] rfl (by (try simp only [List.map_toArray, List.map_cons, List.map_nil]); first | done | rfl | (simp only [List.length_drop, List.length_take]; rfl)) ?_; (with_reducible refine (hopmeshref32_in.calls a1_0 0 255 true _ A5.out).mono ?_); rintro e w' ⟨rfl, ⟨nd, rfl⟩⟩; refine ⟨_, rfl, ?_⟩) | (go_at_call 37; (with_reducible refine (hopmeshref32_in.calls a1_1 0 (wrap64 (a0 - 1)) true _ A7.out).mono ?_); rintro e w' ⟨rfl, ⟨nd, rfl⟩⟩) | (go_at_call 37; (with_reducible refine (hopmeshref32_in.calls a1_2 0 (wrap64 (a0 - 1)) true _ A9.out).mono ?_); rintro e w' ⟨rfl, ⟨nd, rfl⟩⟩) | (go_at_call 37; (with_reducible refine (hopmeshref32_in.calls a1_3 1 512 true _ A11.out).mono ?_); rintro e w' ⟨rfl, ⟨nd, rfl⟩⟩) | (go_at_call 37; (with_reducible refine (hopmeshref32_in.calls a1_4 0 (wrap64 (a1_3 - 1)) true _ A13.out).mono ?_); rintro e w' ⟨rfl, ⟨nd, rfl⟩⟩) | (go_at_call 37; (with_reducible refine (hopmeshref32_in.calls a1_5 1 a1_3 t137 _ A15.out).mono ?_); rintro e w' ⟨rfl, ⟨nd, rfl⟩⟩))
              go_meet
              case rel => exact ⟨_, (!t137), (by first | rfl | (simp; done) | (simp [*]; done)), H', ⟨by first | omega | exact Nat.le_refl _⟩, ⟨by (with_reducible repeat (first | refine blk_drewN ?_ _ | refine blk_drew ?_ | refine blk_alloc ?_ _)); exact BK131.out⟩, ⟨by repeat (first | (with_reducible first | exact HB.out | apply below_alloc | apply pw_below_drewN | apply below_drew1 | refine below_set ?_ GE131.out) | exact HB.out)⟩⟩
            · replace c14 := Bool.eq_false_iff.mpr c14
              subst c14
              have H1 : (hopmeshref32_Fault.j0 k true a1_0 a1_1 a1_2 a1_3 a1_4 a1_5) = some r := by rw [if_neg (show ¬ (false = true) by decide)] at H; exact H
              clear H
              have H := H1
              clear H1
              have H' := Aside0.mk H
              clear H
              have hcz17_0 : w4.cell? ⟨gb131, 0, none⟩ = some (.int .i64 a1_0) := (blk_cell BK131.out 0).trans rfl
              have hcz17_1 : w4.cell? ⟨gb131, 1, none⟩ = some (.int .i64 a1_1) := (blk_cell BK131.out 1).trans rfl
              have hcz17_2 : w4.cell? ⟨gb131, 2, none⟩ = some (.int .i64 a1_2) := (blk_cell BK131.out 2).trans rfl
              have hcz17_3 : w4.cell? ⟨gb131, 3, none⟩ = some (.int .i64 a1_3) := (blk_cell BK131.out 3).trans rfl
              have hcz17_4 : w4.cell? ⟨gb131, 4, none⟩ = some (.int .i64 a1_4) := (blk_cell BK131.out 4).trans rfl
              have hcz17_5 : w4.cell? ⟨gb131, 5, none⟩ = some (.int .i64 a1_5) := (blk_cell BK131.out 5).trans rfl
              have hfz17_0 := blk_frozen BK131.out 0
              have hfz17_1 := blk_frozen BK131.out 1
              have hfz17_2 := blk_frozen BK131.out 2
              have hfz17_3 := blk_frozen BK131.out 3
              have hfz17_4 := blk_frozen BK131.out 4
              have hfz17_5 := blk_frozen BK131.out 5
              go_wp2_with (first | ((with_reducible refine gate_callee (f := 37) rfl ?_); refine goesL_ (some 7) rfl rfl Try.func37 (by kernel_rfl) rfl #[.int .i64 a1_0, .int .i64 0, .int .i64 255] rfl (by (try simp only [List.map_toArray, List.map_cons, List.map_nil]); first | done | rfl | (simp only [List.length_drop, List.length_take]; rfl)) ?_; (with_reducible refine (hopmeshref32_in.calls a1_0 0 255 true _ A5.out).mono ?_); rintro e w' ⟨rfl, ⟨nd, rfl⟩⟩; refine ⟨_, rfl, ?_⟩) | (go_at_call 37; (with_reducible refine (hopmeshref32_in.calls a1_1 0 (wrap64 (a0 - 1)) true _ A7.out).mono ?_); rintro e w' ⟨rfl, ⟨nd, rfl⟩⟩) | (go_at_call 37; (with_reducible refine (hopmeshref32_in.calls a1_2 0 (wrap64 (a0 - 1)) true _ A9.out).mono ?_); rintro e w' ⟨rfl, ⟨nd, rfl⟩⟩) | (go_at_call 37; (with_reducible refine (hopmeshref32_in.calls a1_3 1 512 true _ A11.out).mono ?_); rintro e w' ⟨rfl, ⟨nd, rfl⟩⟩) | (go_at_call 37; (with_reducible refine (hopmeshref32_in.calls a1_4 0 (wrap64 (a1_3 - 1)) false _ A13.out).mono ?_); rintro e w' ⟨rfl, ⟨nd, rfl⟩⟩))
              go_meet
              case rel => exact ⟨_, (true), (by first | rfl | (simp; done) | (simp [*]; done)), H', ⟨by first | omega | exact Nat.le_refl _⟩, ⟨by (with_reducible repeat (first | refine blk_drewN ?_ _ | refine blk_drew ?_ | refine blk_alloc ?_ _)); exact BK131.out⟩, ⟨by repeat (first | (with_reducible first | exact HB.out | apply below_alloc | apply pw_below_drewN | apply below_drew1 | refine below_set ?_ GE131.out) | exact HB.out)⟩⟩
          · replace c12 := Bool.eq_false_iff.mpr c12
            subst c12
            have H1 : (hopmeshref32_Fault.j0 k true a1_0 a1_1 a1_2 a1_3 a1_4 a1_5) = some r := by rw [if_neg (show ¬ (false = true) by decide)] at H; exact H
            clear H
            have H := H1
            clear H1
            have H' := Aside0.mk H
            clear H
            have hcz18_0 : w4.cell? ⟨gb131, 0, none⟩ = some (.int .i64 a1_0) := (blk_cell BK131.out 0).trans rfl
            have hcz18_1 : w4.cell? ⟨gb131, 1, none⟩ = some (.int .i64 a1_1) := (blk_cell BK131.out 1).trans rfl
            have hcz18_2 : w4.cell? ⟨gb131, 2, none⟩ = some (.int .i64 a1_2) := (blk_cell BK131.out 2).trans rfl
            have hcz18_3 : w4.cell? ⟨gb131, 3, none⟩ = some (.int .i64 a1_3) := (blk_cell BK131.out 3).trans rfl
            have hcz18_4 : w4.cell? ⟨gb131, 4, none⟩ = some (.int .i64 a1_4) := (blk_cell BK131.out 4).trans rfl
            have hcz18_5 : w4.cell? ⟨gb131, 5, none⟩ = some (.int .i64 a1_5) := (blk_cell BK131.out 5).trans rfl
            have hfz18_0 := blk_frozen BK131.out 0
            have hfz18_1 := blk_frozen BK131.out 1
            have hfz18_2 := blk_frozen BK131.out 2
            have hfz18_3 := blk_frozen BK131.out 3
            have hfz18_4 := blk_frozen BK131.out 4
            have hfz18_5 := blk_frozen BK131.out 5
            go_wp2_with (first | ((with_reducible refine gate_callee (f := 37) rfl ?_); refine goesL_ (some 7) rfl rfl Try.func37 (by kernel_rfl) rfl #[.int .i64 a1_0, .int .i64 0, .int .i64 255] rfl (by (try simp only [List.map_toArray, List.map_cons, List.map_nil]); first | done | rfl | (simp only [List.length_drop, List.length_take]; rfl)) ?_; (with_reducible refine (hopmeshref32_in.calls a1_0 0 255 true _ A5.out).mono ?_); rintro e w' ⟨rfl, ⟨nd, rfl⟩⟩; refine ⟨_, rfl, ?_⟩) | (go_at_call 37; (with_reducible refine (hopmeshref32_in.calls a1_1 0 (wrap64 (a0 - 1)) true _ A7.out).mono ?_); rintro e w' ⟨rfl, ⟨nd, rfl⟩⟩) | (go_at_call 37; (with_reducible refine (hopmeshref32_in.calls a1_2 0 (wrap64 (a0 - 1)) true _ A9.out).mono ?_); rintro e w' ⟨rfl, ⟨nd, rfl⟩⟩) | (go_at_call 37; (with_reducible refine (hopmeshref32_in.calls a1_3 1 512 false _ A11.out).mono ?_); rintro e w' ⟨rfl, ⟨nd, rfl⟩⟩))
            go_meet
            case rel => exact ⟨_, (true), (by first | rfl | (simp; done) | (simp [*]; done)), H', ⟨by first | omega | exact Nat.le_refl _⟩, ⟨by (with_reducible repeat (first | refine blk_drewN ?_ _ | refine blk_drew ?_ | refine blk_alloc ?_ _)); exact BK131.out⟩, ⟨by repeat (first | (with_reducible first | exact HB.out | apply below_alloc | apply pw_below_drewN | apply below_drew1 | refine below_set ?_ GE131.out) | exact HB.out)⟩⟩
        · replace c10 := Bool.eq_false_iff.mpr c10
          subst c10
          have H1 : (hopmeshref32_Fault.j0 k true a1_0 a1_1 a1_2 a1_3 a1_4 a1_5) = some r := by rw [if_neg (show ¬ (false = true) by decide)] at H; exact H
          clear H
          have H := H1
          clear H1
          have H' := Aside0.mk H
          clear H
          have hcz19_0 : w4.cell? ⟨gb131, 0, none⟩ = some (.int .i64 a1_0) := (blk_cell BK131.out 0).trans rfl
          have hcz19_1 : w4.cell? ⟨gb131, 1, none⟩ = some (.int .i64 a1_1) := (blk_cell BK131.out 1).trans rfl
          have hcz19_2 : w4.cell? ⟨gb131, 2, none⟩ = some (.int .i64 a1_2) := (blk_cell BK131.out 2).trans rfl
          have hcz19_3 : w4.cell? ⟨gb131, 3, none⟩ = some (.int .i64 a1_3) := (blk_cell BK131.out 3).trans rfl
          have hcz19_4 : w4.cell? ⟨gb131, 4, none⟩ = some (.int .i64 a1_4) := (blk_cell BK131.out 4).trans rfl
          have hcz19_5 : w4.cell? ⟨gb131, 5, none⟩ = some (.int .i64 a1_5) := (blk_cell BK131.out 5).trans rfl
          have hfz19_0 := blk_frozen BK131.out 0
          have hfz19_1 := blk_frozen BK131.out 1
          have hfz19_2 := blk_frozen BK131.out 2
          have hfz19_3 := blk_frozen BK131.out 3
          have hfz19_4 := blk_frozen BK131.out 4
          have hfz19_5 := blk_frozen BK131.out 5
          go_wp2_with (first | ((with_reducible refine gate_callee (f := 37) rfl ?_); refine goesL_ (some 7) rfl rfl Try.func37 (by kernel_rfl) rfl #[.int .i64 a1_0, .int .i64 0, .int .i64 255] rfl (by (try simp only [List.map_toArray, List.map_cons, List.map_nil]); first | done | rfl | (simp only [List.length_drop, List.length_take]; rfl)) ?_; (with_reducible refine (hopmeshref32_in.calls a1_0 0 255 true _ A5.out).mono ?_); rintro e w' ⟨rfl, ⟨nd, rfl⟩⟩; refine ⟨_, rfl, ?_⟩) | (go_at_call 37; (with_reducible refine (hopmeshref32_in.calls a1_1 0 (wrap64 (a0 - 1)) true _ A7.out).mono ?_); rintro e w' ⟨rfl, ⟨nd, rfl⟩⟩) | (go_at_call 37; (with_reducible refine (hopmeshref32_in.calls a1_2 0 (wrap64 (a0 - 1)) false _ A9.out).mono ?_); rintro e w' ⟨rfl, ⟨nd, rfl⟩⟩))
          go_meet
          case rel => exact ⟨_, (true), (by first | rfl | (simp; done) | (simp [*]; done)), H', ⟨by first | omega | exact Nat.le_refl _⟩, ⟨by (with_reducible repeat (first | refine blk_drewN ?_ _ | refine blk_drew ?_ | refine blk_alloc ?_ _)); exact BK131.out⟩, ⟨by repeat (first | (with_reducible first | exact HB.out | apply below_alloc | apply pw_below_drewN | apply below_drew1 | refine below_set ?_ GE131.out) | exact HB.out)⟩⟩
      · replace c8 := Bool.eq_false_iff.mpr c8
        subst c8
        have H1 : (hopmeshref32_Fault.j0 k true a1_0 a1_1 a1_2 a1_3 a1_4 a1_5) = some r := by rw [if_neg (show ¬ (false = true) by decide)] at H; exact H
        clear H
        have H := H1
        clear H1
        have H' := Aside0.mk H
        clear H
        have hcz20_0 : w4.cell? ⟨gb131, 0, none⟩ = some (.int .i64 a1_0) := (blk_cell BK131.out 0).trans rfl
        have hcz20_1 : w4.cell? ⟨gb131, 1, none⟩ = some (.int .i64 a1_1) := (blk_cell BK131.out 1).trans rfl
        have hcz20_2 : w4.cell? ⟨gb131, 2, none⟩ = some (.int .i64 a1_2) := (blk_cell BK131.out 2).trans rfl
        have hcz20_3 : w4.cell? ⟨gb131, 3, none⟩ = some (.int .i64 a1_3) := (blk_cell BK131.out 3).trans rfl
        have hcz20_4 : w4.cell? ⟨gb131, 4, none⟩ = some (.int .i64 a1_4) := (blk_cell BK131.out 4).trans rfl
        have hcz20_5 : w4.cell? ⟨gb131, 5, none⟩ = some (.int .i64 a1_5) := (blk_cell BK131.out 5).trans rfl
        have hfz20_0 := blk_frozen BK131.out 0
        have hfz20_1 := blk_frozen BK131.out 1
        have hfz20_2 := blk_frozen BK131.out 2
        have hfz20_3 := blk_frozen BK131.out 3
        have hfz20_4 := blk_frozen BK131.out 4
        have hfz20_5 := blk_frozen BK131.out 5
        go_wp2_with (first | ((with_reducible refine gate_callee (f := 37) rfl ?_); refine goesL_ (some 7) rfl rfl Try.func37 (by kernel_rfl) rfl #[.int .i64 a1_0, .int .i64 0, .int .i64 255] rfl (by (try simp only [List.map_toArray, List.map_cons, List.map_nil]); first | done | rfl | (simp only [List.length_drop, List.length_take]; rfl)) ?_; (with_reducible refine (hopmeshref32_in.calls a1_0 0 255 true _ A5.out).mono ?_); rintro e w' ⟨rfl, ⟨nd, rfl⟩⟩; refine ⟨_, rfl, ?_⟩) | (go_at_call 37; (with_reducible refine (hopmeshref32_in.calls a1_1 0 (wrap64 (a0 - 1)) false _ A7.out).mono ?_); rintro e w' ⟨rfl, ⟨nd, rfl⟩⟩))
        go_meet
        case rel => exact ⟨_, (true), (by first | rfl | (simp; done) | (simp [*]; done)), H', ⟨by first | omega | exact Nat.le_refl _⟩, ⟨by (with_reducible repeat (first | refine blk_drewN ?_ _ | refine blk_drew ?_ | refine blk_alloc ?_ _)); exact BK131.out⟩, ⟨by repeat (first | (with_reducible first | exact HB.out | apply below_alloc | apply pw_below_drewN | apply below_drew1 | refine below_set ?_ GE131.out) | exact HB.out)⟩⟩
    · replace c6 := Bool.eq_false_iff.mpr c6
      subst c6
      have H1 : (hopmeshref32_Fault.j0 k true a1_0 a1_1 a1_2 a1_3 a1_4 a1_5) = some r := by rw [if_neg (show ¬ (false = true) by decide)] at H; exact H
      clear H
      have H := H1
      clear H1
      have H' := Aside0.mk H
      clear H
      have hcz21_0 : w4.cell? ⟨gb131, 0, none⟩ = some (.int .i64 a1_0) := (blk_cell BK131.out 0).trans rfl
      have hcz21_1 : w4.cell? ⟨gb131, 1, none⟩ = some (.int .i64 a1_1) := (blk_cell BK131.out 1).trans rfl
      have hcz21_2 : w4.cell? ⟨gb131, 2, none⟩ = some (.int .i64 a1_2) := (blk_cell BK131.out 2).trans rfl
      have hcz21_3 : w4.cell? ⟨gb131, 3, none⟩ = some (.int .i64 a1_3) := (blk_cell BK131.out 3).trans rfl
      have hcz21_4 : w4.cell? ⟨gb131, 4, none⟩ = some (.int .i64 a1_4) := (blk_cell BK131.out 4).trans rfl
      have hcz21_5 : w4.cell? ⟨gb131, 5, none⟩ = some (.int .i64 a1_5) := (blk_cell BK131.out 5).trans rfl
      have hfz21_0 := blk_frozen BK131.out 0
      have hfz21_1 := blk_frozen BK131.out 1
      have hfz21_2 := blk_frozen BK131.out 2
      have hfz21_3 := blk_frozen BK131.out 3
      have hfz21_4 := blk_frozen BK131.out 4
      have hfz21_5 := blk_frozen BK131.out 5
      go_wp2_with (first | ((with_reducible refine gate_callee (f := 37) rfl ?_); refine goesL_ (some 7) rfl rfl Try.func37 (by kernel_rfl) rfl #[.int .i64 a1_0, .int .i64 0, .int .i64 255] rfl (by (try simp only [List.map_toArray, List.map_cons, List.map_nil]); first | done | rfl | (simp only [List.length_drop, List.length_take]; rfl)) ?_; (with_reducible refine (hopmeshref32_in.calls a1_0 0 255 false _ A5.out).mono ?_); rintro e w' ⟨rfl, ⟨nd, rfl⟩⟩; refine ⟨_, rfl, ?_⟩))
      go_meet
      case rel => exact ⟨_, (true), (by first | rfl | (simp; done) | (simp [*]; done)), H', ⟨by first | omega | exact Nat.le_refl _⟩, ⟨by (with_reducible repeat (first | refine blk_drewN ?_ _ | refine blk_drew ?_ | refine blk_alloc ?_ _)); exact BK131.out⟩, ⟨by repeat (first | (with_reducible first | exact HB.out | apply below_alloc | apply pw_below_drewN | apply below_drew1 | refine below_set ?_ GE131.out) | exact HB.out)⟩⟩
  case rest =>
    clear HC3
    try clear c1
    try clear p2
    try clear c3
    try clear c6
    try clear p6
    try clear c8
    try clear c10
    try clear c12
    try clear c14
    try clear hcz16_0
    try clear hcz16_1
    try clear hcz16_2
    try clear hcz16_3
    try clear hcz16_4
    try clear hcz16_5
    try clear hcz17_0
    try clear hcz17_1
    try clear hcz17_2
    try clear hcz17_3
    try clear hcz17_4
    try clear hcz17_5
    try clear hcz18_0
    try clear hcz18_1
    try clear hcz18_2
    try clear hcz18_3
    try clear hcz18_4
    try clear hcz18_5
    try clear hcz19_0
    try clear hcz19_1
    try clear hcz19_2
    try clear hcz19_3
    try clear hcz19_4
    try clear hcz19_5
    try clear hcz20_0
    try clear hcz20_1
    try clear hcz20_2
    try clear hcz20_3
    try clear hcz20_4
    try clear hcz20_5
    try clear hcz21_0
    try clear hcz21_1
    try clear hcz21_2
    try clear hcz21_3
    try clear hcz21_4
    try clear hcz21_5
    try clear hfz16_0
    try clear hfz16_1
    try clear hfz16_2
    try clear hfz16_3
    try clear hfz16_4
    try clear hfz16_5
    try clear hfz17_0
    try clear hfz17_1
    try clear hfz17_2
    try clear hfz17_3
    try clear hfz17_4
    try clear hfz17_5
    try clear hfz18_0
    try clear hfz18_1
    try clear hfz18_2
    try clear hfz18_3
    try clear hfz18_4
    try clear hfz18_5
    try clear hfz19_0
    try clear hfz19_1
    try clear hfz19_2
    try clear hfz19_3
    try clear hfz19_4
    try clear hfz19_5
    try clear hfz20_0
    try clear hfz20_1
    try clear hfz20_2
    try clear hfz20_3
    try clear hfz20_4
    try clear hfz20_5
    try clear hfz21_0
    try clear hfz21_1
    try clear hfz21_2
    try clear hfz21_3
    try clear hfz21_4
    try clear hfz21_5
    obtain ⟨kq, x47_2, rfl, HA, HJ2, BK131, HB⟩ := hcut
    cases kq with
    | zero => exact absurd HA.out (by simp [hopmeshref32_Fault.j0])
    | succ kj2 =>
      have H := HA.out
      clear HA
      simp only [hopmeshref32_Fault.j0] at H
      by_cases c22 : x47_2 = true
      · subst c22
        have H1 : (some 2) = some r := by rw [if_pos rfl] at H; exact H
        clear H
        have H := H1
        clear H1
        obtain rfl := Option.some.inj H
        go_wp2
        go_ret
        exact ⟨by first | rfl | (simp [errW_none, errW_some] <;> rfl) | (simp [*, errW_none, errW_some] <;> rfl), by repeat (first | (with_reducible first | exact HB.out | apply below_alloc | apply pw_below_drewN | apply below_drew1 | refine below_set ?_ GE131.out) | exact HB.out)⟩
      · replace c22 := Bool.eq_false_iff.mpr c22
        subst c22
        have H1 : (if a1_1 = a1_2 then (some 1) else (some 0)) = some r := by rw [if_neg (show ¬ (false = true) by decide)] at H; exact H
        clear H
        have H := H1
        clear H1
        by_cases c23 : a1_1 = a1_2
        · rw [if_pos c23] at H
          have c23b0 : (a1_1 == a1_2) = true := beq_iff_eq.mpr c23
          have c23b1 : (a1_1 != a1_2) = false := bne_eq_false_iff_eq.mpr c23
          clear c23
          obtain rfl := Option.some.inj H
          have hcz24_0 : wc.cell? ⟨gb131, 0, none⟩ = some (.int .i64 a1_0) := (blk_cell BK131.out 0).trans rfl
          have hcz24_1 : wc.cell? ⟨gb131, 1, none⟩ = some (.int .i64 a1_1) := (blk_cell BK131.out 1).trans rfl
          have hcz24_2 : wc.cell? ⟨gb131, 2, none⟩ = some (.int .i64 a1_2) := (blk_cell BK131.out 2).trans rfl
          have hcz24_3 : wc.cell? ⟨gb131, 3, none⟩ = some (.int .i64 a1_3) := (blk_cell BK131.out 3).trans rfl
          have hcz24_4 : wc.cell? ⟨gb131, 4, none⟩ = some (.int .i64 a1_4) := (blk_cell BK131.out 4).trans rfl
          have hcz24_5 : wc.cell? ⟨gb131, 5, none⟩ = some (.int .i64 a1_5) := (blk_cell BK131.out 5).trans rfl
          have hfz24_0 := blk_frozen BK131.out 0
          have hfz24_1 := blk_frozen BK131.out 1
          have hfz24_2 := blk_frozen BK131.out 2
          have hfz24_3 := blk_frozen BK131.out 3
          have hfz24_4 := blk_frozen BK131.out 4
          have hfz24_5 := blk_frozen BK131.out 5
          go_wp2
          go_ret
          exact ⟨by first | rfl | (simp [errW_none, errW_some] <;> rfl) | (simp [*, errW_none, errW_some] <;> rfl), by repeat (first | (with_reducible first | exact HB.out | apply below_alloc | apply pw_below_drewN | apply below_drew1 | refine below_set ?_ GE131.out) | exact HB.out)⟩
        · rw [if_neg c23] at H
          have c23b0 : (a1_1 == a1_2) = false := beq_eq_false_iff_ne.mpr c23
          have c23b1 : (a1_1 != a1_2) = true := bne_iff_ne.mpr c23
          obtain rfl := Option.some.inj H
          have hcz25_0 : wc.cell? ⟨gb131, 0, none⟩ = some (.int .i64 a1_0) := (blk_cell BK131.out 0).trans rfl
          have hcz25_1 : wc.cell? ⟨gb131, 1, none⟩ = some (.int .i64 a1_1) := (blk_cell BK131.out 1).trans rfl
          have hcz25_2 : wc.cell? ⟨gb131, 2, none⟩ = some (.int .i64 a1_2) := (blk_cell BK131.out 2).trans rfl
          have hcz25_3 : wc.cell? ⟨gb131, 3, none⟩ = some (.int .i64 a1_3) := (blk_cell BK131.out 3).trans rfl
          have hcz25_4 : wc.cell? ⟨gb131, 4, none⟩ = some (.int .i64 a1_4) := (blk_cell BK131.out 4).trans rfl
          have hcz25_5 : wc.cell? ⟨gb131, 5, none⟩ = some (.int .i64 a1_5) := (blk_cell BK131.out 5).trans rfl
          have hfz25_0 := blk_frozen BK131.out 0
          have hfz25_1 := blk_frozen BK131.out 1
          have hfz25_2 := blk_frozen BK131.out 2
          have hfz25_3 := blk_frozen BK131.out 3
          have hfz25_4 := blk_frozen BK131.out 4
          have hfz25_5 := blk_frozen BK131.out 5
          go_wp2
          go_ret
          exact ⟨by first | rfl | (simp [errW_none, errW_some] <;> rfl) | (simp [*, errW_none, errW_some] <;> rfl), by repeat (first | (with_reducible first | exact HB.out | apply below_alloc | apply pw_below_drewN | apply below_drew1 | refine below_set ?_ GE131.out) | exact HB.out)⟩

end Go.Proofs.Ythlgnbeoanafbaa.PX
