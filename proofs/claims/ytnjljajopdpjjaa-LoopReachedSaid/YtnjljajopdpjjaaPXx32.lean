-- Written by wip/xprint.py, a program of this claim's own, over the kit's print program. Lean checks it.
import Derived.Test.YtnjljajopdpjjaaPXx0
import Derived.Test.YtnjljajopdpjjaaPXx12
import Derived.Test.YtnjljajopdpjjaaPXx14
import Derived.Test.YtnjljajopdpjjaaPXx31
namespace Go.Proofs.Ytnjljajopdpjjaa.PX
open Go.RowKit Go.Proofs.YtnjljajopdpjjaaW.PrintWords Go.Proofs.YtnjljajopdpjjaaW.PrintLast Go.Proofs.YtnjljajopdpjjaaW.PrintMore
attribute [local go_sem] max2_int min2_int max_two min_two max_three min_three max_four min_four   -- for this text's walks alone
set_option linter.unusedVariables false
set_option linter.unusedSimpArgs false

/-! ### hopmeshlaw50_LoopReached: function 5 -/
def hopmeshlaw50_LoopReached.f (k : Nat) (a0_0 a0_1 a0_2 a0_3 a0_4 a0_5 a0_6 a1_0 a1_1 : Int) : Option Bool :=
  (hopmeshlaw50_awake.f k).bind fun b => if b = true then
    (if a0_4 > 30 then some true else (loop_Worst.f a0_0 a0_1 a0_2 a0_3 a0_4 a0_5 a0_6 a1_0 a1_1).bind fun wt => if wt.2 = 0 then
      (if 0 ≤ a0_5 ∧ a0_5 ≤ 512 ∧ 1 ≤ a0_4 ∧ 1 ≤ a1_0 ∧ a1_0 ≤ 512 ∧ 1 ≤ a1_1 ∧ a1_1 ≤ 512 then
        (hopmeshlaw50_deliver.f a0_0 a0_1 a0_2 a0_3 a0_4 a0_5 a0_6 a1_0 a1_1 3 [] []).bind fun d => (loop_Ages.f k a0_0 a0_1 a0_2 a0_3 a0_4 a0_5 a0_6 a1_0 a1_1 d ((a0_5 + a0_4 + a1_0 + a1_1) + 1)).bind fun g =>
          if g.2 = 0 ∧ (g.1.length : Int) = (a0_5 + a0_4 + a1_0 + a1_1) + 1 ∧ rd g.1 ((a0_5 + a0_4 + a1_0 + a1_1) - 1) = wt.1 ∧ rd g.1 (a0_5 + a0_4 + a1_0 + a1_1) = a1_0 + a1_1 then some true else none
      else none) else if wt.1 = 0 then some true else none) else none
theorem hopmeshlaw50_LoopReached.mono : ∀ a0_0 a0_1 a0_2 a0_3 a0_4 a0_5 a0_6 a1_0 a1_1 k, LeO (hopmeshlaw50_LoopReached.f k a0_0 a0_1 a0_2 a0_3 a0_4 a0_5 a0_6 a1_0 a1_1) (hopmeshlaw50_LoopReached.f (k + 1) a0_0 a0_1 a0_2 a0_3 a0_4 a0_5 a0_6 a1_0 a1_1) := by
  intro a0_0 a0_1 a0_2 a0_3 a0_4 a0_5 a0_6 a1_0 a1_1 k
  unfold hopmeshlaw50_LoopReached.f
  refine LeO.bind (hopmeshlaw50_awake.mono k) (fun _ => ?_)
  refine LeO.ite ?_ (LeO.refl _)
  refine LeO.ite (LeO.refl _) ?_
  refine LeO.bind (LeO.refl _) (fun _ => ?_)
  refine LeO.ite ?_ (LeO.refl _)
  refine LeO.ite ?_ (LeO.refl _)
  refine LeO.bind (LeO.refl _) (fun _ => ?_)
  exact LeO.bind (loop_Ages.mono _ _ _ _ _ _ _ _ _ _ _ k) (fun _ => LeO.refl _)
set_option maxHeartbeats 8000000 in
set_option maxRecDepth 100000 in
theorem hopmeshlaw50_LoopReached.calls (k : Nat) (a0_0 : Int) (a0_1 : Int) (a0_2 : Int) (a0_3 : Int) (a0_4 : Int) (a0_5 : Int) (a0_6 : Int) (a1_0 : Int) (a1_1 : Int) (r : Bool) (w : World) (h : hopmeshlaw50_LoopReached.f k a0_0 a0_1 a0_2 a0_3 a0_4 a0_5 a0_6 a1_0 a1_1 = some r) :
    Calls Try.prog 5 #[.agg #[.int .i64 a0_0, .int .i64 a0_1, .int .i64 a0_2, .int .i64 a0_3, .int .i64 a0_4, .int .i64 a0_5, .int .i64 a0_6], .agg #[.int .i64 a1_0, .int .i64 a1_1]] w fun e w' => e = .returned (.bool r) ∧ Below w.heap.size w w' := by
  have hu1 := Try.underlying23
  have hu2 := Try.underlying25
  unfold hopmeshlaw50_LoopReached.f at h
  obtain ⟨b, hb, h⟩ := Option.bind_eq_some_iff.mp h
  have HAW := Aside0.mk hb
  clear hb
  cases b with
  | false =>
    rw [if_neg (by simp)] at h
    cases h
  | true =>
  rw [if_pos rfl] at h
  have H := Aside0.mk h
  clear h
  have hbk1 := blk_alloc (heap_alloc_new w (.cells #[.int .i64 a0_0, .int .i64 a0_1, .int .i64 a0_2, .int .i64 a0_3, .int .i64 a0_4, .int .i64 a0_5, .int .i64 a0_6] 23 (0, 0))) (.cells #[.int .i64 a1_0, .int .i64 a1_1] 25 (0, 0))
  have hbk2 := heap_alloc_new (w.alloc (.cells #[.int .i64 a0_0, .int .i64 a0_1, .int .i64 a0_2, .int .i64 a0_3, .int .i64 a0_4, .int .i64 a0_5, .int .i64 a0_6] 23 (0, 0))) (.cells #[.int .i64 a1_0, .int .i64 a1_1] 25 (0, 0))
  simp only [World.alloc, Array.size_push] at hbk2
  have HL2 : Aside0 (((w.alloc (.cells #[.int .i64 a0_0, .int .i64 a0_1, .int .i64 a0_2, .int .i64 a0_3, .int .i64 a0_4, .int .i64 a0_5, .int .i64 a0_6] 23 (0, 0))).alloc (.cells #[.int .i64 a1_0, .int .i64 a1_1] 25 (0, 0))).heap[w.heap.size]? = some (.cells #[.int .i64 a0_0, .int .i64 a0_1, .int .i64 a0_2, .int .i64 a0_3, .int .i64 a0_4, .int .i64 a0_5, .int .i64 a0_6] 23 (0, 0))) := ⟨hbk1⟩
  have HS2 : Aside0 (((w.alloc (.cells #[.int .i64 a0_0, .int .i64 a0_1, .int .i64 a0_2, .int .i64 a0_3, .int .i64 a0_4, .int .i64 a0_5, .int .i64 a0_6] 23 (0, 0))).alloc (.cells #[.int .i64 a1_0, .int .i64 a1_1] 25 (0, 0))).heap[w.heap.size + 1]? = some (.cells #[.int .i64 a1_0, .int .i64 a1_1] 25 (0, 0))) := ⟨hbk2⟩
  have HB2 : Aside0 (Below w.heap.size w ((w.alloc (.cells #[.int .i64 a0_0, .int .i64 a0_1, .int .i64 a0_2, .int .i64 a0_3, .int .i64 a0_4, .int .i64 a0_5, .int .i64 a0_6] 23 (0, 0))).alloc (.cells #[.int .i64 a1_0, .int .i64 a1_1] 25 (0, 0)))) := ⟨below_alloc (below_alloc (Below.refl _ _) _) _⟩
  clear hbk1 hbk2
  go_enter Try.func5, Try.ntmps5
  go_upto_region 1 with (fail)
  generalize ((w.alloc (.cells #[.int .i64 a0_0, .int .i64 a0_1, .int .i64 a0_2, .int .i64 a0_3, .int .i64 a0_4, .int .i64 a0_5, .int .i64 a0_6] 23 (0, 0))).alloc (.cells #[.int .i64 a1_0, .int .i64 a1_1] 25 (0, 0))) = w2 at *
  by_cases c30 : a0_4 > 30
  · have t0 : decide (30 < a0_4) = true := decide_eq_true c30
    have hr := H.out
    rw [if_pos c30] at hr
    obtain rfl := Option.some.inj hr
    clear hr H c30
    go_upto_region 2 with ((go_at_call 11; (with_reducible refine (hopmeshlaw50_awake.calls k true _ HAW.out).mono ?_); rintro e w3 ⟨rfl, hb⟩; have HL3 := Aside0.mk (blk_below (g := w.heap.size) (o := (.cells #[.int .i64 a0_0, .int .i64 a0_1, .int .i64 a0_2, .int .i64 a0_3, .int .i64 a0_4, .int .i64 a0_5, .int .i64 a0_6] 23 (0, 0))) (by (with_reducible repeat (first | refine blk_drewN ?_ _ | refine blk_drew ?_)); exact HL2.out) hb); have HS3 := Aside0.mk (blk_below (g := w.heap.size + 1) (o := (.cells #[.int .i64 a1_0, .int .i64 a1_1] 25 (0, 0))) (by (with_reducible repeat (first | refine blk_drewN ?_ _ | refine blk_drew ?_)); exact HS2.out) hb); have HB3 := Aside0.mk (below_step (by repeat (first | exact HB2.out | apply below_alloc | apply pw_below_drewN | apply below_drew1)) hb); clear hb; have gl0 := (blk_cell HL3.out 0).trans (rfl : _ = some (Value.int .i64 a0_0)); have gl1 := (blk_cell HL3.out 1).trans (rfl : _ = some (Value.int .i64 a0_1)); have gl2 := (blk_cell HL3.out 2).trans (rfl : _ = some (Value.int .i64 a0_2)); have gl3 := (blk_cell HL3.out 3).trans (rfl : _ = some (Value.int .i64 a0_3)); have gl4 := (blk_cell HL3.out 4).trans (rfl : _ = some (Value.int .i64 a0_4)); have gl5 := (blk_cell HL3.out 5).trans (rfl : _ = some (Value.int .i64 a0_5)); have gl6 := (blk_cell HL3.out 6).trans (rfl : _ = some (Value.int .i64 a0_6)); have gs0 := (blk_cell HS3.out 0).trans (rfl : _ = some (Value.int .i64 a1_0)); have gs1 := (blk_cell HS3.out 1).trans (rfl : _ = some (Value.int .i64 a1_1))))
    clear gl0 gl1 gl2 gl3 gl4 gl5 gl6 gs0 gs1
    go_wp2_with ((go_at_call 11; (with_reducible refine (hopmeshlaw50_awake.calls k true _ HAW.out).mono ?_); rintro e w4 ⟨rfl, hb⟩; have HL4 := Aside0.mk (blk_below (g := w.heap.size) (o := (.cells #[.int .i64 a0_0, .int .i64 a0_1, .int .i64 a0_2, .int .i64 a0_3, .int .i64 a0_4, .int .i64 a0_5, .int .i64 a0_6] 23 (0, 0))) (by (with_reducible repeat (first | refine blk_drewN ?_ _ | refine blk_drew ?_)); exact HL3.out) hb); have HS4 := Aside0.mk (blk_below (g := w.heap.size + 1) (o := (.cells #[.int .i64 a1_0, .int .i64 a1_1] 25 (0, 0))) (by (with_reducible repeat (first | refine blk_drewN ?_ _ | refine blk_drew ?_)); exact HS3.out) hb); have HB4 := Aside0.mk (below_step (by repeat (first | exact HB3.out | apply below_alloc | apply pw_below_drewN | apply below_drew1)) hb); clear hb))
    go_ret
    exact ⟨rfl, HB4.out⟩
  have t0 : decide (30 < a0_4) = false := decide_eq_false c30
  have h := H.out
  rw [if_neg c30] at h
  obtain ⟨⟨t1, t2⟩, hw, h⟩ := Option.bind_eq_some_iff.mp h
  have HW := Aside0.mk hw
  clear hw H
  simp only at h
  have C30 := Aside0.mk c30
  clear c30
  by_cases c0 : t2 = 0
  rotate_left
  · rw [if_neg c0] at h
    split at h
    rotate_left
    · cases h
    rename_i hz
    subst hz
    obtain rfl := Option.some.inj h
    have b0 : (t2 == 0) = false := beq_eq_false_iff_ne.mpr c0
    have b1 : (t2 != 0) = true := bne_iff_ne.mpr c0
    clear h c0
    go_wp2_with (first | (go_at_call 11; (with_reducible refine (hopmeshlaw50_awake.calls k true _ HAW.out).mono ?_); rintro e w3 ⟨rfl, hb⟩; have HL3 := Aside0.mk (blk_below (g := w.heap.size) (o := (.cells #[.int .i64 a0_0, .int .i64 a0_1, .int .i64 a0_2, .int .i64 a0_3, .int .i64 a0_4, .int .i64 a0_5, .int .i64 a0_6] 23 (0, 0))) (by (with_reducible repeat (first | refine blk_drewN ?_ _ | refine blk_drew ?_)); exact HL2.out) hb); have HS3 := Aside0.mk (blk_below (g := w.heap.size + 1) (o := (.cells #[.int .i64 a1_0, .int .i64 a1_1] 25 (0, 0))) (by (with_reducible repeat (first | refine blk_drewN ?_ _ | refine blk_drew ?_)); exact HS2.out) hb); have HB3 := Aside0.mk (below_step (by repeat (first | exact HB2.out | apply below_alloc | apply pw_below_drewN | apply below_drew1)) hb); clear hb; have gl0 := (blk_cell HL3.out 0).trans (rfl : _ = some (Value.int .i64 a0_0)); have gl1 := (blk_cell HL3.out 1).trans (rfl : _ = some (Value.int .i64 a0_1)); have gl2 := (blk_cell HL3.out 2).trans (rfl : _ = some (Value.int .i64 a0_2)); have gl3 := (blk_cell HL3.out 3).trans (rfl : _ = some (Value.int .i64 a0_3)); have gl4 := (blk_cell HL3.out 4).trans (rfl : _ = some (Value.int .i64 a0_4)); have gl5 := (blk_cell HL3.out 5).trans (rfl : _ = some (Value.int .i64 a0_5)); have gl6 := (blk_cell HL3.out 6).trans (rfl : _ = some (Value.int .i64 a0_6)); have gs0 := (blk_cell HS3.out 0).trans (rfl : _ = some (Value.int .i64 a1_0)); have gs1 := (blk_cell HS3.out 1).trans (rfl : _ = some (Value.int .i64 a1_1))) | (go_at_call 24; (with_reducible refine (loop_Worst.calls a0_0 a0_1 a0_2 a0_3 a0_4 a0_5 a0_6 a1_0 a1_1 0 t2 _ HW.out).mono ?_); rintro e w4 ⟨rfl, hb⟩; clear gl0 gl1 gl2 gl3 gl4 gl5 gl6 gs0 gs1; have HL4 := Aside0.mk (blk_below (g := w.heap.size) (o := (.cells #[.int .i64 a0_0, .int .i64 a0_1, .int .i64 a0_2, .int .i64 a0_3, .int .i64 a0_4, .int .i64 a0_5, .int .i64 a0_6] 23 (0, 0))) (by (with_reducible repeat (first | refine blk_drewN ?_ _ | refine blk_drew ?_)); exact HL3.out) hb); have HS4 := Aside0.mk (blk_below (g := w.heap.size + 1) (o := (.cells #[.int .i64 a1_0, .int .i64 a1_1] 25 (0, 0))) (by (with_reducible repeat (first | refine blk_drewN ?_ _ | refine blk_drew ?_)); exact HS3.out) hb); have HB4 := Aside0.mk (below_step (by repeat (first | exact HB3.out | apply below_alloc | apply pw_below_drewN | apply below_drew1)) hb); clear hb))
    go_ret
    exact ⟨rfl, HB4.out⟩
  subst c0
  rw [if_pos rfl] at h
  by_cases cb : 0 ≤ a0_5 ∧ a0_5 ≤ 512 ∧ 1 ≤ a0_4 ∧ 1 ≤ a1_0 ∧ a1_0 ≤ 512 ∧ 1 ≤ a1_1 ∧ a1_1 ≤ 512
  rotate_left
  · rw [if_neg cb] at h
    cases h
  rw [if_pos cb] at h
  obtain ⟨d0, d1, d2, d3, d4, d5, d6⟩ := cb
  have d7 : a0_4 ≤ 30 := by have := C30.out; omega
  obtain ⟨T, HT⟩ : ∃ T : Int, Aside0 (a0_5 + a0_4 + a1_0 + a1_1 = T) := ⟨_, ⟨rfl⟩⟩
  rw [HT.out] at h
  have e0 : 3 ≤ T := by rw [← HT.out]; omega
  have e1 : T ≤ 2000 := by rw [← HT.out]; omega
  obtain ⟨d, hd, h⟩ := Option.bind_eq_some_iff.mp h
  obtain ⟨⟨ag, t3⟩, hg, h⟩ := Option.bind_eq_some_iff.mp h
  simp only at h
  by_cases cc : t3 = 0 ∧ (ag.length : Int) = T + 1 ∧ rd ag (T - 1) = t1 ∧ rd ag T = a1_0 + a1_1
  rotate_left
  · rw [if_neg cc] at h
    cases h
  rw [if_pos cc] at h
  obtain rfl := Option.some.inj h
  obtain ⟨rfl, f1, f2, f3⟩ := cc
  have HD := Aside0.mk hd
  have HG := Aside0.mk hg
  have F1 := Aside0.mk f1
  have F2 := Aside0.mk f2
  have F3 := Aside0.mk f3
  clear h hd hg f1 f2 f3
  go_upto_region 7 with (first | (go_at_call 11; (with_reducible refine (hopmeshlaw50_awake.calls k true _ HAW.out).mono ?_); rintro e w3 ⟨rfl, hb⟩; have HL3 := Aside0.mk (blk_below (g := w.heap.size) (o := (.cells #[.int .i64 a0_0, .int .i64 a0_1, .int .i64 a0_2, .int .i64 a0_3, .int .i64 a0_4, .int .i64 a0_5, .int .i64 a0_6] 23 (0, 0))) (by (with_reducible repeat (first | refine blk_drewN ?_ _ | refine blk_drew ?_)); exact HL2.out) hb); have HS3 := Aside0.mk (blk_below (g := w.heap.size + 1) (o := (.cells #[.int .i64 a1_0, .int .i64 a1_1] 25 (0, 0))) (by (with_reducible repeat (first | refine blk_drewN ?_ _ | refine blk_drew ?_)); exact HS2.out) hb); have HB3 := Aside0.mk (below_step (by repeat (first | exact HB2.out | apply below_alloc | apply pw_below_drewN | apply below_drew1)) hb); clear hb; have gl0 := (blk_cell HL3.out 0).trans (rfl : _ = some (Value.int .i64 a0_0)); have gl1 := (blk_cell HL3.out 1).trans (rfl : _ = some (Value.int .i64 a0_1)); have gl2 := (blk_cell HL3.out 2).trans (rfl : _ = some (Value.int .i64 a0_2)); have gl3 := (blk_cell HL3.out 3).trans (rfl : _ = some (Value.int .i64 a0_3)); have gl4 := (blk_cell HL3.out 4).trans (rfl : _ = some (Value.int .i64 a0_4)); have gl5 := (blk_cell HL3.out 5).trans (rfl : _ = some (Value.int .i64 a0_5)); have gl6 := (blk_cell HL3.out 6).trans (rfl : _ = some (Value.int .i64 a0_6)); have gs0 := (blk_cell HS3.out 0).trans (rfl : _ = some (Value.int .i64 a1_0)); have gs1 := (blk_cell HS3.out 1).trans (rfl : _ = some (Value.int .i64 a1_1))) | (go_at_call 24; (with_reducible refine (loop_Worst.calls a0_0 a0_1 a0_2 a0_3 a0_4 a0_5 a0_6 a1_0 a1_1 t1 0 _ HW.out).mono ?_); rintro e w4 ⟨rfl, hb⟩; clear gl0 gl1 gl2 gl3 gl4 gl5 gl6 gs0 gs1; have HL4 := Aside0.mk (blk_below (g := w.heap.size) (o := (.cells #[.int .i64 a0_0, .int .i64 a0_1, .int .i64 a0_2, .int .i64 a0_3, .int .i64 a0_4, .int .i64 a0_5, .int .i64 a0_6] 23 (0, 0))) (by (with_reducible repeat (first | refine blk_drewN ?_ _ | refine blk_drew ?_)); exact HL3.out) hb); have HS4 := Aside0.mk (blk_below (g := w.heap.size + 1) (o := (.cells #[.int .i64 a1_0, .int .i64 a1_1] 25 (0, 0))) (by (with_reducible repeat (first | refine blk_drewN ?_ _ | refine blk_drew ?_)); exact HS3.out) hb); have HB4 := Aside0.mk (below_step (by repeat (first | exact HB3.out | apply below_alloc | apply pw_below_drewN | apply below_drew1)) hb); clear hb; have gl0 := (blk_cell HL4.out 0).trans (rfl : _ = some (Value.int .i64 a0_0)); have gl1 := (blk_cell HL4.out 1).trans (rfl : _ = some (Value.int .i64 a0_1)); have gl2 := (blk_cell HL4.out 2).trans (rfl : _ = some (Value.int .i64 a0_2)); have gl3 := (blk_cell HL4.out 3).trans (rfl : _ = some (Value.int .i64 a0_3)); have gl4 := (blk_cell HL4.out 4).trans (rfl : _ = some (Value.int .i64 a0_4)); have gl5 := (blk_cell HL4.out 5).trans (rfl : _ = some (Value.int .i64 a0_5)); have gl6 := (blk_cell HL4.out 6).trans (rfl : _ = some (Value.int .i64 a0_6)); have gs0 := (blk_cell HS4.out 0).trans (rfl : _ = some (Value.int .i64 a1_0)); have gs1 := (blk_cell HS4.out 1).trans (rfl : _ = some (Value.int .i64 a1_1))))
  rw [HT.out]
  have w1 : IntKind.i64.wrap (T + 1) = T + 1 := by
    rw [IntKind.wrap_i64]
    omega
  have w2' : IntKind.i64.wrap (T - 1) = T - 1 := by
    rw [IntKind.wrap_i64]
    omega
  have w3' : IntKind.i64.wrap (a1_0 + a1_1) = a1_0 + a1_1 := by
    rw [IntKind.wrap_i64]
    omega
  go_region_held3 (fun w' => w'.cell? ⟨w.heap.size, 0, none⟩ = some (.int .i64 a0_0) ∧ w'.cell? ⟨w.heap.size, 1, none⟩ = some (.int .i64 a0_1) ∧ w'.cell? ⟨w.heap.size, 2, none⟩ = some (.int .i64 a0_2) ∧ w'.cell? ⟨w.heap.size, 3, none⟩ = some (.int .i64 a0_3) ∧ w'.cell? ⟨w.heap.size, 4, none⟩ = some (.int .i64 a0_4) ∧ w'.cell? ⟨w.heap.size, 5, none⟩ = some (.int .i64 a0_5) ∧ w'.cell? ⟨w.heap.size, 6, none⟩ = some (.int .i64 a0_6) ∧ w'.cell? ⟨w.heap.size + 1, 0, none⟩ = some (.int .i64 a1_0) ∧ w'.cell? ⟨w.heap.size + 1, 1, none⟩ = some (.int .i64 a1_1))
    (first | go_keep | exact ⟨(blk_cell HL5.out 0).trans rfl, (blk_cell HL5.out 1).trans rfl, (blk_cell HL5.out 2).trans rfl, (blk_cell HL5.out 3).trans rfl, (blk_cell HL5.out 4).trans rfl, (blk_cell HL5.out 5).trans rfl, (blk_cell HL5.out 6).trans rfl, (blk_cell HS5.out 0).trans rfl, (blk_cell HS5.out 1).trans rfl⟩ | exact ⟨(blk_cell HL6.out 0).trans rfl, (blk_cell HL6.out 1).trans rfl, (blk_cell HL6.out 2).trans rfl, (blk_cell HL6.out 3).trans rfl, (blk_cell HL6.out 4).trans rfl, (blk_cell HL6.out 5).trans rfl, (blk_cell HL6.out 6).trans rfl, (blk_cell HS6.out 0).trans rfl, (blk_cell HS6.out 1).trans rfl⟩)
    (first
      | (go_at_call 25; refine (hopmeshlaw50_deliver.calls a0_0 a0_1 a0_2 a0_3 a0_4 a0_5 a0_6 a1_0 a1_1 3 _ _ [] _ _ [] d _ (Kd.C_nil _ _) (Nat.le_refl _) (Kd.C_nil _ _) (Nat.le_refl _) HD.out).mono ?_; rintro e w5 ⟨v5, rfl, ho, hb⟩; obtain ⟨Ao, co, eo⟩ := Kd.R_slice ho; subst eo; have HO5 := Aside0.mk ho; clear ho; have HL5 := Aside0.mk (blk_below (g := w.heap.size) (o := (.cells #[.int .i64 a0_0, .int .i64 a0_1, .int .i64 a0_2, .int .i64 a0_3, .int .i64 a0_4, .int .i64 a0_5, .int .i64 a0_6] 23 (0, 0))) (by (with_reducible repeat (first | refine blk_drewN ?_ _ | refine blk_drew ?_)); exact HL4.out) hb); have HS5 := Aside0.mk (blk_below (g := w.heap.size + 1) (o := (.cells #[.int .i64 a1_0, .int .i64 a1_1] 25 (0, 0))) (by (with_reducible repeat (first | refine blk_drewN ?_ _ | refine blk_drew ?_)); exact HS4.out) hb); have HB5 := Aside0.mk (below_step (by repeat (first | exact HB4.out | apply below_alloc | apply pw_below_drewN | apply below_drew1)) hb); clear hb)
      | (go_at_call 17; (with_reducible refine (loop_Ages.calls k a0_0 a0_1 a0_2 a0_3 a0_4 a0_5 a0_6 a1_0 a1_1 _ _ d (T + 1) ag 0 _ (Kd.R_reads' HO5.out).2.2 (Kd.R_reads' HO5.out).2.1 HG.out).mono ?_); rintro e w6 ⟨v6, rfl, ho, hb⟩; obtain ⟨Ap, cp, ep⟩ := Kd.R_slice ho; subst ep; have HO6 := Aside0.mk ho; clear ho; have HL6 := Aside0.mk (blk_below (g := w.heap.size) (o := (.cells #[.int .i64 a0_0, .int .i64 a0_1, .int .i64 a0_2, .int .i64 a0_3, .int .i64 a0_4, .int .i64 a0_5, .int .i64 a0_6] 23 (0, 0))) (by (with_reducible repeat (first | refine blk_drewN ?_ _ | refine blk_drew ?_)); exact HL5.out) hb); have HS6 := Aside0.mk (blk_below (g := w.heap.size + 1) (o := (.cells #[.int .i64 a1_0, .int .i64 a1_1] 25 (0, 0))) (by (with_reducible repeat (first | refine blk_drewN ?_ _ | refine blk_drew ?_)); exact HS5.out) hb); have HB6 := Aside0.mk (below_step (by repeat (first | exact HB5.out | apply below_alloc | apply pw_below_drewN | apply below_drew1)) hb); clear hb))
  clear gl0 gl1 gl2 gl3 gl4 gl5 gl6 gs0 gs1
  have gs0 := (blk_cell HS6.out 0).trans (rfl : _ = some (Value.int .i64 a1_0))
  have gs1 := (blk_cell HS6.out 1).trans (rfl : _ = some (Value.int .i64 a1_1))
  have CR := (Kd.R_reads' HO6.out).2.2
  have p1 : 0 ≤ T - 1 := by omega
  have q1 : T - 1 < (ag.length : Int) := by have := F1.out; omega
  have p2 : 0 ≤ T := by omega
  have q2 : T < (ag.length : Int) := by have := F1.out; omega
  obtain ⟨ad, ea, hx1⟩ := Kd.at_int CR (T - 1) p1 q1
  cases ea
  obtain ⟨ad', ea', hx2⟩ := Kd.at_int CR T p2 q2
  obtain rfl : ad = ad' := by injection ea'
  rw [F2.out] at hx1
  rw [Int.pred_toNat] at hx1
  rw [F3.out] at hx2
  have b3 : ((ag.length : Int) == T + 1) = true := beq_iff_eq.mpr F1.out
  have p3 : (1 ≤ T) = True := eq_true (by omega)
  replace p1 := eq_true p1
  replace q1 := eq_true q1
  replace p2 := eq_true p2
  replace q2 := eq_true q2
  clear CR ea'
  go_upto_region 8 with (fail)
  go_quiet (fail)
  go_wp2
  go_ret
  exact ⟨by first | rfl | (simp; done), by repeat (first | exact HB6.out | apply pw_below_drewN | apply below_drew1)⟩

end Go.Proofs.Ytnjljajopdpjjaa.PX
