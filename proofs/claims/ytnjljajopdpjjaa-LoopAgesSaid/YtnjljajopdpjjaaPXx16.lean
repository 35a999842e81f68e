-- Written by wip/xprint.py, a program of this claim's own, over the kit's print program. Lean checks it.
import Derived.Test.YtnjljajopdpjjaaPXx0
import Derived.Test.YtnjljajopdpjjaaPXx3
import Derived.Test.YtnjljajopdpjjaaPXx4
import Derived.Test.YtnjljajopdpjjaaPXx5
import Derived.Test.YtnjljajopdpjjaaPXx7
import Derived.Test.YtnjljajopdpjjaaPXx8
import Derived.Test.YtnjljajopdpjjaaPXx11
namespace Go.Proofs.Ytnjljajopdpjjaa.PX
open Go.RowKit Go.Proofs.YtnjljajopdpjjaaW.PrintWords Go.Proofs.YtnjljajopdpjjaaW.PrintLast Go.Proofs.YtnjljajopdpjjaaW.PrintMore
attribute [local go_sem] max2_int min2_int max_two min_two max_three min_three max_four min_four   -- for this text's walks alone
set_option linter.unusedVariables false
set_option linter.unusedSimpArgs false

/-! ### loop_Carries: function 18 -/
def loop_Carries.f (a0_0 a0_1 a0_2 a0_3 a0_4 a0_5 a0_6 a1_0 a1_1 : Int) (l2 : List S34) (a3 : Int) : Option (Int × Bool × Int) :=
  if l2.length ≤ 1024 then (loop_right.f a0_0 a0_1 a0_2 a0_3 a0_4 a0_5 a0_6 a1_0 a1_1).bind fun e => if e = 0 then (if a3 < 0 ∨ 4096 < a3 then some (0, false, 2) else
    some (mx (carryOf (flowA ⟨a0_0, a0_1, a0_2, a0_3, a0_4, a0_5, a0_6⟩ ⟨a1_0, a1_1⟩) l2 ((flowB ⟨a0_0, a0_1, a0_2, a0_3, a0_4, a0_5, a0_6⟩ ⟨a1_0, a1_1⟩).f4 + a3 * (flowB ⟨a0_0, a0_1, a0_2, a0_3, a0_4, a0_5, a0_6⟩ ⟨a1_0, a1_1⟩).f3)) 0, decide (0 ≤ carryOf (flowA ⟨a0_0, a0_1, a0_2, a0_3, a0_4, a0_5, a0_6⟩ ⟨a1_0, a1_1⟩) l2 ((flowB ⟨a0_0, a0_1, a0_2, a0_3, a0_4, a0_5, a0_6⟩ ⟨a1_0, a1_1⟩).f4 + a3 * (flowB ⟨a0_0, a0_1, a0_2, a0_3, a0_4, a0_5, a0_6⟩ ⟨a1_0, a1_1⟩).f3)), 0)) else some (0, false, e) else none
set_option maxHeartbeats 8000000 in
set_option maxRecDepth 100000 in
theorem loop_Carries.calls (a0_0 : Int) (a0_1 : Int) (a0_2 : Int) (a0_3 : Int) (a0_4 : Int) (a0_5 : Int) (a0_6 : Int) (a1_0 : Int) (a1_1 : Int) (A2 : Option Addr) (c2 : Nat) (l2 : List (S34)) (a3 : Int) (r1 : Int) (r2 : Bool) (r3 : Int) (w : World) (hr2 : Kd.C k34 w A2 l2.length l2) (hc2 : l2.length ≤ c2) (h : loop_Carries.f a0_0 a0_1 a0_2 a0_3 a0_4 a0_5 a0_6 a1_0 a1_1 l2 a3 = some (r1, r2, r3)) :
    Calls Try.prog 18 #[.agg #[.int .i64 a0_0, .int .i64 a0_1, .int .i64 a0_2, .int .i64 a0_3, .int .i64 a0_4, .int .i64 a0_5, .int .i64 a0_6], .agg #[.int .i64 a1_0, .int .i64 a1_1], .slice A2 l2.length c2, .int .i64 a3] w fun e w' => e = .returned (.tuple #[.int .i64 r1, .bool r2, .int .i64 r3]) ∧ Below w.heap.size w w' := by
  unfold loop_Carries.f at h
  by_cases hlen : l2.length ≤ 1024
  rotate_left
  · rw [if_neg hlen] at h
    cases h
  rw [if_pos hlen] at h
  obtain ⟨e, he, h⟩ := Option.bind_eq_some_iff.mp h
  have HE := Aside0.mk he
  have HR := Aside0.mk hr2
  have HD := Aside0.mk hlen
  by_cases h0 : e = 0
  · subst h0
    rw [if_pos rfl] at h
    have hR := right_zero (l := ⟨a0_0, a0_1, a0_2, a0_3, a0_4, a0_5, a0_6⟩) (s := ⟨a1_0, a1_1⟩) he
    by_cases h1 : a3 < 0 ∨ 4096 < a3
    · rw [if_pos h1] at h
      simp only [Option.some.injEq, Prod.mk.injEq] at h
      obtain ⟨rfl, rfl, rfl⟩ := h
      clear he hr2 hlen hR hc2
      by_cases h2 : a3 < 0
      · have b0 : decide (a3 < 0) = true := decide_eq_true h2
        go_enter Try.func18, Try.ntmps18
        go_wp2_with (go_at_call 36; (with_reducible refine (loop_right.calls a0_0 a0_1 a0_2 a0_3 a0_4 a0_5 a0_6 a1_0 a1_1 _ _ HE.out).mono ?_); rintro e w1 ⟨rfl, hb⟩; have HB1 : Aside0 (Below w.heap.size w w1) := ⟨below_step (by repeat (first | exact Below.refl _ _ | apply below_alloc)) hb⟩; clear hb)
        go_ret3
        exact ⟨rfl, HB1.out⟩
      · have b0 : decide (a3 < 0) = false := decide_eq_false h2
        have b1 : decide (4096 < a3) = true := decide_eq_true (by omega)
        go_enter Try.func18, Try.ntmps18
        go_wp2_with (go_at_call 36; (with_reducible refine (loop_right.calls a0_0 a0_1 a0_2 a0_3 a0_4 a0_5 a0_6 a1_0 a1_1 _ _ HE.out).mono ?_); rintro e w1 ⟨rfl, hb⟩; have HB1 : Aside0 (Below w.heap.size w w1) := ⟨below_step (by repeat (first | exact Below.refl _ _ | apply below_alloc)) hb⟩; clear hb)
        go_ret3
        exact ⟨rfl, HB1.out⟩
    · rw [if_neg h1] at h
      have hfa := flowA_good hR
      have hfb := flowB_good hR
      have hfl := flows_right hR
      generalize flowA ⟨a0_0, a0_1, a0_2, a0_3, a0_4, a0_5, a0_6⟩ ⟨a1_0, a1_1⟩ = fa at *
      generalize flowB ⟨a0_0, a0_1, a0_2, a0_3, a0_4, a0_5, a0_6⟩ ⟨a1_0, a1_1⟩ = fb at *
      simp only at hfl
      have HA := Aside0.mk hfa
      have HBb := Aside0.mk hfb
      have HFL := Aside0.mk hfl
      have hrel := release_good hfb (n := a3) (by omega) (by omega)
      have HREL := Aside0.mk hrel
      obtain ⟨cc, HCC⟩ : ∃ cc : Int, Aside0 (carryOf fa l2 (fb.f4 + a3 * fb.f3) = cc) := ⟨_, ⟨rfl⟩⟩
      have hcb := carryOf_bd fa l2 (fb.f4 + a3 * fb.f3)
      rw [HCC.out] at h hcb
      simp only [Option.some.injEq, Prod.mk.injEq] at h
      have H := Aside0.mk h
      have b0 : decide (a3 < 0) = false := decide_eq_false (by omega)
      have b1 : decide (4096 < a3) = false := decide_eq_false (by omega)
      clear he hr2 hlen hR hc2 h hfa hfb hfl hrel h1
      go_enter Try.func18, Try.ntmps18
      go_wp2_with (first
        | (go_at_call 36; (with_reducible refine (loop_right.calls a0_0 a0_1 a0_2 a0_3 a0_4 a0_5 a0_6 a1_0 a1_1 _ _ HE.out).mono ?_); rintro e w1 ⟨rfl, hb⟩; have HB1 : Aside0 (Below w.heap.size w w1) := ⟨below_step (by repeat (first | exact Below.refl _ _ | apply below_alloc)) hb⟩; have hl0 := blk_below (blk_alloc (heap_alloc_new w (.cells #[.int .i64 a0_0, .int .i64 a0_1, .int .i64 a0_2, .int .i64 a0_3, .int .i64 a0_4, .int .i64 a0_5, .int .i64 a0_6] 23 (0, 0))) (.cells #[.int .i64 a1_0, .int .i64 a1_1] 25 (0, 0))) hb; have hs0 := blk_below (heap_alloc_new (w.alloc (.cells #[.int .i64 a0_0, .int .i64 a0_1, .int .i64 a0_2, .int .i64 a0_3, .int .i64 a0_4, .int .i64 a0_5, .int .i64 a0_6] 23 (0, 0))) (.cells #[.int .i64 a1_0, .int .i64 a1_1] 25 (0, 0))) hb; simp only [World.alloc, Array.size_push] at hs0; have gl0 := (blk_cell hl0 0).trans (rfl : _ = some (Value.int .i64 a0_0)); have gl1 := (blk_cell hl0 1).trans (rfl : _ = some (Value.int .i64 a0_1)); have gl2 := (blk_cell hl0 2).trans (rfl : _ = some (Value.int .i64 a0_2)); have gl3 := (blk_cell hl0 3).trans (rfl : _ = some (Value.int .i64 a0_3)); have gl4 := (blk_cell hl0 4).trans (rfl : _ = some (Value.int .i64 a0_4)); have gl5 := (blk_cell hl0 5).trans (rfl : _ = some (Value.int .i64 a0_5)); have gl6 := (blk_cell hl0 6).trans (rfl : _ = some (Value.int .i64 a0_6)); have gs0 := (blk_cell hs0 0).trans (rfl : _ = some (Value.int .i64 a1_0)); have gs1 := (blk_cell hs0 1).trans (rfl : _ = some (Value.int .i64 a1_1)); clear hb hl0 hs0)
        | (go_at_call 37; (with_reducible refine (loop_flows.calls a0_0 a0_1 a0_2 a0_3 a0_4 a0_5 a0_6 a1_0 a1_1 _ _ _ _ _ _ _ _ _ _ _ _ _ HFL.out).mono ?_); rintro e w2 ⟨rfl, hb⟩; have HB2 : Aside0 (Below w.heap.size w w2) := ⟨below_step (by repeat (first | exact HB1.out | apply below_alloc)) hb⟩; clear hb))
      have ha := blk_alloc (heap_alloc_new w2 (.cells #[.int .i64 fa.f0, .int .i64 fa.f1, .int .i64 fa.f2, .int .i64 fa.f3, .int .i64 fa.f4, .int .i64 fa.f5] 39 (0, 0))) (.cells #[.int .i64 fb.f0, .int .i64 fb.f1, .int .i64 fb.f2, .int .i64 fb.f3, .int .i64 fb.f4, .int .i64 fb.f5] 39 (0, 0))
      have hb := heap_alloc_new (w2.alloc (.cells #[.int .i64 fa.f0, .int .i64 fa.f1, .int .i64 fa.f2, .int .i64 fa.f3, .int .i64 fa.f4, .int .i64 fa.f5] 39 (0, 0))) (.cells #[.int .i64 fb.f0, .int .i64 fb.f1, .int .i64 fb.f2, .int .i64 fb.f3, .int .i64 fb.f4, .int .i64 fb.f5] 39 (0, 0))
      simp only [World.alloc, Array.size_push] at hb
      have HAK : Aside0 (((w2.alloc (.cells #[.int .i64 fa.f0, .int .i64 fa.f1, .int .i64 fa.f2, .int .i64 fa.f3, .int .i64 fa.f4, .int .i64 fa.f5] 39 (0, 0))).alloc (.cells #[.int .i64 fb.f0, .int .i64 fb.f1, .int .i64 fb.f2, .int .i64 fb.f3, .int .i64 fb.f4, .int .i64 fb.f5] 39 (0, 0))).heap[w2.heap.size]? = some (.cells #[.int .i64 fa.f0, .int .i64 fa.f1, .int .i64 fa.f2, .int .i64 fa.f3, .int .i64 fa.f4, .int .i64 fa.f5] 39 (0, 0))) := ⟨ha⟩
      have HBK : Aside0 (((w2.alloc (.cells #[.int .i64 fa.f0, .int .i64 fa.f1, .int .i64 fa.f2, .int .i64 fa.f3, .int .i64 fa.f4, .int .i64 fa.f5] 39 (0, 0))).alloc (.cells #[.int .i64 fb.f0, .int .i64 fb.f1, .int .i64 fb.f2, .int .i64 fb.f3, .int .i64 fb.f4, .int .i64 fb.f5] 39 (0, 0))).heap[w2.heap.size + 1]? = some (.cells #[.int .i64 fb.f0, .int .i64 fb.f1, .int .i64 fb.f2, .int .i64 fb.f3, .int .i64 fb.f4, .int .i64 fb.f5] 39 (0, 0))) := ⟨hb⟩
      have HB3 : Aside0 (Below w.heap.size w ((w2.alloc (.cells #[.int .i64 fa.f0, .int .i64 fa.f1, .int .i64 fa.f2, .int .i64 fa.f3, .int .i64 fa.f4, .int .i64 fa.f5] 39 (0, 0))).alloc (.cells #[.int .i64 fb.f0, .int .i64 fb.f1, .int .i64 fb.f2, .int .i64 fb.f3, .int .i64 fb.f4, .int .i64 fb.f5] 39 (0, 0)))) := ⟨below_alloc (below_alloc HB2.out _) _⟩
      clear ha hb
      generalize ((w2.alloc (.cells #[.int .i64 fa.f0, .int .i64 fa.f1, .int .i64 fa.f2, .int .i64 fa.f3, .int .i64 fa.f4, .int .i64 fa.f5] 39 (0, 0))).alloc (.cells #[.int .i64 fb.f0, .int .i64 fb.f1, .int .i64 fb.f2, .int .i64 fb.f3, .int .i64 fb.f4, .int .i64 fb.f5] 39 (0, 0))) = w3 at *
      have ga0 := (blk_cell HAK.out 0).trans (rfl : _ = some (Value.int .i64 fa.f0))
      have ga1 := (blk_cell HAK.out 1).trans (rfl : _ = some (Value.int .i64 fa.f1))
      have ga2 := (blk_cell HAK.out 2).trans (rfl : _ = some (Value.int .i64 fa.f2))
      have ga3 := (blk_cell HAK.out 3).trans (rfl : _ = some (Value.int .i64 fa.f3))
      have ga4 := (blk_cell HAK.out 4).trans (rfl : _ = some (Value.int .i64 fa.f4))
      have ga5 := (blk_cell HAK.out 5).trans (rfl : _ = some (Value.int .i64 fa.f5))
      have gb0 := (blk_cell HBK.out 0).trans (rfl : _ = some (Value.int .i64 fb.f0))
      have gb1 := (blk_cell HBK.out 1).trans (rfl : _ = some (Value.int .i64 fb.f1))
      have gb2 := (blk_cell HBK.out 2).trans (rfl : _ = some (Value.int .i64 fb.f2))
      have gb3 := (blk_cell HBK.out 3).trans (rfl : _ = some (Value.int .i64 fb.f3))
      have gb4 := (blk_cell HBK.out 4).trans (rfl : _ = some (Value.int .i64 fb.f4))
      have gb5 := (blk_cell HBK.out 5).trans (rfl : _ = some (Value.int .i64 fb.f5))
      have HR3 := Aside0.mk (Kd.C_below HR.out HB3.out)
      clear gl0 gl1 gl2 gl3 gl4 gl5 gl6 gs0 gs1
      go_region_law (go_simp; first
        | (go_at_call 42; (with_reducible refine (arrivedCalls fa l2 A2 c2 _ HD.out HA.out (Kd.C_below HR3.out (by repeat (first | exact Below.refl _ _ | apply pw_below_drewN | apply below_drew1)))).mono ?_); rintro e w4 ⟨b1, rfl, hm1, hlt1, hb4⟩; have hb5 : Below w3.heap.size w3 w4 := (by refine below_then ?_ ?_ hb4; (repeat (first | exact Below.refl _ _ | apply pw_below_drewN | apply below_drew1)); exact Nat.le_refl _); have gq0 := pw_cell_below hb5 gb0; have gq1 := pw_cell_below hb5 gb1; have gq2 := pw_cell_below hb5 gb2; have gq3 := pw_cell_below hb5 gb3; have gq4 := pw_cell_below hb5 gb4; have gq5 := pw_cell_below hb5 gb5; have HM4 := Aside0.mk hm1; have HB4 : Aside0 (Below w.heap.size w w4) := ⟨below_step HB3.out hb5⟩; clear hm1 hlt1 hb4 hb5)
        | (go_at_call 43; (with_reducible refine (loop_release.calls _ _ _ _ _ _ a3 _ _ HREL.out).mono ?_); rintro e w5 ⟨rfl, hb6⟩; have hb7 : Below w4.heap.size w4 w5 := (by refine below_then ?_ ?_ hb6; (repeat (first | exact Below.refl _ _ | apply pw_below_drewN | apply below_drew1)); exact Nat.le_refl _); have HM5 := Aside0.mk (HM4.out.below hb7); have HB5 : Aside0 (Below w.heap.size w w5) := ⟨below_step HB4.out hb7⟩; clear hb6 hb7)
        | (go_at_call 41; (with_reducible refine (carriesCalls (arr fa l2) b1 _ _ (HM5.out.below (by repeat (first | exact Below.refl _ _ | apply pw_below_drewN | apply below_drew1)))).mono ?_); rintro e w6 ⟨rc, rfl, hic, hb8⟩; obtain rfl : rc = cc := hic.eq.trans HCC.out; have hb9 : Below w5.heap.size w5 w6 := (by refine below_then ?_ ?_ hb8; (repeat (first | exact Below.refl _ _ | apply pw_below_drewN | apply below_drew1)); exact Nat.le_refl _); have HB6 : Aside0 (Below w.heap.size w w6) := ⟨below_step HB5.out hb9⟩; clear hb8 hb9 hic))
      all_goals go_wp2
      all_goals
        go_ret3
        exact ⟨by rw [← H.out.1, ← H.out.2.1, ← H.out.2.2]; unfold mx; split <;> first | rfl | (exfalso; omega) | (rw [show decide (0 ≤ rc) = true from decide_eq_true (by omega)]; rfl), (by repeat (first | exact HB6.out | apply below_alloc | apply pw_below_drewN | apply below_drew1))⟩
  · rw [if_neg h0] at h
    simp only [Option.some.injEq, Prod.mk.injEq] at h
    obtain ⟨rfl, rfl, rfl⟩ := h
    have b0 : (e == 0) = false := beq_eq_false_iff_ne.mpr h0
    have b1 : (e != 0) = true := bne_iff_ne.mpr h0
    clear he hr2 hlen hc2 h0
    go_enter Try.func18, Try.ntmps18
    go_wp2_with (go_at_call 36; (with_reducible refine (loop_right.calls a0_0 a0_1 a0_2 a0_3 a0_4 a0_5 a0_6 a1_0 a1_1 e _ HE.out).mono ?_); rintro e w1 ⟨rfl, hb⟩; have HB1 : Aside0 (Below w.heap.size w w1) := ⟨below_step (by repeat (first | exact Below.refl _ _ | apply below_alloc)) hb⟩; clear hb)
    go_ret3
    exact ⟨rfl, HB1.out⟩

/-! ### hopmeshref50_isNode: function 59 -/
def hopmeshref50_isNode.f (a0 : Int) (a1 : Int) : Option (Bool) := if a1 ≥ 0 then (some (decide (a1 < a0))) else (some false)
set_option maxHeartbeats 8000000 in
set_option maxRecDepth 100000 in
theorem hopmeshref50_isNode.calls (a0 : Int) (a1 : Int) (r : Bool) (w : World) (h : hopmeshref50_isNode.f a0 a1 = some r) :
    Calls Try.prog 59 #[.int .i64 a0, .int .i64 a1] w fun e w' => e = .returned (.bool r) ∧ Drawn0 w w' := by
  have H : (if a1 ≥ 0 then (some (decide (a1 < a0))) else (some false)) = some r := h
  clear h
  by_cases c3 : a1 ≥ 0
  · rw [if_pos c3] at H
    have c3b0 : decide (0 ≤ a1) = true := decide_eq_true c3
    clear c3
    obtain rfl := Option.some.inj H
    go_enter Try.func59, Try.ntmps59
    go_wp2
    go_ret
    exact ⟨by first | rfl | (simp; done) | (simp [*]; done), by repeat (first | exact Drawn0.refl _ | apply Drawn0.step)⟩
  · rw [if_neg c3] at H
    have c3b0 : decide (0 ≤ a1) = false := decide_eq_false c3
    clear c3
    obtain rfl := Option.some.inj H
    go_enter Try.func59, Try.ntmps59
    go_wp2
    go_ret
    exact ⟨by first | rfl | (simp; done) | (simp [*]; done), by repeat (first | exact Drawn0.refl _ | apply Drawn0.step)⟩

end Go.Proofs.Ytnjljajopdpjjaa.PX
