-- Written by wip/xprint.py, a program of this claim's own, over the kit's print program. Lean checks it.
import Derived.Test.YtnjljajopdpjjaaPXx0
import Derived.Test.YtnjljajopdpjjaaPXx9
import Derived.Test.YtnjljajopdpjjaaPXx12
import Derived.Test.YtnjljajopdpjjaaPXx13
import Derived.Test.YtnjljajopdpjjaaPXx14
import Derived.Test.YtnjljajopdpjjaaPXx15
import Derived.Test.YtnjljajopdpjjaaPXx33
import Derived.Test.YtnjljajopdpjjaaPXx34
import Derived.Test.YtnjljajopdpjjaaPXx35
import Derived.Test.YtnjljajopdpjjaaPXx36
import Derived.Test.YtnjljajopdpjjaaPXx37
namespace Go.Proofs.Ytnjljajopdpjjaa.PX
open Go.RowKit Go.Proofs.YtnjljajopdpjjaaW.PrintWords Go.Proofs.YtnjljajopdpjjaaW.PrintLast Go.Proofs.YtnjljajopdpjjaaW.PrintMore
attribute [local go_sem] max2_int min2_int max_two min_two max_three min_three max_four min_four   -- for this text's walks alone
set_option linter.unusedVariables false
set_option linter.unusedSimpArgs false

/-! ### hopmeshlaw50_LoopSplits: function 7 -/
def hopmeshlaw50_LoopSplits.f (k : Nat) (a0_0 : Int) (a0_1 : Int) (a0_2 : Int) (a0_3 : Int) (a0_4 : Int) (a0_5 : Int) (a0_6 : Int) (a1_0 : Int) (a1_1 : Int) : Option (Bool) := (hopmeshlaw50_awake.f k).bind fun t367 => (if t367 = true then ((loop_Worst.f a0_0 a0_1 a0_2 a0_3 a0_4 a0_5 a0_6 a1_0 a1_1).bind fun bt368 => ((hopmeshref50_Worst.f k a0_0 a0_1 a0_2 a0_3 a0_4 a0_5 a0_6 a1_0 a1_1).bind fun bt370 => ((loop_Splits.f k a0_0 a0_1 a0_2 a0_3 a0_4 a0_5 a0_6).bind fun bt372 => ((hopmeshref50_Splits.f k a0_0 a0_1 a0_2 a0_3 a0_4 a0_5 a0_6).bind fun bt376 => ((loop_Flows.f a0_0 a0_1 a0_2 a0_3 a0_4 a0_5 a0_6 a1_0 a1_1).bind fun bt380 => ((hopmeshref50_Flows.f k a0_0 a0_1 a0_2 a0_3 a0_4 a0_5 a0_6 a1_0 a1_1).bind fun bt384 => (if bt368.1 = bt370.1 then (if bt368.2 = bt370.2 then ((api_Split_30.f k bt372.1 bt376.1).bind fun t388 => (if t388 = true then (if bt372.2 = bt376.2 then ((api_Flow.f k bt380.1 bt384.1).bind fun t389 => (if t389 = true then (some (bt380.2 == bt384.2)) else (none))) else (none)) else (none))) else (none)) else (none)))))))) else (none))
theorem hopmeshlaw50_LoopSplits.mono : ∀ a0 a1 a2 a3 a4 a5 a6 a7 a8 k, LeO (hopmeshlaw50_LoopSplits.f k a0 a1 a2 a3 a4 a5 a6 a7 a8) (hopmeshlaw50_LoopSplits.f (k + 1) a0 a1 a2 a3 a4 a5 a6 a7 a8) := by
  intro a0 a1 a2 a3 a4 a5 a6 a7 a8 k
  unfold hopmeshlaw50_LoopSplits.f
  repeat' first
      | (with_reducible exact api_Flow.mono _ _ _)
      | (with_reducible exact api_Split_30.mono _ _ _)
      | (with_reducible exact hopmeshlaw50_awake.mono _)
      | (with_reducible exact hopmeshref50_Flows.mono _ _ _ _ _ _ _ _ _ _)
      | (with_reducible exact hopmeshref50_Splits.mono _ _ _ _ _ _ _ _)
      | (with_reducible exact hopmeshref50_Worst.mono _ _ _ _ _ _ _ _ _ _)
      | (with_reducible exact loop_Splits.mono _ _ _ _ _ _ _ _)
      | (with_reducible exact LeO.refl _)
      | (with_reducible exact LeO.none _)
      | (with_reducible refine LeO.ite ?_ ?_)
      | (with_reducible refine LeO.bind ?_ (fun _ => ?_))
      | exact api_Flow.mono _ _ _
      | exact api_Split_30.mono _ _ _
      | exact hopmeshlaw50_awake.mono _
      | exact hopmeshref50_Flows.mono _ _ _ _ _ _ _ _ _ _
      | exact hopmeshref50_Splits.mono _ _ _ _ _ _ _ _
      | exact hopmeshref50_Worst.mono _ _ _ _ _ _ _ _ _ _
      | exact loop_Splits.mono _ _ _ _ _ _ _ _
      | exact LeO.none _
      | refine LeO.ite ?_ ?_
      | refine LeO.bind ?_ (fun _ => ?_)
set_option maxHeartbeats 8000000 in
set_option maxRecDepth 100000 in
theorem hopmeshlaw50_LoopSplits.calls (k : Nat) (a0_0 : Int) (a0_1 : Int) (a0_2 : Int) (a0_3 : Int) (a0_4 : Int) (a0_5 : Int) (a0_6 : Int) (a1_0 : Int) (a1_1 : Int) (r : Bool) (w : World) (h : hopmeshlaw50_LoopSplits.f k a0_0 a0_1 a0_2 a0_3 a0_4 a0_5 a0_6 a1_0 a1_1 = some r) :
    Calls Try.prog 7 #[.agg #[.int .i64 a0_0, .int .i64 a0_1, .int .i64 a0_2, .int .i64 a0_3, .int .i64 a0_4, .int .i64 a0_5, .int .i64 a0_6], .agg #[.int .i64 a1_0, .int .i64 a1_1]] w fun e w' => e = .returned (.bool r) ∧ Below w.heap.size w w' := by
  have hu23 := Try.underlying23
  have hu25 := Try.underlying25
  have HB := Aside0.mk (Below.refl w.heap.size w)
  have H : ((hopmeshlaw50_awake.f k).bind fun t367 => (if t367 = true then ((loop_Worst.f a0_0 a0_1 a0_2 a0_3 a0_4 a0_5 a0_6 a1_0 a1_1).bind fun bt368 => ((hopmeshref50_Worst.f k a0_0 a0_1 a0_2 a0_3 a0_4 a0_5 a0_6 a1_0 a1_1).bind fun bt370 => ((loop_Splits.f k a0_0 a0_1 a0_2 a0_3 a0_4 a0_5 a0_6).bind fun bt372 => ((hopmeshref50_Splits.f k a0_0 a0_1 a0_2 a0_3 a0_4 a0_5 a0_6).bind fun bt376 => ((loop_Flows.f a0_0 a0_1 a0_2 a0_3 a0_4 a0_5 a0_6 a1_0 a1_1).bind fun bt380 => ((hopmeshref50_Flows.f k a0_0 a0_1 a0_2 a0_3 a0_4 a0_5 a0_6 a1_0 a1_1).bind fun bt384 => (if bt368.1 = bt370.1 then (if bt368.2 = bt370.2 then ((api_Split_30.f k bt372.1 bt376.1).bind fun t388 => (if t388 = true then (if bt372.2 = bt376.2 then ((api_Flow.f k bt380.1 bt384.1).bind fun t389 => (if t389 = true then (some (bt380.2 == bt384.2)) else (none))) else (none)) else (none))) else (none)) else (none)))))))) else (none))) = some r := h
  clear h
  replace H := Option.bind_eq_some_iff.mp H
  obtain ⟨t367, A30, H⟩ := H
  replace H : (if t367 = true then ((loop_Worst.f a0_0 a0_1 a0_2 a0_3 a0_4 a0_5 a0_6 a1_0 a1_1).bind fun bt368 => ((hopmeshref50_Worst.f k a0_0 a0_1 a0_2 a0_3 a0_4 a0_5 a0_6 a1_0 a1_1).bind fun bt370 => ((loop_Splits.f k a0_0 a0_1 a0_2 a0_3 a0_4 a0_5 a0_6).bind fun bt372 => ((hopmeshref50_Splits.f k a0_0 a0_1 a0_2 a0_3 a0_4 a0_5 a0_6).bind fun bt376 => ((loop_Flows.f a0_0 a0_1 a0_2 a0_3 a0_4 a0_5 a0_6 a1_0 a1_1).bind fun bt380 => ((hopmeshref50_Flows.f k a0_0 a0_1 a0_2 a0_3 a0_4 a0_5 a0_6 a1_0 a1_1).bind fun bt384 => (if bt368.1 = bt370.1 then (if bt368.2 = bt370.2 then ((api_Split_30.f k bt372.1 bt376.1).bind fun t388 => (if t388 = true then (if bt372.2 = bt376.2 then ((api_Flow.f k bt380.1 bt384.1).bind fun t389 => (if t389 = true then (some (bt380.2 == bt384.2)) else (none))) else (none)) else (none))) else (none)) else (none)))))))) else (none)) = some r := H
  have A3 := Aside0.mk A30
  clear A30
  by_cases c4 : t367 = true
  · subst c4
    have H1 : ((loop_Worst.f a0_0 a0_1 a0_2 a0_3 a0_4 a0_5 a0_6 a1_0 a1_1).bind fun bt368 => ((hopmeshref50_Worst.f k a0_0 a0_1 a0_2 a0_3 a0_4 a0_5 a0_6 a1_0 a1_1).bind fun bt370 => ((loop_Splits.f k a0_0 a0_1 a0_2 a0_3 a0_4 a0_5 a0_6).bind fun bt372 => ((hopmeshref50_Splits.f k a0_0 a0_1 a0_2 a0_3 a0_4 a0_5 a0_6).bind fun bt376 => ((loop_Flows.f a0_0 a0_1 a0_2 a0_3 a0_4 a0_5 a0_6 a1_0 a1_1).bind fun bt380 => ((hopmeshref50_Flows.f k a0_0 a0_1 a0_2 a0_3 a0_4 a0_5 a0_6 a1_0 a1_1).bind fun bt384 => (if bt368.1 = bt370.1 then (if bt368.2 = bt370.2 then ((api_Split_30.f k bt372.1 bt376.1).bind fun t388 => (if t388 = true then (if bt372.2 = bt376.2 then ((api_Flow.f k bt380.1 bt384.1).bind fun t389 => (if t389 = true then (some (bt380.2 == bt384.2)) else (none))) else (none)) else (none))) else (none)) else (none)))))))) = some r := by rw [if_pos rfl] at H; exact H
    clear H
    have H := H1
    clear H1
    replace H := Option.bind_eq_some_iff.mp H
    obtain ⟨⟨t368, t369⟩, A50, H⟩ := H
    replace H : ((hopmeshref50_Worst.f k a0_0 a0_1 a0_2 a0_3 a0_4 a0_5 a0_6 a1_0 a1_1).bind fun bt370 => ((loop_Splits.f k a0_0 a0_1 a0_2 a0_3 a0_4 a0_5 a0_6).bind fun bt372 => ((hopmeshref50_Splits.f k a0_0 a0_1 a0_2 a0_3 a0_4 a0_5 a0_6).bind fun bt376 => ((loop_Flows.f a0_0 a0_1 a0_2 a0_3 a0_4 a0_5 a0_6 a1_0 a1_1).bind fun bt380 => ((hopmeshref50_Flows.f k a0_0 a0_1 a0_2 a0_3 a0_4 a0_5 a0_6 a1_0 a1_1).bind fun bt384 => (if t368 = bt370.1 then (if t369 = bt370.2 then ((api_Split_30.f k bt372.1 bt376.1).bind fun t388 => (if t388 = true then (if bt372.2 = bt376.2 then ((api_Flow.f k bt380.1 bt384.1).bind fun t389 => (if t389 = true then (some (bt380.2 == bt384.2)) else (none))) else (none)) else (none))) else (none)) else (none))))))) = some r := H
    have A5 := Aside0.mk A50
    clear A50
    replace H := Option.bind_eq_some_iff.mp H
    obtain ⟨⟨t370, t371⟩, A60, H⟩ := H
    replace H : ((loop_Splits.f k a0_0 a0_1 a0_2 a0_3 a0_4 a0_5 a0_6).bind fun bt372 => ((hopmeshref50_Splits.f k a0_0 a0_1 a0_2 a0_3 a0_4 a0_5 a0_6).bind fun bt376 => ((loop_Flows.f a0_0 a0_1 a0_2 a0_3 a0_4 a0_5 a0_6 a1_0 a1_1).bind fun bt380 => ((hopmeshref50_Flows.f k a0_0 a0_1 a0_2 a0_3 a0_4 a0_5 a0_6 a1_0 a1_1).bind fun bt384 => (if t368 = t370 then (if t369 = t371 then ((api_Split_30.f k bt372.1 bt376.1).bind fun t388 => (if t388 = true then (if bt372.2 = bt376.2 then ((api_Flow.f k bt380.1 bt384.1).bind fun t389 => (if t389 = true then (some (bt380.2 == bt384.2)) else (none))) else (none)) else (none))) else (none)) else (none)))))) = some r := H
    have A6 := Aside0.mk A60
    clear A60
    replace H := Option.bind_eq_some_iff.mp H
    obtain ⟨⟨t372, t375⟩, A70, H⟩ := H
    replace H : ((hopmeshref50_Splits.f k a0_0 a0_1 a0_2 a0_3 a0_4 a0_5 a0_6).bind fun bt376 => ((loop_Flows.f a0_0 a0_1 a0_2 a0_3 a0_4 a0_5 a0_6 a1_0 a1_1).bind fun bt380 => ((hopmeshref50_Flows.f k a0_0 a0_1 a0_2 a0_3 a0_4 a0_5 a0_6 a1_0 a1_1).bind fun bt384 => (if t368 = t370 then (if t369 = t371 then ((api_Split_30.f k t372 bt376.1).bind fun t388 => (if t388 = true then (if t375 = bt376.2 then ((api_Flow.f k bt380.1 bt384.1).bind fun t389 => (if t389 = true then (some (bt380.2 == bt384.2)) else (none))) else (none)) else (none))) else (none)) else (none))))) = some r := H
    have A7 := Aside0.mk A70
    clear A70
    replace H := Option.bind_eq_some_iff.mp H
    obtain ⟨⟨t376, t379⟩, A80, H⟩ := H
    replace H : ((loop_Flows.f a0_0 a0_1 a0_2 a0_3 a0_4 a0_5 a0_6 a1_0 a1_1).bind fun bt380 => ((hopmeshref50_Flows.f k a0_0 a0_1 a0_2 a0_3 a0_4 a0_5 a0_6 a1_0 a1_1).bind fun bt384 => (if t368 = t370 then (if t369 = t371 then ((api_Split_30.f k t372 t376).bind fun t388 => (if t388 = true then (if t375 = t379 then ((api_Flow.f k bt380.1 bt384.1).bind fun t389 => (if t389 = true then (some (bt380.2 == bt384.2)) else (none))) else (none)) else (none))) else (none)) else (none)))) = some r := H
    have A8 := Aside0.mk A80
    clear A80
    replace H := Option.bind_eq_some_iff.mp H
    obtain ⟨⟨t380, t383⟩, A90, H⟩ := H
    replace H : ((hopmeshref50_Flows.f k a0_0 a0_1 a0_2 a0_3 a0_4 a0_5 a0_6 a1_0 a1_1).bind fun bt384 => (if t368 = t370 then (if t369 = t371 then ((api_Split_30.f k t372 t376).bind fun t388 => (if t388 = true then (if t375 = t379 then ((api_Flow.f k t380 bt384.1).bind fun t389 => (if t389 = true then (some (t383 == bt384.2)) else (none))) else (none)) else (none))) else (none)) else (none))) = some r := H
    have A9 := Aside0.mk A90
    clear A90
    replace H := Option.bind_eq_some_iff.mp H
    obtain ⟨⟨t384, t387⟩, A100, H⟩ := H
    replace H : (if t368 = t370 then (if t369 = t371 then ((api_Split_30.f k t372 t376).bind fun t388 => (if t388 = true then (if t375 = t379 then ((api_Flow.f k t380 t384).bind fun t389 => (if t389 = true then (some (t383 == t387)) else (none))) else (none)) else (none))) else (none)) else (none)) = some r := H
    have A10 := Aside0.mk A100
    clear A100
    by_cases c11 : t368 = t370
    · rw [if_pos c11] at H
      have c11b0 : (t368 == t370) = true := beq_iff_eq.mpr c11
      have c11b1 : (t368 != t370) = false := bne_eq_false_iff_eq.mpr c11
      clear c11
      by_cases c12 : t369 = t371
      · rw [if_pos c12] at H
        have c12b0 : (t369 == t371) = true := beq_iff_eq.mpr c12
        have c12b1 : (t369 != t371) = false := bne_eq_false_iff_eq.mpr c12
        clear c12
        replace H := Option.bind_eq_some_iff.mp H
        obtain ⟨t388, A130, H⟩ := H
        replace H : (if t388 = true then (if t375 = t379 then ((api_Flow.f k t380 t384).bind fun t389 => (if t389 = true then (some (t383 == t387)) else (none))) else (none)) else (none)) = some r := H
        have A13 := Aside0.mk A130
        clear A130
        by_cases c14 : t388 = true
        · subst c14
          have H1 : (if t375 = t379 then ((api_Flow.f k t380 t384).bind fun t389 => (if t389 = true then (some (t383 == t387)) else (none))) else (none)) = some r := by rw [if_pos rfl] at H; exact H
          clear H
          have H := H1
          clear H1
          by_cases c15 : t375 = t379
          · rw [if_pos c15] at H
            have c15b0 : (t375 == t379) = true := beq_iff_eq.mpr c15
            have c15b1 : (t375 != t379) = false := bne_eq_false_iff_eq.mpr c15
            clear c15
            replace H := Option.bind_eq_some_iff.mp H
            obtain ⟨t389, A160, H⟩ := H
            replace H : (if t389 = true then (some (t383 == t387)) else (none)) = some r := H
            have A16 := Aside0.mk A160
            clear A160
            by_cases c17 : t389 = true
            · subst c17
              have H1 : (some (t383 == t387)) = some r := by rw [if_pos rfl] at H; exact H
              clear H
              have H := H1
              clear H1
              obtain rfl := Option.some.inj H
              go_enter Try.func7, Try.ntmps7
              go_wp2_with (first | ((with_reducible refine gate_dst (N := 2) rfl ?_); refine box_event ?hg (N := 2) ?hd (cs := #[.int .i64 a0_0, .int .i64 a0_1, .int .i64 a0_2, .int .i64 a0_3, .int .i64 a0_4, .int .i64 a0_5, .int .i64 a0_6]) (t := 23) ?hr ?_; (case hd => rfl); (case hg => rfl); (case hr => first | (go_simp; done) | (go_simp; rfl)); intro gb365 hg w18 hbox hb; have n0_ := Aside0.mk (below_step (by repeat (first | (with_reducible first | exact HB.out | apply below_alloc | apply pw_below_drewN | apply below_drew1) | exact HB.out)) hb); have n1_ := Aside0.mk (hbox); have n2_ := Aside0.mk ((by rw [hg]; exact (below_size (by repeat (first | (with_reducible first | exact HB.out | apply below_alloc | apply pw_below_drewN | apply below_drew1) | exact HB.out))) : w.heap.size ≤ gb365)); have n3_ := Aside0.mk ((by rw [hg]; exact (below_size (by repeat (first | (with_reducible first | exact HB.out | apply below_alloc | apply pw_below_drewN | apply below_drew1) | exact HB.out))) : w.heap.size ≤ gb365)); clear HB; have HB := n0_; have BK365 := n1_; have GW365 := n2_; have GE365 := n3_; clear n0_ n1_ n2_ n3_; clear hb hbox hg) | ((with_reducible refine gate_dst (N := 3) rfl ?_); refine box_event ?hg (N := 3) ?hd (cs := #[.int .i64 a1_0, .int .i64 a1_1]) (t := 25) ?hr ?_; (case hd => rfl); (case hg => rfl); (case hr => first | (go_simp; done) | (go_simp; rfl)); intro gb366 hg w19 hbox hb; have n0_ := Aside0.mk (blk_below (g := gb365) (o := .cells #[.int .i64 a0_0, .int .i64 a0_1, .int .i64 a0_2, .int .i64 a0_3, .int .i64 a0_4, .int .i64 a0_5, .int .i64 a0_6] 23 (0, 0)) (by (with_reducible repeat (first | refine blk_drewN ?_ _ | refine blk_drew ?_ | refine blk_alloc ?_ _)); exact BK365.out) hb); have n1_ := Aside0.mk (below_step (by repeat (first | (with_reducible first | exact HB.out | apply below_alloc | apply pw_below_drewN | apply below_drew1 | refine below_set ?_ GE365.out) | exact HB.out)) hb); have n2_ := Aside0.mk (hbox); have n3_ := Aside0.mk ((by rw [hg]; exact (below_size (by repeat (first | (with_reducible first | exact HB.out | apply below_alloc | apply pw_below_drewN | apply below_drew1 | refine below_set ?_ GE365.out) | exact HB.out))) : w.heap.size ≤ gb366)); have n4_ := Aside0.mk ((by rw [hg]; exact (below_size (by repeat (first | (with_reducible first | exact HB.out | apply below_alloc | apply pw_below_drewN | apply below_drew1 | refine below_set ?_ GE365.out) | exact HB.out))) : w.heap.size ≤ gb366)); have n5_ := Aside0.mk ((by rw [hg]; exact Nat.ne_of_lt (blk_lt (g := gb365) (o := .cells #[.int .i64 a0_0, .int .i64 a0_1, .int .i64 a0_2, .int .i64 a0_3, .int .i64 a0_4, .int .i64 a0_5, .int .i64 a0_6] 23 (0, 0)) (by (with_reducible repeat (first | refine blk_drewN ?_ _ | refine blk_drew ?_ | refine blk_alloc ?_ _)); exact BK365.out)) : gb365 ≠ gb366)); have n6_ := Aside0.mk ((by rw [hg]; exact Nat.ne_of_gt (blk_lt (g := gb365) (o := .cells #[.int .i64 a0_0, .int .i64 a0_1, .int .i64 a0_2, .int .i64 a0_3, .int .i64 a0_4, .int .i64 a0_5, .int .i64 a0_6] 23 (0, 0)) (by (with_reducible repeat (first | refine blk_drewN ?_ _ | refine blk_drew ?_ | refine blk_alloc ?_ _)); exact BK365.out)) : gb366 ≠ gb365)); clear BK365; clear HB; have BK365 := n0_; have HB := n1_; have BK366 := n2_; have GW366 := n3_; have GE366 := n4_; have NB365_366 := n5_; have NB366_365 := n6_; clear n0_ n1_ n2_ n3_ n4_ n5_ n6_; clear hb hbox hg) | ((with_reducible refine gate_callee (f := 11) rfl ?_); refine goesL_ (some 17) rfl rfl Try.func11 (by kernel_rfl) rfl #[] rfl (by (try simp only [List.map_toArray, List.map_cons, List.map_nil]); first | done | rfl | (simp only [List.length_drop, List.length_take]; rfl)) ?_; (with_reducible refine (hopmeshlaw50_awake.calls k  true _ A3.out).mono ?_); rintro e w20 ⟨rfl, hb⟩; refine ⟨_, rfl, ?_⟩; have n0_ := Aside0.mk (blk_below (g := gb365) (o := .cells #[.int .i64 a0_0, .int .i64 a0_1, .int .i64 a0_2, .int .i64 a0_3, .int .i64 a0_4, .int .i64 a0_5, .int .i64 a0_6] 23 (0, 0)) (by (with_reducible repeat (first | refine blk_drewN ?_ _ | refine blk_drew ?_ | refine blk_alloc ?_ _)); exact BK365.out) hb); have n1_ := Aside0.mk (blk_below (g := gb366) (o := .cells #[.int .i64 a1_0, .int .i64 a1_1] 25 (0, 0)) (by (with_reducible repeat (first | refine blk_drewN ?_ _ | refine blk_drew ?_ | refine blk_alloc ?_ _)); exact BK366.out) hb); have n2_ := Aside0.mk (below_step (by repeat (first | (with_reducible first | exact HB.out | apply below_alloc | apply pw_below_drewN | apply below_drew1 | refine below_set ?_ GE365.out | refine below_set ?_ GE366.out) | exact HB.out)) hb); clear BK365; clear BK366; clear HB; have BK365 := n0_; have BK366 := n1_; have HB := n2_; clear n0_ n1_ n2_; (try clear hb); (try clear hb2); (try clear hk); (try clear hi); have hnb21 := NB365_366.out; have hnc21 := NB366_365.out; have hcz22_0 : w20.cell? ⟨gb365, 0, none⟩ = some (.int .i64 a0_0) := (blk_cell BK365.out 0).trans rfl; have hcz22_1 : w20.cell? ⟨gb365, 1, none⟩ = some (.int .i64 a0_1) := (blk_cell BK365.out 1).trans rfl; have hcz22_2 : w20.cell? ⟨gb365, 2, none⟩ = some (.int .i64 a0_2) := (blk_cell BK365.out 2).trans rfl; have hcz22_3 : w20.cell? ⟨gb365, 3, none⟩ = some (.int .i64 a0_3) := (blk_cell BK365.out 3).trans rfl; have hcz22_4 : w20.cell? ⟨gb365, 4, none⟩ = some (.int .i64 a0_4) := (blk_cell BK365.out 4).trans rfl; have hcz22_5 : w20.cell? ⟨gb365, 5, none⟩ = some (.int .i64 a0_5) := (blk_cell BK365.out 5).trans rfl; have hcz22_6 : w20.cell? ⟨gb365, 6, none⟩ = some (.int .i64 a0_6) := (blk_cell BK365.out 6).trans rfl; have hfz22_0 := blk_frozen BK365.out 0; have hfz22_1 := blk_frozen BK365.out 1; have hfz22_2 := blk_frozen BK365.out 2; have hfz22_3 := blk_frozen BK365.out 3; have hfz22_4 := blk_frozen BK365.out 4; have hfz22_5 := blk_frozen BK365.out 5; have hfz22_6 := blk_frozen BK365.out 6; have hcz23_0 : w20.cell? ⟨gb366, 0, none⟩ = some (.int .i64 a1_0) := (blk_cell BK366.out 0).trans rfl; have hcz23_1 : w20.cell? ⟨gb366, 1, none⟩ = some (.int .i64 a1_1) := (blk_cell BK366.out 1).trans rfl; have hfz23_0 := blk_frozen BK366.out 0; have hfz23_1 := blk_frozen BK366.out 1) | ((with_reducible refine gate_callee (f := 24) rfl ?_); refine goesL_ (some 22) rfl rfl Try.func24 (by kernel_rfl) rfl #[.agg #[.int .i64 a0_0, .int .i64 a0_1, .int .i64 a0_2, .int .i64 a0_3, .int .i64 a0_4, .int .i64 a0_5, .int .i64 a0_6], .agg #[.int .i64 a1_0, .int .i64 a1_1]] rfl (by (try simp only [List.map_toArray, List.map_cons, List.map_nil]); first | done | rfl | (simp only [List.length_drop, List.length_take]; rfl)) ?_; (with_reducible refine (loop_Worst.calls a0_0 a0_1 a0_2 a0_3 a0_4 a0_5 a0_6 a1_0 a1_1 t368 t369 _ A5.out).mono ?_); rintro e w24 ⟨rfl, hb⟩; refine ⟨_, rfl, ?_⟩; have n0_ := Aside0.mk (blk_below (g := gb365) (o := .cells #[.int .i64 a0_0, .int .i64 a0_1, .int .i64 a0_2, .int .i64 a0_3, .int .i64 a0_4, .int .i64 a0_5, .int .i64 a0_6] 23 (0, 0)) (by (with_reducible repeat (first | refine blk_drewN ?_ _ | refine blk_drew ?_ | refine blk_alloc ?_ _)); exact BK365.out) hb); have n1_ := Aside0.mk (blk_below (g := gb366) (o := .cells #[.int .i64 a1_0, .int .i64 a1_1] 25 (0, 0)) (by (with_reducible repeat (first | refine blk_drewN ?_ _ | refine blk_drew ?_ | refine blk_alloc ?_ _)); exact BK366.out) hb); have n2_ := Aside0.mk (below_step (by repeat (first | (with_reducible first | exact HB.out | apply below_alloc | apply pw_below_drewN | apply below_drew1 | refine below_set ?_ GE365.out | refine below_set ?_ GE366.out) | exact HB.out)) hb); clear BK365; clear BK366; clear HB; have BK365 := n0_; have BK366 := n1_; have HB := n2_; clear n0_ n1_ n2_; (try clear hb); (try clear hb2); (try clear hk); (try clear hi); have hcz25_0 : w24.cell? ⟨gb365, 0, none⟩ = some (.int .i64 a0_0) := (blk_cell BK365.out 0).trans rfl; have hcz25_1 : w24.cell? ⟨gb365, 1, none⟩ = some (.int .i64 a0_1) := (blk_cell BK365.out 1).trans rfl; have hcz25_2 : w24.cell? ⟨gb365, 2, none⟩ = some (.int .i64 a0_2) := (blk_cell BK365.out 2).trans rfl; have hcz25_3 : w24.cell? ⟨gb365, 3, none⟩ = some (.int .i64 a0_3) := (blk_cell BK365.out 3).trans rfl; have hcz25_4 : w24.cell? ⟨gb365, 4, none⟩ = some (.int .i64 a0_4) := (blk_cell BK365.out 4).trans rfl; have hcz25_5 : w24.cell? ⟨gb365, 5, none⟩ = some (.int .i64 a0_5) := (blk_cell BK365.out 5).trans rfl; have hcz25_6 : w24.cell? ⟨gb365, 6, none⟩ = some (.int .i64 a0_6) := (blk_cell BK365.out 6).trans rfl; have hfz25_0 := blk_frozen BK365.out 0; have hfz25_1 := blk_frozen BK365.out 1; have hfz25_2 := blk_frozen BK365.out 2; have hfz25_3 := blk_frozen BK365.out 3; have hfz25_4 := blk_frozen BK365.out 4; have hfz25_5 := blk_frozen BK365.out 5; have hfz25_6 := blk_frozen BK365.out 6; have hcz26_0 : w24.cell? ⟨gb366, 0, none⟩ = some (.int .i64 a1_0) := (blk_cell BK366.out 0).trans rfl; have hcz26_1 : w24.cell? ⟨gb366, 1, none⟩ = some (.int .i64 a1_1) := (blk_cell BK366.out 1).trans rfl; have hfz26_0 := blk_frozen BK366.out 0; have hfz26_1 := blk_frozen BK366.out 1) | ((with_reducible refine gate_callee (f := 26) rfl ?_); refine goesL_ (some 28) rfl rfl Try.func26 (by kernel_rfl) rfl #[.agg #[.int .i64 a0_0, .int .i64 a0_1, .int .i64 a0_2, .int .i64 a0_3, .int .i64 a0_4, .int .i64 a0_5, .int .i64 a0_6], .agg #[.int .i64 a1_0, .int .i64 a1_1]] rfl (by (try simp only [List.map_toArray, List.map_cons, List.map_nil]); first | done | rfl | (simp only [List.length_drop, List.length_take]; rfl)) ?_; (with_reducible refine (hopmeshref50_Worst.calls k a0_0 a0_1 a0_2 a0_3 a0_4 a0_5 a0_6 a1_0 a1_1 t370 t371 _ A6.out).mono ?_); rintro e w27 ⟨rfl, hb⟩; refine ⟨_, rfl, ?_⟩; have n0_ := Aside0.mk (blk_below (g := gb365) (o := .cells #[.int .i64 a0_0, .int .i64 a0_1, .int .i64 a0_2, .int .i64 a0_3, .int .i64 a0_4, .int .i64 a0_5, .int .i64 a0_6] 23 (0, 0)) (by (with_reducible repeat (first | refine blk_drewN ?_ _ | refine blk_drew ?_ | refine blk_alloc ?_ _)); exact BK365.out) hb); have n1_ := Aside0.mk (blk_below (g := gb366) (o := .cells #[.int .i64 a1_0, .int .i64 a1_1] 25 (0, 0)) (by (with_reducible repeat (first | refine blk_drewN ?_ _ | refine blk_drew ?_ | refine blk_alloc ?_ _)); exact BK366.out) hb); have n2_ := Aside0.mk (below_step (by repeat (first | (with_reducible first | exact HB.out | apply below_alloc | apply pw_below_drewN | apply below_drew1 | refine below_set ?_ GE365.out | refine below_set ?_ GE366.out) | exact HB.out)) hb); clear BK365; clear BK366; clear HB; have BK365 := n0_; have BK366 := n1_; have HB := n2_; clear n0_ n1_ n2_; (try clear hb); (try clear hb2); (try clear hk); (try clear hi); have hcz28_0 : w27.cell? ⟨gb365, 0, none⟩ = some (.int .i64 a0_0) := (blk_cell BK365.out 0).trans rfl; have hcz28_1 : w27.cell? ⟨gb365, 1, none⟩ = some (.int .i64 a0_1) := (blk_cell BK365.out 1).trans rfl; have hcz28_2 : w27.cell? ⟨gb365, 2, none⟩ = some (.int .i64 a0_2) := (blk_cell BK365.out 2).trans rfl; have hcz28_3 : w27.cell? ⟨gb365, 3, none⟩ = some (.int .i64 a0_3) := (blk_cell BK365.out 3).trans rfl; have hcz28_4 : w27.cell? ⟨gb365, 4, none⟩ = some (.int .i64 a0_4) := (blk_cell BK365.out 4).trans rfl; have hcz28_5 : w27.cell? ⟨gb365, 5, none⟩ = some (.int .i64 a0_5) := (blk_cell BK365.out 5).trans rfl; have hcz28_6 : w27.cell? ⟨gb365, 6, none⟩ = some (.int .i64 a0_6) := (blk_cell BK365.out 6).trans rfl; have hfz28_0 := blk_frozen BK365.out 0; have hfz28_1 := blk_frozen BK365.out 1; have hfz28_2 := blk_frozen BK365.out 2; have hfz28_3 := blk_frozen BK365.out 3; have hfz28_4 := blk_frozen BK365.out 4; have hfz28_5 := blk_frozen BK365.out 5; have hfz28_6 := blk_frozen BK365.out 6) | ((with_reducible refine gate_callee (f := 27) rfl ?_); refine goesL_ (some 33) rfl rfl Try.func27 (by kernel_rfl) rfl #[.agg #[.int .i64 a0_0, .int .i64 a0_1, .int .i64 a0_2, .int .i64 a0_3, .int .i64 a0_4, .int .i64 a0_5, .int .i64 a0_6]] rfl (by (try simp only [List.map_toArray, List.map_cons, List.map_nil]); first | done | rfl | (simp only [List.length_drop, List.length_take]; rfl)) ?_; (with_reducible refine (loop_Splits.calls k a0_0 a0_1 a0_2 a0_3 a0_4 a0_5 a0_6 t372 t375 _ A7.out).mono ?_); rintro e w29 ⟨v373, rfl, ho0, hb⟩; refine ⟨_, rfl, ?_⟩; have n0_ := Aside0.mk (Kd.R_lower (Kd.R_newB ho0 (g := gb366) (o := .cells #[.int .i64 a1_0, .int .i64 a1_1] 25 (0, 0)) (by (with_reducible repeat (first | refine blk_drewN ?_ _ | refine blk_drew ?_ | refine blk_alloc ?_ _)); exact BK366.out)) (below_size (by repeat (first | (with_reducible first | exact HB.out | apply below_alloc | apply pw_below_drewN | apply below_drew1 | refine below_set ?_ GE365.out | refine below_set ?_ GE366.out) | exact HB.out)))); have n1_ := Aside0.mk (blk_below (g := gb365) (o := .cells #[.int .i64 a0_0, .int .i64 a0_1, .int .i64 a0_2, .int .i64 a0_3, .int .i64 a0_4, .int .i64 a0_5, .int .i64 a0_6] 23 (0, 0)) (by (with_reducible repeat (first | refine blk_drewN ?_ _ | refine blk_drew ?_ | refine blk_alloc ?_ _)); exact BK365.out) hb); have n2_ := Aside0.mk (blk_below (g := gb366) (o := .cells #[.int .i64 a1_0, .int .i64 a1_1] 25 (0, 0)) (by (with_reducible repeat (first | refine blk_drewN ?_ _ | refine blk_drew ?_ | refine blk_alloc ?_ _)); exact BK366.out) hb); have n3_ := Aside0.mk (below_step (by repeat (first | (with_reducible first | exact HB.out | apply below_alloc | apply pw_below_drewN | apply below_drew1 | refine below_set ?_ GE365.out | refine below_set ?_ GE366.out) | exact HB.out)) hb); clear BK365; clear BK366; clear HB; have HO374 := n0_; have BK365 := n1_; have BK366 := n2_; have HB := n3_; clear n0_ n1_ n2_ n3_; (try clear hb); (try clear hb2); (try clear hk); (try clear hi); (try clear ho0); have hcz30_0 : w29.cell? ⟨gb365, 0, none⟩ = some (.int .i64 a0_0) := (blk_cell BK365.out 0).trans rfl; have hcz30_1 : w29.cell? ⟨gb365, 1, none⟩ = some (.int .i64 a0_1) := (blk_cell BK365.out 1).trans rfl; have hcz30_2 : w29.cell? ⟨gb365, 2, none⟩ = some (.int .i64 a0_2) := (blk_cell BK365.out 2).trans rfl; have hcz30_3 : w29.cell? ⟨gb365, 3, none⟩ = some (.int .i64 a0_3) := (blk_cell BK365.out 3).trans rfl; have hcz30_4 : w29.cell? ⟨gb365, 4, none⟩ = some (.int .i64 a0_4) := (blk_cell BK365.out 4).trans rfl; have hcz30_5 : w29.cell? ⟨gb365, 5, none⟩ = some (.int .i64 a0_5) := (blk_cell BK365.out 5).trans rfl; have hcz30_6 : w29.cell? ⟨gb365, 6, none⟩ = some (.int .i64 a0_6) := (blk_cell BK365.out 6).trans rfl; have hfz30_0 := blk_frozen BK365.out 0; have hfz30_1 := blk_frozen BK365.out 1; have hfz30_2 := blk_frozen BK365.out 2; have hfz30_3 := blk_frozen BK365.out 3; have hfz30_4 := blk_frozen BK365.out 4; have hfz30_5 := blk_frozen BK365.out 5; have hfz30_6 := blk_frozen BK365.out 6) | ((with_reducible refine gate_callee (f := 28) rfl ?_); refine goesL_ (some 38) rfl rfl Try.func28 (by kernel_rfl) rfl #[.agg #[.int .i64 a0_0, .int .i64 a0_1, .int .i64 a0_2, .int .i64 a0_3, .int .i64 a0_4, .int .i64 a0_5, .int .i64 a0_6]] rfl (by (try simp only [List.map_toArray, List.map_cons, List.map_nil]); first | done | rfl | (simp only [List.length_drop, List.length_take]; rfl)) ?_; (with_reducible refine (hopmeshref50_Splits.calls k a0_0 a0_1 a0_2 a0_3 a0_4 a0_5 a0_6 t376 t379 _ A8.out).mono ?_); rintro e w31 ⟨v377, rfl, ho0, hb⟩; refine ⟨_, rfl, ?_⟩; have n0_ := Aside0.mk (Kd.R_elder' (by (with_reducible repeat (first | apply Kd.R_alloc | apply Kd.R_drewN | apply Kd.R_drew)); exact HO374.out) (Kd.R_base ho0) hb); have n1_ := Aside0.mk (Kd.R_lower (Kd.R_newB (Kd.R_new' ho0 (Kd.R_lt (by (with_reducible repeat (first | apply Kd.R_alloc | apply Kd.R_drewN | apply Kd.R_drew)); exact HO374.out))) (g := gb366) (o := .cells #[.int .i64 a1_0, .int .i64 a1_1] 25 (0, 0)) (by (with_reducible repeat (first | refine blk_drewN ?_ _ | refine blk_drew ?_ | refine blk_alloc ?_ _)); exact BK366.out)) (below_size (by repeat (first | (with_reducible first | exact HB.out | apply below_alloc | apply pw_below_drewN | apply below_drew1 | refine below_set ?_ GE365.out | refine below_set ?_ GE366.out) | exact HB.out)))); have n2_ := Aside0.mk (blk_below (g := gb365) (o := .cells #[.int .i64 a0_0, .int .i64 a0_1, .int .i64 a0_2, .int .i64 a0_3, .int .i64 a0_4, .int .i64 a0_5, .int .i64 a0_6] 23 (0, 0)) (by (with_reducible repeat (first | refine blk_drewN ?_ _ | refine blk_drew ?_ | refine blk_alloc ?_ _)); exact BK365.out) hb); have n3_ := Aside0.mk (blk_below (g := gb366) (o := .cells #[.int .i64 a1_0, .int .i64 a1_1] 25 (0, 0)) (by (with_reducible repeat (first | refine blk_drewN ?_ _ | refine blk_drew ?_ | refine blk_alloc ?_ _)); exact BK366.out) hb); have n4_ := Aside0.mk (below_step (by repeat (first | (with_reducible first | exact HB.out | apply below_alloc | apply pw_below_drewN | apply below_drew1 | refine below_set ?_ GE365.out | refine below_set ?_ GE366.out) | exact HB.out)) hb); clear HO374; clear BK365; clear BK366; clear HB; have HO374 := n0_; have HO378 := n1_; have BK365 := n2_; have BK366 := n3_; have HB := n4_; clear n0_ n1_ n2_ n3_ n4_; (try clear hb); (try clear hb2); (try clear hk); (try clear hi); (try clear ho0); have hcz32_0 : w31.cell? ⟨gb365, 0, none⟩ = some (.int .i64 a0_0) := (blk_cell BK365.out 0).trans rfl; have hcz32_1 : w31.cell? ⟨gb365, 1, none⟩ = some (.int .i64 a0_1) := (blk_cell BK365.out 1).trans rfl; have hcz32_2 : w31.cell? ⟨gb365, 2, none⟩ = some (.int .i64 a0_2) := (blk_cell BK365.out 2).trans rfl; have hcz32_3 : w31.cell? ⟨gb365, 3, none⟩ = some (.int .i64 a0_3) := (blk_cell BK365.out 3).trans rfl; have hcz32_4 : w31.cell? ⟨gb365, 4, none⟩ = some (.int .i64 a0_4) := (blk_cell BK365.out 4).trans rfl; have hcz32_5 : w31.cell? ⟨gb365, 5, none⟩ = some (.int .i64 a0_5) := (blk_cell BK365.out 5).trans rfl; have hcz32_6 : w31.cell? ⟨gb365, 6, none⟩ = some (.int .i64 a0_6) := (blk_cell BK365.out 6).trans rfl; have hfz32_0 := blk_frozen BK365.out 0; have hfz32_1 := blk_frozen BK365.out 1; have hfz32_2 := blk_frozen BK365.out 2; have hfz32_3 := blk_frozen BK365.out 3; have hfz32_4 := blk_frozen BK365.out 4; have hfz32_5 := blk_frozen BK365.out 5; have hfz32_6 := blk_frozen BK365.out 6; have hcz33_0 : w31.cell? ⟨gb366, 0, none⟩ = some (.int .i64 a1_0) := (blk_cell BK366.out 0).trans rfl; have hcz33_1 : w31.cell? ⟨gb366, 1, none⟩ = some (.int .i64 a1_1) := (blk_cell BK366.out 1).trans rfl; have hfz33_0 := blk_frozen BK366.out 0; have hfz33_1 := blk_frozen BK366.out 1) | ((with_reducible refine gate_callee (f := 13) rfl ?_); refine goesL_ (some 44) rfl rfl Try.func13 (by kernel_rfl) rfl #[.agg #[.int .i64 a0_0, .int .i64 a0_1, .int .i64 a0_2, .int .i64 a0_3, .int .i64 a0_4, .int .i64 a0_5, .int .i64 a0_6], .agg #[.int .i64 a1_0, .int .i64 a1_1]] rfl (by (try simp only [List.map_toArray, List.map_cons, List.map_nil]); first | done | rfl | (simp only [List.length_drop, List.length_take]; rfl)) ?_; (with_reducible refine (loop_Flows.calls a0_0 a0_1 a0_2 a0_3 a0_4 a0_5 a0_6 a1_0 a1_1 t380 t383 _ A9.out).mono ?_); rintro e w34 ⟨v381, rfl, ho0, hb⟩; refine ⟨_, rfl, ?_⟩; have n0_ := Aside0.mk (Kd.R_below (by (with_reducible repeat (first | apply Kd.R_alloc | apply Kd.R_drewN | apply Kd.R_drew)); exact HO374.out) hb); have n1_ := Aside0.mk (Kd.R_below (by (with_reducible repeat (first | apply Kd.R_alloc | apply Kd.R_drewN | apply Kd.R_drew)); exact HO378.out) hb); have n2_ := Aside0.mk (Kd.R_lower ho0 (below_size (by repeat (first | (with_reducible first | exact HB.out | apply below_alloc | apply pw_below_drewN | apply below_drew1 | refine below_set ?_ GE365.out | refine below_set ?_ GE366.out) | exact HB.out)))); have n3_ := Aside0.mk (blk_below (g := gb365) (o := .cells #[.int .i64 a0_0, .int .i64 a0_1, .int .i64 a0_2, .int .i64 a0_3, .int .i64 a0_4, .int .i64 a0_5, .int .i64 a0_6] 23 (0, 0)) (by (with_reducible repeat (first | refine blk_drewN ?_ _ | refine blk_drew ?_ | refine blk_alloc ?_ _)); exact BK365.out) hb); have n4_ := Aside0.mk (blk_below (g := gb366) (o := .cells #[.int .i64 a1_0, .int .i64 a1_1] 25 (0, 0)) (by (with_reducible repeat (first | refine blk_drewN ?_ _ | refine blk_drew ?_ | refine blk_alloc ?_ _)); exact BK366.out) hb); have n5_ := Aside0.mk (below_step (by repeat (first | (with_reducible first | exact HB.out | apply below_alloc | apply pw_below_drewN | apply below_drew1 | refine below_set ?_ GE365.out | refine below_set ?_ GE366.out) | exact HB.out)) hb); clear HO374; clear HO378; clear BK365; clear BK366; clear HB; have HO374 := n0_; have HO378 := n1_; have HO382 := n2_; have BK365 := n3_; have BK366 := n4_; have HB := n5_; clear n0_ n1_ n2_ n3_ n4_ n5_; (try clear hb); (try clear hb2); (try clear hk); (try clear hi); (try clear ho0); have hcz35_0 : w34.cell? ⟨gb365, 0, none⟩ = some (.int .i64 a0_0) := (blk_cell BK365.out 0).trans rfl; have hcz35_1 : w34.cell? ⟨gb365, 1, none⟩ = some (.int .i64 a0_1) := (blk_cell BK365.out 1).trans rfl; have hcz35_2 : w34.cell? ⟨gb365, 2, none⟩ = some (.int .i64 a0_2) := (blk_cell BK365.out 2).trans rfl; have hcz35_3 : w34.cell? ⟨gb365, 3, none⟩ = some (.int .i64 a0_3) := (blk_cell BK365.out 3).trans rfl; have hcz35_4 : w34.cell? ⟨gb365, 4, none⟩ = some (.int .i64 a0_4) := (blk_cell BK365.out 4).trans rfl; have hcz35_5 : w34.cell? ⟨gb365, 5, none⟩ = some (.int .i64 a0_5) := (blk_cell BK365.out 5).trans rfl; have hcz35_6 : w34.cell? ⟨gb365, 6, none⟩ = some (.int .i64 a0_6) := (blk_cell BK365.out 6).trans rfl; have hfz35_0 := blk_frozen BK365.out 0; have hfz35_1 := blk_frozen BK365.out 1; have hfz35_2 := blk_frozen BK365.out 2; have hfz35_3 := blk_frozen BK365.out 3; have hfz35_4 := blk_frozen BK365.out 4; have hfz35_5 := blk_frozen BK365.out 5; have hfz35_6 := blk_frozen BK365.out 6; have hcz36_0 : w34.cell? ⟨gb366, 0, none⟩ = some (.int .i64 a1_0) := (blk_cell BK366.out 0).trans rfl; have hcz36_1 : w34.cell? ⟨gb366, 1, none⟩ = some (.int .i64 a1_1) := (blk_cell BK366.out 1).trans rfl; have hfz36_0 := blk_frozen BK366.out 0; have hfz36_1 := blk_frozen BK366.out 1) | ((with_reducible refine gate_callee (f := 29) rfl ?_); refine goesL_ (some 50) rfl rfl Try.func29 (by kernel_rfl) rfl #[.agg #[.int .i64 a0_0, .int .i64 a0_1, .int .i64 a0_2, .int .i64 a0_3, .int .i64 a0_4, .int .i64 a0_5, .int .i64 a0_6], .agg #[.int .i64 a1_0, .int .i64 a1_1]] rfl (by (try simp only [List.map_toArray, List.map_cons, List.map_nil]); first | done | rfl | (simp only [List.length_drop, List.length_take]; rfl)) ?_; (with_reducible refine (hopmeshref50_Flows.calls k a0_0 a0_1 a0_2 a0_3 a0_4 a0_5 a0_6 a1_0 a1_1 t384 t387 _ A10.out).mono ?_); rintro e w37 ⟨v385, rfl, ho0, hb⟩; refine ⟨_, rfl, ?_⟩; have n0_ := Aside0.mk (Kd.R_below (by (with_reducible repeat (first | apply Kd.R_alloc | apply Kd.R_drewN | apply Kd.R_drew)); exact HO374.out) hb); have n1_ := Aside0.mk (Kd.R_below (by (with_reducible repeat (first | apply Kd.R_alloc | apply Kd.R_drewN | apply Kd.R_drew)); exact HO378.out) hb); have n2_ := Aside0.mk (Kd.R_elder' (by (with_reducible repeat (first | apply Kd.R_alloc | apply Kd.R_drewN | apply Kd.R_drew)); exact HO382.out) (Kd.R_base ho0) hb); have n3_ := Aside0.mk (Kd.R_lower (Kd.R_new' ho0 (Kd.R_lt (by (with_reducible repeat (first | apply Kd.R_alloc | apply Kd.R_drewN | apply Kd.R_drew)); exact HO382.out))) (below_size (by repeat (first | (with_reducible first | exact HB.out | apply below_alloc | apply pw_below_drewN | apply below_drew1 | refine below_set ?_ GE365.out | refine below_set ?_ GE366.out) | exact HB.out)))); have n4_ := Aside0.mk (blk_below (g := gb365) (o := .cells #[.int .i64 a0_0, .int .i64 a0_1, .int .i64 a0_2, .int .i64 a0_3, .int .i64 a0_4, .int .i64 a0_5, .int .i64 a0_6] 23 (0, 0)) (by (with_reducible repeat (first | refine blk_drewN ?_ _ | refine blk_drew ?_ | refine blk_alloc ?_ _)); exact BK365.out) hb); have n5_ := Aside0.mk (blk_below (g := gb366) (o := .cells #[.int .i64 a1_0, .int .i64 a1_1] 25 (0, 0)) (by (with_reducible repeat (first | refine blk_drewN ?_ _ | refine blk_drew ?_ | refine blk_alloc ?_ _)); exact BK366.out) hb); have n6_ := Aside0.mk (below_step (by repeat (first | (with_reducible first | exact HB.out | apply below_alloc | apply pw_below_drewN | apply below_drew1 | refine below_set ?_ GE365.out | refine below_set ?_ GE366.out) | exact HB.out)) hb); clear HO374; clear HO378; clear HO382; clear BK365; clear BK366; clear HB; have HO374 := n0_; have HO378 := n1_; have HO382 := n2_; have HO386 := n3_; have BK365 := n4_; have BK366 := n5_; have HB := n6_; clear n0_ n1_ n2_ n3_ n4_ n5_ n6_; (try clear hb); (try clear hb2); (try clear hk); (try clear hi); (try clear ho0); obtain ⟨Ao38, co38, eo38⟩ := Kd.R_slice HO374.out; subst eo38; obtain ⟨Ao39, co39, eo39⟩ := Kd.R_slice HO378.out; subst eo39) | (go_at_call 30; (with_reducible refine (api_Split_30.calls k _ _ t372 _ _ t376 true _ ?side1 ?side2 ?side3 ?side4 A13.out).mono ?_); (case side1 => repeat (first | exact (Kd.R_reads' HO374.out).2.2 | (with_reducible refine Kd.C_alloc ?_ _) | (with_reducible refine Kd.C_drewN ?_ _) | (with_reducible refine Kd.C_drew ?_))); (case side2 => exact (Kd.R_reads' HO374.out).2.1); (case side3 => repeat (first | exact (Kd.R_reads' HO378.out).2.2 | (with_reducible refine Kd.C_alloc ?_ _) | (with_reducible refine Kd.C_drewN ?_ _) | (with_reducible refine Kd.C_drew ?_))); (case side4 => exact (Kd.R_reads' HO378.out).2.1); rintro e w' ⟨rfl, ⟨nd, rfl⟩⟩; obtain ⟨Ao40, co40, eo40⟩ := Kd.R_slice HO382.out; subst eo40; obtain ⟨Ao41, co41, eo41⟩ := Kd.R_slice HO386.out; subst eo41) | (go_at_call 31; (with_reducible refine (api_Flow.calls k _ _ t380 _ _ t384 true _ ?side1 ?side2 ?side3 ?side4 A16.out).mono ?_); (case side1 => repeat (first | exact (Kd.R_reads' HO382.out).2.2 | (with_reducible refine Kd.C_alloc ?_ _) | (with_reducible refine Kd.C_drewN ?_ _) | (with_reducible refine Kd.C_drew ?_))); (case side2 => exact (Kd.R_reads' HO382.out).2.1); (case side3 => repeat (first | exact (Kd.R_reads' HO386.out).2.2 | (with_reducible refine Kd.C_alloc ?_ _) | (with_reducible refine Kd.C_drewN ?_ _) | (with_reducible refine Kd.C_drew ?_))); (case side4 => exact (Kd.R_reads' HO386.out).2.1); rintro e w' ⟨rfl, ⟨nd, rfl⟩⟩))
              go_ret
              exact ⟨by first | rfl | (simp [errW_none, errW_some] <;> rfl) | (simp [*, errW_none, errW_some] <;> rfl), by repeat (first | (with_reducible first | exact HB.out | apply below_alloc | apply pw_below_drewN | apply below_drew1 | refine below_set ?_ GE365.out | refine below_set ?_ GE366.out) | exact HB.out)⟩
            · replace c17 := Bool.eq_false_iff.mpr c17
              subst c17
              have H1 : (none) = some r := by rw [if_neg (show ¬ (false = true) by decide)] at H; exact H
              exact absurd H1 (by simp)
          · rw [if_neg c15] at H
            exact absurd H (by simp)
        · replace c14 := Bool.eq_false_iff.mpr c14
          subst c14
          have H1 : (none) = some r := by rw [if_neg (show ¬ (false = true) by decide)] at H; exact H
          exact absurd H1 (by simp)
      · rw [if_neg c12] at H
        exact absurd H (by simp)
    · rw [if_neg c11] at H
      exact absurd H (by simp)
  · replace c4 := Bool.eq_false_iff.mpr c4
    subst c4
    have H1 : (none) = some r := by rw [if_neg (show ¬ (false = true) by decide)] at H; exact H
    exact absurd H1 (by simp)

/-! ### api_Split_54: function 54, by hand -/
/-- The value of an element, as a call is handed it. -/
def splitV (x : S25) : Value := .agg #[.int .i64 x.f0, .int .i64 x.f1]
set_option maxHeartbeats 8000000 in
set_option maxRecDepth 100000 in
theorem indexSplit (A : Option Addr) (c : Nat) (l : List S25) (g : FuncId) (fn : Func) (cap : Array Value) (pred : Nat → Bool) (Inv : Nat → World → Prop) (w : World)
    (hf : Try.prog.funcs[g]? = some fn) (hname : (fn.name == "runtime.NumGoroutine") = false) (hb : fn.body.isSome = true) (hlen : l.length ≤ 140737488351232)
    (h0 : Inv 0 w) (hR : ∀ i w', Inv i w' → Kd.C k25 w' A l.length l)
    (hstep : ∀ i w', i < l.length → (∀ j, j < i → pred j = false) → Inv i w' → Calls Try.prog g (#[splitV (rd_T25 l i)] ++ cap) w' fun e w'' => e = .returned (.bool (pred i)) ∧ Inv (i + 1) w'') :
    Calls Try.prog 54 #[.slice A l.length c, .func (.func g) #[] cap] w fun e w' => ∃ r : Int, e = .returned (.int .i64 r) ∧ Found l.length pred Inv r w' := by
  have HF := Aside0.mk hf
  have HN := Aside0.mk hname
  have HBd := Aside0.mk hb
  have HI0 := Aside0.mk h0
  have HR := Aside0.mk hR
  have HS := Aside0.mk hstep
  have HL := Aside0.mk hlen
  clear hf hname hb h0 hR hstep hlen
  have hu := Try.underlying25
  go_enter Try.func54, Try.ntmps54
  go_wp2
  go_loopg [8] l.length (fun kq v8 w' => ∃ (i : Nat), v8 = .int .i64 (i : Int) ∧ Aside0 (kq + i = l.length) ∧ Aside0 (∀ j, j < i → pred j = false) ∧ Aside0 (Inv i w'))
  case atStart => exact ⟨0, by simp, ⟨by simp⟩, ⟨fun j hj => absurd hj (Nat.not_lt_zero _)⟩, HI0⟩
  case round =>
    obtain ⟨i, rfl, HK, HP, HI⟩ := hrel
    by_cases hlt : i < l.length
    · have b0 : decide ((i : Int) < (l.length : Int)) = true := decide_eq_true (by omega)
      have b1 : decide (i < l.length) = true := decide_eq_true hlt
      have p0 : (0 : Int) ≤ (i : Int) := by omega
      have q0 : (i : Int) < (l.length : Int) := by omega
      obtain ⟨ad, e, hx0, hx1⟩ := at_T25 (HR.out i _ HI.out) i p0 q0
      cases e
      simp only [Int.toNat_natCast] at hx0 hx1
      have HT := Aside0.mk hlt
      clear hlt
      replace p0 := eq_true p0
      replace q0 := eq_true q0
      have wr1 : wrap64 ((i : Int) + 1) = ((i + 1 : Nat) : Int) := by have := HK.out; have := HL.out; unfold wrap64; omega
      have WR := Aside0.mk wr1
      clear wr1
      cases hpr : pred i with
      | true =>
        have HPR := Aside0.mk hpr
        clear hpr
        go_wp2_with (first | ((with_reducible refine gate_dst (N := 16) rfl ?_); refine goesV_ (some 16) rfl rfl HF.out HN.out HBd.out #[splitV (rd_T25 l i)] rfl rfl (by (try simp only [List.map_toArray, List.map_cons, List.map_nil]); rfl) ?_; refine (HS.out i _ HT.out HP.out HI.out).mono ?_; rintro e w1 ⟨rfl, hi1⟩; rw [HPR.out]; refine ⟨_, rfl, ?_⟩; have HI1 := Aside0.mk hi1; clear hi1))
        go_ret
        exact ⟨_, rfl, i, Nat.le_of_lt HT.out, HP.out, .inr ⟨HT.out, HPR.out, rfl, HI1.out⟩⟩
      | false =>
        have HPR := Aside0.mk hpr
        clear hpr
        go_wp2_with (first | ((with_reducible refine gate_dst (N := 16) rfl ?_); refine goesV_ (some 16) rfl rfl HF.out HN.out HBd.out #[splitV (rd_T25 l i)] rfl rfl (by (try simp only [List.map_toArray, List.map_cons, List.map_nil]); rfl) ?_; refine (HS.out i _ HT.out HP.out HI.out).mono ?_; rintro e w1 ⟨rfl, hi1⟩; rw [HPR.out]; refine ⟨_, rfl, ?_⟩; have HI1 := Aside0.mk hi1; clear hi1))
        go_roundg (gk - 1)
        case measure => have := HK.out; have := HT.out; omega
        case rel => exact ⟨i + 1, congrArg (Value.int .i64) WR.out, ⟨by have := HK.out; have := HT.out; omega⟩, ⟨fun j hj => (Nat.lt_succ_iff_lt_or_eq.1 hj).elim (fun h => HP.out j h) (fun h => h ▸ HPR.out)⟩, HI1⟩
    · have b0 : decide ((i : Int) < (l.length : Int)) = false := decide_eq_false (by omega)
      have b1 : decide (i < l.length) = false := decide_eq_false hlt
      have hil : i = l.length := by have := HK.out; omega
      have HE := Aside0.mk hil
      clear hlt hil
      go_wp2
      go_ret
      exact ⟨_, rfl, i, by have := HK.out; omega, HP.out, .inl ⟨HE.out, rfl, HI.out⟩⟩

end Go.Proofs.Ytnjljajopdpjjaa.PX
