-- Written by wip/xprint.py, a program of this claim's own, over the kit's print program. Lean checks it.
import Derived.Test.YtnjljajopdpjjaaPXx0
namespace Go.Proofs.Ytnjljajopdpjjaa.PX
open Go.RowKit Go.Proofs.YtnjljajopdpjjaaW.PrintWords Go.Proofs.YtnjljajopdpjjaaW.PrintLast Go.Proofs.YtnjljajopdpjjaaW.PrintMore
attribute [local go_sem] max2_int min2_int max_two min_two max_three min_three max_four min_four   -- for this text's walks alone
set_option linter.unusedVariables false
set_option linter.unusedSimpArgs false

/-! ### loop_flows: function 37 -/
def loop_flows.f (a0_0 : Int) (a0_1 : Int) (a0_2 : Int) (a0_3 : Int) (a0_4 : Int) (a0_5 : Int) (a0_6 : Int) (a1_0 : Int) (a1_1 : Int) : Option (Int × Int × Int × Int × Int × Int × Int × Int × Int × Int × Int × Int) := if a0_4 = 0 then (none) else (some (wrap64 (2 * a0_0), a0_1, a0_2, a0_4, a0_5, a1_0, wrap64 ((wrap64 (2 * a0_0)) + 1), a0_2, a0_3, a0_4, Int.tmod (wrap64 (a0_5 + a1_0)) a0_4, a1_1))
def loop_flows.T2 : Bool × List (List Nat × List Nat) := (true, [([], []), ([0], [0]), ([1], [1]), ([2], [2]), ([], []), ([4], [4]), ([], []), ([6], [6]), ([], []), ([8], [8]), ([], []), ([10], [10]), ([], []), ([12], [12]), ([11, 13], [11, 13]), ([], []), ([15], [15]), ([14, 16], [14, 16]), ([], []), ([18], [18]), ([3, 5, 7, 9, 17, 19], [3, 5, 7, 9, 17, 19]), ([], []), ([21, 20, 0, 1, 2, 3, 4, 5, 6, 7, 8, 9, 10, 11, 12, 13, 14, 15, 16, 17, 18, 19, 20, 21], [20, 21])])
def loop_flows.B2 : List Nat := [0, 1, 3, 7, 0, 16, 0, 64, 0, 256, 0, 1024, 0, 4096, 15360, 0, 32768, 130048, 0, 262144, 1048575, 0, 4194303]
theorem loop_flows.tab2 : rtab .any (opsOf Try.f37 2) = loop_flows.T2 := by kernel_rfl
theorem loop_flows.bits2 : waitsOk loop_flows.T2.2 loop_flows.B2 = true := by kernel_rfl
set_option maxHeartbeats 8000000 in
set_option maxRecDepth 100000 in
theorem loop_flows.calls (a0_0 : Int) (a0_1 : Int) (a0_2 : Int) (a0_3 : Int) (a0_4 : Int) (a0_5 : Int) (a0_6 : Int) (a1_0 : Int) (a1_1 : Int) (r1 : Int) (r2 : Int) (r3 : Int) (r4 : Int) (r5 : Int) (r6 : Int) (r7 : Int) (r8 : Int) (r9 : Int) (r10 : Int) (r11 : Int) (r12 : Int) (w : World) (h : loop_flows.f a0_0 a0_1 a0_2 a0_3 a0_4 a0_5 a0_6 a1_0 a1_1 = some (r1, r2, r3, r4, r5, r6, r7, r8, r9, r10, r11, r12)) :
    Calls Try.prog 37 #[.agg #[.int .i64 a0_0, .int .i64 a0_1, .int .i64 a0_2, .int .i64 a0_3, .int .i64 a0_4, .int .i64 a0_5, .int .i64 a0_6], .agg #[.int .i64 a1_0, .int .i64 a1_1]] w fun e w' => e = .returned (.tuple #[.agg #[.int .i64 r1, .int .i64 r2, .int .i64 r3, .int .i64 r4, .int .i64 r5, .int .i64 r6], .agg #[.int .i64 r7, .int .i64 r8, .int .i64 r9, .int .i64 r10, .int .i64 r11, .int .i64 r12]]) ∧ Below w.heap.size w w' := by
  have hu23 := Try.underlying23
  have hu25 := Try.underlying25
  have hu39 := Try.underlying39
  have HB := Aside0.mk (Below.refl w.heap.size w)
  have H : (if a0_4 = 0 then (none) else (some (wrap64 (2 * a0_0), a0_1, a0_2, a0_4, a0_5, a1_0, wrap64 ((wrap64 (2 * a0_0)) + 1), a0_2, a0_3, a0_4, Int.tmod (wrap64 (a0_5 + a1_0)) a0_4, a1_1))) = some (r1, r2, r3, r4, r5, r6, r7, r8, r9, r10, r11, r12) := h
  clear h
  by_cases c3 : a0_4 = 0
  · rw [if_pos c3] at H
    exact absurd H (by simp)
  · rw [if_neg c3] at H
    have c3b0 : (a0_4 == 0) = false := beq_eq_false_iff_ne.mpr c3
    have c3b1 : (a0_4 != 0) = true := bne_iff_ne.mpr c3
    simp only [Option.some.injEq, Prod.mk.injEq] at H
    obtain ⟨rfl, rfl, rfl, rfl, rfl, rfl, rfl, rfl, rfl, rfl, rfl, rfl⟩ := H
    go_enter Try.func37, Try.ntmps37
    try go_wp2_with (first | ((with_reducible refine gate_dst (N := 2) rfl ?_); refine box_event ?hg (N := 2) ?hd (cs := #[.int .i64 a0_0, .int .i64 a0_1, .int .i64 a0_2, .int .i64 a0_3, .int .i64 a0_4, .int .i64 a0_5, .int .i64 a0_6]) (t := 23) ?hr ?_; (case hd => rfl); (case hg => rfl); (case hr => first | (go_simp; done) | (go_simp; rfl)); intro gb121 hg w4 hbox hb; have n0_ := Aside0.mk (below_step (by repeat (first | (with_reducible first | exact HB.out | apply below_alloc | apply pw_below_drewN | apply below_drew1) | exact HB.out)) hb); have n1_ := Aside0.mk (hbox); have n2_ := Aside0.mk ((by rw [hg]; exact (below_size (by repeat (first | (with_reducible first | exact HB.out | apply below_alloc | apply pw_below_drewN | apply below_drew1) | exact HB.out))) : w.heap.size ≤ gb121)); have n3_ := Aside0.mk ((by rw [hg]; exact (below_size (by repeat (first | (with_reducible first | exact HB.out | apply below_alloc | apply pw_below_drewN | apply below_drew1) | exact HB.out))) : w.heap.size ≤ gb121)); clear HB; have HB := n0_; have BK121 := n1_; have GW121 := n2_; have GE121 := n3_; clear n0_ n1_ n2_ n3_; clear hb hbox hg) | ((with_reducible refine gate_dst (N := 3) rfl ?_); refine box_event ?hg (N := 3) ?hd (cs := #[.int .i64 a1_0, .int .i64 a1_1]) (t := 25) ?hr ?_; (case hd => rfl); (case hg => rfl); (case hr => first | (go_simp; done) | (go_simp; rfl)); intro gb122 hg w5 hbox hb; have n0_ := Aside0.mk (blk_below (g := gb121) (o := .cells #[.int .i64 a0_0, .int .i64 a0_1, .int .i64 a0_2, .int .i64 a0_3, .int .i64 a0_4, .int .i64 a0_5, .int .i64 a0_6] 23 (0, 0)) (by (with_reducible repeat (first | refine blk_drewN ?_ _ | refine blk_drew ?_ | refine blk_alloc ?_ _)); exact BK121.out) hb); have n1_ := Aside0.mk (below_step (by repeat (first | (with_reducible first | exact HB.out | apply below_alloc | apply pw_below_drewN | apply below_drew1 | refine below_set ?_ GE121.out) | exact HB.out)) hb); have n2_ := Aside0.mk (hbox); have n3_ := Aside0.mk ((by rw [hg]; exact (below_size (by repeat (first | (with_reducible first | exact HB.out | apply below_alloc | apply pw_below_drewN | apply below_drew1 | refine below_set ?_ GE121.out) | exact HB.out))) : w.heap.size ≤ gb122)); have n4_ := Aside0.mk ((by rw [hg]; exact (below_size (by repeat (first | (with_reducible first | exact HB.out | apply below_alloc | apply pw_below_drewN | apply below_drew1 | refine below_set ?_ GE121.out) | exact HB.out))) : w.heap.size ≤ gb122)); have n5_ := Aside0.mk ((by rw [hg]; exact Nat.ne_of_lt (blk_lt (g := gb121) (o := .cells #[.int .i64 a0_0, .int .i64 a0_1, .int .i64 a0_2, .int .i64 a0_3, .int .i64 a0_4, .int .i64 a0_5, .int .i64 a0_6] 23 (0, 0)) (by (with_reducible repeat (first | refine blk_drewN ?_ _ | refine blk_drew ?_ | refine blk_alloc ?_ _)); exact BK121.out)) : gb121 ≠ gb122)); have n6_ := Aside0.mk ((by rw [hg]; exact Nat.ne_of_gt (blk_lt (g := gb121) (o := .cells #[.int .i64 a0_0, .int .i64 a0_1, .int .i64 a0_2, .int .i64 a0_3, .int .i64 a0_4, .int .i64 a0_5, .int .i64 a0_6] 23 (0, 0)) (by (with_reducible repeat (first | refine blk_drewN ?_ _ | refine blk_drew ?_ | refine blk_alloc ?_ _)); exact BK121.out)) : gb122 ≠ gb121)); clear BK121; clear HB; have BK121 := n0_; have HB := n1_; have BK122 := n2_; have GW122 := n3_; have GE122 := n4_; have NB121_122 := n5_; have NB122_121 := n6_; clear n0_ n1_ n2_ n3_ n4_ n5_ n6_; clear hb hbox hg) | ((with_reducible refine gate_dst (N := 4) rfl ?_); refine box_event ?hg (N := 4) ?hd (cs := #[.int .i64 0, .int .i64 0, .int .i64 0, .int .i64 0, .int .i64 0, .int .i64 0]) (t := 39) ?hr ?_; (case hd => rfl); (case hg => rfl); (case hr => first | (go_simp; done) | (go_simp; rfl)); intro gb123 hg w6 hbox hb; have n0_ := Aside0.mk (blk_below (g := gb121) (o := .cells #[.int .i64 a0_0, .int .i64 a0_1, .int .i64 a0_2, .int .i64 a0_3, .int .i64 a0_4, .int .i64 a0_5, .int .i64 a0_6] 23 (0, 0)) (by (with_reducible repeat (first | refine blk_drewN ?_ _ | refine blk_drew ?_ | refine blk_alloc ?_ _)); exact BK121.out) hb); have n1_ := Aside0.mk (blk_below (g := gb122) (o := .cells #[.int .i64 a1_0, .int .i64 a1_1] 25 (0, 0)) (by (with_reducible repeat (first | refine blk_drewN ?_ _ | refine blk_drew ?_ | refine blk_alloc ?_ _)); exact BK122.out) hb); have n2_ := Aside0.mk (below_step (by repeat (first | (with_reducible first | exact HB.out | apply below_alloc | apply pw_below_drewN | apply below_drew1 | refine below_set ?_ GE121.out | refine below_set ?_ GE122.out) | exact HB.out)) hb); have n3_ := Aside0.mk (hbox); have n4_ := Aside0.mk ((by rw [hg]; exact (below_size (by repeat (first | (with_reducible first | exact HB.out | apply below_alloc | apply pw_below_drewN | apply below_drew1 | refine below_set ?_ GE121.out | refine below_set ?_ GE122.out) | exact HB.out))) : w.heap.size ≤ gb123)); have n5_ := Aside0.mk ((by rw [hg]; exact (below_size (by repeat (first | (with_reducible first | exact HB.out | apply below_alloc | apply pw_below_drewN | apply below_drew1 | refine below_set ?_ GE121.out | refine below_set ?_ GE122.out) | exact HB.out))) : w.heap.size ≤ gb123)); have n6_ := Aside0.mk ((by rw [hg]; exact Nat.ne_of_lt (blk_lt (g := gb121) (o := .cells #[.int .i64 a0_0, .int .i64 a0_1, .int .i64 a0_2, .int .i64 a0_3, .int .i64 a0_4, .int .i64 a0_5, .int .i64 a0_6] 23 (0, 0)) (by (with_reducible repeat (first | refine blk_drewN ?_ _ | refine blk_drew ?_ | refine blk_alloc ?_ _)); exact BK121.out)) : gb121 ≠ gb123)); have n7_ := Aside0.mk ((by rw [hg]; exact Nat.ne_of_gt (blk_lt (g := gb121) (o := .cells #[.int .i64 a0_0, .int .i64 a0_1, .int .i64 a0_2, .int .i64 a0_3, .int .i64 a0_4, .int .i64 a0_5, .int .i64 a0_6] 23 (0, 0)) (by (with_reducible repeat (first | refine blk_drewN ?_ _ | refine blk_drew ?_ | refine blk_alloc ?_ _)); exact BK121.out)) : gb123 ≠ gb121)); have n8_ := Aside0.mk ((by rw [hg]; exact Nat.ne_of_lt (blk_lt (g := gb122) (o := .cells #[.int .i64 a1_0, .int .i64 a1_1] 25 (0, 0)) (by (with_reducible repeat (first | refine blk_drewN ?_ _ | refine blk_drew ?_ | refine blk_alloc ?_ _)); exact BK122.out)) : gb122 ≠ gb123)); have n9_ := Aside0.mk ((by rw [hg]; exact Nat.ne_of_gt (blk_lt (g := gb122) (o := .cells #[.int .i64 a1_0, .int .i64 a1_1] 25 (0, 0)) (by (with_reducible repeat (first | refine blk_drewN ?_ _ | refine blk_drew ?_ | refine blk_alloc ?_ _)); exact BK122.out)) : gb123 ≠ gb122)); clear BK121; clear BK122; clear HB; have BK121 := n0_; have BK122 := n1_; have HB := n2_; have BK123 := n3_; have GW123 := n4_; have GE123 := n5_; have NB121_123 := n6_; have NB123_121 := n7_; have NB122_123 := n8_; have NB123_122 := n9_; clear n0_ n1_ n2_ n3_ n4_ n5_ n6_ n7_ n8_ n9_; clear hb hbox hg) | ((with_reducible refine gate_dst (N := 5) rfl ?_); refine box_event ?hg (N := 5) ?hd (cs := #[.int .i64 0, .int .i64 0, .int .i64 0, .int .i64 0, .int .i64 0, .int .i64 0]) (t := 39) ?hr ?_; (case hd => rfl); (case hg => rfl); (case hr => first | (go_simp; done) | (go_simp; rfl)); intro gb124 hg w7 hbox hb; have n0_ := Aside0.mk (blk_below (g := gb121) (o := .cells #[.int .i64 a0_0, .int .i64 a0_1, .int .i64 a0_2, .int .i64 a0_3, .int .i64 a0_4, .int .i64 a0_5, .int .i64 a0_6] 23 (0, 0)) (by (with_reducible repeat (first | refine blk_drewN ?_ _ | refine blk_drew ?_ | refine blk_alloc ?_ _)); exact BK121.out) hb); have n1_ := Aside0.mk (blk_below (g := gb122) (o := .cells #[.int .i64 a1_0, .int .i64 a1_1] 25 (0, 0)) (by (with_reducible repeat (first | refine blk_drewN ?_ _ | refine blk_drew ?_ | refine blk_alloc ?_ _)); exact BK122.out) hb); have n2_ := Aside0.mk (blk_below (g := gb123) (o := .cells #[.int .i64 0, .int .i64 0, .int .i64 0, .int .i64 0, .int .i64 0, .int .i64 0] 39 (0, 0)) (by (with_reducible repeat (first | refine blk_drewN ?_ _ | refine blk_drew ?_ | refine blk_alloc ?_ _)); exact BK123.out) hb); have n3_ := Aside0.mk (below_step (by repeat (first | (with_reducible first | exact HB.out | apply below_alloc | apply pw_below_drewN | apply below_drew1 | refine below_set ?_ GE121.out | refine below_set ?_ GE122.out | refine below_set ?_ GE123.out) | exact HB.out)) hb); have n4_ := Aside0.mk (hbox); have n5_ := Aside0.mk ((by rw [hg]; exact (below_size (by repeat (first | (with_reducible first | exact HB.out | apply below_alloc | apply pw_below_drewN | apply below_drew1 | refine below_set ?_ GE121.out | refine below_set ?_ GE122.out | refine below_set ?_ GE123.out) | exact HB.out))) : w.heap.size ≤ gb124)); have n6_ := Aside0.mk ((by rw [hg]; exact (below_size (by repeat (first | (with_reducible first | exact HB.out | apply below_alloc | apply pw_below_drewN | apply below_drew1 | refine below_set ?_ GE121.out | refine below_set ?_ GE122.out | refine below_set ?_ GE123.out) | exact HB.out))) : w.heap.size ≤ gb124)); have n7_ := Aside0.mk ((by rw [hg]; exact Nat.ne_of_lt (blk_lt (g := gb121) (o := .cells #[.int .i64 a0_0, .int .i64 a0_1, .int .i64 a0_2, .int .i64 a0_3, .int .i64 a0_4, .int .i64 a0_5, .int .i64 a0_6] 23 (0, 0)) (by (with_reducible repeat (first | refine blk_drewN ?_ _ | refine blk_drew ?_ | refine blk_alloc ?_ _)); exact BK121.out)) : gb121 ≠ gb124)); have n8_ := Aside0.mk ((by rw [hg]; exact Nat.ne_of_gt (blk_lt (g := gb121) (o := .cells #[.int .i64 a0_0, .int .i64 a0_1, .int .i64 a0_2, .int .i64 a0_3, .int .i64 a0_4, .int .i64 a0_5, .int .i64 a0_6] 23 (0, 0)) (by (with_reducible repeat (first | refine blk_drewN ?_ _ | refine blk_drew ?_ | refine blk_alloc ?_ _)); exact BK121.out)) : gb124 ≠ gb121)); have n9_ := Aside0.mk ((by rw [hg]; exact Nat.ne_of_lt (blk_lt (g := gb122) (o := .cells #[.int .i64 a1_0, .int .i64 a1_1] 25 (0, 0)) (by (with_reducible repeat (first | refine blk_drewN ?_ _ | refine blk_drew ?_ | refine blk_alloc ?_ _)); exact BK122.out)) : gb122 ≠ gb124)); have n10_ := Aside0.mk ((by rw [hg]; exact Nat.ne_of_gt (blk_lt (g := gb122) (o := .cells #[.int .i64 a1_0, .int .i64 a1_1] 25 (0, 0)) (by (with_reducible repeat (first | refine blk_drewN ?_ _ | refine blk_drew ?_ | refine blk_alloc ?_ _)); exact BK122.out)) : gb124 ≠ gb122)); have n11_ := Aside0.mk ((by rw [hg]; exact Nat.ne_of_lt (blk_lt (g := gb123) (o := .cells #[.int .i64 0, .int .i64 0, .int .i64 0, .int .i64 0, .int .i64 0, .int .i64 0] 39 (0, 0)) (by (with_reducible repeat (first | refine blk_drewN ?_ _ | refine blk_drew ?_ | refine blk_alloc ?_ _)); exact BK123.out)) : gb123 ≠ gb124)); have n12_ := Aside0.mk ((by rw [hg]; exact Nat.ne_of_gt (blk_lt (g := gb123) (o := .cells #[.int .i64 0, .int .i64 0, .int .i64 0, .int .i64 0, .int .i64 0, .int .i64 0] 39 (0, 0)) (by (with_reducible repeat (first | refine blk_drewN ?_ _ | refine blk_drew ?_ | refine blk_alloc ?_ _)); exact BK123.out)) : gb124 ≠ gb123)); clear BK121; clear BK122; clear BK123; clear HB; have BK121 := n0_; have BK122 := n1_; have BK123 := n2_; have HB := n3_; have BK124 := n4_; have GW124 := n5_; have GE124 := n6_; have NB121_124 := n7_; have NB124_121 := n8_; have NB122_124 := n9_; have NB124_122 := n10_; have NB123_124 := n11_; have NB124_123 := n12_; clear n0_ n1_ n2_ n3_ n4_ n5_ n6_ n7_ n8_ n9_ n10_ n11_ n12_; clear hb hbox hg; have hnb8 := NB121_122.out; have hnc8 := NB122_121.out; have hnb9 := NB121_123.out; have hnc9 := NB123_121.out; have hnb10 := NB121_124.out; have hnc10 := NB124_121.out; have hcz11_0 : w7.cell? ⟨gb121, 0, none⟩ = some (.int .i64 a0_0) := (blk_cell BK121.out 0).trans rfl; have hcz11_1 : w7.cell? ⟨gb121, 1, none⟩ = some (.int .i64 a0_1) := (blk_cell BK121.out 1).trans rfl; have hcz11_2 : w7.cell? ⟨gb121, 2, none⟩ = some (.int .i64 a0_2) := (blk_cell BK121.out 2).trans rfl; have hcz11_3 : w7.cell? ⟨gb121, 3, none⟩ = some (.int .i64 a0_3) := (blk_cell BK121.out 3).trans rfl; have hcz11_4 : w7.cell? ⟨gb121, 4, none⟩ = some (.int .i64 a0_4) := (blk_cell BK121.out 4).trans rfl; have hcz11_5 : w7.cell? ⟨gb121, 5, none⟩ = some (.int .i64 a0_5) := (blk_cell BK121.out 5).trans rfl; have hcz11_6 : w7.cell? ⟨gb121, 6, none⟩ = some (.int .i64 a0_6) := (blk_cell BK121.out 6).trans rfl; have hfz11_0 := blk_frozen BK121.out 0; have hfz11_1 := blk_frozen BK121.out 1; have hfz11_2 := blk_frozen BK121.out 2; have hfz11_3 := blk_frozen BK121.out 3; have hfz11_4 := blk_frozen BK121.out 4; have hfz11_5 := blk_frozen BK121.out 5; have hfz11_6 := blk_frozen BK121.out 6; have hnb12 := NB122_123.out; have hnc12 := NB123_122.out; have hnb13 := NB122_124.out; have hnc13 := NB124_122.out; have hcz14_0 : w7.cell? ⟨gb122, 0, none⟩ = some (.int .i64 a1_0) := (blk_cell BK122.out 0).trans rfl; have hcz14_1 : w7.cell? ⟨gb122, 1, none⟩ = some (.int .i64 a1_1) := (blk_cell BK122.out 1).trans rfl; have hfz14_0 := blk_frozen BK122.out 0; have hfz14_1 := blk_frozen BK122.out 1) | ((with_reducible refine gate_dst (N := 6) rfl ?_); refine box_event ?hg (N := 6) ?hd (cs := #[.int .i64 0, .int .i64 0, .int .i64 0, .int .i64 0, .int .i64 0, .int .i64 0]) (t := 39) ?hr ?_; (case hd => rfl); (case hg => rfl); (case hr => first | (go_simp; done) | (go_simp; rfl)); intro gb125 hg w15 hbox hb; have n0_ := Aside0.mk (blk_below (g := gb121) (o := .cells #[.int .i64 a0_0, .int .i64 a0_1, .int .i64 a0_2, .int .i64 a0_3, .int .i64 a0_4, .int .i64 a0_5, .int .i64 a0_6] 23 (0, 0)) (by (with_reducible repeat (first | refine blk_drewN ?_ _ | refine blk_drew ?_ | refine blk_alloc ?_ _)); exact BK121.out) hb); have n1_ := Aside0.mk (blk_below (g := gb122) (o := .cells #[.int .i64 a1_0, .int .i64 a1_1] 25 (0, 0)) (by (with_reducible repeat (first | refine blk_drewN ?_ _ | refine blk_drew ?_ | refine blk_alloc ?_ _)); exact BK122.out) hb); have n2_ := Aside0.mk (blk_below (g := gb123) (o := .cells #[.int .i64 0, .int .i64 0, .int .i64 0, .int .i64 0, .int .i64 0, .int .i64 0] 39 (0, 0)) (by (with_reducible repeat (first | refine blk_drewN ?_ _ | refine blk_drew ?_ | refine blk_alloc ?_ _)); exact BK123.out) hb); have n3_ := Aside0.mk (blk_below (g := gb124) (o := .cells #[.int .i64 0, .int .i64 0, .int .i64 0, .int .i64 0, .int .i64 0, .int .i64 0] 39 (0, 0)) (by (with_reducible repeat (first | refine blk_drewN ?_ _ | refine blk_drew ?_ | refine blk_alloc ?_ _)); exact BK124.out) hb); have n4_ := Aside0.mk (below_step (by repeat (first | (with_reducible first | exact HB.out | apply below_alloc | apply pw_below_drewN | apply below_drew1 | refine below_set ?_ GE121.out | refine below_set ?_ GE122.out | refine below_set ?_ GE123.out | refine below_set ?_ GE124.out) | exact HB.out)) hb); have n5_ := Aside0.mk (hbox); have n6_ := Aside0.mk ((by rw [hg]; exact (below_size (by repeat (first | (with_reducible first | exact HB.out | apply below_alloc | apply pw_below_drewN | apply below_drew1 | refine below_set ?_ GE121.out | refine below_set ?_ GE122.out | refine below_set ?_ GE123.out | refine below_set ?_ GE124.out) | exact HB.out))) : w.heap.size ≤ gb125)); have n7_ := Aside0.mk ((by rw [hg]; exact (below_size (by repeat (first | (with_reducible first | exact HB.out | apply below_alloc | apply pw_below_drewN | apply below_drew1 | refine below_set ?_ GE121.out | refine below_set ?_ GE122.out | refine below_set ?_ GE123.out | refine below_set ?_ GE124.out) | exact HB.out))) : w.heap.size ≤ gb125)); have n8_ := Aside0.mk ((by rw [hg]; exact Nat.ne_of_lt (blk_lt (g := gb121) (o := .cells #[.int .i64 a0_0, .int .i64 a0_1, .int .i64 a0_2, .int .i64 a0_3, .int .i64 a0_4, .int .i64 a0_5, .int .i64 a0_6] 23 (0, 0)) (by (with_reducible repeat (first | refine blk_drewN ?_ _ | refine blk_drew ?_ | refine blk_alloc ?_ _)); exact BK121.out)) : gb121 ≠ gb125)); have n9_ := Aside0.mk ((by rw [hg]; exact Nat.ne_of_gt (blk_lt (g := gb121) (o := .cells #[.int .i64 a0_0, .int .i64 a0_1, .int .i64 a0_2, .int .i64 a0_3, .int .i64 a0_4, .int .i64 a0_5, .int .i64 a0_6] 23 (0, 0)) (by (with_reducible repeat (first | refine blk_drewN ?_ _ | refine blk_drew ?_ | refine blk_alloc ?_ _)); exact BK121.out)) : gb125 ≠ gb121)); have n10_ := Aside0.mk ((by rw [hg]; exact Nat.ne_of_lt (blk_lt (g := gb122) (o := .cells #[.int .i64 a1_0, .int .i64 a1_1] 25 (0, 0)) (by (with_reducible repeat (first | refine blk_drewN ?_ _ | refine blk_drew ?_ | refine blk_alloc ?_ _)); exact BK122.out)) : gb122 ≠ gb125)); have n11_ := Aside0.mk ((by rw [hg]; exact Nat.ne_of_gt (blk_lt (g := gb122) (o := .cells #[.int .i64 a1_0, .int .i64 a1_1] 25 (0, 0)) (by (with_reducible repeat (first | refine blk_drewN ?_ _ | refine blk_drew ?_ | refine blk_alloc ?_ _)); exact BK122.out)) : gb125 ≠ gb122)); have n12_ := Aside0.mk ((by rw [hg]; exact Nat.ne_of_lt (blk_lt (g := gb123) (o := .cells #[.int .i64 0, .int .i64 0, .int .i64 0, .int .i64 0, .int .i64 0, .int .i64 0] 39 (0, 0)) (by (with_reducible repeat (first | refine blk_drewN ?_ _ | refine blk_drew ?_ | refine blk_alloc ?_ _)); exact BK123.out)) : gb123 ≠ gb125)); have n13_ := Aside0.mk ((by rw [hg]; exact Nat.ne_of_gt (blk_lt (g := gb123) (o := .cells #[.int .i64 0, .int .i64 0, .int .i64 0, .int .i64 0, .int .i64 0, .int .i64 0] 39 (0, 0)) (by (with_reducible repeat (first | refine blk_drewN ?_ _ | refine blk_drew ?_ | refine blk_alloc ?_ _)); exact BK123.out)) : gb125 ≠ gb123)); have n14_ := Aside0.mk ((by rw [hg]; exact Nat.ne_of_lt (blk_lt (g := gb124) (o := .cells #[.int .i64 0, .int .i64 0, .int .i64 0, .int .i64 0, .int .i64 0, .int .i64 0] 39 (0, 0)) (by (with_reducible repeat (first | refine blk_drewN ?_ _ | refine blk_drew ?_ | refine blk_alloc ?_ _)); exact BK124.out)) : gb124 ≠ gb125)); have n15_ := Aside0.mk ((by rw [hg]; exact Nat.ne_of_gt (blk_lt (g := gb124) (o := .cells #[.int .i64 0, .int .i64 0, .int .i64 0, .int .i64 0, .int .i64 0, .int .i64 0] 39 (0, 0)) (by (with_reducible repeat (first | refine blk_drewN ?_ _ | refine blk_drew ?_ | refine blk_alloc ?_ _)); exact BK124.out)) : gb125 ≠ gb124)); clear BK121; clear BK122; clear BK123; clear BK124; clear HB; have BK121 := n0_; have BK122 := n1_; have BK123 := n2_; have BK124 := n3_; have HB := n4_; have BK125 := n5_; have GW125 := n6_; have GE125 := n7_; have NB121_125 := n8_; have NB125_121 := n9_; have NB122_125 := n10_; have NB125_122 := n11_; have NB123_125 := n12_; have NB125_123 := n13_; have NB124_125 := n14_; have NB125_124 := n15_; clear n0_ n1_ n2_ n3_ n4_ n5_ n6_ n7_ n8_ n9_ n10_ n11_ n12_ n13_ n14_ n15_; clear hb hbox hg; have hnb16 := NB125_121.out; have hnc16 := NB121_125.out; have hnb17 := NB125_122.out; have hnc17 := NB122_125.out; have hnb18 := NB125_123.out; have hnc18 := NB123_125.out; have hnb19 := NB125_124.out; have hnc19 := NB124_125.out; have hcz20_0 : w15.cell? ⟨gb125, 0, none⟩ = some (.int .i64 0) := (blk_cell BK125.out 0).trans rfl; have hcz20_1 : w15.cell? ⟨gb125, 1, none⟩ = some (.int .i64 0) := (blk_cell BK125.out 1).trans rfl; have hcz20_2 : w15.cell? ⟨gb125, 2, none⟩ = some (.int .i64 0) := (blk_cell BK125.out 2).trans rfl; have hcz20_3 : w15.cell? ⟨gb125, 3, none⟩ = some (.int .i64 0) := (blk_cell BK125.out 3).trans rfl; have hcz20_4 : w15.cell? ⟨gb125, 4, none⟩ = some (.int .i64 0) := (blk_cell BK125.out 4).trans rfl; have hcz20_5 : w15.cell? ⟨gb125, 5, none⟩ = some (.int .i64 0) := (blk_cell BK125.out 5).trans rfl; have hfz20_0 := blk_frozen BK125.out 0; have hfz20_1 := blk_frozen BK125.out 1; have hfz20_2 := blk_frozen BK125.out 2; have hfz20_3 := blk_frozen BK125.out 3; have hfz20_4 := blk_frozen BK125.out 4; have hfz20_5 := blk_frozen BK125.out 5))
    have n0_ : Aside0 (((((((w15.setCell ⟨gb125, 0, none⟩ (.int .i64 (wrap64 (2 * a0_0)))).setCell ⟨gb125, 1, none⟩ (.int .i64 a0_1)).setCell ⟨gb125, 2, none⟩ (.int .i64 a0_2)).setCell ⟨gb125, 3, none⟩ (.int .i64 a0_4)).setCell ⟨gb125, 4, none⟩ (.int .i64 a0_5)).setCell ⟨gb125, 5, none⟩ (.int .i64 a1_0)).heap[gb121]? = some (.cells #[.int .i64 a0_0, .int .i64 a0_1, .int .i64 a0_2, .int .i64 a0_3, .int .i64 a0_4, .int .i64 a0_5, .int .i64 a0_6] 23 (0, 0))) := ⟨by (with_reducible repeat (first | refine blk_drewN ?_ _ | refine blk_drew ?_ | refine blk_alloc ?_ _)); refine blk_far ?_ NB121_125.out _; (with_reducible repeat (first | refine blk_drewN ?_ _ | refine blk_drew ?_ | refine blk_alloc ?_ _)); refine blk_far ?_ NB121_125.out _; (with_reducible repeat (first | refine blk_drewN ?_ _ | refine blk_drew ?_ | refine blk_alloc ?_ _)); refine blk_far ?_ NB121_125.out _; (with_reducible repeat (first | refine blk_drewN ?_ _ | refine blk_drew ?_ | refine blk_alloc ?_ _)); refine blk_far ?_ NB121_125.out _; (with_reducible repeat (first | refine blk_drewN ?_ _ | refine blk_drew ?_ | refine blk_alloc ?_ _)); refine blk_far ?_ NB121_125.out _; (with_reducible repeat (first | refine blk_drewN ?_ _ | refine blk_drew ?_ | refine blk_alloc ?_ _)); refine blk_far ?_ NB121_125.out _; (with_reducible repeat (first | refine blk_drewN ?_ _ | refine blk_drew ?_ | refine blk_alloc ?_ _)); exact BK121.out⟩
    have n1_ : Aside0 (((((((w15.setCell ⟨gb125, 0, none⟩ (.int .i64 (wrap64 (2 * a0_0)))).setCell ⟨gb125, 1, none⟩ (.int .i64 a0_1)).setCell ⟨gb125, 2, none⟩ (.int .i64 a0_2)).setCell ⟨gb125, 3, none⟩ (.int .i64 a0_4)).setCell ⟨gb125, 4, none⟩ (.int .i64 a0_5)).setCell ⟨gb125, 5, none⟩ (.int .i64 a1_0)).heap[gb122]? = some (.cells #[.int .i64 a1_0, .int .i64 a1_1] 25 (0, 0))) := ⟨by (with_reducible repeat (first | refine blk_drewN ?_ _ | refine blk_drew ?_ | refine blk_alloc ?_ _)); refine blk_far ?_ NB122_125.out _; (with_reducible repeat (first | refine blk_drewN ?_ _ | refine blk_drew ?_ | refine blk_alloc ?_ _)); refine blk_far ?_ NB122_125.out _; (with_reducible repeat (first | refine blk_drewN ?_ _ | refine blk_drew ?_ | refine blk_alloc ?_ _)); refine blk_far ?_ NB122_125.out _; (with_reducible repeat (first | refine blk_drewN ?_ _ | refine blk_drew ?_ | refine blk_alloc ?_ _)); refine blk_far ?_ NB122_125.out _; (with_reducible repeat (first | refine blk_drewN ?_ _ | refine blk_drew ?_ | refine blk_alloc ?_ _)); refine blk_far ?_ NB122_125.out _; (with_reducible repeat (first | refine blk_drewN ?_ _ | refine blk_drew ?_ | refine blk_alloc ?_ _)); refine blk_far ?_ NB122_125.out _; (with_reducible repeat (first | refine blk_drewN ?_ _ | refine blk_drew ?_ | refine blk_alloc ?_ _)); exact BK122.out⟩
    have n2_ : Aside0 (((((((w15.setCell ⟨gb125, 0, none⟩ (.int .i64 (wrap64 (2 * a0_0)))).setCell ⟨gb125, 1, none⟩ (.int .i64 a0_1)).setCell ⟨gb125, 2, none⟩ (.int .i64 a0_2)).setCell ⟨gb125, 3, none⟩ (.int .i64 a0_4)).setCell ⟨gb125, 4, none⟩ (.int .i64 a0_5)).setCell ⟨gb125, 5, none⟩ (.int .i64 a1_0)).heap[gb123]? = some (.cells #[.int .i64 0, .int .i64 0, .int .i64 0, .int .i64 0, .int .i64 0, .int .i64 0] 39 (0, 0))) := ⟨by (with_reducible repeat (first | refine blk_drewN ?_ _ | refine blk_drew ?_ | refine blk_alloc ?_ _)); refine blk_far ?_ NB123_125.out _; (with_reducible repeat (first | refine blk_drewN ?_ _ | refine blk_drew ?_ | refine blk_alloc ?_ _)); refine blk_far ?_ NB123_125.out _; (with_reducible repeat (first | refine blk_drewN ?_ _ | refine blk_drew ?_ | refine blk_alloc ?_ _)); refine blk_far ?_ NB123_125.out _; (with_reducible repeat (first | refine blk_drewN ?_ _ | refine blk_drew ?_ | refine blk_alloc ?_ _)); refine blk_far ?_ NB123_125.out _; (with_reducible repeat (first | refine blk_drewN ?_ _ | refine blk_drew ?_ | refine blk_alloc ?_ _)); refine blk_far ?_ NB123_125.out _; (with_reducible repeat (first | refine blk_drewN ?_ _ | refine blk_drew ?_ | refine blk_alloc ?_ _)); refine blk_far ?_ NB123_125.out _; (with_reducible repeat (first | refine blk_drewN ?_ _ | refine blk_drew ?_ | refine blk_alloc ?_ _)); exact BK123.out⟩
    have n3_ : Aside0 (((((((w15.setCell ⟨gb125, 0, none⟩ (.int .i64 (wrap64 (2 * a0_0)))).setCell ⟨gb125, 1, none⟩ (.int .i64 a0_1)).setCell ⟨gb125, 2, none⟩ (.int .i64 a0_2)).setCell ⟨gb125, 3, none⟩ (.int .i64 a0_4)).setCell ⟨gb125, 4, none⟩ (.int .i64 a0_5)).setCell ⟨gb125, 5, none⟩ (.int .i64 a1_0)).heap[gb124]? = some (.cells #[.int .i64 0, .int .i64 0, .int .i64 0, .int .i64 0, .int .i64 0, .int .i64 0] 39 (0, 0))) := ⟨by (with_reducible repeat (first | refine blk_drewN ?_ _ | refine blk_drew ?_ | refine blk_alloc ?_ _)); refine blk_far ?_ NB124_125.out _; (with_reducible repeat (first | refine blk_drewN ?_ _ | refine blk_drew ?_ | refine blk_alloc ?_ _)); refine blk_far ?_ NB124_125.out _; (with_reducible repeat (first | refine blk_drewN ?_ _ | refine blk_drew ?_ | refine blk_alloc ?_ _)); refine blk_far ?_ NB124_125.out _; (with_reducible repeat (first | refine blk_drewN ?_ _ | refine blk_drew ?_ | refine blk_alloc ?_ _)); refine blk_far ?_ NB124_125.out _; (with_reducible repeat (first | refine blk_drewN ?_ _ | refine blk_drew ?_ | refine blk_alloc ?_ _)); refine blk_far ?_ NB124_125.out _; (with_reducible repeat (first | refine blk_drewN ?_ _ | refine blk_drew ?_ | refine blk_alloc ?_ _)); refine blk_far ?_ NB124_125.out _; (with_reducible repeat (first | refine blk_drewN ?_ _ | refine blk_drew ?_ | refine blk_alloc ?_ _)); exact BK124.out⟩
    have n4_ : Aside0 (((((((w15.setCell ⟨gb125, 0, none⟩ (.int .i64 (wrap64 (2 * a0_0)))).setCell ⟨gb125, 1, none⟩ (.int .i64 a0_1)).setCell ⟨gb125, 2, none⟩ (.int .i64 a0_2)).setCell ⟨gb125, 3, none⟩ (.int .i64 a0_4)).setCell ⟨gb125, 4, none⟩ (.int .i64 a0_5)).setCell ⟨gb125, 5, none⟩ (.int .i64 a1_0)).heap[gb125]? = some (.cells #[.int .i64 (wrap64 (2 * a0_0)), .int .i64 a0_1, .int .i64 a0_2, .int .i64 a0_4, .int .i64 a0_5, .int .i64 a1_0] 39 (0, 0))) := ⟨by (with_reducible repeat (first | refine blk_drewN ?_ _ | refine blk_drew ?_ | refine blk_alloc ?_ _)); refine blk_put (cs := #[.int .i64 (wrap64 (2 * a0_0)), .int .i64 a0_1, .int .i64 a0_2, .int .i64 a0_4, .int .i64 a0_5, .int .i64 0]) ?_ 5 _ rfl; (with_reducible repeat (first | refine blk_drewN ?_ _ | refine blk_drew ?_ | refine blk_alloc ?_ _)); refine blk_put (cs := #[.int .i64 (wrap64 (2 * a0_0)), .int .i64 a0_1, .int .i64 a0_2, .int .i64 a0_4, .int .i64 0, .int .i64 0]) ?_ 4 _ rfl; (with_reducible repeat (first | refine blk_drewN ?_ _ | refine blk_drew ?_ | refine blk_alloc ?_ _)); refine blk_put (cs := #[.int .i64 (wrap64 (2 * a0_0)), .int .i64 a0_1, .int .i64 a0_2, .int .i64 0, .int .i64 0, .int .i64 0]) ?_ 3 _ rfl; (with_reducible repeat (first | refine blk_drewN ?_ _ | refine blk_drew ?_ | refine blk_alloc ?_ _)); refine blk_put (cs := #[.int .i64 (wrap64 (2 * a0_0)), .int .i64 a0_1, .int .i64 0, .int .i64 0, .int .i64 0, .int .i64 0]) ?_ 2 _ rfl; (with_reducible repeat (first | refine blk_drewN ?_ _ | refine blk_drew ?_ | refine blk_alloc ?_ _)); refine blk_put (cs := #[.int .i64 (wrap64 (2 * a0_0)), .int .i64 0, .int .i64 0, .int .i64 0, .int .i64 0, .int .i64 0]) ?_ 1 _ rfl; (with_reducible repeat (first | refine blk_drewN ?_ _ | refine blk_drew ?_ | refine blk_alloc ?_ _)); refine blk_put (cs := #[.int .i64 0, .int .i64 0, .int .i64 0, .int .i64 0, .int .i64 0, .int .i64 0]) ?_ 0 _ rfl; (with_reducible repeat (first | refine blk_drewN ?_ _ | refine blk_drew ?_ | refine blk_alloc ?_ _)); exact BK125.out⟩
    have n5_ : Aside0 (Below w.heap.size w ((((((w15.setCell ⟨gb125, 0, none⟩ (.int .i64 (wrap64 (2 * a0_0)))).setCell ⟨gb125, 1, none⟩ (.int .i64 a0_1)).setCell ⟨gb125, 2, none⟩ (.int .i64 a0_2)).setCell ⟨gb125, 3, none⟩ (.int .i64 a0_4)).setCell ⟨gb125, 4, none⟩ (.int .i64 a0_5)).setCell ⟨gb125, 5, none⟩ (.int .i64 a1_0))) := ⟨by repeat (first | (with_reducible first | exact HB.out | apply below_alloc | apply pw_below_drewN | apply below_drew1 | refine below_set ?_ GE121.out | refine below_set ?_ GE122.out | refine below_set ?_ GE123.out | refine below_set ?_ GE124.out | refine below_set ?_ GE125.out) | exact HB.out)⟩
    (try clear BK121)
    (try clear BK122)
    (try clear BK123)
    (try clear BK124)
    (try clear BK125)
    (try clear HB)
    generalize ((((((w15.setCell ⟨gb125, 0, none⟩ (.int .i64 (wrap64 (2 * a0_0)))).setCell ⟨gb125, 1, none⟩ (.int .i64 a0_1)).setCell ⟨gb125, 2, none⟩ (.int .i64 a0_2)).setCell ⟨gb125, 3, none⟩ (.int .i64 a0_4)).setCell ⟨gb125, 4, none⟩ (.int .i64 a0_5)).setCell ⟨gb125, 5, none⟩ (.int .i64 a1_0)) = w21 at n0_ n1_ n2_ n3_ n4_ n5_ ⊢
    have BK121 := n0_
    have BK122 := n1_
    have BK123 := n2_
    have BK124 := n3_
    have BK125 := n4_
    have HB := n5_
    clear n0_ n1_ n2_ n3_ n4_ n5_
    have n0_ := Aside0.mk (blk_drew BK121.out)
    have n1_ := Aside0.mk (blk_drew BK122.out)
    have n2_ := Aside0.mk (blk_drew BK123.out)
    have n3_ := Aside0.mk (blk_drew BK124.out)
    have n4_ := Aside0.mk (blk_drew BK125.out)
    have n5_ := Aside0.mk (below_drew1 HB.out)
    clear BK121
    clear BK122
    clear BK123
    clear BK124
    clear BK125
    clear HB
    have BK121 := n0_
    have BK122 := n1_
    have BK123 := n2_
    have BK124 := n3_
    have BK125 := n4_
    have HB := n5_
    clear n0_ n1_ n2_ n3_ n4_ n5_
    refine start_ (n := 23) (S := fun w' => w'.cell? ⟨gb121, 0, none⟩ = some (.int .i64 a0_0) ∧ w'.cell? ⟨gb121, 1, none⟩ = some (.int .i64 a0_1) ∧ w'.cell? ⟨gb121, 2, none⟩ = some (.int .i64 a0_2) ∧ w'.cell? ⟨gb121, 3, none⟩ = some (.int .i64 a0_3) ∧ w'.cell? ⟨gb121, 4, none⟩ = some (.int .i64 a0_4) ∧ w'.cell? ⟨gb121, 5, none⟩ = some (.int .i64 a0_5) ∧ w'.cell? ⟨gb121, 6, none⟩ = some (.int .i64 a0_6) ∧ w'.cell? ⟨gb122, 0, none⟩ = some (.int .i64 a1_0) ∧ w'.cell? ⟨gb122, 1, none⟩ = some (.int .i64 a1_1)) (ds := []) #[false, false, false, false, false, false, false, false, false, false, false, false, false, false, false, false, false, false, false, false, false, false, false] (by kernel_rfl) rfl rfl ⟨(blk_cell BK121.out 0).trans rfl, (blk_cell BK121.out 1).trans rfl, (blk_cell BK121.out 2).trans rfl, (blk_cell BK121.out 3).trans rfl, (blk_cell BK121.out 4).trans rfl, (blk_cell BK121.out 5).trans rfl, (blk_cell BK121.out 6).trans rfl, (blk_cell BK122.out 0).trans rfl, (blk_cell BK122.out 1).trans rfl⟩ (fun hHeld => ?_); refine with_tabW loop_flows.tab2 loop_flows.bits2 (fun HT_ HW_ => ?_)
    generalize w21.drew = w22 at BK121 BK122 BK123 BK124 BK125 HB hHeld ⊢
    refine pure_ (i := 0) (N := some 22) (v := ?_) (a' := ?_) #[true, false, false, false, false, false, false, false, false, false, false, false, false, false, false, false, false, false, false, false, false, false, false] rfl rfl (any_of HT_.out (by kernel_rfl)) (fun _ _ _ h => h) (Or.inl ⟨by rfl, ?_⟩) ?_ ?_
    rotate_left
    · intro w'
      go_simp
      with_reducible rfl
    rotate_left
    · simp only [Act.put, List.setIfInBounds_toArray, List.set_cons_zero, List.set_cons_succ, i64_w, i32_w]
      rfl
    refine pure_ (i := 4) (N := some 26) (v := ?_) (a' := ?_) #[true, false, false, false, true, false, false, false, false, false, false, false, false, false, false, false, false, false, false, false, false, false, false] rfl rfl (any_of HT_.out (by kernel_rfl)) (fun _ _ _ h => h) (Or.inl ⟨by rfl, ?_⟩) ?_ ?_
    rotate_left
    · intro w'
      go_simp
      with_reducible rfl
    rotate_left
    · simp only [Act.put, List.setIfInBounds_toArray, List.set_cons_zero, List.set_cons_succ, i64_w, i32_w]
      rfl
    refine pure_ (i := 6) (N := some 28) (v := ?_) (a' := ?_) #[true, false, false, false, true, false, true, false, false, false, false, false, false, false, false, false, false, false, false, false, false, false, false] rfl rfl (any_of HT_.out (by kernel_rfl)) (fun _ _ _ h => h) (Or.inl ⟨by rfl, ?_⟩) ?_ ?_
    rotate_left
    · intro w'
      go_simp
      with_reducible rfl
    rotate_left
    · simp only [Act.put, List.setIfInBounds_toArray, List.set_cons_zero, List.set_cons_succ, i64_w, i32_w]
      rfl
    refine pure_ (i := 8) (N := some 30) (v := ?_) (a' := ?_) #[true, false, false, false, true, false, true, false, true, false, false, false, false, false, false, false, false, false, false, false, false, false, false] rfl rfl (any_of HT_.out (by kernel_rfl)) (fun _ _ _ h => h) (Or.inl ⟨by rfl, ?_⟩) ?_ ?_
    rotate_left
    · intro w'
      go_simp
      with_reducible rfl
    rotate_left
    · simp only [Act.put, List.setIfInBounds_toArray, List.set_cons_zero, List.set_cons_succ, i64_w, i32_w]
      rfl
    refine pure_ (i := 10) (N := some 32) (v := ?_) (a' := ?_) #[true, false, false, false, true, false, true, false, true, false, true, false, false, false, false, false, false, false, false, false, false, false, false] rfl rfl (any_of HT_.out (by kernel_rfl)) (fun _ _ _ h => h) (Or.inl ⟨by rfl, ?_⟩) ?_ ?_
    rotate_left
    · intro w'
      go_simp
      with_reducible rfl
    rotate_left
    · simp only [Act.put, List.setIfInBounds_toArray, List.set_cons_zero, List.set_cons_succ, i64_w, i32_w]
      rfl
    refine pure_ (i := 12) (N := some 34) (v := ?_) (a' := ?_) #[true, false, false, false, true, false, true, false, true, false, true, false, true, false, false, false, false, false, false, false, false, false, false] rfl rfl (any_of HT_.out (by kernel_rfl)) (fun _ _ _ h => h) (Or.inl ⟨by rfl, ?_⟩) ?_ ?_
    rotate_left
    · intro w'
      go_simp
      with_reducible rfl
    rotate_left
    · simp only [Act.put, List.setIfInBounds_toArray, List.set_cons_zero, List.set_cons_succ, i64_w, i32_w]
      rfl
    refine pure_ (i := 15) (N := some 37) (v := ?_) (a' := ?_) #[true, false, false, false, true, false, true, false, true, false, true, false, true, false, false, true, false, false, false, false, false, false, false] rfl rfl (any_of HT_.out (by kernel_rfl)) (fun _ _ _ h => h) (Or.inl ⟨by rfl, ?_⟩) ?_ ?_
    rotate_left
    · intro w'
      go_simp
      with_reducible rfl
    rotate_left
    · simp only [Act.put, List.setIfInBounds_toArray, List.set_cons_zero, List.set_cons_succ, i64_w, i32_w]
      rfl
    refine pure_ (i := 18) (N := some 40) (v := ?_) (a' := ?_) #[true, false, false, false, true, false, true, false, true, false, true, false, true, false, false, true, false, false, true, false, false, false, false] rfl rfl (any_of HT_.out (by kernel_rfl)) (fun _ _ _ h => h) (Or.inl ⟨by rfl, ?_⟩) ?_ ?_
    rotate_left
    · intro w'
      go_simp
      with_reducible rfl
    rotate_left
    · simp only [Act.put, List.setIfInBounds_toArray, List.set_cons_zero, List.set_cons_succ, i64_w, i32_w]
      rfl
    refine take_ (i := 1) (N := some 23) (v := ?_) (a' := ?_) #[true, true, false, false, true, false, true, false, true, false, true, false, true, false, false, true, false, false, true, false, false, false, false] rfl rfl (take_ofW HT_.out HW_.out (by kernel_rfl)) (fun _ _ _ h => h) (Or.inl ⟨by rfl, ?_⟩) hHeld ?_ ?_
    rotate_left
    · rintro w' ⟨s0, s1, s2, s3, s4, s5, s6, s7, s8⟩
      go_simp
      with_reducible rfl
    rotate_left
    · simp only [Act.put, List.setIfInBounds_toArray, List.set_cons_zero, List.set_cons_succ, i64_w, i32_w]
      rfl
    refine pure_ (i := 2) (N := some 24) (v := ?_) (a' := ?_) #[true, true, true, false, true, false, true, false, true, false, true, false, true, false, false, true, false, false, true, false, false, false, false] rfl rfl (any_of HT_.out (by kernel_rfl)) (fun _ _ _ h => h) (Or.inl ⟨by rfl, ?_⟩) ?_ ?_
    rotate_left
    · intro w'
      go_simp
      with_reducible rfl
    rotate_left
    · simp only [Act.put, List.setIfInBounds_toArray, List.set_cons_zero, List.set_cons_succ, i64_w, i32_w]
      rfl
    refine pure_ (i := 3) (N := some 25) (v := ?_) (a' := ?_) #[true, true, true, true, true, false, true, false, true, false, true, false, true, false, false, true, false, false, true, false, false, false, false] rfl rfl (any_of HT_.out (by kernel_rfl)) (fun _ _ _ h => h) (Or.inl ⟨by rfl, ?_⟩) ?_ ?_
    rotate_left
    · intro w'
      go_simp
      with_reducible rfl
    rotate_left
    · simp only [Act.put, List.setIfInBounds_toArray, List.set_cons_zero, List.set_cons_succ, i64_w, i32_w]
      rfl
    refine take_ (i := 5) (N := some 27) (v := ?_) (a' := ?_) #[true, true, true, true, true, true, true, false, true, false, true, false, true, false, false, true, false, false, true, false, false, false, false] rfl rfl (take_ofW HT_.out HW_.out (by kernel_rfl)) (fun _ _ _ h => h) (Or.inl ⟨by rfl, ?_⟩) hHeld ?_ ?_
    rotate_left
    · rintro w' ⟨s0, s1, s2, s3, s4, s5, s6, s7, s8⟩
      go_simp
      with_reducible rfl
    rotate_left
    · simp only [Act.put, List.setIfInBounds_toArray, List.set_cons_zero, List.set_cons_succ, i64_w, i32_w]
      rfl
    refine take_ (i := 7) (N := some 29) (v := ?_) (a' := ?_) #[true, true, true, true, true, true, true, true, true, false, true, false, true, false, false, true, false, false, true, false, false, false, false] rfl rfl (take_ofW HT_.out HW_.out (by kernel_rfl)) (fun _ _ _ h => h) (Or.inl ⟨by rfl, ?_⟩) hHeld ?_ ?_
    rotate_left
    · rintro w' ⟨s0, s1, s2, s3, s4, s5, s6, s7, s8⟩
      go_simp
      with_reducible rfl
    rotate_left
    · simp only [Act.put, List.setIfInBounds_toArray, List.set_cons_zero, List.set_cons_succ, i64_w, i32_w]
      rfl
    refine take_ (i := 9) (N := some 31) (v := ?_) (a' := ?_) #[true, true, true, true, true, true, true, true, true, true, true, false, true, false, false, true, false, false, true, false, false, false, false] rfl rfl (take_ofW HT_.out HW_.out (by kernel_rfl)) (fun _ _ _ h => h) (Or.inl ⟨by rfl, ?_⟩) hHeld ?_ ?_
    rotate_left
    · rintro w' ⟨s0, s1, s2, s3, s4, s5, s6, s7, s8⟩
      go_simp
      with_reducible rfl
    rotate_left
    · simp only [Act.put, List.setIfInBounds_toArray, List.set_cons_zero, List.set_cons_succ, i64_w, i32_w]
      rfl
    refine take_ (i := 11) (N := some 33) (v := ?_) (a' := ?_) #[true, true, true, true, true, true, true, true, true, true, true, true, true, false, false, true, false, false, true, false, false, false, false] rfl rfl (take_ofW HT_.out HW_.out (by kernel_rfl)) (fun _ _ _ h => h) (Or.inl ⟨by rfl, ?_⟩) hHeld ?_ ?_
    rotate_left
    · rintro w' ⟨s0, s1, s2, s3, s4, s5, s6, s7, s8⟩
      go_simp
      with_reducible rfl
    rotate_left
    · simp only [Act.put, List.setIfInBounds_toArray, List.set_cons_zero, List.set_cons_succ, i64_w, i32_w]
      rfl
    refine take_ (i := 13) (N := some 35) (v := ?_) (a' := ?_) #[true, true, true, true, true, true, true, true, true, true, true, true, true, true, false, true, false, false, true, false, false, false, false] rfl rfl (take_ofW HT_.out HW_.out (by kernel_rfl)) (fun _ _ _ h => h) (Or.inl ⟨by rfl, ?_⟩) hHeld ?_ ?_
    rotate_left
    · rintro w' ⟨s0, s1, s2, s3, s4, s5, s6, s7, s8⟩
      go_simp
      with_reducible rfl
    rotate_left
    · simp only [Act.put, List.setIfInBounds_toArray, List.set_cons_zero, List.set_cons_succ, i64_w, i32_w]
      rfl
    refine pure_ (i := 14) (N := some 36) (v := ?_) (a' := ?_) #[true, true, true, true, true, true, true, true, true, true, true, true, true, true, true, true, false, false, true, false, false, false, false] rfl rfl (any_of HT_.out (by kernel_rfl)) (fun _ _ _ h => h) (Or.inl ⟨by rfl, ?_⟩) ?_ ?_
    rotate_left
    · intro w'
      go_simp
      with_reducible rfl
    rotate_left
    · simp only [Act.put, List.setIfInBounds_toArray, List.set_cons_zero, List.set_cons_succ, i64_w, i32_w]
      rfl
    refine take_ (i := 16) (N := some 38) (v := ?_) (a' := ?_) #[true, true, true, true, true, true, true, true, true, true, true, true, true, true, true, true, true, false, true, false, false, false, false] rfl rfl (take_ofW HT_.out HW_.out (by kernel_rfl)) (fun _ _ _ h => h) (Or.inl ⟨by rfl, ?_⟩) hHeld ?_ ?_
    rotate_left
    · rintro w' ⟨s0, s1, s2, s3, s4, s5, s6, s7, s8⟩
      go_simp
      with_reducible rfl
    rotate_left
    · simp only [Act.put, List.setIfInBounds_toArray, List.set_cons_zero, List.set_cons_succ, i64_w, i32_w]
      rfl
    refine pure_ (i := 17) (N := some 39) (v := ?_) (a' := ?_) #[true, true, true, true, true, true, true, true, true, true, true, true, true, true, true, true, true, true, true, false, false, false, false] rfl rfl (any_of HT_.out (by kernel_rfl)) (fun _ _ _ h => h) (Or.inl ⟨by rfl, ?_⟩) ?_ ?_
    rotate_left
    · intro w'
      go_simp
      with_reducible rfl
    rotate_left
    · simp only [Act.put, List.setIfInBounds_toArray, List.set_cons_zero, List.set_cons_succ, i64_w, i32_w]
      rfl
    refine take_ (i := 19) (N := some 41) (v := ?_) (a' := ?_) #[true, true, true, true, true, true, true, true, true, true, true, true, true, true, true, true, true, true, true, true, false, false, false] rfl rfl (take_ofW HT_.out HW_.out (by kernel_rfl)) (fun _ _ _ h => h) (Or.inl ⟨by rfl, ?_⟩) hHeld ?_ ?_
    rotate_left
    · rintro w' ⟨s0, s1, s2, s3, s4, s5, s6, s7, s8⟩
      go_simp
      with_reducible rfl
    rotate_left
    · simp only [Act.put, List.setIfInBounds_toArray, List.set_cons_zero, List.set_cons_succ, i64_w, i32_w]
      rfl
    refine pure_ (i := 20) (N := some 42) (v := ?_) (a' := ?_) #[true, true, true, true, true, true, true, true, true, true, true, true, true, true, true, true, true, true, true, true, true, false, false] rfl rfl (any_of HT_.out (by kernel_rfl)) (fun _ _ _ h => h) (Or.inl ⟨by rfl, ?_⟩) ?_ ?_
    rotate_left
    · intro w'
      go_simp
      with_reducible rfl
    rotate_left
    · simp only [Act.put, List.setIfInBounds_toArray, List.set_cons_zero, List.set_cons_succ, i64_w, i32_w]
      rfl
    refine one_ (i := 21) (N := some 7) #[true, true, true, true, true, true, true, true, true, true, true, true, true, true, true, true, true, true, true, true, true, true, false] rfl rfl (one_of HT_.out (by kernel_rfl)) (by decide) (fun K hK => ?_)
    refine box_step ?hg (N := 7) ?hd (cs := #[.int .i64 0, .int .i64 0, .int .i64 0, .int .i64 0, .int .i64 0, .int .i64 0]) (t := 39) ?hr ?_; (case hd => rfl); (case hg => rfl); (case hr => first | (go_simp; done) | (go_simp; rfl))
    intro gb126 hg w23 hbox hb
    have n0_ := Aside0.mk (blk_below (g := gb121) (o := .cells #[.int .i64 a0_0, .int .i64 a0_1, .int .i64 a0_2, .int .i64 a0_3, .int .i64 a0_4, .int .i64 a0_5, .int .i64 a0_6] 23 (0, 0)) (by (with_reducible repeat (first | refine blk_drewN ?_ _ | refine blk_drew ?_ | refine blk_alloc ?_ _)); exact BK121.out) hb)
    have n1_ := Aside0.mk (blk_below (g := gb122) (o := .cells #[.int .i64 a1_0, .int .i64 a1_1] 25 (0, 0)) (by (with_reducible repeat (first | refine blk_drewN ?_ _ | refine blk_drew ?_ | refine blk_alloc ?_ _)); exact BK122.out) hb)
    have n2_ := Aside0.mk (blk_below (g := gb123) (o := .cells #[.int .i64 0, .int .i64 0, .int .i64 0, .int .i64 0, .int .i64 0, .int .i64 0] 39 (0, 0)) (by (with_reducible repeat (first | refine blk_drewN ?_ _ | refine blk_drew ?_ | refine blk_alloc ?_ _)); exact BK123.out) hb)
    have n3_ := Aside0.mk (blk_below (g := gb124) (o := .cells #[.int .i64 0, .int .i64 0, .int .i64 0, .int .i64 0, .int .i64 0, .int .i64 0] 39 (0, 0)) (by (with_reducible repeat (first | refine blk_drewN ?_ _ | refine blk_drew ?_ | refine blk_alloc ?_ _)); exact BK124.out) hb)
    have n4_ := Aside0.mk (blk_below (g := gb125) (o := .cells #[.int .i64 (wrap64 (2 * a0_0)), .int .i64 a0_1, .int .i64 a0_2, .int .i64 a0_4, .int .i64 a0_5, .int .i64 a1_0] 39 (0, 0)) (by (with_reducible repeat (first | refine blk_drewN ?_ _ | refine blk_drew ?_ | refine blk_alloc ?_ _)); exact BK125.out) hb)
    have n5_ := Aside0.mk (below_step (by repeat (first | (with_reducible first | exact HB.out | apply below_alloc | apply pw_below_drewN | apply below_drew1 | refine below_set ?_ GE121.out | refine below_set ?_ GE122.out | refine below_set ?_ GE123.out | refine below_set ?_ GE124.out | refine below_set ?_ GE125.out) | exact HB.out)) hb)
    have n6_ := Aside0.mk (hbox)
    have n7_ := Aside0.mk ((by rw [hg]; exact (below_size (by repeat (first | (with_reducible first | exact HB.out | apply below_alloc | apply pw_below_drewN | apply below_drew1 | refine below_set ?_ GE121.out | refine below_set ?_ GE122.out | refine below_set ?_ GE123.out | refine below_set ?_ GE124.out | refine below_set ?_ GE125.out) | exact HB.out))) : w.heap.size ≤ gb126))
    have n8_ := Aside0.mk ((by rw [hg]; exact (below_size (by repeat (first | (with_reducible first | exact HB.out | apply below_alloc | apply pw_below_drewN | apply below_drew1 | refine below_set ?_ GE121.out | refine below_set ?_ GE122.out | refine below_set ?_ GE123.out | refine below_set ?_ GE124.out | refine below_set ?_ GE125.out) | exact HB.out))) : w.heap.size ≤ gb126))
    have n9_ := Aside0.mk ((by rw [hg]; exact Nat.ne_of_lt (blk_lt (g := gb121) (o := .cells #[.int .i64 a0_0, .int .i64 a0_1, .int .i64 a0_2, .int .i64 a0_3, .int .i64 a0_4, .int .i64 a0_5, .int .i64 a0_6] 23 (0, 0)) (by (with_reducible repeat (first | refine blk_drewN ?_ _ | refine blk_drew ?_ | refine blk_alloc ?_ _)); exact BK121.out)) : gb121 ≠ gb126))
    have n10_ := Aside0.mk ((by rw [hg]; exact Nat.ne_of_gt (blk_lt (g := gb121) (o := .cells #[.int .i64 a0_0, .int .i64 a0_1, .int .i64 a0_2, .int .i64 a0_3, .int .i64 a0_4, .int .i64 a0_5, .int .i64 a0_6] 23 (0, 0)) (by (with_reducible repeat (first | refine blk_drewN ?_ _ | refine blk_drew ?_ | refine blk_alloc ?_ _)); exact BK121.out)) : gb126 ≠ gb121))
    have n11_ := Aside0.mk ((by rw [hg]; exact Nat.ne_of_lt (blk_lt (g := gb122) (o := .cells #[.int .i64 a1_0, .int .i64 a1_1] 25 (0, 0)) (by (with_reducible repeat (first | refine blk_drewN ?_ _ | refine blk_drew ?_ | refine blk_alloc ?_ _)); exact BK122.out)) : gb122 ≠ gb126))
    have n12_ := Aside0.mk ((by rw [hg]; exact Nat.ne_of_gt (blk_lt (g := gb122) (o := .cells #[.int .i64 a1_0, .int .i64 a1_1] 25 (0, 0)) (by (with_reducible repeat (first | refine blk_drewN ?_ _ | refine blk_drew ?_ | refine blk_alloc ?_ _)); exact BK122.out)) : gb126 ≠ gb122))
    have n13_ := Aside0.mk ((by rw [hg]; exact Nat.ne_of_lt (blk_lt (g := gb123) (o := .cells #[.int .i64 0, .int .i64 0, .int .i64 0, .int .i64 0, .int .i64 0, .int .i64 0] 39 (0, 0)) (by (with_reducible repeat (first | refine blk_drewN ?_ _ | refine blk_drew ?_ | refine blk_alloc ?_ _)); exact BK123.out)) : gb123 ≠ gb126))
    have n14_ := Aside0.mk ((by rw [hg]; exact Nat.ne_of_gt (blk_lt (g := gb123) (o := .cells #[.int .i64 0, .int .i64 0, .int .i64 0, .int .i64 0, .int .i64 0, .int .i64 0] 39 (0, 0)) (by (with_reducible repeat (first | refine blk_drewN ?_ _ | refine blk_drew ?_ | refine blk_alloc ?_ _)); exact BK123.out)) : gb126 ≠ gb123))
    have n15_ := Aside0.mk ((by rw [hg]; exact Nat.ne_of_lt (blk_lt (g := gb124) (o := .cells #[.int .i64 0, .int .i64 0, .int .i64 0, .int .i64 0, .int .i64 0, .int .i64 0] 39 (0, 0)) (by (with_reducible repeat (first | refine blk_drewN ?_ _ | refine blk_drew ?_ | refine blk_alloc ?_ _)); exact BK124.out)) : gb124 ≠ gb126))
    have n16_ := Aside0.mk ((by rw [hg]; exact Nat.ne_of_gt (blk_lt (g := gb124) (o := .cells #[.int .i64 0, .int .i64 0, .int .i64 0, .int .i64 0, .int .i64 0, .int .i64 0] 39 (0, 0)) (by (with_reducible repeat (first | refine blk_drewN ?_ _ | refine blk_drew ?_ | refine blk_alloc ?_ _)); exact BK124.out)) : gb126 ≠ gb124))
    have n17_ := Aside0.mk ((by rw [hg]; exact Nat.ne_of_lt (blk_lt (g := gb125) (o := .cells #[.int .i64 (wrap64 (2 * a0_0)), .int .i64 a0_1, .int .i64 a0_2, .int .i64 a0_4, .int .i64 a0_5, .int .i64 a1_0] 39 (0, 0)) (by (with_reducible repeat (first | refine blk_drewN ?_ _ | refine blk_drew ?_ | refine blk_alloc ?_ _)); exact BK125.out)) : gb125 ≠ gb126))
    have n18_ := Aside0.mk ((by rw [hg]; exact Nat.ne_of_gt (blk_lt (g := gb125) (o := .cells #[.int .i64 (wrap64 (2 * a0_0)), .int .i64 a0_1, .int .i64 a0_2, .int .i64 a0_4, .int .i64 a0_5, .int .i64 a1_0] 39 (0, 0)) (by (with_reducible repeat (first | refine blk_drewN ?_ _ | refine blk_drew ?_ | refine blk_alloc ?_ _)); exact BK125.out)) : gb126 ≠ gb125))
    clear BK121
    clear BK122
    clear BK123
    clear BK124
    clear BK125
    clear HB
    have BK121 := n0_
    have BK122 := n1_
    have BK123 := n2_
    have BK124 := n3_
    have BK125 := n4_
    have HB := n5_
    have BK126 := n6_
    have GW126 := n7_
    have GE126 := n8_
    have NB121_126 := n9_
    have NB126_121 := n10_
    have NB122_126 := n11_
    have NB126_122 := n12_
    have NB123_126 := n13_
    have NB126_123 := n14_
    have NB124_126 := n15_
    have NB126_124 := n16_
    have NB125_126 := n17_
    have NB126_125 := n18_
    clear n0_ n1_ n2_ n3_ n4_ n5_ n6_ n7_ n8_ n9_ n10_ n11_ n12_ n13_ n14_ n15_ n16_ n17_ n18_
    clear hb hbox hg
    refine hK.out _ _ ⟨(blk_cell BK121.out 0).trans rfl, (blk_cell BK121.out 1).trans rfl, (blk_cell BK121.out 2).trans rfl, (blk_cell BK121.out 3).trans rfl, (blk_cell BK121.out 4).trans rfl, (blk_cell BK121.out 5).trans rfl, (blk_cell BK121.out 6).trans rfl, (blk_cell BK122.out 0).trans rfl, (blk_cell BK122.out 1).trans rfl⟩ (fun hHeld => ?_)
    clear hK K
    refine norm_ (a' := ?_) ?_ ?_
    rotate_left
    · show Act.put _ (some 7) _ = _
      simp only [Act.put, List.setIfInBounds_toArray, List.set_cons_zero, List.set_cons_succ, i64_w, i32_w]
      rfl
    refine one_ (i := 22) (N := none) #[true, true, true, true, true, true, true, true, true, true, true, true, true, true, true, true, true, true, true, true, true, true, true] rfl rfl (one_of HT_.out (by kernel_rfl)) (by decide) (fun K hK => ?_)
    have hs24 : w23.cell? ⟨gb126, 0, none⟩ = some (.int .i64 0) := (blk_cell BK126.out 0).trans rfl
    have hfs24 := blk_frozen BK126.out 0
    have hns24_0 := NB121_126.out
    have hns24_1 := NB122_126.out
    have hns24_2 := NB123_126.out
    have hns24_3 := NB124_126.out
    have hns24_4 := NB125_126.out
    have hms24_0 := NB126_121.out
    have hms24_1 := NB126_122.out
    have hms24_2 := NB126_123.out
    have hms24_3 := NB126_124.out
    have hms24_4 := NB126_125.out
    have hs25 : w23.cell? ⟨gb126, 1, none⟩ = some (.int .i64 0) := (blk_cell BK126.out 1).trans rfl
    have hfs25 := blk_frozen BK126.out 1
    have hns25_0 := NB121_126.out
    have hns25_1 := NB122_126.out
    have hns25_2 := NB123_126.out
    have hns25_3 := NB124_126.out
    have hns25_4 := NB125_126.out
    have hms25_0 := NB126_121.out
    have hms25_1 := NB126_122.out
    have hms25_2 := NB126_123.out
    have hms25_3 := NB126_124.out
    have hms25_4 := NB126_125.out
    have hs26 : w23.cell? ⟨gb126, 2, none⟩ = some (.int .i64 0) := (blk_cell BK126.out 2).trans rfl
    have hfs26 := blk_frozen BK126.out 2
    have hns26_0 := NB121_126.out
    have hns26_1 := NB122_126.out
    have hns26_2 := NB123_126.out
    have hns26_3 := NB124_126.out
    have hns26_4 := NB125_126.out
    have hms26_0 := NB126_121.out
    have hms26_1 := NB126_122.out
    have hms26_2 := NB126_123.out
    have hms26_3 := NB126_124.out
    have hms26_4 := NB126_125.out
    have hs27 : w23.cell? ⟨gb126, 3, none⟩ = some (.int .i64 0) := (blk_cell BK126.out 3).trans rfl
    have hfs27 := blk_frozen BK126.out 3
    have hns27_0 := NB121_126.out
    have hns27_1 := NB122_126.out
    have hns27_2 := NB123_126.out
    have hns27_3 := NB124_126.out
    have hns27_4 := NB125_126.out
    have hms27_0 := NB126_121.out
    have hms27_1 := NB126_122.out
    have hms27_2 := NB126_123.out
    have hms27_3 := NB126_124.out
    have hms27_4 := NB126_125.out
    have hs28 : w23.cell? ⟨gb126, 4, none⟩ = some (.int .i64 0) := (blk_cell BK126.out 4).trans rfl
    have hfs28 := blk_frozen BK126.out 4
    have hns28_0 := NB121_126.out
    have hns28_1 := NB122_126.out
    have hns28_2 := NB123_126.out
    have hns28_3 := NB124_126.out
    have hns28_4 := NB125_126.out
    have hms28_0 := NB126_121.out
    have hms28_1 := NB126_122.out
    have hms28_2 := NB126_123.out
    have hms28_3 := NB126_124.out
    have hms28_4 := NB126_125.out
    have hs29 : w23.cell? ⟨gb126, 5, none⟩ = some (.int .i64 0) := (blk_cell BK126.out 5).trans rfl
    have hfs29 := blk_frozen BK126.out 5
    have hns29_0 := NB121_126.out
    have hns29_1 := NB122_126.out
    have hns29_2 := NB123_126.out
    have hns29_3 := NB124_126.out
    have hns29_4 := NB125_126.out
    have hms29_0 := NB126_121.out
    have hms29_1 := NB126_122.out
    have hms29_2 := NB126_123.out
    have hms29_3 := NB126_124.out
    have hms29_4 := NB126_125.out
    refine skip_ (w1 := ?_) (by rfl) rfl ?_ ?_
    rotate_left
    · go_simp
      rfl
    refine hK.out _ _ ⟨((cell_far (p := ⟨gb126, _, none⟩) NB121_126.out _).trans (((cell_far (p := ⟨gb126, _, none⟩) NB121_126.out _).trans (((cell_far (p := ⟨gb126, _, none⟩) NB121_126.out _).trans (((cell_far (p := ⟨gb126, _, none⟩) NB121_126.out _).trans (((cell_far (p := ⟨gb126, _, none⟩) NB121_126.out _).trans (((cell_far (p := ⟨gb126, _, none⟩) NB121_126.out _).trans (hHeld.1)))))))))))), ((cell_far (p := ⟨gb126, _, none⟩) NB121_126.out _).trans (((cell_far (p := ⟨gb126, _, none⟩) NB121_126.out _).trans (((cell_far (p := ⟨gb126, _, none⟩) NB121_126.out _).trans (((cell_far (p := ⟨gb126, _, none⟩) NB121_126.out _).trans (((cell_far (p := ⟨gb126, _, none⟩) NB121_126.out _).trans (((cell_far (p := ⟨gb126, _, none⟩) NB121_126.out _).trans (hHeld.2.1)))))))))))), ((cell_far (p := ⟨gb126, _, none⟩) NB121_126.out _).trans (((cell_far (p := ⟨gb126, _, none⟩) NB121_126.out _).trans (((cell_far (p := ⟨gb126, _, none⟩) NB121_126.out _).trans (((cell_far (p := ⟨gb126, _, none⟩) NB121_126.out _).trans (((cell_far (p := ⟨gb126, _, none⟩) NB121_126.out _).trans (((cell_far (p := ⟨gb126, _, none⟩) NB121_126.out _).trans (hHeld.2.2.1)))))))))))), ((cell_far (p := ⟨gb126, _, none⟩) NB121_126.out _).trans (((cell_far (p := ⟨gb126, _, none⟩) NB121_126.out _).trans (((cell_far (p := ⟨gb126, _, none⟩) NB121_126.out _).trans (((cell_far (p := ⟨gb126, _, none⟩) NB121_126.out _).trans (((cell_far (p := ⟨gb126, _, none⟩) NB121_126.out _).trans (((cell_far (p := ⟨gb126, _, none⟩) NB121_126.out _).trans (hHeld.2.2.2.1)))))))))))), ((cell_far (p := ⟨gb126, _, none⟩) NB121_126.out _).trans (((cell_far (p := ⟨gb126, _, none⟩) NB121_126.out _).trans (((cell_far (p := ⟨gb126, _, none⟩) NB121_126.out _).trans (((cell_far (p := ⟨gb126, _, none⟩) NB121_126.out _).trans (((cell_far (p := ⟨gb126, _, none⟩) NB121_126.out _).trans (((cell_far (p := ⟨gb126, _, none⟩) NB121_126.out _).trans (hHeld.2.2.2.2.1)))))))))))), ((cell_far (p := ⟨gb126, _, none⟩) NB121_126.out _).trans (((cell_far (p := ⟨gb126, _, none⟩) NB121_126.out _).trans (((cell_far (p := ⟨gb126, _, none⟩) NB121_126.out _).trans (((cell_far (p := ⟨gb126, _, none⟩) NB121_126.out _).trans (((cell_far (p := ⟨gb126, _, none⟩) NB121_126.out _).trans (((cell_far (p := ⟨gb126, _, none⟩) NB121_126.out _).trans (hHeld.2.2.2.2.2.1)))))))))))), ((cell_far (p := ⟨gb126, _, none⟩) NB121_126.out _).trans (((cell_far (p := ⟨gb126, _, none⟩) NB121_126.out _).trans (((cell_far (p := ⟨gb126, _, none⟩) NB121_126.out _).trans (((cell_far (p := ⟨gb126, _, none⟩) NB121_126.out _).trans (((cell_far (p := ⟨gb126, _, none⟩) NB121_126.out _).trans (((cell_far (p := ⟨gb126, _, none⟩) NB121_126.out _).trans (hHeld.2.2.2.2.2.2.1)))))))))))), ((cell_far (p := ⟨gb126, _, none⟩) NB122_126.out _).trans (((cell_far (p := ⟨gb126, _, none⟩) NB122_126.out _).trans (((cell_far (p := ⟨gb126, _, none⟩) NB122_126.out _).trans (((cell_far (p := ⟨gb126, _, none⟩) NB122_126.out _).trans (((cell_far (p := ⟨gb126, _, none⟩) NB122_126.out _).trans (((cell_far (p := ⟨gb126, _, none⟩) NB122_126.out _).trans (hHeld.2.2.2.2.2.2.2.1)))))))))))), ((cell_far (p := ⟨gb126, _, none⟩) NB122_126.out _).trans (((cell_far (p := ⟨gb126, _, none⟩) NB122_126.out _).trans (((cell_far (p := ⟨gb126, _, none⟩) NB122_126.out _).trans (((cell_far (p := ⟨gb126, _, none⟩) NB122_126.out _).trans (((cell_far (p := ⟨gb126, _, none⟩) NB122_126.out _).trans (((cell_far (p := ⟨gb126, _, none⟩) NB122_126.out _).trans (hHeld.2.2.2.2.2.2.2.2))))))))))))⟩ (fun hHeld => ?_)
    clear hK K
    refine done_ (done_of HT_.out (by kernel_rfl)) ?_
    try go_wp2
    have n0_ : Aside0 (((((((w23.setCell ⟨gb126, 0, none⟩ (.int .i64 (wrap64 ((wrap64 (2 * a0_0)) + 1)))).setCell ⟨gb126, 1, none⟩ (.int .i64 a0_2)).setCell ⟨gb126, 2, none⟩ (.int .i64 a0_3)).setCell ⟨gb126, 3, none⟩ (.int .i64 a0_4)).setCell ⟨gb126, 4, none⟩ (.int .i64 (Int.tmod (wrap64 (a0_5 + a1_0)) a0_4))).setCell ⟨gb126, 5, none⟩ (.int .i64 a1_1)).heap[gb121]? = some (.cells #[.int .i64 a0_0, .int .i64 a0_1, .int .i64 a0_2, .int .i64 a0_3, .int .i64 a0_4, .int .i64 a0_5, .int .i64 a0_6] 23 (0, 0))) := ⟨by (with_reducible repeat (first | refine blk_drewN ?_ _ | refine blk_drew ?_ | refine blk_alloc ?_ _)); refine blk_far ?_ NB121_126.out _; (with_reducible repeat (first | refine blk_drewN ?_ _ | refine blk_drew ?_ | refine blk_alloc ?_ _)); refine blk_far ?_ NB121_126.out _; (with_reducible repeat (first | refine blk_drewN ?_ _ | refine blk_drew ?_ | refine blk_alloc ?_ _)); refine blk_far ?_ NB121_126.out _; (with_reducible repeat (first | refine blk_drewN ?_ _ | refine blk_drew ?_ | refine blk_alloc ?_ _)); refine blk_far ?_ NB121_126.out _; (with_reducible repeat (first | refine blk_drewN ?_ _ | refine blk_drew ?_ | refine blk_alloc ?_ _)); refine blk_far ?_ NB121_126.out _; (with_reducible repeat (first | refine blk_drewN ?_ _ | refine blk_drew ?_ | refine blk_alloc ?_ _)); refine blk_far ?_ NB121_126.out _; (with_reducible repeat (first | refine blk_drewN ?_ _ | refine blk_drew ?_ | refine blk_alloc ?_ _)); exact BK121.out⟩
    have n1_ : Aside0 (((((((w23.setCell ⟨gb126, 0, none⟩ (.int .i64 (wrap64 ((wrap64 (2 * a0_0)) + 1)))).setCell ⟨gb126, 1, none⟩ (.int .i64 a0_2)).setCell ⟨gb126, 2, none⟩ (.int .i64 a0_3)).setCell ⟨gb126, 3, none⟩ (.int .i64 a0_4)).setCell ⟨gb126, 4, none⟩ (.int .i64 (Int.tmod (wrap64 (a0_5 + a1_0)) a0_4))).setCell ⟨gb126, 5, none⟩ (.int .i64 a1_1)).heap[gb122]? = some (.cells #[.int .i64 a1_0, .int .i64 a1_1] 25 (0, 0))) := ⟨by (with_reducible repeat (first | refine blk_drewN ?_ _ | refine blk_drew ?_ | refine blk_alloc ?_ _)); refine blk_far ?_ NB122_126.out _; (with_reducible repeat (first | refine blk_drewN ?_ _ | refine blk_drew ?_ | refine blk_alloc ?_ _)); refine blk_far ?_ NB122_126.out _; (with_reducible repeat (first | refine blk_drewN ?_ _ | refine blk_drew ?_ | refine blk_alloc ?_ _)); refine blk_far ?_ NB122_126.out _; (with_reducible repeat (first | refine blk_drewN ?_ _ | refine blk_drew ?_ | refine blk_alloc ?_ _)); refine blk_far ?_ NB122_126.out _; (with_reducible repeat (first | refine blk_drewN ?_ _ | refine blk_drew ?_ | refine blk_alloc ?_ _)); refine blk_far ?_ NB122_126.out _; (with_reducible repeat (first | refine blk_drewN ?_ _ | refine blk_drew ?_ | refine blk_alloc ?_ _)); refine blk_far ?_ NB122_126.out _; (with_reducible repeat (first | refine blk_drewN ?_ _ | refine blk_drew ?_ | refine blk_alloc ?_ _)); exact BK122.out⟩
    have n2_ : Aside0 (((((((w23.setCell ⟨gb126, 0, none⟩ (.int .i64 (wrap64 ((wrap64 (2 * a0_0)) + 1)))).setCell ⟨gb126, 1, none⟩ (.int .i64 a0_2)).setCell ⟨gb126, 2, none⟩ (.int .i64 a0_3)).setCell ⟨gb126, 3, none⟩ (.int .i64 a0_4)).setCell ⟨gb126, 4, none⟩ (.int .i64 (Int.tmod (wrap64 (a0_5 + a1_0)) a0_4))).setCell ⟨gb126, 5, none⟩ (.int .i64 a1_1)).heap[gb123]? = some (.cells #[.int .i64 0, .int .i64 0, .int .i64 0, .int .i64 0, .int .i64 0, .int .i64 0] 39 (0, 0))) := ⟨by (with_reducible repeat (first | refine blk_drewN ?_ _ | refine blk_drew ?_ | refine blk_alloc ?_ _)); refine blk_far ?_ NB123_126.out _; (with_reducible repeat (first | refine blk_drewN ?_ _ | refine blk_drew ?_ | refine blk_alloc ?_ _)); refine blk_far ?_ NB123_126.out _; (with_reducible repeat (first | refine blk_drewN ?_ _ | refine blk_drew ?_ | refine blk_alloc ?_ _)); refine blk_far ?_ NB123_126.out _; (with_reducible repeat (first | refine blk_drewN ?_ _ | refine blk_drew ?_ | refine blk_alloc ?_ _)); refine blk_far ?_ NB123_126.out _; (with_reducible repeat (first | refine blk_drewN ?_ _ | refine blk_drew ?_ | refine blk_alloc ?_ _)); refine blk_far ?_ NB123_126.out _; (with_reducible repeat (first | refine blk_drewN ?_ _ | refine blk_drew ?_ | refine blk_alloc ?_ _)); refine blk_far ?_ NB123_126.out _; (with_reducible repeat (first | refine blk_drewN ?_ _ | refine blk_drew ?_ | refine blk_alloc ?_ _)); exact BK123.out⟩
    have n3_ : Aside0 (((((((w23.setCell ⟨gb126, 0, none⟩ (.int .i64 (wrap64 ((wrap64 (2 * a0_0)) + 1)))).setCell ⟨gb126, 1, none⟩ (.int .i64 a0_2)).setCell ⟨gb126, 2, none⟩ (.int .i64 a0_3)).setCell ⟨gb126, 3, none⟩ (.int .i64 a0_4)).setCell ⟨gb126, 4, none⟩ (.int .i64 (Int.tmod (wrap64 (a0_5 + a1_0)) a0_4))).setCell ⟨gb126, 5, none⟩ (.int .i64 a1_1)).heap[gb124]? = some (.cells #[.int .i64 0, .int .i64 0, .int .i64 0, .int .i64 0, .int .i64 0, .int .i64 0] 39 (0, 0))) := ⟨by (with_reducible repeat (first | refine blk_drewN ?_ _ | refine blk_drew ?_ | refine blk_alloc ?_ _)); refine blk_far ?_ NB124_126.out _; (with_reducible repeat (first | refine blk_drewN ?_ _ | refine blk_drew ?_ | refine blk_alloc ?_ _)); refine blk_far ?_ NB124_126.out _; (with_reducible repeat (first | refine blk_drewN ?_ _ | refine blk_drew ?_ | refine blk_alloc ?_ _)); refine blk_far ?_ NB124_126.out _; (with_reducible repeat (first | refine blk_drewN ?_ _ | refine blk_drew ?_ | refine blk_alloc ?_ _)); refine blk_far ?_ NB124_126.out _; (with_reducible repeat (first | refine blk_drewN ?_ _ | refine blk_drew ?_ | refine blk_alloc ?_ _)); refine blk_far ?_ NB124_126.out _; (with_reducible repeat (first | refine blk_drewN ?_ _ | refine blk_drew ?_ | refine blk_alloc ?_ _)); refine blk_far ?_ NB124_126.out _; (with_reducible repeat (first | refine blk_drewN ?_ _ | refine blk_drew ?_ | refine blk_alloc ?_ _)); exact BK124.out⟩
    have n4_ : Aside0 (((((((w23.setCell ⟨gb126, 0, none⟩ (.int .i64 (wrap64 ((wrap64 (2 * a0_0)) + 1)))).setCell ⟨gb126, 1, none⟩ (.int .i64 a0_2)).setCell ⟨gb126, 2, none⟩ (.int .i64 a0_3)).setCell ⟨gb126, 3, none⟩ (.int .i64 a0_4)).setCell ⟨gb126, 4, none⟩ (.int .i64 (Int.tmod (wrap64 (a0_5 + a1_0)) a0_4))).setCell ⟨gb126, 5, none⟩ (.int .i64 a1_1)).heap[gb125]? = some (.cells #[.int .i64 (wrap64 (2 * a0_0)), .int .i64 a0_1, .int .i64 a0_2, .int .i64 a0_4, .int .i64 a0_5, .int .i64 a1_0] 39 (0, 0))) := ⟨by (with_reducible repeat (first | refine blk_drewN ?_ _ | refine blk_drew ?_ | refine blk_alloc ?_ _)); refine blk_far ?_ NB125_126.out _; (with_reducible repeat (first | refine blk_drewN ?_ _ | refine blk_drew ?_ | refine blk_alloc ?_ _)); refine blk_far ?_ NB125_126.out _; (with_reducible repeat (first | refine blk_drewN ?_ _ | refine blk_drew ?_ | refine blk_alloc ?_ _)); refine blk_far ?_ NB125_126.out _; (with_reducible repeat (first | refine blk_drewN ?_ _ | refine blk_drew ?_ | refine blk_alloc ?_ _)); refine blk_far ?_ NB125_126.out _; (with_reducible repeat (first | refine blk_drewN ?_ _ | refine blk_drew ?_ | refine blk_alloc ?_ _)); refine blk_far ?_ NB125_126.out _; (with_reducible repeat (first | refine blk_drewN ?_ _ | refine blk_drew ?_ | refine blk_alloc ?_ _)); refine blk_far ?_ NB125_126.out _; (with_reducible repeat (first | refine blk_drewN ?_ _ | refine blk_drew ?_ | refine blk_alloc ?_ _)); exact BK125.out⟩
    have n5_ : Aside0 (((((((w23.setCell ⟨gb126, 0, none⟩ (.int .i64 (wrap64 ((wrap64 (2 * a0_0)) + 1)))).setCell ⟨gb126, 1, none⟩ (.int .i64 a0_2)).setCell ⟨gb126, 2, none⟩ (.int .i64 a0_3)).setCell ⟨gb126, 3, none⟩ (.int .i64 a0_4)).setCell ⟨gb126, 4, none⟩ (.int .i64 (Int.tmod (wrap64 (a0_5 + a1_0)) a0_4))).setCell ⟨gb126, 5, none⟩ (.int .i64 a1_1)).heap[gb126]? = some (.cells #[.int .i64 (wrap64 ((wrap64 (2 * a0_0)) + 1)), .int .i64 a0_2, .int .i64 a0_3, .int .i64 a0_4, .int .i64 (Int.tmod (wrap64 (a0_5 + a1_0)) a0_4), .int .i64 a1_1] 39 (0, 0))) := ⟨by (with_reducible repeat (first | refine blk_drewN ?_ _ | refine blk_drew ?_ | refine blk_alloc ?_ _)); refine blk_put (cs := #[.int .i64 (wrap64 ((wrap64 (2 * a0_0)) + 1)), .int .i64 a0_2, .int .i64 a0_3, .int .i64 a0_4, .int .i64 (Int.tmod (wrap64 (a0_5 + a1_0)) a0_4), .int .i64 0]) ?_ 5 _ rfl; (with_reducible repeat (first | refine blk_drewN ?_ _ | refine blk_drew ?_ | refine blk_alloc ?_ _)); refine blk_put (cs := #[.int .i64 (wrap64 ((wrap64 (2 * a0_0)) + 1)), .int .i64 a0_2, .int .i64 a0_3, .int .i64 a0_4, .int .i64 0, .int .i64 0]) ?_ 4 _ rfl; (with_reducible repeat (first | refine blk_drewN ?_ _ | refine blk_drew ?_ | refine blk_alloc ?_ _)); refine blk_put (cs := #[.int .i64 (wrap64 ((wrap64 (2 * a0_0)) + 1)), .int .i64 a0_2, .int .i64 a0_3, .int .i64 0, .int .i64 0, .int .i64 0]) ?_ 3 _ rfl; (with_reducible repeat (first | refine blk_drewN ?_ _ | refine blk_drew ?_ | refine blk_alloc ?_ _)); refine blk_put (cs := #[.int .i64 (wrap64 ((wrap64 (2 * a0_0)) + 1)), .int .i64 a0_2, .int .i64 0, .int .i64 0, .int .i64 0, .int .i64 0]) ?_ 2 _ rfl; (with_reducible repeat (first | refine blk_drewN ?_ _ | refine blk_drew ?_ | refine blk_alloc ?_ _)); refine blk_put (cs := #[.int .i64 (wrap64 ((wrap64 (2 * a0_0)) + 1)), .int .i64 0, .int .i64 0, .int .i64 0, .int .i64 0, .int .i64 0]) ?_ 1 _ rfl; (with_reducible repeat (first | refine blk_drewN ?_ _ | refine blk_drew ?_ | refine blk_alloc ?_ _)); refine blk_put (cs := #[.int .i64 0, .int .i64 0, .int .i64 0, .int .i64 0, .int .i64 0, .int .i64 0]) ?_ 0 _ rfl; (with_reducible repeat (first | refine blk_drewN ?_ _ | refine blk_drew ?_ | refine blk_alloc ?_ _)); exact BK126.out⟩
    have n6_ : Aside0 (Below w.heap.size w ((((((w23.setCell ⟨gb126, 0, none⟩ (.int .i64 (wrap64 ((wrap64 (2 * a0_0)) + 1)))).setCell ⟨gb126, 1, none⟩ (.int .i64 a0_2)).setCell ⟨gb126, 2, none⟩ (.int .i64 a0_3)).setCell ⟨gb126, 3, none⟩ (.int .i64 a0_4)).setCell ⟨gb126, 4, none⟩ (.int .i64 (Int.tmod (wrap64 (a0_5 + a1_0)) a0_4))).setCell ⟨gb126, 5, none⟩ (.int .i64 a1_1))) := ⟨by repeat (first | (with_reducible first | exact HB.out | apply below_alloc | apply pw_below_drewN | apply below_drew1 | refine below_set ?_ GE121.out | refine below_set ?_ GE122.out | refine below_set ?_ GE123.out | refine below_set ?_ GE124.out | refine below_set ?_ GE125.out | refine below_set ?_ GE126.out) | exact HB.out)⟩
    (try clear BK121)
    (try clear BK122)
    (try clear BK123)
    (try clear BK124)
    (try clear BK125)
    (try clear BK126)
    (try clear HB)
    generalize ((((((w23.setCell ⟨gb126, 0, none⟩ (.int .i64 (wrap64 ((wrap64 (2 * a0_0)) + 1)))).setCell ⟨gb126, 1, none⟩ (.int .i64 a0_2)).setCell ⟨gb126, 2, none⟩ (.int .i64 a0_3)).setCell ⟨gb126, 3, none⟩ (.int .i64 a0_4)).setCell ⟨gb126, 4, none⟩ (.int .i64 (Int.tmod (wrap64 (a0_5 + a1_0)) a0_4))).setCell ⟨gb126, 5, none⟩ (.int .i64 a1_1)) = w30 at n0_ n1_ n2_ n3_ n4_ n5_ n6_ ⊢
    have BK121 := n0_
    have BK122 := n1_
    have BK123 := n2_
    have BK124 := n3_
    have BK125 := n4_
    have BK126 := n5_
    have HB := n6_
    clear n0_ n1_ n2_ n3_ n4_ n5_ n6_
    have n0_ := Aside0.mk (blk_drew BK121.out)
    have n1_ := Aside0.mk (blk_drew BK122.out)
    have n2_ := Aside0.mk (blk_drew BK123.out)
    have n3_ := Aside0.mk (blk_drew BK124.out)
    have n4_ := Aside0.mk (blk_drew BK125.out)
    have n5_ := Aside0.mk (blk_drew BK126.out)
    have n6_ := Aside0.mk (below_drew1 HB.out)
    clear BK121
    clear BK122
    clear BK123
    clear BK124
    clear BK125
    clear BK126
    clear HB
    have BK121 := n0_
    have BK122 := n1_
    have BK123 := n2_
    have BK124 := n3_
    have BK125 := n4_
    have BK126 := n5_
    have HB := n6_
    clear n0_ n1_ n2_ n3_ n4_ n5_ n6_
    refine start_ (n := 4) (S := fun w' => w'.cell? ⟨gb125, 0, none⟩ = some (.int .i64 (wrap64 (2 * a0_0))) ∧ w'.cell? ⟨gb125, 1, none⟩ = some (.int .i64 a0_1) ∧ w'.cell? ⟨gb125, 2, none⟩ = some (.int .i64 a0_2) ∧ w'.cell? ⟨gb125, 3, none⟩ = some (.int .i64 a0_4) ∧ w'.cell? ⟨gb125, 4, none⟩ = some (.int .i64 a0_5) ∧ w'.cell? ⟨gb125, 5, none⟩ = some (.int .i64 a1_0) ∧ w'.cell? ⟨gb126, 0, none⟩ = some (.int .i64 (wrap64 ((wrap64 (2 * a0_0)) + 1))) ∧ w'.cell? ⟨gb126, 1, none⟩ = some (.int .i64 a0_2) ∧ w'.cell? ⟨gb126, 2, none⟩ = some (.int .i64 a0_3) ∧ w'.cell? ⟨gb126, 3, none⟩ = some (.int .i64 a0_4) ∧ w'.cell? ⟨gb126, 4, none⟩ = some (.int .i64 (Int.tmod (wrap64 (a0_5 + a1_0)) a0_4)) ∧ w'.cell? ⟨gb126, 5, none⟩ = some (.int .i64 a1_1)) (ds := []) #[false, false, false, false] (by kernel_rfl) rfl rfl ⟨(blk_cell BK125.out 0).trans rfl, (blk_cell BK125.out 1).trans rfl, (blk_cell BK125.out 2).trans rfl, (blk_cell BK125.out 3).trans rfl, (blk_cell BK125.out 4).trans rfl, (blk_cell BK125.out 5).trans rfl, (blk_cell BK126.out 0).trans rfl, (blk_cell BK126.out 1).trans rfl, (blk_cell BK126.out 2).trans rfl, (blk_cell BK126.out 3).trans rfl, (blk_cell BK126.out 4).trans rfl, (blk_cell BK126.out 5).trans rfl⟩ (fun hHeld => ?_)
    generalize w30.drew = w31 at BK121 BK122 BK123 BK124 BK125 BK126 HB hHeld ⊢
    refine take_ (i := 0) (N := some 43) (v := ?_) (a' := ?_) #[true, false, false, false] rfl rfl (by kernel_rfl) (fun _ _ _ h => h) (Or.inl ⟨by rfl, ?_⟩) hHeld ?_ ?_
    rotate_left
    · rintro w' ⟨s0, s1, s2, s3, s4, s5, s6, s7, s8, s9, s10, s11⟩
      go_simp
      with_reducible rfl
    rotate_left
    · simp only [Act.put, List.setIfInBounds_toArray, List.set_cons_zero, List.set_cons_succ, i64_w, i32_w]
      rfl
    refine take_ (i := 1) (N := some 44) (v := ?_) (a' := ?_) #[true, true, false, false] rfl rfl (by kernel_rfl) (fun _ _ _ h => h) (Or.inl ⟨by rfl, ?_⟩) hHeld ?_ ?_
    rotate_left
    · rintro w' ⟨s0, s1, s2, s3, s4, s5, s6, s7, s8, s9, s10, s11⟩
      go_simp
      with_reducible rfl
    rotate_left
    · simp only [Act.put, List.setIfInBounds_toArray, List.set_cons_zero, List.set_cons_succ, i64_w, i32_w]
      rfl
    refine one_ (i := 2) (N := none) #[true, true, true, false] rfl rfl (by kernel_rfl) (by decide) (fun K hK => ?_)
    have hs32 : w31.cell? ⟨gb123, 0, none⟩ = some (.int .i64 0) := (blk_cell BK123.out 0).trans rfl
    have hfs32 := blk_frozen BK123.out 0
    have hns32_0 := NB121_123.out
    have hns32_1 := NB122_123.out
    have hns32_3 := NB124_123.out
    have hns32_4 := NB125_123.out
    have hns32_5 := NB126_123.out
    have hms32_0 := NB123_121.out
    have hms32_1 := NB123_122.out
    have hms32_3 := NB123_124.out
    have hms32_4 := NB123_125.out
    have hms32_5 := NB123_126.out
    have hs33 : w31.cell? ⟨gb123, 1, none⟩ = some (.int .i64 0) := (blk_cell BK123.out 1).trans rfl
    have hfs33 := blk_frozen BK123.out 1
    have hns33_0 := NB121_123.out
    have hns33_1 := NB122_123.out
    have hns33_3 := NB124_123.out
    have hns33_4 := NB125_123.out
    have hns33_5 := NB126_123.out
    have hms33_0 := NB123_121.out
    have hms33_1 := NB123_122.out
    have hms33_3 := NB123_124.out
    have hms33_4 := NB123_125.out
    have hms33_5 := NB123_126.out
    have hs34 : w31.cell? ⟨gb123, 2, none⟩ = some (.int .i64 0) := (blk_cell BK123.out 2).trans rfl
    have hfs34 := blk_frozen BK123.out 2
    have hns34_0 := NB121_123.out
    have hns34_1 := NB122_123.out
    have hns34_3 := NB124_123.out
    have hns34_4 := NB125_123.out
    have hns34_5 := NB126_123.out
    have hms34_0 := NB123_121.out
    have hms34_1 := NB123_122.out
    have hms34_3 := NB123_124.out
    have hms34_4 := NB123_125.out
    have hms34_5 := NB123_126.out
    have hs35 : w31.cell? ⟨gb123, 3, none⟩ = some (.int .i64 0) := (blk_cell BK123.out 3).trans rfl
    have hfs35 := blk_frozen BK123.out 3
    have hns35_0 := NB121_123.out
    have hns35_1 := NB122_123.out
    have hns35_3 := NB124_123.out
    have hns35_4 := NB125_123.out
    have hns35_5 := NB126_123.out
    have hms35_0 := NB123_121.out
    have hms35_1 := NB123_122.out
    have hms35_3 := NB123_124.out
    have hms35_4 := NB123_125.out
    have hms35_5 := NB123_126.out
    have hs36 : w31.cell? ⟨gb123, 4, none⟩ = some (.int .i64 0) := (blk_cell BK123.out 4).trans rfl
    have hfs36 := blk_frozen BK123.out 4
    have hns36_0 := NB121_123.out
    have hns36_1 := NB122_123.out
    have hns36_3 := NB124_123.out
    have hns36_4 := NB125_123.out
    have hns36_5 := NB126_123.out
    have hms36_0 := NB123_121.out
    have hms36_1 := NB123_122.out
    have hms36_3 := NB123_124.out
    have hms36_4 := NB123_125.out
    have hms36_5 := NB123_126.out
    have hs37 : w31.cell? ⟨gb123, 5, none⟩ = some (.int .i64 0) := (blk_cell BK123.out 5).trans rfl
    have hfs37 := blk_frozen BK123.out 5
    have hns37_0 := NB121_123.out
    have hns37_1 := NB122_123.out
    have hns37_3 := NB124_123.out
    have hns37_4 := NB125_123.out
    have hns37_5 := NB126_123.out
    have hms37_0 := NB123_121.out
    have hms37_1 := NB123_122.out
    have hms37_3 := NB123_124.out
    have hms37_4 := NB123_125.out
    have hms37_5 := NB123_126.out
    refine skip_ (w1 := ?_) (by rfl) rfl ?_ ?_
    rotate_left
    · go_simp
      rfl
    refine hK.out _ _ ⟨((cell_far (p := ⟨gb123, _, none⟩) NB125_123.out _).trans (((cell_far (p := ⟨gb123, _, none⟩) NB125_123.out _).trans (((cell_far (p := ⟨gb123, _, none⟩) NB125_123.out _).trans (((cell_far (p := ⟨gb123, _, none⟩) NB125_123.out _).trans (((cell_far (p := ⟨gb123, _, none⟩) NB125_123.out _).trans (((cell_far (p := ⟨gb123, _, none⟩) NB125_123.out _).trans (hHeld.1)))))))))))), ((cell_far (p := ⟨gb123, _, none⟩) NB125_123.out _).trans (((cell_far (p := ⟨gb123, _, none⟩) NB125_123.out _).trans (((cell_far (p := ⟨gb123, _, none⟩) NB125_123.out _).trans (((cell_far (p := ⟨gb123, _, none⟩) NB125_123.out _).trans (((cell_far (p := ⟨gb123, _, none⟩) NB125_123.out _).trans (((cell_far (p := ⟨gb123, _, none⟩) NB125_123.out _).trans (hHeld.2.1)))))))))))), ((cell_far (p := ⟨gb123, _, none⟩) NB125_123.out _).trans (((cell_far (p := ⟨gb123, _, none⟩) NB125_123.out _).trans (((cell_far (p := ⟨gb123, _, none⟩) NB125_123.out _).trans (((cell_far (p := ⟨gb123, _, none⟩) NB125_123.out _).trans (((cell_far (p := ⟨gb123, _, none⟩) NB125_123.out _).trans (((cell_far (p := ⟨gb123, _, none⟩) NB125_123.out _).trans (hHeld.2.2.1)))))))))))), ((cell_far (p := ⟨gb123, _, none⟩) NB125_123.out _).trans (((cell_far (p := ⟨gb123, _, none⟩) NB125_123.out _).trans (((cell_far (p := ⟨gb123, _, none⟩) NB125_123.out _).trans (((cell_far (p := ⟨gb123, _, none⟩) NB125_123.out _).trans (((cell_far (p := ⟨gb123, _, none⟩) NB125_123.out _).trans (((cell_far (p := ⟨gb123, _, none⟩) NB125_123.out _).trans (hHeld.2.2.2.1)))))))))))), ((cell_far (p := ⟨gb123, _, none⟩) NB125_123.out _).trans (((cell_far (p := ⟨gb123, _, none⟩) NB125_123.out _).trans (((cell_far (p := ⟨gb123, _, none⟩) NB125_123.out _).trans (((cell_far (p := ⟨gb123, _, none⟩) NB125_123.out _).trans (((cell_far (p := ⟨gb123, _, none⟩) NB125_123.out _).trans (((cell_far (p := ⟨gb123, _, none⟩) NB125_123.out _).trans (hHeld.2.2.2.2.1)))))))))))), ((cell_far (p := ⟨gb123, _, none⟩) NB125_123.out _).trans (((cell_far (p := ⟨gb123, _, none⟩) NB125_123.out _).trans (((cell_far (p := ⟨gb123, _, none⟩) NB125_123.out _).trans (((cell_far (p := ⟨gb123, _, none⟩) NB125_123.out _).trans (((cell_far (p := ⟨gb123, _, none⟩) NB125_123.out _).trans (((cell_far (p := ⟨gb123, _, none⟩) NB125_123.out _).trans (hHeld.2.2.2.2.2.1)))))))))))), ((cell_far (p := ⟨gb123, _, none⟩) NB126_123.out _).trans (((cell_far (p := ⟨gb123, _, none⟩) NB126_123.out _).trans (((cell_far (p := ⟨gb123, _, none⟩) NB126_123.out _).trans (((cell_far (p := ⟨gb123, _, none⟩) NB126_123.out _).trans (((cell_far (p := ⟨gb123, _, none⟩) NB126_123.out _).trans (((cell_far (p := ⟨gb123, _, none⟩) NB126_123.out _).trans (hHeld.2.2.2.2.2.2.1)))))))))))), ((cell_far (p := ⟨gb123, _, none⟩) NB126_123.out _).trans (((cell_far (p := ⟨gb123, _, none⟩) NB126_123.out _).trans (((cell_far (p := ⟨gb123, _, none⟩) NB126_123.out _).trans (((cell_far (p := ⟨gb123, _, none⟩) NB126_123.out _).trans (((cell_far (p := ⟨gb123, _, none⟩) NB126_123.out _).trans (((cell_far (p := ⟨gb123, _, none⟩) NB126_123.out _).trans (hHeld.2.2.2.2.2.2.2.1)))))))))))), ((cell_far (p := ⟨gb123, _, none⟩) NB126_123.out _).trans (((cell_far (p := ⟨gb123, _, none⟩) NB126_123.out _).trans (((cell_far (p := ⟨gb123, _, none⟩) NB126_123.out _).trans (((cell_far (p := ⟨gb123, _, none⟩) NB126_123.out _).trans (((cell_far (p := ⟨gb123, _, none⟩) NB126_123.out _).trans (((cell_far (p := ⟨gb123, _, none⟩) NB126_123.out _).trans (hHeld.2.2.2.2.2.2.2.2.1)))))))))))), ((cell_far (p := ⟨gb123, _, none⟩) NB126_123.out _).trans (((cell_far (p := ⟨gb123, _, none⟩) NB126_123.out _).trans (((cell_far (p := ⟨gb123, _, none⟩) NB126_123.out _).trans (((cell_far (p := ⟨gb123, _, none⟩) NB126_123.out _).trans (((cell_far (p := ⟨gb123, _, none⟩) NB126_123.out _).trans (((cell_far (p := ⟨gb123, _, none⟩) NB126_123.out _).trans (hHeld.2.2.2.2.2.2.2.2.2.1)))))))))))), ((cell_far (p := ⟨gb123, _, none⟩) NB126_123.out _).trans (((cell_far (p := ⟨gb123, _, none⟩) NB126_123.out _).trans (((cell_far (p := ⟨gb123, _, none⟩) NB126_123.out _).trans (((cell_far (p := ⟨gb123, _, none⟩) NB126_123.out _).trans (((cell_far (p := ⟨gb123, _, none⟩) NB126_123.out _).trans (((cell_far (p := ⟨gb123, _, none⟩) NB126_123.out _).trans (hHeld.2.2.2.2.2.2.2.2.2.2.1)))))))))))), ((cell_far (p := ⟨gb123, _, none⟩) NB126_123.out _).trans (((cell_far (p := ⟨gb123, _, none⟩) NB126_123.out _).trans (((cell_far (p := ⟨gb123, _, none⟩) NB126_123.out _).trans (((cell_far (p := ⟨gb123, _, none⟩) NB126_123.out _).trans (((cell_far (p := ⟨gb123, _, none⟩) NB126_123.out _).trans (((cell_far (p := ⟨gb123, _, none⟩) NB126_123.out _).trans (hHeld.2.2.2.2.2.2.2.2.2.2.2))))))))))))⟩ (fun hHeld => ?_)
    clear hK K
    refine one_ (i := 3) (N := none) #[true, true, true, true] rfl rfl (by kernel_rfl) (by decide) (fun K hK => ?_)
    have hs38 : w31.cell? ⟨gb124, 0, none⟩ = some (.int .i64 0) := (blk_cell BK124.out 0).trans rfl
    have hfs38 := blk_frozen BK124.out 0
    have hns38_0 := NB121_124.out
    have hns38_1 := NB122_124.out
    have hns38_2 := NB123_124.out
    have hns38_4 := NB125_124.out
    have hns38_5 := NB126_124.out
    have hms38_0 := NB124_121.out
    have hms38_1 := NB124_122.out
    have hms38_2 := NB124_123.out
    have hms38_4 := NB124_125.out
    have hms38_5 := NB124_126.out
    have hs39 : w31.cell? ⟨gb124, 1, none⟩ = some (.int .i64 0) := (blk_cell BK124.out 1).trans rfl
    have hfs39 := blk_frozen BK124.out 1
    have hns39_0 := NB121_124.out
    have hns39_1 := NB122_124.out
    have hns39_2 := NB123_124.out
    have hns39_4 := NB125_124.out
    have hns39_5 := NB126_124.out
    have hms39_0 := NB124_121.out
    have hms39_1 := NB124_122.out
    have hms39_2 := NB124_123.out
    have hms39_4 := NB124_125.out
    have hms39_5 := NB124_126.out
    have hs40 : w31.cell? ⟨gb124, 2, none⟩ = some (.int .i64 0) := (blk_cell BK124.out 2).trans rfl
    have hfs40 := blk_frozen BK124.out 2
    have hns40_0 := NB121_124.out
    have hns40_1 := NB122_124.out
    have hns40_2 := NB123_124.out
    have hns40_4 := NB125_124.out
    have hns40_5 := NB126_124.out
    have hms40_0 := NB124_121.out
    have hms40_1 := NB124_122.out
    have hms40_2 := NB124_123.out
    have hms40_4 := NB124_125.out
    have hms40_5 := NB124_126.out
    have hs41 : w31.cell? ⟨gb124, 3, none⟩ = some (.int .i64 0) := (blk_cell BK124.out 3).trans rfl
    have hfs41 := blk_frozen BK124.out 3
    have hns41_0 := NB121_124.out
    have hns41_1 := NB122_124.out
    have hns41_2 := NB123_124.out
    have hns41_4 := NB125_124.out
    have hns41_5 := NB126_124.out
    have hms41_0 := NB124_121.out
    have hms41_1 := NB124_122.out
    have hms41_2 := NB124_123.out
    have hms41_4 := NB124_125.out
    have hms41_5 := NB124_126.out
    have hs42 : w31.cell? ⟨gb124, 4, none⟩ = some (.int .i64 0) := (blk_cell BK124.out 4).trans rfl
    have hfs42 := blk_frozen BK124.out 4
    have hns42_0 := NB121_124.out
    have hns42_1 := NB122_124.out
    have hns42_2 := NB123_124.out
    have hns42_4 := NB125_124.out
    have hns42_5 := NB126_124.out
    have hms42_0 := NB124_121.out
    have hms42_1 := NB124_122.out
    have hms42_2 := NB124_123.out
    have hms42_4 := NB124_125.out
    have hms42_5 := NB124_126.out
    have hs43 : w31.cell? ⟨gb124, 5, none⟩ = some (.int .i64 0) := (blk_cell BK124.out 5).trans rfl
    have hfs43 := blk_frozen BK124.out 5
    have hns43_0 := NB121_124.out
    have hns43_1 := NB122_124.out
    have hns43_2 := NB123_124.out
    have hns43_4 := NB125_124.out
    have hns43_5 := NB126_124.out
    have hms43_0 := NB124_121.out
    have hms43_1 := NB124_122.out
    have hms43_2 := NB124_123.out
    have hms43_4 := NB124_125.out
    have hms43_5 := NB124_126.out
    refine skip_ (w1 := ?_) (by rfl) rfl ?_ ?_
    rotate_left
    · go_simp
      rfl
    refine hK.out _ _ ⟨((cell_far (p := ⟨gb124, _, none⟩) NB125_124.out _).trans (((cell_far (p := ⟨gb124, _, none⟩) NB125_124.out _).trans (((cell_far (p := ⟨gb124, _, none⟩) NB125_124.out _).trans (((cell_far (p := ⟨gb124, _, none⟩) NB125_124.out _).trans (((cell_far (p := ⟨gb124, _, none⟩) NB125_124.out _).trans (((cell_far (p := ⟨gb124, _, none⟩) NB125_124.out _).trans (hHeld.1)))))))))))), ((cell_far (p := ⟨gb124, _, none⟩) NB125_124.out _).trans (((cell_far (p := ⟨gb124, _, none⟩) NB125_124.out _).trans (((cell_far (p := ⟨gb124, _, none⟩) NB125_124.out _).trans (((cell_far (p := ⟨gb124, _, none⟩) NB125_124.out _).trans (((cell_far (p := ⟨gb124, _, none⟩) NB125_124.out _).trans (((cell_far (p := ⟨gb124, _, none⟩) NB125_124.out _).trans (hHeld.2.1)))))))))))), ((cell_far (p := ⟨gb124, _, none⟩) NB125_124.out _).trans (((cell_far (p := ⟨gb124, _, none⟩) NB125_124.out _).trans (((cell_far (p := ⟨gb124, _, none⟩) NB125_124.out _).trans (((cell_far (p := ⟨gb124, _, none⟩) NB125_124.out _).trans (((cell_far (p := ⟨gb124, _, none⟩) NB125_124.out _).trans (((cell_far (p := ⟨gb124, _, none⟩) NB125_124.out _).trans (hHeld.2.2.1)))))))))))), ((cell_far (p := ⟨gb124, _, none⟩) NB125_124.out _).trans (((cell_far (p := ⟨gb124, _, none⟩) NB125_124.out _).trans (((cell_far (p := ⟨gb124, _, none⟩) NB125_124.out _).trans (((cell_far (p := ⟨gb124, _, none⟩) NB125_124.out _).trans (((cell_far (p := ⟨gb124, _, none⟩) NB125_124.out _).trans (((cell_far (p := ⟨gb124, _, none⟩) NB125_124.out _).trans (hHeld.2.2.2.1)))))))))))), ((cell_far (p := ⟨gb124, _, none⟩) NB125_124.out _).trans (((cell_far (p := ⟨gb124, _, none⟩) NB125_124.out _).trans (((cell_far (p := ⟨gb124, _, none⟩) NB125_124.out _).trans (((cell_far (p := ⟨gb124, _, none⟩) NB125_124.out _).trans (((cell_far (p := ⟨gb124, _, none⟩) NB125_124.out _).trans (((cell_far (p := ⟨gb124, _, none⟩) NB125_124.out _).trans (hHeld.2.2.2.2.1)))))))))))), ((cell_far (p := ⟨gb124, _, none⟩) NB125_124.out _).trans (((cell_far (p := ⟨gb124, _, none⟩) NB125_124.out _).trans (((cell_far (p := ⟨gb124, _, none⟩) NB125_124.out _).trans (((cell_far (p := ⟨gb124, _, none⟩) NB125_124.out _).trans (((cell_far (p := ⟨gb124, _, none⟩) NB125_124.out _).trans (((cell_far (p := ⟨gb124, _, none⟩) NB125_124.out _).trans (hHeld.2.2.2.2.2.1)))))))))))), ((cell_far (p := ⟨gb124, _, none⟩) NB126_124.out _).trans (((cell_far (p := ⟨gb124, _, none⟩) NB126_124.out _).trans (((cell_far (p := ⟨gb124, _, none⟩) NB126_124.out _).trans (((cell_far (p := ⟨gb124, _, none⟩) NB126_124.out _).trans (((cell_far (p := ⟨gb124, _, none⟩) NB126_124.out _).trans (((cell_far (p := ⟨gb124, _, none⟩) NB126_124.out _).trans (hHeld.2.2.2.2.2.2.1)))))))))))), ((cell_far (p := ⟨gb124, _, none⟩) NB126_124.out _).trans (((cell_far (p := ⟨gb124, _, none⟩) NB126_124.out _).trans (((cell_far (p := ⟨gb124, _, none⟩) NB126_124.out _).trans (((cell_far (p := ⟨gb124, _, none⟩) NB126_124.out _).trans (((cell_far (p := ⟨gb124, _, none⟩) NB126_124.out _).trans (((cell_far (p := ⟨gb124, _, none⟩) NB126_124.out _).trans (hHeld.2.2.2.2.2.2.2.1)))))))))))), ((cell_far (p := ⟨gb124, _, none⟩) NB126_124.out _).trans (((cell_far (p := ⟨gb124, _, none⟩) NB126_124.out _).trans (((cell_far (p := ⟨gb124, _, none⟩) NB126_124.out _).trans (((cell_far (p := ⟨gb124, _, none⟩) NB126_124.out _).trans (((cell_far (p := ⟨gb124, _, none⟩) NB126_124.out _).trans (((cell_far (p := ⟨gb124, _, none⟩) NB126_124.out _).trans (hHeld.2.2.2.2.2.2.2.2.1)))))))))))), ((cell_far (p := ⟨gb124, _, none⟩) NB126_124.out _).trans (((cell_far (p := ⟨gb124, _, none⟩) NB126_124.out _).trans (((cell_far (p := ⟨gb124, _, none⟩) NB126_124.out _).trans (((cell_far (p := ⟨gb124, _, none⟩) NB126_124.out _).trans (((cell_far (p := ⟨gb124, _, none⟩) NB126_124.out _).trans (((cell_far (p := ⟨gb124, _, none⟩) NB126_124.out _).trans (hHeld.2.2.2.2.2.2.2.2.2.1)))))))))))), ((cell_far (p := ⟨gb124, _, none⟩) NB126_124.out _).trans (((cell_far (p := ⟨gb124, _, none⟩) NB126_124.out _).trans (((cell_far (p := ⟨gb124, _, none⟩) NB126_124.out _).trans (((cell_far (p := ⟨gb124, _, none⟩) NB126_124.out _).trans (((cell_far (p := ⟨gb124, _, none⟩) NB126_124.out _).trans (((cell_far (p := ⟨gb124, _, none⟩) NB126_124.out _).trans (hHeld.2.2.2.2.2.2.2.2.2.2.1)))))))))))), ((cell_far (p := ⟨gb124, _, none⟩) NB126_124.out _).trans (((cell_far (p := ⟨gb124, _, none⟩) NB126_124.out _).trans (((cell_far (p := ⟨gb124, _, none⟩) NB126_124.out _).trans (((cell_far (p := ⟨gb124, _, none⟩) NB126_124.out _).trans (((cell_far (p := ⟨gb124, _, none⟩) NB126_124.out _).trans (((cell_far (p := ⟨gb124, _, none⟩) NB126_124.out _).trans (hHeld.2.2.2.2.2.2.2.2.2.2.2))))))))))))⟩ (fun hHeld => ?_)
    clear hK K
    refine done_ (by kernel_rfl) ?_
    try go_wp2
    refine bodyPost_ret (results_cc rfl _ _ gb123 gb124 39 39 #[.int .i64 (wrap64 (2 * a0_0)), .int .i64 a0_1, .int .i64 a0_2, .int .i64 a0_4, .int .i64 a0_5, .int .i64 a1_0] #[.int .i64 (wrap64 ((wrap64 (2 * a0_0)) + 1)), .int .i64 a0_2, .int .i64 a0_3, .int .i64 a0_4, .int .i64 (Int.tmod (wrap64 (a0_5 + a1_0)) a0_4), .int .i64 a1_1] (0, 0) (0, 0) _ _ rfl (by (with_reducible repeat (first | refine blk_drewN ?_ _ | refine blk_drew ?_ | refine blk_alloc ?_ _)); refine blk_far ?_ NB123_124.out _; (with_reducible repeat (first | refine blk_drewN ?_ _ | refine blk_drew ?_ | refine blk_alloc ?_ _)); refine blk_far ?_ NB123_124.out _; (with_reducible repeat (first | refine blk_drewN ?_ _ | refine blk_drew ?_ | refine blk_alloc ?_ _)); refine blk_far ?_ NB123_124.out _; (with_reducible repeat (first | refine blk_drewN ?_ _ | refine blk_drew ?_ | refine blk_alloc ?_ _)); refine blk_far ?_ NB123_124.out _; (with_reducible repeat (first | refine blk_drewN ?_ _ | refine blk_drew ?_ | refine blk_alloc ?_ _)); refine blk_far ?_ NB123_124.out _; (with_reducible repeat (first | refine blk_drewN ?_ _ | refine blk_drew ?_ | refine blk_alloc ?_ _)); refine blk_far ?_ NB123_124.out _; (with_reducible repeat (first | refine blk_drewN ?_ _ | refine blk_drew ?_ | refine blk_alloc ?_ _)); refine blk_put (cs := #[.int .i64 (wrap64 (2 * a0_0)), .int .i64 a0_1, .int .i64 a0_2, .int .i64 a0_4, .int .i64 a0_5, .int .i64 0]) ?_ 5 _ rfl; (with_reducible repeat (first | refine blk_drewN ?_ _ | refine blk_drew ?_ | refine blk_alloc ?_ _)); refine blk_put (cs := #[.int .i64 (wrap64 (2 * a0_0)), .int .i64 a0_1, .int .i64 a0_2, .int .i64 a0_4, .int .i64 0, .int .i64 0]) ?_ 4 _ rfl; (with_reducible repeat (first | refine blk_drewN ?_ _ | refine blk_drew ?_ | refine blk_alloc ?_ _)); refine blk_put (cs := #[.int .i64 (wrap64 (2 * a0_0)), .int .i64 a0_1, .int .i64 a0_2, .int .i64 0, .int .i64 0, .int .i64 0]) ?_ 3 _ rfl; (with_reducible repeat (first | refine blk_drewN ?_ _ | refine blk_drew ?_ | refine blk_alloc ?_ _)); refine blk_put (cs := #[.int .i64 (wrap64 (2 * a0_0)), .int .i64 a0_1, .int .i64 0, .int .i64 0, .int .i64 0, .int .i64 0]) ?_ 2 _ rfl; (with_reducible repeat (first | refine blk_drewN ?_ _ | refine blk_drew ?_ | refine blk_alloc ?_ _)); refine blk_put (cs := #[.int .i64 (wrap64 (2 * a0_0)), .int .i64 0, .int .i64 0, .int .i64 0, .int .i64 0, .int .i64 0]) ?_ 1 _ rfl; (with_reducible repeat (first | refine blk_drewN ?_ _ | refine blk_drew ?_ | refine blk_alloc ?_ _)); refine blk_put (cs := #[.int .i64 0, .int .i64 0, .int .i64 0, .int .i64 0, .int .i64 0, .int .i64 0]) ?_ 0 _ rfl; (with_reducible repeat (first | refine blk_drewN ?_ _ | refine blk_drew ?_ | refine blk_alloc ?_ _)); exact BK123.out) Try.underlying39 rfl (by kernel_rfl) rfl (by (with_reducible repeat (first | refine blk_drewN ?_ _ | refine blk_drew ?_ | refine blk_alloc ?_ _)); refine blk_put (cs := #[.int .i64 (wrap64 ((wrap64 (2 * a0_0)) + 1)), .int .i64 a0_2, .int .i64 a0_3, .int .i64 a0_4, .int .i64 (Int.tmod (wrap64 (a0_5 + a1_0)) a0_4), .int .i64 0]) ?_ 5 _ rfl; (with_reducible repeat (first | refine blk_drewN ?_ _ | refine blk_drew ?_ | refine blk_alloc ?_ _)); refine blk_put (cs := #[.int .i64 (wrap64 ((wrap64 (2 * a0_0)) + 1)), .int .i64 a0_2, .int .i64 a0_3, .int .i64 a0_4, .int .i64 0, .int .i64 0]) ?_ 4 _ rfl; (with_reducible repeat (first | refine blk_drewN ?_ _ | refine blk_drew ?_ | refine blk_alloc ?_ _)); refine blk_put (cs := #[.int .i64 (wrap64 ((wrap64 (2 * a0_0)) + 1)), .int .i64 a0_2, .int .i64 a0_3, .int .i64 0, .int .i64 0, .int .i64 0]) ?_ 3 _ rfl; (with_reducible repeat (first | refine blk_drewN ?_ _ | refine blk_drew ?_ | refine blk_alloc ?_ _)); refine blk_put (cs := #[.int .i64 (wrap64 ((wrap64 (2 * a0_0)) + 1)), .int .i64 a0_2, .int .i64 0, .int .i64 0, .int .i64 0, .int .i64 0]) ?_ 2 _ rfl; (with_reducible repeat (first | refine blk_drewN ?_ _ | refine blk_drew ?_ | refine blk_alloc ?_ _)); refine blk_put (cs := #[.int .i64 (wrap64 ((wrap64 (2 * a0_0)) + 1)), .int .i64 0, .int .i64 0, .int .i64 0, .int .i64 0, .int .i64 0]) ?_ 1 _ rfl; (with_reducible repeat (first | refine blk_drewN ?_ _ | refine blk_drew ?_ | refine blk_alloc ?_ _)); refine blk_put (cs := #[.int .i64 0, .int .i64 0, .int .i64 0, .int .i64 0, .int .i64 0, .int .i64 0]) ?_ 0 _ rfl; (with_reducible repeat (first | refine blk_drewN ?_ _ | refine blk_drew ?_ | refine blk_alloc ?_ _)); refine blk_far ?_ NB124_123.out _; (with_reducible repeat (first | refine blk_drewN ?_ _ | refine blk_drew ?_ | refine blk_alloc ?_ _)); refine blk_far ?_ NB124_123.out _; (with_reducible repeat (first | refine blk_drewN ?_ _ | refine blk_drew ?_ | refine blk_alloc ?_ _)); refine blk_far ?_ NB124_123.out _; (with_reducible repeat (first | refine blk_drewN ?_ _ | refine blk_drew ?_ | refine blk_alloc ?_ _)); refine blk_far ?_ NB124_123.out _; (with_reducible repeat (first | refine blk_drewN ?_ _ | refine blk_drew ?_ | refine blk_alloc ?_ _)); refine blk_far ?_ NB124_123.out _; (with_reducible repeat (first | refine blk_drewN ?_ _ | refine blk_drew ?_ | refine blk_alloc ?_ _)); refine blk_far ?_ NB124_123.out _; (with_reducible repeat (first | refine blk_drewN ?_ _ | refine blk_drew ?_ | refine blk_alloc ?_ _)); exact BK124.out) Try.underlying39 rfl (by kernel_rfl)) rfl ?_
    exact ⟨by first | rfl | (simp [errW_none, errW_some] <;> rfl) | (simp [*, errW_none, errW_some] <;> rfl), by repeat (first | (with_reducible first | exact HB.out | apply below_alloc | apply pw_below_drewN | apply below_drew1 | refine below_set ?_ GE121.out | refine below_set ?_ GE122.out | refine below_set ?_ GE123.out | refine below_set ?_ GE124.out | refine below_set ?_ GE125.out | refine below_set ?_ GE126.out) | exact HB.out)⟩

end Go.Proofs.Ytnjljajopdpjjaa.PX
