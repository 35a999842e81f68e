-- Written by wip/xprint.py, a program of this claim's own, over the kit's print program. Lean checks it.
import Derived.Test.YtnjljajopdpjjaaPXx0
import Derived.Test.YtnjljajopdpjjaaPXx20
import Derived.Test.YtnjljajopdpjjaaPXx21
import Derived.Test.YtnjljajopdpjjaaPXx22
import Derived.Test.YtnjljajopdpjjaaPXx23
namespace Go.Proofs.Ytnjljajopdpjjaa.PX
open Go.RowKit Go.Proofs.YtnjljajopdpjjaaW.PrintWords Go.Proofs.YtnjljajopdpjjaaW.PrintLast Go.Proofs.YtnjljajopdpjjaaW.PrintMore
attribute [local go_sem] max2_int min2_int max_two min_two max_three min_three max_four min_four   -- for this text's walks alone
set_option linter.unusedVariables false
set_option linter.unusedSimpArgs false

/-! ### hopmeshref50_Ages: function 20 -/
mutual
def hopmeshref50_Ages.j0 : Nat → List (S34) → Int → Bool → Int → Int → Int → Int → Int → Int → Int → Int → Int → Option (List Int × Int)
  | 0, _, _, _, _, _, _, _, _, _, _, _, _ => none
  | k + 1, x2, x3, x23, x244000, x244001, x244002, x244003, x244004, x244005, x244006, x245000, x245001 => if x23 = true then (some (([] : List Int), 2)) else (if (x2.length : Int) > 1024 then (some (([] : List Int), 8)) else ((hopmeshref50_flows.f x244000 x244001 x244002 x244003 x244004 x244005 x244006 x245000 x245001).bind fun t246 => (if 0 ≤ x3 then (if (x3 : Int).toNat ≤ 35184372088832 then (hopmeshref50_Ages.l0 k x2 x3 t246 (List.replicate (x3 : Int).toNat 0) 0 x244000 x244001 x244002 x244003 x244004 x244005 x244006) else (none)) else (none))))
def hopmeshref50_Ages.l0 : Nat → List (S34) → Int → List (S39) → List Int → Int → Int → Int → Int → Int → Int → Int → Int → Option (List Int × Int)
  | 0, _, _, _, _, _, _, _, _, _, _, _, _ => none
  | k + 1, x2, x3, x11, x12, x13, x244000, x244001, x244002, x244003, x244004, x244005, x244006 => if x13 < x3 then (hopmeshref50_Ages.l1 k x2 x3 x11 x12 x13 (-1) 0 x244000 x244001 x244002 x244003 x244004 x244005 x244006) else (some (x12, 0))
def hopmeshref50_Ages.l1 : Nat → List (S34) → Int → List (S39) → List Int → Int → Int → Int → Int → Int → Int → Int → Int → Int → Int → Option (List Int × Int)
  | 0, _, _, _, _, _, _, _, _, _, _, _, _, _, _ => none
  | k + 1, x2, x3, x11, x12, x13, x14, x15, x244000, x244001, x244002, x244003, x244004, x244005, x244006 => if x15 < (x2.length : Int) then (if 1 < (x11.length : Int) then ((hopmeshref50_counts.f k ((rd_T39 x11 1).f0) ((rd_T39 x11 1).f1) ((rd_T39 x11 1).f2) ((rd_T39 x11 1).f3) ((rd_T39 x11 1).f4) ((rd_T39 x11 1).f5) x2 x15).bind fun t255 => (if t255 = true then (if 0 ≤ x15 then (if ((rd_T34 x2 x15).f2) < x13 then ((hopmeshref50_carries.f k x11 x2 ((rd_T34 x2 x15).f1)).bind fun t258 => (hopmeshref50_Ages.l1 k x2 x3 x11 x12 x13 (mx x14 t258) (wrap64 (x15 + 1)) x244000 x244001 x244002 x244003 x244004 x244005 x244006)) else (hopmeshref50_Ages.l1 k x2 x3 x11 x12 x13 x14 (wrap64 (x15 + 1)) x244000 x244001 x244002 x244003 x244004 x244005 x244006)) else (none)) else (hopmeshref50_Ages.l1 k x2 x3 x11 x12 x13 x14 (wrap64 (x15 + 1)) x244000 x244001 x244002 x244003 x244004 x244005 x244006))) else (none)) else (if 0 ≤ x13 then (if x13 < (x12.length : Int) then ((some (x12.set (x13 : Int).toNat (-1) : List Int)).bind fun y252 => (if x14 ≥ 0 then (hopmeshref50_Ages.l0 k x2 x3 x11 (y252.set (x13 : Int).toNat (wrap64 (x13 - (wrap64 (x244005 + (wrap64 (x14 * x244004))))))) (wrap64 (x13 + 1)) x244000 x244001 x244002 x244003 x244004 x244005 x244006) else (hopmeshref50_Ages.l0 k x2 x3 x11 y252 (wrap64 (x13 + 1)) x244000 x244001 x244002 x244003 x244004 x244005 x244006))) else (none)) else (none))
end
def hopmeshref50_Ages.f (k : Nat) (a0_0 : Int) (a0_1 : Int) (a0_2 : Int) (a0_3 : Int) (a0_4 : Int) (a0_5 : Int) (a0_6 : Int) (a1_0 : Int) (a1_1 : Int) (l2 : List (S34)) (a3 : Int) : Option (List Int × Int) := (hopmeshref50_check.f k a0_0 a0_1 a0_2 a0_3 a0_4 a0_5 a0_6 a1_0 a1_1).bind fun t245 => (if t245 = 0 then (if a3 < 0 then (hopmeshref50_Ages.j0 k l2 a3 true a0_0 a0_1 a0_2 a0_3 a0_4 a0_5 a0_6 a1_0 a1_1) else (hopmeshref50_Ages.j0 k l2 a3 (decide (a3 > 4096)) a0_0 a0_1 a0_2 a0_3 a0_4 a0_5 a0_6 a1_0 a1_1)) else (some (([] : List Int), t245)))
theorem hopmeshref50_Ages.mono_l : ∀ k, (∀ y0 y1 y2 y3 y4 y5 y6 y7 y8 y9 y10 y11, LeO (hopmeshref50_Ages.j0 k y0 y1 y2 y3 y4 y5 y6 y7 y8 y9 y10 y11) (hopmeshref50_Ages.j0 (k + 1) y0 y1 y2 y3 y4 y5 y6 y7 y8 y9 y10 y11)) ∧ (∀ y0 y1 y2 y3 y4 y5 y6 y7 y8 y9 y10 y11, LeO (hopmeshref50_Ages.l0 k y0 y1 y2 y3 y4 y5 y6 y7 y8 y9 y10 y11) (hopmeshref50_Ages.l0 (k + 1) y0 y1 y2 y3 y4 y5 y6 y7 y8 y9 y10 y11)) ∧ (∀ y0 y1 y2 y3 y4 y5 y6 y7 y8 y9 y10 y11 y12 y13, LeO (hopmeshref50_Ages.l1 k y0 y1 y2 y3 y4 y5 y6 y7 y8 y9 y10 y11 y12 y13) (hopmeshref50_Ages.l1 (k + 1) y0 y1 y2 y3 y4 y5 y6 y7 y8 y9 y10 y11 y12 y13))
  | 0 => ⟨fun _ _ _ _ _ _ _ _ _ _ _ _ r h => by simp [hopmeshref50_Ages.j0] at h, fun _ _ _ _ _ _ _ _ _ _ _ _ r h => by simp [hopmeshref50_Ages.l0] at h, fun _ _ _ _ _ _ _ _ _ _ _ _ _ _ r h => by simp [hopmeshref50_Ages.l1] at h⟩
  | k + 1 => by
    obtain ⟨ih0, ih1, ih2⟩ := hopmeshref50_Ages.mono_l k
    refine ⟨?_, ?_, ?_⟩
    · intro y0 y1 y2 y3 y4 y5 y6 y7 y8 y9 y10 y11
      unfold hopmeshref50_Ages.j0
      repeat' first
      | (with_reducible exact ih0 _ _ _ _ _ _ _ _ _ _ _ _)
      | (with_reducible exact ih1 _ _ _ _ _ _ _ _ _ _ _ _)
      | (with_reducible exact ih2 _ _ _ _ _ _ _ _ _ _ _ _ _ _)
      | (with_reducible exact hopmeshref50_carries.mono _ _ _ _)
      | (with_reducible exact hopmeshref50_check.mono _ _ _ _ _ _ _ _ _ _)
      | (with_reducible exact hopmeshref50_counts.mono _ _ _ _ _ _ _ _ _)
      | (with_reducible exact LeO.refl _)
      | (with_reducible exact LeO.none _)
      | (with_reducible refine LeO.ite ?_ ?_)
      | (with_reducible refine LeO.bind ?_ (fun _ => ?_))
      | exact ih0 _ _ _ _ _ _ _ _ _ _ _ _
      | exact ih1 _ _ _ _ _ _ _ _ _ _ _ _
      | exact ih2 _ _ _ _ _ _ _ _ _ _ _ _ _ _
      | exact hopmeshref50_carries.mono _ _ _ _
      | exact hopmeshref50_check.mono _ _ _ _ _ _ _ _ _ _
      | exact hopmeshref50_counts.mono _ _ _ _ _ _ _ _ _
      | exact LeO.none _
      | refine LeO.ite ?_ ?_
      | refine LeO.bind ?_ (fun _ => ?_)
    · intro y0 y1 y2 y3 y4 y5 y6 y7 y8 y9 y10 y11
      unfold hopmeshref50_Ages.l0
      repeat' first
      | (with_reducible exact ih0 _ _ _ _ _ _ _ _ _ _ _ _)
      | (with_reducible exact ih1 _ _ _ _ _ _ _ _ _ _ _ _)
      | (with_reducible exact ih2 _ _ _ _ _ _ _ _ _ _ _ _ _ _)
      | (with_reducible exact hopmeshref50_carries.mono _ _ _ _)
      | (with_reducible exact hopmeshref50_check.mono _ _ _ _ _ _ _ _ _ _)
      | (with_reducible exact hopmeshref50_counts.mono _ _ _ _ _ _ _ _ _)
      | (with_reducible exact LeO.refl _)
      | (with_reducible exact LeO.none _)
      | (with_reducible refine LeO.ite ?_ ?_)
      | (with_reducible refine LeO.bind ?_ (fun _ => ?_))
      | exact ih0 _ _ _ _ _ _ _ _ _ _ _ _
      | exact ih1 _ _ _ _ _ _ _ _ _ _ _ _
      | exact ih2 _ _ _ _ _ _ _ _ _ _ _ _ _ _
      | exact hopmeshref50_carries.mono _ _ _ _
      | exact hopmeshref50_check.mono _ _ _ _ _ _ _ _ _ _
      | exact hopmeshref50_counts.mono _ _ _ _ _ _ _ _ _
      | exact LeO.none _
      | refine LeO.ite ?_ ?_
      | refine LeO.bind ?_ (fun _ => ?_)
    · intro y0 y1 y2 y3 y4 y5 y6 y7 y8 y9 y10 y11 y12 y13
      unfold hopmeshref50_Ages.l1
      repeat' first
      | (with_reducible exact ih0 _ _ _ _ _ _ _ _ _ _ _ _)
      | (with_reducible exact ih1 _ _ _ _ _ _ _ _ _ _ _ _)
      | (with_reducible exact ih2 _ _ _ _ _ _ _ _ _ _ _ _ _ _)
      | (with_reducible exact hopmeshref50_carries.mono _ _ _ _)
      | (with_reducible exact hopmeshref50_check.mono _ _ _ _ _ _ _ _ _ _)
      | (with_reducible exact hopmeshref50_counts.mono _ _ _ _ _ _ _ _ _)
      | (with_reducible exact LeO.refl _)
      | (with_reducible exact LeO.none _)
      | (with_reducible refine LeO.ite ?_ ?_)
      | (with_reducible refine LeO.bind ?_ (fun _ => ?_))
      | exact ih0 _ _ _ _ _ _ _ _ _ _ _ _
      | exact ih1 _ _ _ _ _ _ _ _ _ _ _ _
      | exact ih2 _ _ _ _ _ _ _ _ _ _ _ _ _ _
      | exact hopmeshref50_carries.mono _ _ _ _
      | exact hopmeshref50_check.mono _ _ _ _ _ _ _ _ _ _
      | exact hopmeshref50_counts.mono _ _ _ _ _ _ _ _ _
      | exact LeO.none _
      | refine LeO.ite ?_ ?_
      | refine LeO.bind ?_ (fun _ => ?_)
theorem hopmeshref50_Ages.mono : ∀ a0 a1 a2 a3 a4 a5 a6 a7 a8 a9 a10 k, LeO (hopmeshref50_Ages.f k a0 a1 a2 a3 a4 a5 a6 a7 a8 a9 a10) (hopmeshref50_Ages.f (k + 1) a0 a1 a2 a3 a4 a5 a6 a7 a8 a9 a10) := by
  intro a0 a1 a2 a3 a4 a5 a6 a7 a8 a9 a10 k
  obtain ⟨ih0, ih1, ih2⟩ := hopmeshref50_Ages.mono_l k
  unfold hopmeshref50_Ages.f
  repeat' first
      | (with_reducible exact ih0 _ _ _ _ _ _ _ _ _ _ _ _)
      | (with_reducible exact ih1 _ _ _ _ _ _ _ _ _ _ _ _)
      | (with_reducible exact ih2 _ _ _ _ _ _ _ _ _ _ _ _ _ _)
      | (with_reducible exact hopmeshref50_carries.mono _ _ _ _)
      | (with_reducible exact hopmeshref50_check.mono _ _ _ _ _ _ _ _ _ _)
      | (with_reducible exact hopmeshref50_counts.mono _ _ _ _ _ _ _ _ _)
      | (with_reducible exact LeO.refl _)
      | (with_reducible exact LeO.none _)
      | (with_reducible refine LeO.ite ?_ ?_)
      | (with_reducible refine LeO.bind ?_ (fun _ => ?_))
      | exact ih0 _ _ _ _ _ _ _ _ _ _ _ _
      | exact ih1 _ _ _ _ _ _ _ _ _ _ _ _
      | exact ih2 _ _ _ _ _ _ _ _ _ _ _ _ _ _
      | exact hopmeshref50_carries.mono _ _ _ _
      | exact hopmeshref50_check.mono _ _ _ _ _ _ _ _ _ _
      | exact hopmeshref50_counts.mono _ _ _ _ _ _ _ _ _
      | exact LeO.none _
      | refine LeO.ite ?_ ?_
      | refine LeO.bind ?_ (fun _ => ?_)
set_option maxHeartbeats 8000000 in
set_option maxRecDepth 100000 in
theorem hopmeshref50_Ages.calls (k : Nat) (a0_0 : Int) (a0_1 : Int) (a0_2 : Int) (a0_3 : Int) (a0_4 : Int) (a0_5 : Int) (a0_6 : Int) (a1_0 : Int) (a1_1 : Int) (A2 : Option Addr) (c2 : Nat) (l2 : List (S34)) (a3 : Int) (r1 : List Int) (r2 : Int) (w : World) (hr2 : Kd.C k34 w A2 l2.length l2) (hc2 : l2.length ≤ c2) (h : hopmeshref50_Ages.f k a0_0 a0_1 a0_2 a0_3 a0_4 a0_5 a0_6 a1_0 a1_1 l2 a3 = some (r1, r2)) :
    Calls Try.prog 20 #[.agg #[.int .i64 a0_0, .int .i64 a0_1, .int .i64 a0_2, .int .i64 a0_3, .int .i64 a0_4, .int .i64 a0_5, .int .i64 a0_6], .agg #[.int .i64 a1_0, .int .i64 a1_1], .slice A2 l2.length c2, .int .i64 a3] w fun e w' => ∃ v0_ : Value, e = .returned (.tuple #[v0_, .int .i64 r2]) ∧ Kd.R (Kd.int .i64) 3 w' w.heap.size (fun _ => True) v0_ r1 ∧ Below w.heap.size w w' := by
  have hu23 := Try.underlying23
  have hu25 := Try.underlying25
  have hu39 := Try.underlying39
  have HR2 := Aside0.mk hr2
  have HC2 := Aside0.mk hc2
  clear hr2 hc2
  have HB := Aside0.mk (Below.refl w.heap.size w)
  have H : ((hopmeshref50_check.f k a0_0 a0_1 a0_2 a0_3 a0_4 a0_5 a0_6 a1_0 a1_1).bind fun t245 => (if t245 = 0 then (if a3 < 0 then (hopmeshref50_Ages.j0 k l2 a3 true a0_0 a0_1 a0_2 a0_3 a0_4 a0_5 a0_6 a1_0 a1_1) else (hopmeshref50_Ages.j0 k l2 a3 (decide (a3 > 4096)) a0_0 a0_1 a0_2 a0_3 a0_4 a0_5 a0_6 a1_0 a1_1)) else (some (([] : List Int), t245)))) = some (r1, r2) := h
  clear h
  replace H := Option.bind_eq_some_iff.mp H
  obtain ⟨t245, A50, H⟩ := H
  replace H : (if t245 = 0 then (if a3 < 0 then (hopmeshref50_Ages.j0 k l2 a3 true a0_0 a0_1 a0_2 a0_3 a0_4 a0_5 a0_6 a1_0 a1_1) else (hopmeshref50_Ages.j0 k l2 a3 (decide (a3 > 4096)) a0_0 a0_1 a0_2 a0_3 a0_4 a0_5 a0_6 a1_0 a1_1)) else (some (([] : List Int), t245))) = some (r1, r2) := H
  have A5 := Aside0.mk A50
  clear A50
  by_cases c6 : t245 = 0
  · rw [if_pos c6] at H
    have c6b0 : (t245 == 0) = true := beq_iff_eq.mpr c6
    have c6b1 : (t245 != 0) = false := bne_eq_false_iff_eq.mpr c6
    clear c6
    have HC7 := Aside0.mk H
    clear H
    go_enter Try.func20, Try.ntmps20
    go_upto_region 4 with (first | ((with_reducible refine gate_dst (N := 4) rfl ?_); refine box_event ?hg (N := 4) ?hd (cs := #[.int .i64 a0_0, .int .i64 a0_1, .int .i64 a0_2, .int .i64 a0_3, .int .i64 a0_4, .int .i64 a0_5, .int .i64 a0_6]) (t := 23) ?hr ?_; (case hd => rfl); (case hg => rfl); (case hr => first | (go_simp; done) | (go_simp; rfl)); intro gb243 hg w8 hbox hb; have n0_ := Aside0.mk (below_step (by repeat (first | (with_reducible first | exact HB.out | apply below_alloc | apply pw_below_drewN | apply below_drew1) | exact HB.out)) hb); have n1_ := Aside0.mk (hbox); have n2_ := Aside0.mk ((by rw [hg]; exact (below_size (by repeat (first | (with_reducible first | exact HB.out | apply below_alloc | apply pw_below_drewN | apply below_drew1) | exact HB.out))) : w.heap.size ≤ gb243)); have n3_ := Aside0.mk ((by rw [hg]; exact (below_size (by repeat (first | (with_reducible first | exact HB.out | apply below_alloc | apply pw_below_drewN | apply below_drew1) | exact HB.out))) : w.heap.size ≤ gb243)); clear HB; have HB := n0_; have BK243 := n1_; have GW243 := n2_; have GE243 := n3_; clear n0_ n1_ n2_ n3_; clear hb hbox hg) | ((with_reducible refine gate_dst (N := 5) rfl ?_); refine box_event ?hg (N := 5) ?hd (cs := #[.int .i64 a1_0, .int .i64 a1_1]) (t := 25) ?hr ?_; (case hd => rfl); (case hg => rfl); (case hr => first | (go_simp; done) | (go_simp; rfl)); intro gb244 hg w9 hbox hb; have n0_ := Aside0.mk (blk_below (g := gb243) (o := .cells #[.int .i64 a0_0, .int .i64 a0_1, .int .i64 a0_2, .int .i64 a0_3, .int .i64 a0_4, .int .i64 a0_5, .int .i64 a0_6] 23 (0, 0)) (by (with_reducible repeat (first | refine blk_drewN ?_ _ | refine blk_drew ?_ | refine blk_alloc ?_ _)); exact BK243.out) hb); have n1_ := Aside0.mk (below_step (by repeat (first | (with_reducible first | exact HB.out | apply below_alloc | apply pw_below_drewN | apply below_drew1 | refine below_set ?_ GE243.out) | exact HB.out)) hb); have n2_ := Aside0.mk (hbox); have n3_ := Aside0.mk ((by rw [hg]; exact (below_size (by repeat (first | (with_reducible first | exact HB.out | apply below_alloc | apply pw_below_drewN | apply below_drew1 | refine below_set ?_ GE243.out) | exact HB.out))) : w.heap.size ≤ gb244)); have n4_ := Aside0.mk ((by rw [hg]; exact (below_size (by repeat (first | (with_reducible first | exact HB.out | apply below_alloc | apply pw_below_drewN | apply below_drew1 | refine below_set ?_ GE243.out) | exact HB.out))) : w.heap.size ≤ gb244)); have n5_ := Aside0.mk ((by rw [hg]; exact Nat.ne_of_lt (blk_lt (g := gb243) (o := .cells #[.int .i64 a0_0, .int .i64 a0_1, .int .i64 a0_2, .int .i64 a0_3, .int .i64 a0_4, .int .i64 a0_5, .int .i64 a0_6] 23 (0, 0)) (by (with_reducible repeat (first | refine blk_drewN ?_ _ | refine blk_drew ?_ | refine blk_alloc ?_ _)); exact BK243.out)) : gb243 ≠ gb244)); have n6_ := Aside0.mk ((by rw [hg]; exact Nat.ne_of_gt (blk_lt (g := gb243) (o := .cells #[.int .i64 a0_0, .int .i64 a0_1, .int .i64 a0_2, .int .i64 a0_3, .int .i64 a0_4, .int .i64 a0_5, .int .i64 a0_6] 23 (0, 0)) (by (with_reducible repeat (first | refine blk_drewN ?_ _ | refine blk_drew ?_ | refine blk_alloc ?_ _)); exact BK243.out)) : gb244 ≠ gb243)); clear BK243; clear HB; have BK243 := n0_; have HB := n1_; have BK244 := n2_; have GW244 := n3_; have GE244 := n4_; have NB243_244 := n5_; have NB244_243 := n6_; clear n0_ n1_ n2_ n3_ n4_ n5_ n6_; clear hb hbox hg; have hnb10 := NB243_244.out; have hnc10 := NB244_243.out; have hcz11_0 : w9.cell? ⟨gb243, 0, none⟩ = some (.int .i64 a0_0) := (blk_cell BK243.out 0).trans rfl; have hcz11_1 : w9.cell? ⟨gb243, 1, none⟩ = some (.int .i64 a0_1) := (blk_cell BK243.out 1).trans rfl; have hcz11_2 : w9.cell? ⟨gb243, 2, none⟩ = some (.int .i64 a0_2) := (blk_cell BK243.out 2).trans rfl; have hcz11_3 : w9.cell? ⟨gb243, 3, none⟩ = some (.int .i64 a0_3) := (blk_cell BK243.out 3).trans rfl; have hcz11_4 : w9.cell? ⟨gb243, 4, none⟩ = some (.int .i64 a0_4) := (blk_cell BK243.out 4).trans rfl; have hcz11_5 : w9.cell? ⟨gb243, 5, none⟩ = some (.int .i64 a0_5) := (blk_cell BK243.out 5).trans rfl; have hcz11_6 : w9.cell? ⟨gb243, 6, none⟩ = some (.int .i64 a0_6) := (blk_cell BK243.out 6).trans rfl; have hfz11_0 := blk_frozen BK243.out 0; have hfz11_1 := blk_frozen BK243.out 1; have hfz11_2 := blk_frozen BK243.out 2; have hfz11_3 := blk_frozen BK243.out 3; have hfz11_4 := blk_frozen BK243.out 4; have hfz11_5 := blk_frozen BK243.out 5; have hfz11_6 := blk_frozen BK243.out 6; have hcz12_0 : w9.cell? ⟨gb244, 0, none⟩ = some (.int .i64 a1_0) := (blk_cell BK244.out 0).trans rfl; have hcz12_1 : w9.cell? ⟨gb244, 1, none⟩ = some (.int .i64 a1_1) := (blk_cell BK244.out 1).trans rfl; have hfz12_0 := blk_frozen BK244.out 0; have hfz12_1 := blk_frozen BK244.out 1) | ((with_reducible refine gate_callee (f := 44) rfl ?_); refine goesL_ (some 18) rfl rfl Try.func44 (by kernel_rfl) rfl #[.agg #[.int .i64 a0_0, .int .i64 a0_1, .int .i64 a0_2, .int .i64 a0_3, .int .i64 a0_4, .int .i64 a0_5, .int .i64 a0_6], .agg #[.int .i64 a1_0, .int .i64 a1_1]] rfl (by (try simp only [List.map_toArray, List.map_cons, List.map_nil]); first | done | rfl | (simp only [List.length_drop, List.length_take]; rfl)) ?_; (with_reducible refine (hopmeshref50_check.calls k a0_0 a0_1 a0_2 a0_3 a0_4 a0_5 a0_6 a1_0 a1_1 t245 _ A5.out).mono ?_); rintro e w13 ⟨rfl, hb⟩; refine ⟨_, rfl, ?_⟩; have n0_ := Aside0.mk (blk_below (g := gb243) (o := .cells #[.int .i64 a0_0, .int .i64 a0_1, .int .i64 a0_2, .int .i64 a0_3, .int .i64 a0_4, .int .i64 a0_5, .int .i64 a0_6] 23 (0, 0)) (by (with_reducible repeat (first | refine blk_drewN ?_ _ | refine blk_drew ?_ | refine blk_alloc ?_ _)); exact BK243.out) hb); have n1_ := Aside0.mk (blk_below (g := gb244) (o := .cells #[.int .i64 a1_0, .int .i64 a1_1] 25 (0, 0)) (by (with_reducible repeat (first | refine blk_drewN ?_ _ | refine blk_drew ?_ | refine blk_alloc ?_ _)); exact BK244.out) hb); have n2_ := Aside0.mk (below_step (by repeat (first | (with_reducible first | exact HB.out | apply below_alloc | apply pw_below_drewN | apply below_drew1 | refine below_set ?_ GE243.out | refine below_set ?_ GE244.out) | exact HB.out)) hb); clear BK243; clear BK244; clear HB; have BK243 := n0_; have BK244 := n1_; have HB := n2_; clear n0_ n1_ n2_; (try clear hb); (try clear hb2); (try clear hk); (try clear hi)))
    (try simp only [Act.put, List.setIfInBounds_toArray, List.set_cons_zero, List.set_cons_succ])
    go_cut [23] (fun v23 wc => ∃ (kq : Nat) (x23_6 : Bool), v23 = .bool x23_6 ∧ Aside0 (hopmeshref50_Ages.j0 kq l2 a3 x23_6 a0_0 a0_1 a0_2 a0_3 a0_4 a0_5 a0_6 a1_0 a1_1 = some (r1, r2)) ∧ Aside0 (kq ≤ k) ∧ Aside0 (wc.heap[gb243]? = some (.cells #[.int .i64 a0_0, .int .i64 a0_1, .int .i64 a0_2, .int .i64 a0_3, .int .i64 a0_4, .int .i64 a0_5, .int .i64 a0_6] 23 (0, 0))) ∧ Aside0 (wc.heap[gb244]? = some (.cells #[.int .i64 a1_0, .int .i64 a1_1] 25 (0, 0))) ∧ Aside0 (Below w.heap.size w wc))
    case first =>
      have H := HC7.out
      clear HC7
      by_cases c14 : a3 < 0
      · rw [if_pos c14] at H
        have c14b0 : decide (a3 < 0) = true := decide_eq_true c14
        clear c14
        (first | rw [c14b0] | (simp only [i64_w, i32_w]; rw [c14b0]) | skip)
        have H' := Aside0.mk H
        clear H
        go_wp2
        go_meet
        case rel => exact ⟨_, (true), (by first | rfl | (simp; done) | (simp [*]; done)), H', ⟨by first | omega | exact Nat.le_refl _⟩, ⟨by (with_reducible repeat (first | refine blk_drewN ?_ _ | refine blk_drew ?_ | refine blk_alloc ?_ _)); exact BK243.out⟩, ⟨by (with_reducible repeat (first | refine blk_drewN ?_ _ | refine blk_drew ?_ | refine blk_alloc ?_ _)); exact BK244.out⟩, ⟨by repeat (first | (with_reducible first | exact HB.out | apply below_alloc | apply pw_below_drewN | apply below_drew1 | refine below_set ?_ GE243.out | refine below_set ?_ GE244.out) | exact HB.out)⟩⟩
      · rw [if_neg c14] at H
        have c14b0 : decide (a3 < 0) = false := decide_eq_false c14
        clear c14
        (first | rw [c14b0] | (simp only [i64_w, i32_w]; rw [c14b0]) | skip)
        have H' := Aside0.mk H
        clear H
        go_wp2
        go_meet
        case rel => exact ⟨_, (decide (a3 > 4096)), (by first | rfl | (simp; done) | (simp [*]; done)), H', ⟨by first | omega | exact Nat.le_refl _⟩, ⟨by (with_reducible repeat (first | refine blk_drewN ?_ _ | refine blk_drew ?_ | refine blk_alloc ?_ _)); exact BK243.out⟩, ⟨by (with_reducible repeat (first | refine blk_drewN ?_ _ | refine blk_drew ?_ | refine blk_alloc ?_ _)); exact BK244.out⟩, ⟨by repeat (first | (with_reducible first | exact HB.out | apply below_alloc | apply pw_below_drewN | apply below_drew1 | refine below_set ?_ GE243.out | refine below_set ?_ GE244.out) | exact HB.out)⟩⟩
    case rest =>
      clear HC7
      try clear c1
      try clear c2
      try clear p2
      try clear c4
      try clear c6
      try clear c6b0
      try clear c6b1
      try clear c10
      try clear c14
      try clear c14b0
      try clear hcz11_0
      try clear hcz11_1
      try clear hcz11_2
      try clear hcz11_3
      try clear hcz11_4
      try clear hcz11_5
      try clear hcz11_6
      try clear hcz12_0
      try clear hcz12_1
      try clear hfz11_0
      try clear hfz11_1
      try clear hfz11_2
      try clear hfz11_3
      try clear hfz11_4
      try clear hfz11_5
      try clear hfz11_6
      try clear hfz12_0
      try clear hfz12_1
      obtain ⟨kq, x23_6, rfl, HA, HJ6, BK243, BK244, HB⟩ := hcut
      cases kq with
      | zero => exact absurd HA.out (by simp [hopmeshref50_Ages.j0])
      | succ kj6 =>
        have H := HA.out
        clear HA
        simp only [hopmeshref50_Ages.j0] at H
        by_cases c15 : x23_6 = true
        · subst c15
          have H1 : (some (([] : List Int), 2)) = some (r1, r2) := by rw [if_pos rfl] at H; exact H
          clear H
          have H := H1
          clear H1
          simp only [Option.some.injEq, Prod.mk.injEq] at H
          obtain ⟨rfl, rfl⟩ := H
          go_wp2
          go_ret2
          exact ⟨_, by first | rfl | (simp [errW_none, errW_some] <;> rfl) | (simp [*, errW_none, errW_some] <;> rfl), by first | exact Kd.R_nil _ _ _ _ _ | exact Kd.N_nil _ _ _ _ _ | exact Kd.V_nil _ _ _ _ _ | exact Kd.Q_nil _ _ _ _ _ | exact Kd.S_nil _ _ _ _ _, by repeat (first | (with_reducible first | exact HB.out | apply below_alloc | apply pw_below_drewN | apply below_drew1 | refine below_set ?_ GE243.out | refine below_set ?_ GE244.out) | exact HB.out)⟩
        · replace c15 := Bool.eq_false_iff.mpr c15
          subst c15
          have H1 : (if (l2.length : Int) > 1024 then (some (([] : List Int), 8)) else ((hopmeshref50_flows.f a0_0 a0_1 a0_2 a0_3 a0_4 a0_5 a0_6 a1_0 a1_1).bind fun t246 => (if 0 ≤ a3 then (if (a3 : Int).toNat ≤ 35184372088832 then (hopmeshref50_Ages.l0 kj6 l2 a3 t246 (List.replicate (a3 : Int).toNat 0) 0 a0_0 a0_1 a0_2 a0_3 a0_4 a0_5 a0_6) else (none)) else (none)))) = some (r1, r2) := by rw [if_neg (show ¬ (false = true) by decide)] at H; exact H
          clear H
          have H := H1
          clear H1
          by_cases c16 : (l2.length : Int) > 1024
          · rw [if_pos c16] at H
            have c16b0 : decide (1024 < (l2.length : Int)) = true := decide_eq_true c16
            have c16b1 : decide (1024 < l2.length) = true := decide_eq_true (by omega)
            clear c16
            simp only [Option.some.injEq, Prod.mk.injEq] at H
            obtain ⟨rfl, rfl⟩ := H
            go_wp2
            go_ret2
            exact ⟨_, by first | rfl | (simp [errW_none, errW_some] <;> rfl) | (simp [*, errW_none, errW_some] <;> rfl), by first | exact Kd.R_nil _ _ _ _ _ | exact Kd.N_nil _ _ _ _ _ | exact Kd.V_nil _ _ _ _ _ | exact Kd.Q_nil _ _ _ _ _ | exact Kd.S_nil _ _ _ _ _, by repeat (first | (with_reducible first | exact HB.out | apply below_alloc | apply pw_below_drewN | apply below_drew1 | refine below_set ?_ GE243.out | refine below_set ?_ GE244.out) | exact HB.out)⟩
          · rw [if_neg c16] at H
            have c16b0 : decide (1024 < (l2.length : Int)) = false := decide_eq_false c16
            have c16b1 : decide (1024 < l2.length) = false := decide_eq_false (by omega)
            clear c16
            replace H := Option.bind_eq_some_iff.mp H
            obtain ⟨t246, A170, H⟩ := H
            replace H : (if 0 ≤ a3 then (if (a3 : Int).toNat ≤ 35184372088832 then (hopmeshref50_Ages.l0 kj6 l2 a3 t246 (List.replicate (a3 : Int).toNat 0) 0 a0_0 a0_1 a0_2 a0_3 a0_4 a0_5 a0_6) else (none)) else (none)) = some (r1, r2) := H
            have A17 := Aside0.mk A170
            clear A170
            by_cases c18 : 0 ≤ a3
            · rw [if_pos c18] at H
              have c18b0 := eq_true c18
              have c18b1 : decide (0 ≤ a3) = true := decide_eq_true c18
              clear c18
              by_cases c19 : (a3 : Int).toNat ≤ 35184372088832
              · rw [if_pos c19] at H
                have c19b0 := eq_true c19
                have c19b1 : decide ((a3 : Int).toNat ≤ 35184372088832) = true := decide_eq_true c19
                clear c19
                obtain ⟨y249, hy249⟩ : ∃ y_ : List Int, y_ = (List.replicate (a3 : Int).toNat 0) := ⟨_, rfl⟩
                replace H : (hopmeshref50_Ages.l0 kj6 l2 a3 t246 y249 0 a0_0 a0_1 a0_2 a0_3 a0_4 a0_5 a0_6) = some (r1, r2) := by first | (rw [hy249]; with_reducible exact H) | (have H2_ := (Option.bind_some _ _).symm.trans H; rw [hy249]; with_reducible exact H2_) | (have H2_ := (Option.bind_some _ _).symm.trans H; with_reducible exact H2_) | with_reducible exact H | (rw [hy249]; exact H) | exact H
                have Ny249 := Aside0.mk hy249
                clear hy249
                have H' := Aside0.mk H
                clear H
                have hnb20 := NB243_244.out
                have hnc20 := NB244_243.out
                have hcz21_0 : wc.cell? ⟨gb243, 0, none⟩ = some (.int .i64 a0_0) := (blk_cell BK243.out 0).trans rfl
                have hcz21_1 : wc.cell? ⟨gb243, 1, none⟩ = some (.int .i64 a0_1) := (blk_cell BK243.out 1).trans rfl
                have hcz21_2 : wc.cell? ⟨gb243, 2, none⟩ = some (.int .i64 a0_2) := (blk_cell BK243.out 2).trans rfl
                have hcz21_3 : wc.cell? ⟨gb243, 3, none⟩ = some (.int .i64 a0_3) := (blk_cell BK243.out 3).trans rfl
                have hcz21_4 : wc.cell? ⟨gb243, 4, none⟩ = some (.int .i64 a0_4) := (blk_cell BK243.out 4).trans rfl
                have hcz21_5 : wc.cell? ⟨gb243, 5, none⟩ = some (.int .i64 a0_5) := (blk_cell BK243.out 5).trans rfl
                have hcz21_6 : wc.cell? ⟨gb243, 6, none⟩ = some (.int .i64 a0_6) := (blk_cell BK243.out 6).trans rfl
                have hfz21_0 := blk_frozen BK243.out 0
                have hfz21_1 := blk_frozen BK243.out 1
                have hfz21_2 := blk_frozen BK243.out 2
                have hfz21_3 := blk_frozen BK243.out 3
                have hfz21_4 := blk_frozen BK243.out 4
                have hfz21_5 := blk_frozen BK243.out 5
                have hfz21_6 := blk_frozen BK243.out 6
                have hcz22_0 : wc.cell? ⟨gb244, 0, none⟩ = some (.int .i64 a1_0) := (blk_cell BK244.out 0).trans rfl
                have hcz22_1 : wc.cell? ⟨gb244, 1, none⟩ = some (.int .i64 a1_1) := (blk_cell BK244.out 1).trans rfl
                have hfz22_0 := blk_frozen BK244.out 0
                have hfz22_1 := blk_frozen BK244.out 1
                go_wp2_with (first | ((with_reducible refine gate_callee (f := 46) rfl ?_); refine goesL_ (some 36) rfl rfl Try.func46 (by kernel_rfl) rfl #[.agg #[.int .i64 a0_0, .int .i64 a0_1, .int .i64 a0_2, .int .i64 a0_3, .int .i64 a0_4, .int .i64 a0_5, .int .i64 a0_6], .agg #[.int .i64 a1_0, .int .i64 a1_1]] rfl (by (try simp only [List.map_toArray, List.map_cons, List.map_nil]); first | done | rfl | (simp only [List.length_drop, List.length_take]; rfl)) ?_; (with_reducible refine (hopmeshref50_flows.calls a0_0 a0_1 a0_2 a0_3 a0_4 a0_5 a0_6 a1_0 a1_1 t246 _ A17.out).mono ?_); rintro e w23 ⟨v247, rfl, ho0, hb⟩; refine ⟨_, rfl, ?_⟩; have n0_ := Aside0.mk (Kd.R_lower ho0 (below_size (by repeat (first | (with_reducible first | exact HB.out | apply below_alloc | apply pw_below_drewN | apply below_drew1 | refine below_set ?_ GE243.out | refine below_set ?_ GE244.out) | exact HB.out)))); have n1_ := Aside0.mk (blk_below (g := gb243) (o := .cells #[.int .i64 a0_0, .int .i64 a0_1, .int .i64 a0_2, .int .i64 a0_3, .int .i64 a0_4, .int .i64 a0_5, .int .i64 a0_6] 23 (0, 0)) (by (with_reducible repeat (first | refine blk_drewN ?_ _ | refine blk_drew ?_ | refine blk_alloc ?_ _)); exact BK243.out) hb); have n2_ := Aside0.mk (blk_below (g := gb244) (o := .cells #[.int .i64 a1_0, .int .i64 a1_1] 25 (0, 0)) (by (with_reducible repeat (first | refine blk_drewN ?_ _ | refine blk_drew ?_ | refine blk_alloc ?_ _)); exact BK244.out) hb); have n3_ := Aside0.mk (below_step (by repeat (first | (with_reducible first | exact HB.out | apply below_alloc | apply pw_below_drewN | apply below_drew1 | refine below_set ?_ GE243.out | refine below_set ?_ GE244.out) | exact HB.out)) hb); clear BK243; clear BK244; clear HB; have HO248 := n0_; have BK243 := n1_; have BK244 := n2_; have HB := n3_; clear n0_ n1_ n2_ n3_; (try clear hb); (try clear hb2); (try clear hk); (try clear hi); (try clear ho0)) | ((with_reducible refine gate_dst (N := 38) rfl ?_); refine Kd.R_make (Kd.int .i64) _ 3 rfl (N := 38) rfl 40 _ _ rfl a3 rfl rfl Try.underlying40 (.int .i64 0) 8 info3 rfl (by decide) (by omega) 0 (ok := fun _ => True) (okp := fun _ => True) rfl (fun _ hk => hk) trivial (of_decide_eq_true (by first | (with_reducible assumption) | assumption)) (Nat.le_trans (Nat.mul_le_mul_right _ (of_decide_eq_true (by first | (with_reducible assumption) | assumption) : a3.toNat ≤ 35184372088832)) (by omega)) (Below.refl _ _) (Nat.le_refl _) ?_; intro v250 w24 ho25 hb hg_ hnew_; clear hg_ hnew_; (first | rw [← Ny249.out] at ho25 | (simp only [Int.reduceToNat] at ho25; rw [← Ny249.out] at ho25)); have n0_ := Aside0.mk (Kd.R_below (by (with_reducible repeat (first | apply Kd.R_alloc | apply Kd.R_drewN | apply Kd.R_drew)); exact HO248.out) hb); have n1_ := Aside0.mk (Kd.R_lower ho25 (below_size (by repeat (first | (with_reducible first | exact HB.out | apply below_alloc | apply pw_below_drewN | apply below_drew1 | refine below_set ?_ GE243.out | refine below_set ?_ GE244.out) | exact HB.out)))); have n2_ := Aside0.mk (blk_below (g := gb243) (o := .cells #[.int .i64 a0_0, .int .i64 a0_1, .int .i64 a0_2, .int .i64 a0_3, .int .i64 a0_4, .int .i64 a0_5, .int .i64 a0_6] 23 (0, 0)) (by (with_reducible repeat (first | refine blk_drewN ?_ _ | refine blk_drew ?_ | refine blk_alloc ?_ _)); exact BK243.out) hb); have n3_ := Aside0.mk (blk_below (g := gb244) (o := .cells #[.int .i64 a1_0, .int .i64 a1_1] 25 (0, 0)) (by (with_reducible repeat (first | refine blk_drewN ?_ _ | refine blk_drew ?_ | refine blk_alloc ?_ _)); exact BK244.out) hb); have n4_ := Aside0.mk (below_step (by repeat (first | (with_reducible first | exact HB.out | apply below_alloc | apply pw_below_drewN | apply below_drew1 | refine below_set ?_ GE243.out | refine below_set ?_ GE244.out) | exact HB.out)) hb); clear HO248; clear BK243; clear BK244; clear HB; have HO248 := n0_; have HO251 := n1_; have BK243 := n2_; have BK244 := n3_; have HB := n4_; clear n0_ n1_ n2_ n3_ n4_; clear hb ho25))
                go_loopg [13] kj6 (fun kq v13 w' => ∃ (x12_2 : List Int) (x13_2 : Int), v13 = .int .i64 x13_2 ∧ Aside0 (hopmeshref50_Ages.l0 kq l2 a3 t246 x12_2 x13_2 a0_0 a0_1 a0_2 a0_3 a0_4 a0_5 a0_6 = some (r1, r2)) ∧ Aside0 (kq ≤ kj6) ∧ Aside0 (Kd.R k39 39 w' w.heap.size (fun _ => True) v247 t246) ∧ Aside0 (Kd.R (Kd.int .i64) 3 w' w.heap.size (fun _ => True) v250 x12_2) ∧ Aside0 (w'.heap[gb243]? = some (.cells #[.int .i64 a0_0, .int .i64 a0_1, .int .i64 a0_2, .int .i64 a0_3, .int .i64 a0_4, .int .i64 a0_5, .int .i64 a0_6] 23 (0, 0))) ∧ Aside0 (w'.heap[gb244]? = some (.cells #[.int .i64 a1_0, .int .i64 a1_1] 25 (0, 0))) ∧ Aside0 (Below w.heap.size w w'))
                case atStart => exact ⟨(y249), (0), (by first | rfl | (simp; done) | (simp [*]; done)), H', ⟨Nat.le_refl _⟩, ⟨by (with_reducible repeat (first | apply Kd.R_alloc | apply Kd.R_drewN | apply Kd.R_drew)); exact HO248.out⟩, ⟨by (with_reducible repeat (first | apply Kd.R_alloc | apply Kd.R_drewN | apply Kd.R_drew)); exact HO251.out⟩, ⟨by (with_reducible repeat (first | refine blk_drewN ?_ _ | refine blk_drew ?_ | refine blk_alloc ?_ _)); exact BK243.out⟩, ⟨by (with_reducible repeat (first | refine blk_drewN ?_ _ | refine blk_drew ?_ | refine blk_alloc ?_ _)); exact BK244.out⟩, ⟨by repeat (first | (with_reducible first | exact HB.out | apply below_alloc | apply pw_below_drewN | apply below_drew1 | refine below_set ?_ GE243.out | refine below_set ?_ GE244.out) | exact HB.out)⟩⟩
                case round =>
                  clear H'
                  try clear c1
                  try clear c2
                  try clear p2
                  try clear c4
                  try clear c6
                  try clear c6b0
                  try clear c6b1
                  try clear c10
                  try clear c14
                  try clear c14b0
                  try clear c15
                  try clear c16
                  try clear c16b0
                  try clear c16b1
                  try clear c18
                  try clear c18b0
                  try clear c18b1
                  try clear c19
                  try clear c19b0
                  try clear c19b1
                  try clear c20
                  try clear hcz11_0
                  try clear hcz11_1
                  try clear hcz11_2
                  try clear hcz11_3
                  try clear hcz11_4
                  try clear hcz11_5
                  try clear hcz11_6
                  try clear hcz12_0
                  try clear hcz12_1
                  try clear hcz21_0
                  try clear hcz21_1
                  try clear hcz21_2
                  try clear hcz21_3
                  try clear hcz21_4
                  try clear hcz21_5
                  try clear hcz21_6
                  try clear hcz22_0
                  try clear hcz22_1
                  try clear hfz11_0
                  try clear hfz11_1
                  try clear hfz11_2
                  try clear hfz11_3
                  try clear hfz11_4
                  try clear hfz11_5
                  try clear hfz11_6
                  try clear hfz12_0
                  try clear hfz12_1
                  try clear hfz21_0
                  try clear hfz21_1
                  try clear hfz21_2
                  try clear hfz21_3
                  try clear hfz21_4
                  try clear hfz21_5
                  try clear hfz21_6
                  try clear hfz22_0
                  try clear hfz22_1
                  try clear p2
                  obtain ⟨x12_2, x13_2, rfl, HA, HK2, HO_11, HO_12, BK243, BK244, HB⟩ := hrel
                  cases gk with
                  | zero => exact absurd HA.out (by simp [hopmeshref50_Ages.l0])
                  | succ k2 =>
                    have H := HA.out
                    clear HA
                    simp only [hopmeshref50_Ages.l0] at H
                    by_cases c26 : x13_2 < a3
                    · rw [if_pos c26] at H
                      have c26b0 : decide (x13_2 < a3) = true := decide_eq_true c26
                      clear c26
                      have H' := Aside0.mk H
                      clear H
                      go_wp2
                      go_loopg [14, 15] k2 (fun kq v14 v15 w' => ∃ (x14_3 : Int) (x15_3 : Int), v14 = .int .i64 x14_3 ∧ v15 = .int .i64 x15_3 ∧ Aside0 (hopmeshref50_Ages.l1 kq l2 a3 t246 x12_2 x13_2 x14_3 x15_3 a0_0 a0_1 a0_2 a0_3 a0_4 a0_5 a0_6 = some (r1, r2)) ∧ Aside0 (kq ≤ k2) ∧ Aside0 (Kd.R k39 39 w' w.heap.size (fun _ => True) v247 t246) ∧ Aside0 (Kd.R (Kd.int .i64) 3 w' w.heap.size (fun _ => True) v250 x12_2) ∧ Aside0 (w'.heap[gb243]? = some (.cells #[.int .i64 a0_0, .int .i64 a0_1, .int .i64 a0_2, .int .i64 a0_3, .int .i64 a0_4, .int .i64 a0_5, .int .i64 a0_6] 23 (0, 0))) ∧ Aside0 (w'.heap[gb244]? = some (.cells #[.int .i64 a1_0, .int .i64 a1_1] 25 (0, 0))) ∧ Aside0 (Below w.heap.size w w'))
                      case atStart => exact ⟨((-1)), (0), (by first | rfl | (simp; done) | (simp [*]; done)), (by first | rfl | (simp; done) | (simp [*]; done)), H', ⟨Nat.le_refl _⟩, ⟨by (with_reducible repeat (first | apply Kd.R_alloc | apply Kd.R_drewN | apply Kd.R_drew)); exact HO_11.out⟩, ⟨by (with_reducible repeat (first | apply Kd.R_alloc | apply Kd.R_drewN | apply Kd.R_drew)); exact HO_12.out⟩, ⟨by (with_reducible repeat (first | refine blk_drewN ?_ _ | refine blk_drew ?_ | refine blk_alloc ?_ _)); exact BK243.out⟩, ⟨by (with_reducible repeat (first | refine blk_drewN ?_ _ | refine blk_drew ?_ | refine blk_alloc ?_ _)); exact BK244.out⟩, ⟨by repeat (first | (with_reducible first | exact HB.out | apply below_alloc | apply pw_below_drewN | apply below_drew1 | refine below_set ?_ GE243.out | refine below_set ?_ GE244.out) | exact HB.out)⟩⟩
                      case round =>
                        clear H'
                        try clear c1
                        try clear c2
                        try clear p2
                        try clear c4
                        try clear c6
                        try clear c6b0
                        try clear c6b1
                        try clear c10
                        try clear c14
                        try clear c14b0
                        try clear c15
                        try clear c16
                        try clear c16b0
                        try clear c16b1
                        try clear c18
                        try clear c18b0
                        try clear c18b1
                        try clear c19
                        try clear c19b0
                        try clear c19b1
                        try clear c20
                        try clear c26
                        try clear c26b0
                        try clear hcz11_0
                        try clear hcz11_1
                        try clear hcz11_2
                        try clear hcz11_3
                        try clear hcz11_4
                        try clear hcz11_5
                        try clear hcz11_6
                        try clear hcz12_0
                        try clear hcz12_1
                        try clear hcz21_0
                        try clear hcz21_1
                        try clear hcz21_2
                        try clear hcz21_3
                        try clear hcz21_4
                        try clear hcz21_5
                        try clear hcz21_6
                        try clear hcz22_0
                        try clear hcz22_1
                        try clear hfz11_0
                        try clear hfz11_1
                        try clear hfz11_2
                        try clear hfz11_3
                        try clear hfz11_4
                        try clear hfz11_5
                        try clear hfz11_6
                        try clear hfz12_0
                        try clear hfz12_1
                        try clear hfz21_0
                        try clear hfz21_1
                        try clear hfz21_2
                        try clear hfz21_3
                        try clear hfz21_4
                        try clear hfz21_5
                        try clear hfz21_6
                        try clear hfz22_0
                        try clear hfz22_1
                        try clear p2
                        obtain ⟨x14_3, x15_3, rfl, rfl, HA, HK3, HO_11, HO_12, BK243, BK244, HB⟩ := hrel
                        cases gk with
                        | zero => exact absurd HA.out (by simp [hopmeshref50_Ages.l1])
                        | succ k3 =>
                          have H := HA.out
                          clear HA
                          simp only [hopmeshref50_Ages.l1] at H
                          by_cases c27 : x15_3 < (l2.length : Int)
                          · rw [if_pos c27] at H
                            have c27b0 : decide (x15_3 < (l2.length : Int)) = true := decide_eq_true c27
                            clear c27
                            by_cases c28 : 1 < (t246.length : Int)
                            · rw [if_pos c28] at H
                              have c28b0 : decide (1 < (t246.length : Int)) = true := decide_eq_true c28
                              have c28b1 : decide (1 < t246.length) = true := decide_eq_true (by omega)
                              clear c28
                              replace H := Option.bind_eq_some_iff.mp H
                              obtain ⟨t255, A290, H⟩ := H
                              replace H : (if t255 = true then (if 0 ≤ x15_3 then (if ((rd_T34 l2 x15_3).f2) < x13_2 then ((hopmeshref50_carries.f k3 t246 l2 ((rd_T34 l2 x15_3).f1)).bind fun t258 => (hopmeshref50_Ages.l1 k3 l2 a3 t246 x12_2 x13_2 (mx x14_3 t258) (wrap64 (x15_3 + 1)) a0_0 a0_1 a0_2 a0_3 a0_4 a0_5 a0_6)) else (hopmeshref50_Ages.l1 k3 l2 a3 t246 x12_2 x13_2 x14_3 (wrap64 (x15_3 + 1)) a0_0 a0_1 a0_2 a0_3 a0_4 a0_5 a0_6)) else (none)) else (hopmeshref50_Ages.l1 k3 l2 a3 t246 x12_2 x13_2 x14_3 (wrap64 (x15_3 + 1)) a0_0 a0_1 a0_2 a0_3 a0_4 a0_5 a0_6)) = some (r1, r2) := H
                              have A29 := Aside0.mk A290
                              clear A290
                              by_cases c30 : t255 = true
                              · subst c30
                                have H1 : (if 0 ≤ x15_3 then (if ((rd_T34 l2 x15_3).f2) < x13_2 then ((hopmeshref50_carries.f k3 t246 l2 ((rd_T34 l2 x15_3).f1)).bind fun t258 => (hopmeshref50_Ages.l1 k3 l2 a3 t246 x12_2 x13_2 (mx x14_3 t258) (wrap64 (x15_3 + 1)) a0_0 a0_1 a0_2 a0_3 a0_4 a0_5 a0_6)) else (hopmeshref50_Ages.l1 k3 l2 a3 t246 x12_2 x13_2 x14_3 (wrap64 (x15_3 + 1)) a0_0 a0_1 a0_2 a0_3 a0_4 a0_5 a0_6)) else (none)) = some (r1, r2) := by rw [if_pos rfl] at H; exact H
                                clear H
                                have H := H1
                                clear H1
                                by_cases c31 : 0 ≤ x15_3
                                · rw [if_pos c31] at H
                                  have c31b0 : decide (0 ≤ x15_3) = true := decide_eq_true c31
                                  clear c31
                                  by_cases c32 : ((rd_T34 l2 x15_3).f2) < x13_2
                                  · rw [if_pos c32] at H
                                    have c32b0 : decide (((rd_T34 l2 x15_3).f2) < x13_2) = true := decide_eq_true c32
                                    clear c32
                                    replace H := Option.bind_eq_some_iff.mp H
                                    obtain ⟨t258, A330, H⟩ := H
                                    replace H : (hopmeshref50_Ages.l1 k3 l2 a3 t246 x12_2 x13_2 (mx x14_3 t258) (wrap64 (x15_3 + 1)) a0_0 a0_1 a0_2 a0_3 a0_4 a0_5 a0_6) = some (r1, r2) := H
                                    have A33 := Aside0.mk A330
                                    clear A330
                                    obtain ⟨ji34, hji34⟩ : ∃ j_ : Int, (mx x14_3 t258) = j_ := ⟨_, rfl⟩
                                    replace H : (hopmeshref50_Ages.l1 k3 l2 a3 t246 x12_2 x13_2 ji34 (wrap64 (x15_3 + 1)) a0_0 a0_1 a0_2 a0_3 a0_4 a0_5 a0_6) = some (r1, r2) := by first | (rw [hji34] at H; exact H) | (simp only [hji34] at H ⊢; exact H)
                                    (try rw [hji34] at A29)
                                    (try rw [hji34] at A33)
                                    have hji34_ : (if x14_3 < t258 then t258 else x14_3) = ji34 := hji34
                                    have H' := Aside0.mk H
                                    clear H
                                    obtain ⟨Ao35, co35, eo35⟩ := Kd.R_slice HO_11.out
                                    subst eo35
                                    have p254 : 0 ≤ (1 : Int) := (by omega)
                                    have q254 : 1 < (t246.length : Int) := of_decide_eq_true (by first | (with_reducible assumption) | assumption)
                                    obtain ⟨ad254, e254, hx254_0, hx254_1, hx254_2, hx254_3, hx254_4, hx254_5⟩ := at_T39 (Kd.R_reads' HO_11.out).2.2 1 p254 q254
                                    cases e254
                                    (try simp only [show (1 : Int).toNat = 1 from rfl, Nat.reduceMul, Nat.reduceEqDiff, Go.Addr.add, ↓reduceIte] at hx254_0)
                                    (try simp only [show (1 : Int).toNat = 1 from rfl, Nat.reduceMul, Nat.reduceEqDiff, Go.Addr.add, ↓reduceIte] at hx254_1)
                                    (try simp only [show (1 : Int).toNat = 1 from rfl, Nat.reduceMul, Nat.reduceEqDiff, Go.Addr.add, ↓reduceIte] at hx254_2)
                                    (try simp only [show (1 : Int).toNat = 1 from rfl, Nat.reduceMul, Nat.reduceEqDiff, Go.Addr.add, ↓reduceIte] at hx254_3)
                                    (try simp only [show (1 : Int).toNat = 1 from rfl, Nat.reduceMul, Nat.reduceEqDiff, Go.Addr.add, ↓reduceIte] at hx254_4)
                                    (try simp only [show (1 : Int).toNat = 1 from rfl, Nat.reduceMul, Nat.reduceEqDiff, Go.Addr.add, ↓reduceIte] at hx254_5)
                                    have qi254 : (1 < t246.length) = True := eq_true (by omega)
                                    (try rw [show ((1 : Int)).toNat = 1 from rfl] at hx254_0)
                                    (try rw [show 1 * 6 = 6 from rfl] at hx254_0)
                                    (try rw [show ((1 : Int)).toNat = 1 from rfl] at hx254_1)
                                    (try rw [show 1 * 6 = 6 from rfl] at hx254_1)
                                    (try rw [show ((1 : Int)).toNat = 1 from rfl] at hx254_2)
                                    (try rw [show 1 * 6 = 6 from rfl] at hx254_2)
                                    (try rw [show ((1 : Int)).toNat = 1 from rfl] at hx254_3)
                                    (try rw [show 1 * 6 = 6 from rfl] at hx254_3)
                                    (try rw [show ((1 : Int)).toNat = 1 from rfl] at hx254_4)
                                    (try rw [show 1 * 6 = 6 from rfl] at hx254_4)
                                    (try rw [show ((1 : Int)).toNat = 1 from rfl] at hx254_5)
                                    (try rw [show 1 * 6 = 6 from rfl] at hx254_5)
                                    replace p254 := eq_true p254
                                    replace q254 := eq_true q254
                                    go_wp2_with (first | ((with_reducible refine gate_callee (f := 47) rfl ?_); refine goesL_ (some 55) rfl rfl Try.func47 (by kernel_rfl) rfl #[.agg #[.int .i64 ((rd_T39 t246 1).f0), .int .i64 ((rd_T39 t246 1).f1), .int .i64 ((rd_T39 t246 1).f2), .int .i64 ((rd_T39 t246 1).f3), .int .i64 ((rd_T39 t246 1).f4), .int .i64 ((rd_T39 t246 1).f5)], .slice A2 l2.length c2, .int .i64 x15_3] rfl (by (try simp only [List.map_toArray, List.map_cons, List.map_nil]); first | done | rfl | (simp only [List.length_drop, List.length_take]; rfl)) ?_; (with_reducible refine (hopmeshref50_counts.calls k3 ((rd_T39 t246 1).f0) ((rd_T39 t246 1).f1) ((rd_T39 t246 1).f2) ((rd_T39 t246 1).f3) ((rd_T39 t246 1).f4) ((rd_T39 t246 1).f5) _ _ l2 x15_3 true _ ?side1 ?side2 A29.out).mono ?_); (case side1 => repeat (first | exact (Kd.C_below HR2.out HB.out) | (with_reducible refine Kd.C_alloc ?_ _) | (with_reducible refine Kd.C_drewN ?_ _) | (with_reducible refine Kd.C_drew ?_))); (case side2 => exact HC2.out); rintro e w36 ⟨rfl, hb⟩; refine ⟨_, rfl, ?_⟩; have n0_ := Aside0.mk (Kd.R_below (by (with_reducible repeat (first | apply Kd.R_alloc | apply Kd.R_drewN | apply Kd.R_drew)); exact HO_11.out) hb); have n1_ := Aside0.mk (Kd.R_below (by (with_reducible repeat (first | apply Kd.R_alloc | apply Kd.R_drewN | apply Kd.R_drew)); exact HO_12.out) hb); have n2_ := Aside0.mk (blk_below (g := gb243) (o := .cells #[.int .i64 a0_0, .int .i64 a0_1, .int .i64 a0_2, .int .i64 a0_3, .int .i64 a0_4, .int .i64 a0_5, .int .i64 a0_6] 23 (0, 0)) (by (with_reducible repeat (first | refine blk_drewN ?_ _ | refine blk_drew ?_ | refine blk_alloc ?_ _)); exact BK243.out) hb); have n3_ := Aside0.mk (blk_below (g := gb244) (o := .cells #[.int .i64 a1_0, .int .i64 a1_1] 25 (0, 0)) (by (with_reducible repeat (first | refine blk_drewN ?_ _ | refine blk_drew ?_ | refine blk_alloc ?_ _)); exact BK244.out) hb); have n4_ := Aside0.mk (below_step (by repeat (first | (with_reducible first | exact HB.out | apply below_alloc | apply pw_below_drewN | apply below_drew1 | refine below_set ?_ GE243.out | refine below_set ?_ GE244.out) | exact HB.out)) hb); clear HO_11; clear HO_12; clear BK243; clear BK244; clear HB; have HO_11 := n0_; have HO_12 := n1_; have BK243 := n2_; have BK244 := n3_; have HB := n4_; clear n0_ n1_ n2_ n3_ n4_; (try clear hb); (try clear hb2); (try clear hk); (try clear hi); have p256 : 0 ≤ (x15_3 : Int) := of_decide_eq_true (by first | (with_reducible assumption) | assumption); have q256 : x15_3 < (l2.length : Int) := of_decide_eq_true (by first | (with_reducible assumption) | assumption); obtain ⟨ad256, e256, hx256_0, hx256_1, hx256_2⟩ := at_T34 HR2.out x15_3 p256 q256; cases e256; replace hx256_0 := (HB.out.cell (World.block_lt_of_cell? w _ hx256_0)).trans hx256_0; replace hx256_1 := (HB.out.cell (World.block_lt_of_cell? w _ hx256_1)).trans hx256_1; replace hx256_2 := (HB.out.cell (World.block_lt_of_cell? w _ hx256_2)).trans hx256_2; replace p256 := eq_true p256; replace q256 := eq_true q256; have p257 : 0 ≤ (x15_3 : Int) := of_decide_eq_true (by first | (with_reducible assumption) | assumption); have q257 : x15_3 < (l2.length : Int) := of_decide_eq_true (by first | (with_reducible assumption) | assumption); obtain ⟨ad257, e257, hx257_0, hx257_1, hx257_2⟩ := at_T34 HR2.out x15_3 p257 q257; obtain rfl : ad256 = ad257 := (by injection e257); replace hx257_0 := (HB.out.cell (World.block_lt_of_cell? w _ hx257_0)).trans hx257_0; replace hx257_1 := (HB.out.cell (World.block_lt_of_cell? w _ hx257_1)).trans hx257_1; replace hx257_2 := (HB.out.cell (World.block_lt_of_cell? w _ hx257_2)).trans hx257_2; replace p257 := eq_true p257; replace q257 := eq_true q257) | ((with_reducible refine gate_callee (f := 45) rfl ?_); refine goesL_ (some 73) rfl rfl Try.func45 (by kernel_rfl) rfl #[.slice (some ad254) t246.length co35, .slice (some ad256) l2.length c2, .int .i64 ((rd_T34 l2 x15_3).f1)] rfl (by (try simp only [List.map_toArray, List.map_cons, List.map_nil]); first | done | rfl | (simp only [List.length_drop, List.length_take]; rfl)) ?_; (with_reducible refine (hopmeshref50_carries.calls k3 _ _ t246 _ _ l2 ((rd_T34 l2 x15_3).f1) t258 _ ?side1 ?side2 ?side3 ?side4 A33.out).mono ?_); (case side1 => repeat (first | exact (Kd.R_reads' HO_11.out).2.2 | (with_reducible refine Kd.C_alloc ?_ _) | (with_reducible refine Kd.C_drewN ?_ _) | (with_reducible refine Kd.C_drew ?_))); (case side2 => exact (Kd.R_reads' HO_11.out).2.1); (case side3 => repeat (first | exact (Kd.C_below HR2.out HB.out) | (with_reducible refine Kd.C_alloc ?_ _) | (with_reducible refine Kd.C_drewN ?_ _) | (with_reducible refine Kd.C_drew ?_))); (case side4 => exact HC2.out); rintro e w37 ⟨rfl, hb⟩; refine ⟨_, rfl, ?_⟩; have n0_ := Aside0.mk (Kd.R_below (by (with_reducible repeat (first | apply Kd.R_alloc | apply Kd.R_drewN | apply Kd.R_drew)); exact HO_11.out) hb); have n1_ := Aside0.mk (Kd.R_below (by (with_reducible repeat (first | apply Kd.R_alloc | apply Kd.R_drewN | apply Kd.R_drew)); exact HO_12.out) hb); have n2_ := Aside0.mk (blk_below (g := gb243) (o := .cells #[.int .i64 a0_0, .int .i64 a0_1, .int .i64 a0_2, .int .i64 a0_3, .int .i64 a0_4, .int .i64 a0_5, .int .i64 a0_6] 23 (0, 0)) (by (with_reducible repeat (first | refine blk_drewN ?_ _ | refine blk_drew ?_ | refine blk_alloc ?_ _)); exact BK243.out) hb); have n3_ := Aside0.mk (blk_below (g := gb244) (o := .cells #[.int .i64 a1_0, .int .i64 a1_1] 25 (0, 0)) (by (with_reducible repeat (first | refine blk_drewN ?_ _ | refine blk_drew ?_ | refine blk_alloc ?_ _)); exact BK244.out) hb); have n4_ := Aside0.mk (below_step (by repeat (first | (with_reducible first | exact HB.out | apply below_alloc | apply pw_below_drewN | apply below_drew1 | refine below_set ?_ GE243.out | refine below_set ?_ GE244.out) | exact HB.out)) hb); clear HO_11; clear HO_12; clear BK243; clear BK244; clear HB; have HO_11 := n0_; have HO_12 := n1_; have BK243 := n2_; have BK244 := n3_; have HB := n4_; clear n0_ n1_ n2_ n3_ n4_; (try clear hb); (try clear hb2); (try clear hk); (try clear hi)))
                                    go_roundg k3
                                    case measure => have := HJ6.out; have := HK2.out; have := HK3.out; omega
                                    case rel => exact ⟨(ji34), (wrap64 (x15_3 + 1)), (by first | rfl | (simp; done) | (simp only [← hji34] <;> (first | rfl | simp)) | (simp [*]; done)), (by first | rfl | (simp; done) | (simp [*]; done)), H', ⟨by have := HJ6.out; have := HK2.out; have := HK3.out; omega⟩, ⟨by (with_reducible repeat (first | apply Kd.R_alloc | apply Kd.R_drewN | apply Kd.R_drew)); exact HO_11.out⟩, ⟨by (with_reducible repeat (first | apply Kd.R_alloc | apply Kd.R_drewN | apply Kd.R_drew)); exact HO_12.out⟩, ⟨by (with_reducible repeat (first | refine blk_drewN ?_ _ | refine blk_drew ?_ | refine blk_alloc ?_ _)); exact BK243.out⟩, ⟨by (with_reducible repeat (first | refine blk_drewN ?_ _ | refine blk_drew ?_ | refine blk_alloc ?_ _)); exact BK244.out⟩, ⟨by repeat (first | (with_reducible first | exact HB.out | apply below_alloc | apply pw_below_drewN | apply below_drew1 | refine below_set ?_ GE243.out | refine below_set ?_ GE244.out) | exact HB.out)⟩⟩
                                  · rw [if_neg c32] at H
                                    have c32b0 : decide (((rd_T34 l2 x15_3).f2) < x13_2) = false := decide_eq_false c32
                                    clear c32
                                    have H' := Aside0.mk H
                                    clear H
                                    obtain ⟨Ao38, co38, eo38⟩ := Kd.R_slice HO_11.out
                                    subst eo38
                                    have p254 : 0 ≤ (1 : Int) := (by omega)
                                    have q254 : 1 < (t246.length : Int) := of_decide_eq_true (by first | (with_reducible assumption) | assumption)
                                    obtain ⟨ad254, e254, hx254_0, hx254_1, hx254_2, hx254_3, hx254_4, hx254_5⟩ := at_T39 (Kd.R_reads' HO_11.out).2.2 1 p254 q254
                                    cases e254
                                    (try simp only [show (1 : Int).toNat = 1 from rfl, Nat.reduceMul, Nat.reduceEqDiff, Go.Addr.add, ↓reduceIte] at hx254_0)
                                    (try simp only [show (1 : Int).toNat = 1 from rfl, Nat.reduceMul, Nat.reduceEqDiff, Go.Addr.add, ↓reduceIte] at hx254_1)
                                    (try simp only [show (1 : Int).toNat = 1 from rfl, Nat.reduceMul, Nat.reduceEqDiff, Go.Addr.add, ↓reduceIte] at hx254_2)
                                    (try simp only [show (1 : Int).toNat = 1 from rfl, Nat.reduceMul, Nat.reduceEqDiff, Go.Addr.add, ↓reduceIte] at hx254_3)
                                    (try simp only [show (1 : Int).toNat = 1 from rfl, Nat.reduceMul, Nat.reduceEqDiff, Go.Addr.add, ↓reduceIte] at hx254_4)
                                    (try simp only [show (1 : Int).toNat = 1 from rfl, Nat.reduceMul, Nat.reduceEqDiff, Go.Addr.add, ↓reduceIte] at hx254_5)
                                    have qi254 : (1 < t246.length) = True := eq_true (by omega)
                                    (try rw [show ((1 : Int)).toNat = 1 from rfl] at hx254_0)
                                    (try rw [show 1 * 6 = 6 from rfl] at hx254_0)
                                    (try rw [show ((1 : Int)).toNat = 1 from rfl] at hx254_1)
                                    (try rw [show 1 * 6 = 6 from rfl] at hx254_1)
                                    (try rw [show ((1 : Int)).toNat = 1 from rfl] at hx254_2)
                                    (try rw [show 1 * 6 = 6 from rfl] at hx254_2)
                                    (try rw [show ((1 : Int)).toNat = 1 from rfl] at hx254_3)
                                    (try rw [show 1 * 6 = 6 from rfl] at hx254_3)
                                    (try rw [show ((1 : Int)).toNat = 1 from rfl] at hx254_4)
                                    (try rw [show 1 * 6 = 6 from rfl] at hx254_4)
                                    (try rw [show ((1 : Int)).toNat = 1 from rfl] at hx254_5)
                                    (try rw [show 1 * 6 = 6 from rfl] at hx254_5)
                                    replace p254 := eq_true p254
                                    replace q254 := eq_true q254
                                    go_wp2_with (first | ((with_reducible refine gate_callee (f := 47) rfl ?_); refine goesL_ (some 55) rfl rfl Try.func47 (by kernel_rfl) rfl #[.agg #[.int .i64 ((rd_T39 t246 1).f0), .int .i64 ((rd_T39 t246 1).f1), .int .i64 ((rd_T39 t246 1).f2), .int .i64 ((rd_T39 t246 1).f3), .int .i64 ((rd_T39 t246 1).f4), .int .i64 ((rd_T39 t246 1).f5)], .slice A2 l2.length c2, .int .i64 x15_3] rfl (by (try simp only [List.map_toArray, List.map_cons, List.map_nil]); first | done | rfl | (simp only [List.length_drop, List.length_take]; rfl)) ?_; (with_reducible refine (hopmeshref50_counts.calls k3 ((rd_T39 t246 1).f0) ((rd_T39 t246 1).f1) ((rd_T39 t246 1).f2) ((rd_T39 t246 1).f3) ((rd_T39 t246 1).f4) ((rd_T39 t246 1).f5) _ _ l2 x15_3 true _ ?side1 ?side2 A29.out).mono ?_); (case side1 => repeat (first | exact (Kd.C_below HR2.out HB.out) | (with_reducible refine Kd.C_alloc ?_ _) | (with_reducible refine Kd.C_drewN ?_ _) | (with_reducible refine Kd.C_drew ?_))); (case side2 => exact HC2.out); rintro e w39 ⟨rfl, hb⟩; refine ⟨_, rfl, ?_⟩; have n0_ := Aside0.mk (Kd.R_below (by (with_reducible repeat (first | apply Kd.R_alloc | apply Kd.R_drewN | apply Kd.R_drew)); exact HO_11.out) hb); have n1_ := Aside0.mk (Kd.R_below (by (with_reducible repeat (first | apply Kd.R_alloc | apply Kd.R_drewN | apply Kd.R_drew)); exact HO_12.out) hb); have n2_ := Aside0.mk (blk_below (g := gb243) (o := .cells #[.int .i64 a0_0, .int .i64 a0_1, .int .i64 a0_2, .int .i64 a0_3, .int .i64 a0_4, .int .i64 a0_5, .int .i64 a0_6] 23 (0, 0)) (by (with_reducible repeat (first | refine blk_drewN ?_ _ | refine blk_drew ?_ | refine blk_alloc ?_ _)); exact BK243.out) hb); have n3_ := Aside0.mk (blk_below (g := gb244) (o := .cells #[.int .i64 a1_0, .int .i64 a1_1] 25 (0, 0)) (by (with_reducible repeat (first | refine blk_drewN ?_ _ | refine blk_drew ?_ | refine blk_alloc ?_ _)); exact BK244.out) hb); have n4_ := Aside0.mk (below_step (by repeat (first | (with_reducible first | exact HB.out | apply below_alloc | apply pw_below_drewN | apply below_drew1 | refine below_set ?_ GE243.out | refine below_set ?_ GE244.out) | exact HB.out)) hb); clear HO_11; clear HO_12; clear BK243; clear BK244; clear HB; have HO_11 := n0_; have HO_12 := n1_; have BK243 := n2_; have BK244 := n3_; have HB := n4_; clear n0_ n1_ n2_ n3_ n4_; (try clear hb); (try clear hb2); (try clear hk); (try clear hi); have p256 : 0 ≤ (x15_3 : Int) := of_decide_eq_true (by first | (with_reducible assumption) | assumption); have q256 : x15_3 < (l2.length : Int) := of_decide_eq_true (by first | (with_reducible assumption) | assumption); obtain ⟨ad256, e256, hx256_0, hx256_1, hx256_2⟩ := at_T34 HR2.out x15_3 p256 q256; cases e256; replace hx256_0 := (HB.out.cell (World.block_lt_of_cell? w _ hx256_0)).trans hx256_0; replace hx256_1 := (HB.out.cell (World.block_lt_of_cell? w _ hx256_1)).trans hx256_1; replace hx256_2 := (HB.out.cell (World.block_lt_of_cell? w _ hx256_2)).trans hx256_2; replace p256 := eq_true p256; replace q256 := eq_true q256))
                                    go_roundg k3
                                    case measure => have := HJ6.out; have := HK2.out; have := HK3.out; omega
                                    case rel => exact ⟨(x14_3), (wrap64 (x15_3 + 1)), (by first | rfl | (simp; done) | (simp [*]; done)), (by first | rfl | (simp; done) | (simp [*]; done)), H', ⟨by have := HJ6.out; have := HK2.out; have := HK3.out; omega⟩, ⟨by (with_reducible repeat (first | apply Kd.R_alloc | apply Kd.R_drewN | apply Kd.R_drew)); exact HO_11.out⟩, ⟨by (with_reducible repeat (first | apply Kd.R_alloc | apply Kd.R_drewN | apply Kd.R_drew)); exact HO_12.out⟩, ⟨by (with_reducible repeat (first | refine blk_drewN ?_ _ | refine blk_drew ?_ | refine blk_alloc ?_ _)); exact BK243.out⟩, ⟨by (with_reducible repeat (first | refine blk_drewN ?_ _ | refine blk_drew ?_ | refine blk_alloc ?_ _)); exact BK244.out⟩, ⟨by repeat (first | (with_reducible first | exact HB.out | apply below_alloc | apply pw_below_drewN | apply below_drew1 | refine below_set ?_ GE243.out | refine below_set ?_ GE244.out) | exact HB.out)⟩⟩
                                · rw [if_neg c31] at H
                                  exact absurd H (by simp)
                              · replace c30 := Bool.eq_false_iff.mpr c30
                                subst c30
                                have H1 : (hopmeshref50_Ages.l1 k3 l2 a3 t246 x12_2 x13_2 x14_3 (wrap64 (x15_3 + 1)) a0_0 a0_1 a0_2 a0_3 a0_4 a0_5 a0_6) = some (r1, r2) := by rw [if_neg (show ¬ (false = true) by decide)] at H; exact H
                                clear H
                                have H := H1
                                clear H1
                                have H' := Aside0.mk H
                                clear H
                                obtain ⟨Ao40, co40, eo40⟩ := Kd.R_slice HO_11.out
                                subst eo40
                                have p254 : 0 ≤ (1 : Int) := (by omega)
                                have q254 : 1 < (t246.length : Int) := of_decide_eq_true (by first | (with_reducible assumption) | assumption)
                                obtain ⟨ad254, e254, hx254_0, hx254_1, hx254_2, hx254_3, hx254_4, hx254_5⟩ := at_T39 (Kd.R_reads' HO_11.out).2.2 1 p254 q254
                                cases e254
                                (try simp only [show (1 : Int).toNat = 1 from rfl, Nat.reduceMul, Nat.reduceEqDiff, Go.Addr.add, ↓reduceIte] at hx254_0)
                                (try simp only [show (1 : Int).toNat = 1 from rfl, Nat.reduceMul, Nat.reduceEqDiff, Go.Addr.add, ↓reduceIte] at hx254_1)
                                (try simp only [show (1 : Int).toNat = 1 from rfl, Nat.reduceMul, Nat.reduceEqDiff, Go.Addr.add, ↓reduceIte] at hx254_2)
                                (try simp only [show (1 : Int).toNat = 1 from rfl, Nat.reduceMul, Nat.reduceEqDiff, Go.Addr.add, ↓reduceIte] at hx254_3)
                                (try simp only [show (1 : Int).toNat = 1 from rfl, Nat.reduceMul, Nat.reduceEqDiff, Go.Addr.add, ↓reduceIte] at hx254_4)
                                (try simp only [show (1 : Int).toNat = 1 from rfl, Nat.reduceMul, Nat.reduceEqDiff, Go.Addr.add, ↓reduceIte] at hx254_5)
                                have qi254 : (1 < t246.length) = True := eq_true (by omega)
                                (try rw [show ((1 : Int)).toNat = 1 from rfl] at hx254_0)
                                (try rw [show 1 * 6 = 6 from rfl] at hx254_0)
                                (try rw [show ((1 : Int)).toNat = 1 from rfl] at hx254_1)
                                (try rw [show 1 * 6 = 6 from rfl] at hx254_1)
                                (try rw [show ((1 : Int)).toNat = 1 from rfl] at hx254_2)
                                (try rw [show 1 * 6 = 6 from rfl] at hx254_2)
                                (try rw [show ((1 : Int)).toNat = 1 from rfl] at hx254_3)
                                (try rw [show 1 * 6 = 6 from rfl] at hx254_3)
                                (try rw [show ((1 : Int)).toNat = 1 from rfl] at hx254_4)
                                (try rw [show 1 * 6 = 6 from rfl] at hx254_4)
                                (try rw [show ((1 : Int)).toNat = 1 from rfl] at hx254_5)
                                (try rw [show 1 * 6 = 6 from rfl] at hx254_5)
                                replace p254 := eq_true p254
                                replace q254 := eq_true q254
                                go_wp2_with (first | ((with_reducible refine gate_callee (f := 47) rfl ?_); refine goesL_ (some 55) rfl rfl Try.func47 (by kernel_rfl) rfl #[.agg #[.int .i64 ((rd_T39 t246 1).f0), .int .i64 ((rd_T39 t246 1).f1), .int .i64 ((rd_T39 t246 1).f2), .int .i64 ((rd_T39 t246 1).f3), .int .i64 ((rd_T39 t246 1).f4), .int .i64 ((rd_T39 t246 1).f5)], .slice A2 l2.length c2, .int .i64 x15_3] rfl (by (try simp only [List.map_toArray, List.map_cons, List.map_nil]); first | done | rfl | (simp only [List.length_drop, List.length_take]; rfl)) ?_; (with_reducible refine (hopmeshref50_counts.calls k3 ((rd_T39 t246 1).f0) ((rd_T39 t246 1).f1) ((rd_T39 t246 1).f2) ((rd_T39 t246 1).f3) ((rd_T39 t246 1).f4) ((rd_T39 t246 1).f5) _ _ l2 x15_3 false _ ?side1 ?side2 A29.out).mono ?_); (case side1 => repeat (first | exact (Kd.C_below HR2.out HB.out) | (with_reducible refine Kd.C_alloc ?_ _) | (with_reducible refine Kd.C_drewN ?_ _) | (with_reducible refine Kd.C_drew ?_))); (case side2 => exact HC2.out); rintro e w41 ⟨rfl, hb⟩; refine ⟨_, rfl, ?_⟩; have n0_ := Aside0.mk (Kd.R_below (by (with_reducible repeat (first | apply Kd.R_alloc | apply Kd.R_drewN | apply Kd.R_drew)); exact HO_11.out) hb); have n1_ := Aside0.mk (Kd.R_below (by (with_reducible repeat (first | apply Kd.R_alloc | apply Kd.R_drewN | apply Kd.R_drew)); exact HO_12.out) hb); have n2_ := Aside0.mk (blk_below (g := gb243) (o := .cells #[.int .i64 a0_0, .int .i64 a0_1, .int .i64 a0_2, .int .i64 a0_3, .int .i64 a0_4, .int .i64 a0_5, .int .i64 a0_6] 23 (0, 0)) (by (with_reducible repeat (first | refine blk_drewN ?_ _ | refine blk_drew ?_ | refine blk_alloc ?_ _)); exact BK243.out) hb); have n3_ := Aside0.mk (blk_below (g := gb244) (o := .cells #[.int .i64 a1_0, .int .i64 a1_1] 25 (0, 0)) (by (with_reducible repeat (first | refine blk_drewN ?_ _ | refine blk_drew ?_ | refine blk_alloc ?_ _)); exact BK244.out) hb); have n4_ := Aside0.mk (below_step (by repeat (first | (with_reducible first | exact HB.out | apply below_alloc | apply pw_below_drewN | apply below_drew1 | refine below_set ?_ GE243.out | refine below_set ?_ GE244.out) | exact HB.out)) hb); clear HO_11; clear HO_12; clear BK243; clear BK244; clear HB; have HO_11 := n0_; have HO_12 := n1_; have BK243 := n2_; have BK244 := n3_; have HB := n4_; clear n0_ n1_ n2_ n3_ n4_; (try clear hb); (try clear hb2); (try clear hk); (try clear hi)))
                                go_roundg k3
                                case measure => have := HJ6.out; have := HK2.out; have := HK3.out; omega
                                case rel => exact ⟨(x14_3), (wrap64 (x15_3 + 1)), (by first | rfl | (simp; done) | (simp [*]; done)), (by first | rfl | (simp; done) | (simp [*]; done)), H', ⟨by have := HJ6.out; have := HK2.out; have := HK3.out; omega⟩, ⟨by (with_reducible repeat (first | apply Kd.R_alloc | apply Kd.R_drewN | apply Kd.R_drew)); exact HO_11.out⟩, ⟨by (with_reducible repeat (first | apply Kd.R_alloc | apply Kd.R_drewN | apply Kd.R_drew)); exact HO_12.out⟩, ⟨by (with_reducible repeat (first | refine blk_drewN ?_ _ | refine blk_drew ?_ | refine blk_alloc ?_ _)); exact BK243.out⟩, ⟨by (with_reducible repeat (first | refine blk_drewN ?_ _ | refine blk_drew ?_ | refine blk_alloc ?_ _)); exact BK244.out⟩, ⟨by repeat (first | (with_reducible first | exact HB.out | apply below_alloc | apply pw_below_drewN | apply below_drew1 | refine below_set ?_ GE243.out | refine below_set ?_ GE244.out) | exact HB.out)⟩⟩
                            · rw [if_neg c28] at H
                              exact absurd H (by simp)
                          · rw [if_neg c27] at H
                            have c27b0 : decide (x15_3 < (l2.length : Int)) = false := decide_eq_false c27
                            clear c27
                            by_cases c42 : 0 ≤ x13_2
                            · rw [if_pos c42] at H
                              have c42b0 : decide (0 ≤ x13_2) = true := decide_eq_true c42
                              clear c42
                              by_cases c43 : x13_2 < (x12_2.length : Int)
                              · rw [if_pos c43] at H
                                have c43b0 : decide (x13_2 < (x12_2.length : Int)) = true := decide_eq_true c43
                                clear c43
                                obtain ⟨y252, hy252⟩ : ∃ y_ : List Int, y_ = (x12_2.set (x13_2 : Int).toNat (-1)) := ⟨_, rfl⟩
                                replace H : (if x14_3 ≥ 0 then (hopmeshref50_Ages.l0 k3 l2 a3 t246 (y252.set (x13_2 : Int).toNat (wrap64 (x13_2 - (wrap64 (a0_5 + (wrap64 (x14_3 * a0_4))))))) (wrap64 (x13_2 + 1)) a0_0 a0_1 a0_2 a0_3 a0_4 a0_5 a0_6) else (hopmeshref50_Ages.l0 k3 l2 a3 t246 y252 (wrap64 (x13_2 + 1)) a0_0 a0_1 a0_2 a0_3 a0_4 a0_5 a0_6)) = some (r1, r2) := by first | (rw [hy252]; with_reducible exact H) | (have H2_ := (Option.bind_some _ _).symm.trans H; rw [hy252]; with_reducible exact H2_) | (have H2_ := (Option.bind_some _ _).symm.trans H; with_reducible exact H2_) | with_reducible exact H | (rw [hy252]; exact H) | exact H
                                have Ny252 := Aside0.mk hy252
                                clear hy252
                                by_cases c45 : x14_3 ≥ 0
                                · rw [if_pos c45] at H
                                  have c45b0 : decide (0 ≤ x14_3) = true := decide_eq_true c45
                                  clear c45
                                  obtain ⟨y253, hy253⟩ : ∃ y_ : List Int, y_ = (y252.set (x13_2 : Int).toNat (wrap64 (x13_2 - (wrap64 (a0_5 + (wrap64 (x14_3 * a0_4))))))) := ⟨_, rfl⟩
                                  replace H : (hopmeshref50_Ages.l0 k3 l2 a3 t246 y253 (wrap64 (x13_2 + 1)) a0_0 a0_1 a0_2 a0_3 a0_4 a0_5 a0_6) = some (r1, r2) := by first | (rw [hy253]; with_reducible exact H) | (have H2_ := (Option.bind_some _ _).symm.trans H; rw [hy253]; with_reducible exact H2_) | (have H2_ := (Option.bind_some _ _).symm.trans H; with_reducible exact H2_) | with_reducible exact H | (rw [hy253]; exact H) | exact H
                                  have Ny253 := Aside0.mk hy253
                                  clear hy253
                                  have H' := Aside0.mk H
                                  clear H
                                  have p44 : 0 ≤ (x13_2 : Int) := of_decide_eq_true (by first | (with_reducible assumption) | assumption)
                                  have q44 : (x13_2 : Int) < ((x12_2.length : Int) : Int) := of_decide_eq_true (by first | (with_reducible assumption) | assumption)
                                  obtain ⟨go44, co44, eo44, gb44, gl44, cl44, HG44⟩ := Kd.R_form HO_12.out (by omega)
                                  (first | cases eo44 | (injection eo44 with ea_ en_ ec_; (first | subst ea_ | (injection ea_ with ea_; subst ea_)); subst ec_; clear en_))
                                  have GB44 := Aside0.mk gb44
                                  have GG44 := Aside0.mk HG44
                                  clear gb44 gl44 HG44
                                  obtain ⟨hx44_0, hf44_0⟩ := Kd.R_celln 0 HO_12.out (x13_2 : Int) p44 q44
                                  replace p44 := eq_true p44
                                  replace q44 := eq_true q44
                                  have HP47 := Kd.R_putg HO_12.out (x13_2 : Int) (-1)
                                  go_wp2_with (first | ((with_reducible refine gate_store (t := 3) (p := 77) rfl ?_); refine store_event (t := 3) (p := 77) (v := ?vo_w48) (w1 := (wr.setCell ⟨go44, (x13_2 : Int).toNat, none⟩ (.int .i64 (-1)))) ?hg ?ho ?hn ?hr ?_; (case ho => rfl); (case hg => rfl); (case hn => rfl); (case hr => first | (go_simp; done) | (go_simp; rfl)); intro w48 hw; have hg : wr.grownBy w48 (some go44) := (by rw [hw]; exact HP47.2); have hp_ : Kd.R (Kd.int .i64) 3 w48 w.heap.size (fun _ => True) (.slice (some ⟨go44, 0, none⟩) x12_2.length co44) y252 := (by rw [hw, Ny252.out]; exact HP47.1); clear HP47; have n0_ := Aside0.mk (Kd.R_over' (v := (.slice (some ⟨go44, 0, none⟩) x12_2.length co44)) (by (with_reducible repeat (first | apply Kd.R_alloc | apply Kd.R_drewN | apply Kd.R_drew)); exact HO_11.out) (Kd.R_typed HO_12.out) (by decide) hg); have n1_ := Aside0.mk (hp_); have n2_ := Aside0.mk (blk_grown (g := gb243) (o := .cells #[.int .i64 a0_0, .int .i64 a0_1, .int .i64 a0_2, .int .i64 a0_3, .int .i64 a0_4, .int .i64 a0_5, .int .i64 a0_6] 23 (0, 0)) (by (with_reducible repeat (first | refine blk_drewN ?_ _ | refine blk_drew ?_ | refine blk_alloc ?_ _)); exact BK243.out) hg (Kd.R_ne HO_12.out BK243.out (by decide))); have n3_ := Aside0.mk (blk_grown (g := gb244) (o := .cells #[.int .i64 a1_0, .int .i64 a1_1] 25 (0, 0)) (by (with_reducible repeat (first | refine blk_drewN ?_ _ | refine blk_drew ?_ | refine blk_alloc ?_ _)); exact BK244.out) hg (Kd.R_ne HO_12.out BK244.out (by decide))); have n4_ := Aside0.mk ((by rw [hw]; exact below_set (HB.out) GB44.out : Below w.heap.size w w48)); clear HO_11; clear HO_12; clear BK243; clear BK244; clear HB; have HO_11 := n0_; have HO_12 := n1_; have BK243 := n2_; have BK244 := n3_; have HB := n4_; clear n0_ n1_ n2_ n3_ n4_; clear hg hw hp_; have hnb49 := NB243_244.out; have hnc49 := NB244_243.out; have hcz50_0 : w48.cell? ⟨gb243, 0, none⟩ = some (.int .i64 a0_0) := (blk_cell BK243.out 0).trans rfl; have hcz50_1 : w48.cell? ⟨gb243, 1, none⟩ = some (.int .i64 a0_1) := (blk_cell BK243.out 1).trans rfl; have hcz50_2 : w48.cell? ⟨gb243, 2, none⟩ = some (.int .i64 a0_2) := (blk_cell BK243.out 2).trans rfl; have hcz50_3 : w48.cell? ⟨gb243, 3, none⟩ = some (.int .i64 a0_3) := (blk_cell BK243.out 3).trans rfl; have hcz50_4 : w48.cell? ⟨gb243, 4, none⟩ = some (.int .i64 a0_4) := (blk_cell BK243.out 4).trans rfl; have hcz50_5 : w48.cell? ⟨gb243, 5, none⟩ = some (.int .i64 a0_5) := (blk_cell BK243.out 5).trans rfl; have hcz50_6 : w48.cell? ⟨gb243, 6, none⟩ = some (.int .i64 a0_6) := (blk_cell BK243.out 6).trans rfl; have hfz50_0 := blk_frozen BK243.out 0; have hfz50_1 := blk_frozen BK243.out 1; have hfz50_2 := blk_frozen BK243.out 2; have hfz50_3 := blk_frozen BK243.out 3; have hfz50_4 := blk_frozen BK243.out 4; have hfz50_5 := blk_frozen BK243.out 5; have hfz50_6 := blk_frozen BK243.out 6; have p46 : 0 ≤ (x13_2 : Int) := of_decide_eq_true (by first | (with_reducible assumption) | assumption); have q46 : (x13_2 : Int) < ((x12_2.length : Int) : Int) := of_decide_eq_true (by first | (with_reducible assumption) | assumption); obtain ⟨hx46_0, hf46_0⟩ := Kd.R_celln 0 HO_12.out (x13_2 : Int) p46 q46; replace p46 := eq_true p46; replace q46 := eq_true q46; obtain ⟨hy51_, hz51_⟩ := Kd.R_celln 0 HO_12.out (x13_2 : Int) (of_decide_eq_true (by first | (with_reducible assumption) | assumption)) (of_decide_eq_true (by first | (with_reducible assumption) | assumption)); have HP51 := Kd.R_putg HO_12.out (x13_2 : Int) (wrap64 (x13_2 - (wrap64 (a0_5 + (wrap64 (x14_3 * a0_4))))))) | ((with_reducible refine gate_store (t := 3) (p := 91) rfl ?_); refine store_event (t := 3) (p := 91) (v := ?vo_w52) (w1 := (w48.setCell ⟨go44, (x13_2 : Int).toNat, none⟩ (.int .i64 (wrap64 (x13_2 - (wrap64 (a0_5 + (wrap64 (x14_3 * a0_4))))))))) ?hg ?ho ?hn ?hr ?_; (case ho => rfl); (case hg => rfl); (case hn => rfl); (case hr => first | (go_simp; done) | (go_simp; rfl)); intro w52 hw; have hg : w48.grownBy w52 (some go44) := (by rw [hw]; exact HP51.2); have hp_ : Kd.R (Kd.int .i64) 3 w52 w.heap.size (fun _ => True) (.slice (some ⟨go44, 0, none⟩) x12_2.length co44) y253 := (by rw [hw, Ny253.out]; exact HP51.1); clear HP51; have n0_ := Aside0.mk (Kd.R_over' (v := (.slice (some ⟨go44, 0, none⟩) x12_2.length co44)) (by (with_reducible repeat (first | apply Kd.R_alloc | apply Kd.R_drewN | apply Kd.R_drew)); exact HO_11.out) (Kd.R_typed HO_12.out) (by decide) hg); have n1_ := Aside0.mk (hp_); have n2_ := Aside0.mk (blk_grown (g := gb243) (o := .cells #[.int .i64 a0_0, .int .i64 a0_1, .int .i64 a0_2, .int .i64 a0_3, .int .i64 a0_4, .int .i64 a0_5, .int .i64 a0_6] 23 (0, 0)) (by (with_reducible repeat (first | refine blk_drewN ?_ _ | refine blk_drew ?_ | refine blk_alloc ?_ _)); exact BK243.out) hg (Kd.R_ne HO_12.out BK243.out (by decide))); have n3_ := Aside0.mk (blk_grown (g := gb244) (o := .cells #[.int .i64 a1_0, .int .i64 a1_1] 25 (0, 0)) (by (with_reducible repeat (first | refine blk_drewN ?_ _ | refine blk_drew ?_ | refine blk_alloc ?_ _)); exact BK244.out) hg (Kd.R_ne HO_12.out BK244.out (by decide))); have n4_ := Aside0.mk ((by rw [hw]; exact below_set (HB.out) GB44.out : Below w.heap.size w w52)); clear HO_11; clear HO_12; clear BK243; clear BK244; clear HB; have HO_11 := n0_; have HO_12 := n1_; have BK243 := n2_; have BK244 := n3_; have HB := n4_; clear n0_ n1_ n2_ n3_ n4_; clear hg hw hp_))
                                  go_roundg k3
                                  case measure => have := HJ6.out; have := HK2.out; have := HK3.out; omega
                                  case rel => exact ⟨(y253), (wrap64 (x13_2 + 1)), (by first | rfl | (simp; done) | (simp [*]; done)), H', ⟨by have := HJ6.out; have := HK2.out; have := HK3.out; omega⟩, ⟨by (with_reducible repeat (first | apply Kd.R_alloc | apply Kd.R_drewN | apply Kd.R_drew)); exact HO_11.out⟩, ⟨by (with_reducible repeat (first | apply Kd.R_alloc | apply Kd.R_drewN | apply Kd.R_drew)); exact HO_12.out⟩, ⟨by (with_reducible repeat (first | refine blk_drewN ?_ _ | refine blk_drew ?_ | refine blk_alloc ?_ _)); exact BK243.out⟩, ⟨by (with_reducible repeat (first | refine blk_drewN ?_ _ | refine blk_drew ?_ | refine blk_alloc ?_ _)); exact BK244.out⟩, ⟨by repeat (first | (with_reducible first | exact HB.out | apply below_alloc | apply pw_below_drewN | apply below_drew1 | refine below_set ?_ GE243.out | refine below_set ?_ GE244.out) | exact HB.out)⟩⟩
                                · rw [if_neg c45] at H
                                  have c45b0 : decide (0 ≤ x14_3) = false := decide_eq_false c45
                                  clear c45
                                  have H' := Aside0.mk H
                                  clear H
                                  have p44 : 0 ≤ (x13_2 : Int) := of_decide_eq_true (by first | (with_reducible assumption) | assumption)
                                  have q44 : (x13_2 : Int) < ((x12_2.length : Int) : Int) := of_decide_eq_true (by first | (with_reducible assumption) | assumption)
                                  obtain ⟨go44, co44, eo44, gb44, gl44, cl44, HG44⟩ := Kd.R_form HO_12.out (by omega)
                                  (first | cases eo44 | (injection eo44 with ea_ en_ ec_; (first | subst ea_ | (injection ea_ with ea_; subst ea_)); subst ec_; clear en_))
                                  have GB44 := Aside0.mk gb44
                                  have GG44 := Aside0.mk HG44
                                  clear gb44 gl44 HG44
                                  obtain ⟨hx44_0, hf44_0⟩ := Kd.R_celln 0 HO_12.out (x13_2 : Int) p44 q44
                                  replace p44 := eq_true p44
                                  replace q44 := eq_true q44
                                  have HP53 := Kd.R_putg HO_12.out (x13_2 : Int) (-1)
                                  go_wp2_with (first | ((with_reducible refine gate_store (t := 3) (p := 77) rfl ?_); refine store_event (t := 3) (p := 77) (v := ?vo_w54) (w1 := (wr.setCell ⟨go44, (x13_2 : Int).toNat, none⟩ (.int .i64 (-1)))) ?hg ?ho ?hn ?hr ?_; (case ho => rfl); (case hg => rfl); (case hn => rfl); (case hr => first | (go_simp; done) | (go_simp; rfl)); intro w54 hw; have hg : wr.grownBy w54 (some go44) := (by rw [hw]; exact HP53.2); have hp_ : Kd.R (Kd.int .i64) 3 w54 w.heap.size (fun _ => True) (.slice (some ⟨go44, 0, none⟩) x12_2.length co44) y252 := (by rw [hw, Ny252.out]; exact HP53.1); clear HP53; have n0_ := Aside0.mk (Kd.R_over' (v := (.slice (some ⟨go44, 0, none⟩) x12_2.length co44)) (by (with_reducible repeat (first | apply Kd.R_alloc | apply Kd.R_drewN | apply Kd.R_drew)); exact HO_11.out) (Kd.R_typed HO_12.out) (by decide) hg); have n1_ := Aside0.mk (hp_); have n2_ := Aside0.mk (blk_grown (g := gb243) (o := .cells #[.int .i64 a0_0, .int .i64 a0_1, .int .i64 a0_2, .int .i64 a0_3, .int .i64 a0_4, .int .i64 a0_5, .int .i64 a0_6] 23 (0, 0)) (by (with_reducible repeat (first | refine blk_drewN ?_ _ | refine blk_drew ?_ | refine blk_alloc ?_ _)); exact BK243.out) hg (Kd.R_ne HO_12.out BK243.out (by decide))); have n3_ := Aside0.mk (blk_grown (g := gb244) (o := .cells #[.int .i64 a1_0, .int .i64 a1_1] 25 (0, 0)) (by (with_reducible repeat (first | refine blk_drewN ?_ _ | refine blk_drew ?_ | refine blk_alloc ?_ _)); exact BK244.out) hg (Kd.R_ne HO_12.out BK244.out (by decide))); have n4_ := Aside0.mk ((by rw [hw]; exact below_set (HB.out) GB44.out : Below w.heap.size w w54)); clear HO_11; clear HO_12; clear BK243; clear BK244; clear HB; have HO_11 := n0_; have HO_12 := n1_; have BK243 := n2_; have BK244 := n3_; have HB := n4_; clear n0_ n1_ n2_ n3_ n4_; clear hg hw hp_))
                                  go_roundg k3
                                  case measure => have := HJ6.out; have := HK2.out; have := HK3.out; omega
                                  case rel => exact ⟨(y252), (wrap64 (x13_2 + 1)), (by first | rfl | (simp; done) | (simp [*]; done)), H', ⟨by have := HJ6.out; have := HK2.out; have := HK3.out; omega⟩, ⟨by (with_reducible repeat (first | apply Kd.R_alloc | apply Kd.R_drewN | apply Kd.R_drew)); exact HO_11.out⟩, ⟨by (with_reducible repeat (first | apply Kd.R_alloc | apply Kd.R_drewN | apply Kd.R_drew)); exact HO_12.out⟩, ⟨by (with_reducible repeat (first | refine blk_drewN ?_ _ | refine blk_drew ?_ | refine blk_alloc ?_ _)); exact BK243.out⟩, ⟨by (with_reducible repeat (first | refine blk_drewN ?_ _ | refine blk_drew ?_ | refine blk_alloc ?_ _)); exact BK244.out⟩, ⟨by repeat (first | (with_reducible first | exact HB.out | apply below_alloc | apply pw_below_drewN | apply below_drew1 | refine below_set ?_ GE243.out | refine below_set ?_ GE244.out) | exact HB.out)⟩⟩
                              · rw [if_neg c43] at H
                                exact absurd H (by simp)
                            · rw [if_neg c42] at H
                              exact absurd H (by simp)
                    · rw [if_neg c26] at H
                      have c26b0 : decide (x13_2 < a3) = false := decide_eq_false c26
                      clear c26
                      simp only [Option.some.injEq, Prod.mk.injEq] at H
                      obtain ⟨rfl, rfl⟩ := H
                      go_wp2
                      go_ret2
                      exact ⟨_, by first | rfl | (simp [errW_none, errW_some] <;> rfl) | (simp [*, errW_none, errW_some] <;> rfl), by (with_reducible repeat (first | apply Kd.R_alloc | apply Kd.R_drewN | apply Kd.R_drew)); exact HO_12.out, by repeat (first | (with_reducible first | exact HB.out | apply below_alloc | apply pw_below_drewN | apply below_drew1 | refine below_set ?_ GE243.out | refine below_set ?_ GE244.out) | exact HB.out)⟩
              · rw [if_neg c19] at H
                exact absurd H (by simp)
            · rw [if_neg c18] at H
              exact absurd H (by simp)
  · rw [if_neg c6] at H
    have c6b0 : (t245 == 0) = false := beq_eq_false_iff_ne.mpr c6
    have c6b1 : (t245 != 0) = true := bne_iff_ne.mpr c6
    simp only [Option.some.injEq, Prod.mk.injEq] at H
    obtain ⟨rfl, rfl⟩ := H
    go_enter Try.func20, Try.ntmps20
    go_wp2_with (first | ((with_reducible refine gate_dst (N := 4) rfl ?_); refine box_event ?hg (N := 4) ?hd (cs := #[.int .i64 a0_0, .int .i64 a0_1, .int .i64 a0_2, .int .i64 a0_3, .int .i64 a0_4, .int .i64 a0_5, .int .i64 a0_6]) (t := 23) ?hr ?_; (case hd => rfl); (case hg => rfl); (case hr => first | (go_simp; done) | (go_simp; rfl)); intro gb243 hg w55 hbox hb; have n0_ := Aside0.mk (below_step (by repeat (first | (with_reducible first | exact HB.out | apply below_alloc | apply pw_below_drewN | apply below_drew1) | exact HB.out)) hb); have n1_ := Aside0.mk (hbox); have n2_ := Aside0.mk ((by rw [hg]; exact (below_size (by repeat (first | (with_reducible first | exact HB.out | apply below_alloc | apply pw_below_drewN | apply below_drew1) | exact HB.out))) : w.heap.size ≤ gb243)); have n3_ := Aside0.mk ((by rw [hg]; exact (below_size (by repeat (first | (with_reducible first | exact HB.out | apply below_alloc | apply pw_below_drewN | apply below_drew1) | exact HB.out))) : w.heap.size ≤ gb243)); clear HB; have HB := n0_; have BK243 := n1_; have GW243 := n2_; have GE243 := n3_; clear n0_ n1_ n2_ n3_; clear hb hbox hg) | ((with_reducible refine gate_dst (N := 5) rfl ?_); refine box_event ?hg (N := 5) ?hd (cs := #[.int .i64 a1_0, .int .i64 a1_1]) (t := 25) ?hr ?_; (case hd => rfl); (case hg => rfl); (case hr => first | (go_simp; done) | (go_simp; rfl)); intro gb244 hg w56 hbox hb; have n0_ := Aside0.mk (blk_below (g := gb243) (o := .cells #[.int .i64 a0_0, .int .i64 a0_1, .int .i64 a0_2, .int .i64 a0_3, .int .i64 a0_4, .int .i64 a0_5, .int .i64 a0_6] 23 (0, 0)) (by (with_reducible repeat (first | refine blk_drewN ?_ _ | refine blk_drew ?_ | refine blk_alloc ?_ _)); exact BK243.out) hb); have n1_ := Aside0.mk (below_step (by repeat (first | (with_reducible first | exact HB.out | apply below_alloc | apply pw_below_drewN | apply below_drew1 | refine below_set ?_ GE243.out) | exact HB.out)) hb); have n2_ := Aside0.mk (hbox); have n3_ := Aside0.mk ((by rw [hg]; exact (below_size (by repeat (first | (with_reducible first | exact HB.out | apply below_alloc | apply pw_below_drewN | apply below_drew1 | refine below_set ?_ GE243.out) | exact HB.out))) : w.heap.size ≤ gb244)); have n4_ := Aside0.mk ((by rw [hg]; exact (below_size (by repeat (first | (with_reducible first | exact HB.out | apply below_alloc | apply pw_below_drewN | apply below_drew1 | refine below_set ?_ GE243.out) | exact HB.out))) : w.heap.size ≤ gb244)); have n5_ := Aside0.mk ((by rw [hg]; exact Nat.ne_of_lt (blk_lt (g := gb243) (o := .cells #[.int .i64 a0_0, .int .i64 a0_1, .int .i64 a0_2, .int .i64 a0_3, .int .i64 a0_4, .int .i64 a0_5, .int .i64 a0_6] 23 (0, 0)) (by (with_reducible repeat (first | refine blk_drewN ?_ _ | refine blk_drew ?_ | refine blk_alloc ?_ _)); exact BK243.out)) : gb243 ≠ gb244)); have n6_ := Aside0.mk ((by rw [hg]; exact Nat.ne_of_gt (blk_lt (g := gb243) (o := .cells #[.int .i64 a0_0, .int .i64 a0_1, .int .i64 a0_2, .int .i64 a0_3, .int .i64 a0_4, .int .i64 a0_5, .int .i64 a0_6] 23 (0, 0)) (by (with_reducible repeat (first | refine blk_drewN ?_ _ | refine blk_drew ?_ | refine blk_alloc ?_ _)); exact BK243.out)) : gb244 ≠ gb243)); clear BK243; clear HB; have BK243 := n0_; have HB := n1_; have BK244 := n2_; have GW244 := n3_; have GE244 := n4_; have NB243_244 := n5_; have NB244_243 := n6_; clear n0_ n1_ n2_ n3_ n4_ n5_ n6_; clear hb hbox hg; have hnb57 := NB243_244.out; have hnc57 := NB244_243.out; have hcz58_0 : w56.cell? ⟨gb243, 0, none⟩ = some (.int .i64 a0_0) := (blk_cell BK243.out 0).trans rfl; have hcz58_1 : w56.cell? ⟨gb243, 1, none⟩ = some (.int .i64 a0_1) := (blk_cell BK243.out 1).trans rfl; have hcz58_2 : w56.cell? ⟨gb243, 2, none⟩ = some (.int .i64 a0_2) := (blk_cell BK243.out 2).trans rfl; have hcz58_3 : w56.cell? ⟨gb243, 3, none⟩ = some (.int .i64 a0_3) := (blk_cell BK243.out 3).trans rfl; have hcz58_4 : w56.cell? ⟨gb243, 4, none⟩ = some (.int .i64 a0_4) := (blk_cell BK243.out 4).trans rfl; have hcz58_5 : w56.cell? ⟨gb243, 5, none⟩ = some (.int .i64 a0_5) := (blk_cell BK243.out 5).trans rfl; have hcz58_6 : w56.cell? ⟨gb243, 6, none⟩ = some (.int .i64 a0_6) := (blk_cell BK243.out 6).trans rfl; have hfz58_0 := blk_frozen BK243.out 0; have hfz58_1 := blk_frozen BK243.out 1; have hfz58_2 := blk_frozen BK243.out 2; have hfz58_3 := blk_frozen BK243.out 3; have hfz58_4 := blk_frozen BK243.out 4; have hfz58_5 := blk_frozen BK243.out 5; have hfz58_6 := blk_frozen BK243.out 6; have hcz59_0 : w56.cell? ⟨gb244, 0, none⟩ = some (.int .i64 a1_0) := (blk_cell BK244.out 0).trans rfl; have hcz59_1 : w56.cell? ⟨gb244, 1, none⟩ = some (.int .i64 a1_1) := (blk_cell BK244.out 1).trans rfl; have hfz59_0 := blk_frozen BK244.out 0; have hfz59_1 := blk_frozen BK244.out 1) | ((with_reducible refine gate_callee (f := 44) rfl ?_); refine goesL_ (some 18) rfl rfl Try.func44 (by kernel_rfl) rfl #[.agg #[.int .i64 a0_0, .int .i64 a0_1, .int .i64 a0_2, .int .i64 a0_3, .int .i64 a0_4, .int .i64 a0_5, .int .i64 a0_6], .agg #[.int .i64 a1_0, .int .i64 a1_1]] rfl (by (try simp only [List.map_toArray, List.map_cons, List.map_nil]); first | done | rfl | (simp only [List.length_drop, List.length_take]; rfl)) ?_; (with_reducible refine (hopmeshref50_check.calls k a0_0 a0_1 a0_2 a0_3 a0_4 a0_5 a0_6 a1_0 a1_1 t245 _ A5.out).mono ?_); rintro e w60 ⟨rfl, hb⟩; refine ⟨_, rfl, ?_⟩; have n0_ := Aside0.mk (blk_below (g := gb243) (o := .cells #[.int .i64 a0_0, .int .i64 a0_1, .int .i64 a0_2, .int .i64 a0_3, .int .i64 a0_4, .int .i64 a0_5, .int .i64 a0_6] 23 (0, 0)) (by (with_reducible repeat (first | refine blk_drewN ?_ _ | refine blk_drew ?_ | refine blk_alloc ?_ _)); exact BK243.out) hb); have n1_ := Aside0.mk (blk_below (g := gb244) (o := .cells #[.int .i64 a1_0, .int .i64 a1_1] 25 (0, 0)) (by (with_reducible repeat (first | refine blk_drewN ?_ _ | refine blk_drew ?_ | refine blk_alloc ?_ _)); exact BK244.out) hb); have n2_ := Aside0.mk (below_step (by repeat (first | (with_reducible first | exact HB.out | apply below_alloc | apply pw_below_drewN | apply below_drew1 | refine below_set ?_ GE243.out | refine below_set ?_ GE244.out) | exact HB.out)) hb); clear BK243; clear BK244; clear HB; have BK243 := n0_; have BK244 := n1_; have HB := n2_; clear n0_ n1_ n2_; (try clear hb); (try clear hb2); (try clear hk); (try clear hi)))
    go_ret2
    exact ⟨_, by first | rfl | (simp [errW_none, errW_some] <;> rfl) | (simp [*, errW_none, errW_some] <;> rfl), by first | exact Kd.R_nil _ _ _ _ _ | exact Kd.N_nil _ _ _ _ _ | exact Kd.V_nil _ _ _ _ _ | exact Kd.Q_nil _ _ _ _ _ | exact Kd.S_nil _ _ _ _ _, by repeat (first | (with_reducible first | exact HB.out | apply below_alloc | apply pw_below_drewN | apply below_drew1 | refine below_set ?_ GE243.out | refine below_set ?_ GE244.out) | exact HB.out)⟩

end Go.Proofs.Ytnjljajopdpjjaa.PX
