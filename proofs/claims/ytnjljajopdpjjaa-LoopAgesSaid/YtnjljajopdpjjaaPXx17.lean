-- Written by wip/xprint.py, a program of this claim's own, over the kit's print program. Lean checks it.
import Derived.Test.YtnjljajopdpjjaaPXx0
import Derived.Test.YtnjljajopdpjjaaPXx16
namespace Go.Proofs.Ytnjljajopdpjjaa.PX
open Go.RowKit Go.Proofs.YtnjljajopdpjjaaW.PrintWords Go.Proofs.YtnjljajopdpjjaaW.PrintLast Go.Proofs.YtnjljajopdpjjaaW.PrintMore
attribute [local go_sem] max2_int min2_int max_two min_two max_three min_three max_four min_four   -- for this text's walks alone
set_option linter.unusedVariables false
set_option linter.unusedSimpArgs false

/-! ### hopmeshref50_Fault: function 52 -/
mutual
def hopmeshref50_Fault.j0 : Nat → Bool → Int → Int → Int → Int → Int → Int → Int → Option (Int)
  | 0, _, _, _, _, _, _, _, _ => none
  | k + 1, x5, x204000, x204001, x204002, x204003, x204004, x204005, x204006 => if x204000 < 0 then (hopmeshref50_Fault.j1 k true x204000 x204001 x204002 x204003 x204004 x204005 x204006) else (if x204000 > 127 then (hopmeshref50_Fault.j1 k true x204000 x204001 x204002 x204003 x204004 x204005 x204006) else (if x5 = true then (if x204004 < 1 then (hopmeshref50_Fault.j1 k true x204000 x204001 x204002 x204003 x204004 x204005 x204006) else (if x204004 > 512 then (hopmeshref50_Fault.j1 k true x204000 x204001 x204002 x204003 x204004 x204005 x204006) else (if x204005 < 0 then (hopmeshref50_Fault.j1 k true x204000 x204001 x204002 x204003 x204004 x204005 x204006) else (if x204005 ≥ x204004 then (hopmeshref50_Fault.j1 k true x204000 x204001 x204002 x204003 x204004 x204005 x204006) else (if x204006 < 1 then (hopmeshref50_Fault.j1 k true x204000 x204001 x204002 x204003 x204004 x204005 x204006) else (hopmeshref50_Fault.j1 k (decide (x204006 > 1024)) x204000 x204001 x204002 x204003 x204004 x204005 x204006)))))) else (hopmeshref50_Fault.j1 k true x204000 x204001 x204002 x204003 x204004 x204005 x204006)))
def hopmeshref50_Fault.j1 : Nat → Bool → Int → Int → Int → Int → Int → Int → Int → Option (Int)
  | 0, _, _, _, _, _, _, _, _ => none
  | k + 1, x65, x204000, x204001, x204002, x204003, x204004, x204005, x204006 => if x65 = true then (some 2) else (if x204001 = x204002 then (some 1) else (if x204003 = x204002 then (some 1) else (some 0)))
end
def hopmeshref50_Fault.f (k : Nat) (a0 : Int) (a1_0 : Int) (a1_1 : Int) (a1_2 : Int) (a1_3 : Int) (a1_4 : Int) (a1_5 : Int) (a1_6 : Int) : Option (Int) := (hopmeshref50_isNode.f a0 a1_1).bind fun t204 => (if t204 = true then ((hopmeshref50_isNode.f a0 a1_2).bind fun t205 => (if t205 = true then ((hopmeshref50_isNode.f a0 a1_3).bind fun t206 => (hopmeshref50_Fault.j0 k t206 a1_0 a1_1 a1_2 a1_3 a1_4 a1_5 a1_6)) else (hopmeshref50_Fault.j0 k false a1_0 a1_1 a1_2 a1_3 a1_4 a1_5 a1_6))) else (hopmeshref50_Fault.j0 k false a1_0 a1_1 a1_2 a1_3 a1_4 a1_5 a1_6))
theorem hopmeshref50_Fault.mono_l : ∀ k, (∀ y0 y1 y2 y3 y4 y5 y6 y7, LeO (hopmeshref50_Fault.j0 k y0 y1 y2 y3 y4 y5 y6 y7) (hopmeshref50_Fault.j0 (k + 1) y0 y1 y2 y3 y4 y5 y6 y7)) ∧ (∀ y0 y1 y2 y3 y4 y5 y6 y7, LeO (hopmeshref50_Fault.j1 k y0 y1 y2 y3 y4 y5 y6 y7) (hopmeshref50_Fault.j1 (k + 1) y0 y1 y2 y3 y4 y5 y6 y7))
  | 0 => ⟨fun _ _ _ _ _ _ _ _ r h => by simp [hopmeshref50_Fault.j0] at h, fun _ _ _ _ _ _ _ _ r h => by simp [hopmeshref50_Fault.j1] at h⟩
  | k + 1 => by
    obtain ⟨ih0, ih1⟩ := hopmeshref50_Fault.mono_l k
    refine ⟨?_, ?_⟩
    · intro y0 y1 y2 y3 y4 y5 y6 y7
      unfold hopmeshref50_Fault.j0
      repeat' first
      | (with_reducible exact ih0 _ _ _ _ _ _ _ _)
      | (with_reducible exact ih1 _ _ _ _ _ _ _ _)
      | (with_reducible exact LeO.refl _)
      | (with_reducible exact LeO.none _)
      | (with_reducible refine LeO.ite ?_ ?_)
      | (with_reducible refine LeO.bind ?_ (fun _ => ?_))
      | exact ih0 _ _ _ _ _ _ _ _
      | exact ih1 _ _ _ _ _ _ _ _
      | exact LeO.none _
      | refine LeO.ite ?_ ?_
      | refine LeO.bind ?_ (fun _ => ?_)
    · intro y0 y1 y2 y3 y4 y5 y6 y7
      unfold hopmeshref50_Fault.j1
      repeat' first
      | (with_reducible exact ih0 _ _ _ _ _ _ _ _)
      | (with_reducible exact ih1 _ _ _ _ _ _ _ _)
      | (with_reducible exact LeO.refl _)
      | (with_reducible exact LeO.none _)
      | (with_reducible refine LeO.ite ?_ ?_)
      | (with_reducible refine LeO.bind ?_ (fun _ => ?_))
      | exact ih0 _ _ _ _ _ _ _ _
      | exact ih1 _ _ _ _ _ _ _ _
      | exact LeO.none _
      | refine LeO.ite ?_ ?_
      | refine LeO.bind ?_ (fun _ => ?_)
theorem hopmeshref50_Fault.mono : ∀ a0 a1 a2 a3 a4 a5 a6 a7 k, LeO (hopmeshref50_Fault.f k a0 a1 a2 a3 a4 a5 a6 a7) (hopmeshref50_Fault.f (k + 1) a0 a1 a2 a3 a4 a5 a6 a7) := by
  intro a0 a1 a2 a3 a4 a5 a6 a7 k
  obtain ⟨ih0, ih1⟩ := hopmeshref50_Fault.mono_l k
  unfold hopmeshref50_Fault.f
  repeat' first
      | (with_reducible exact ih0 _ _ _ _ _ _ _ _)
      | (with_reducible exact ih1 _ _ _ _ _ _ _ _)
      | (with_reducible exact LeO.refl _)
      | (with_reducible exact LeO.none _)
      | (with_reducible refine LeO.ite ?_ ?_)
      | (with_reducible refine LeO.bind ?_ (fun _ => ?_))
      | exact ih0 _ _ _ _ _ _ _ _
      | exact ih1 _ _ _ _ _ _ _ _
      | exact LeO.none _
      | refine LeO.ite ?_ ?_
      | refine LeO.bind ?_ (fun _ => ?_)
set_option maxHeartbeats 8000000 in
set_option maxRecDepth 100000 in
theorem hopmeshref50_Fault.calls (k : Nat) (a0 : Int) (a1_0 : Int) (a1_1 : Int) (a1_2 : Int) (a1_3 : Int) (a1_4 : Int) (a1_5 : Int) (a1_6 : Int) (r : Int) (w : World) (h : hopmeshref50_Fault.f k a0 a1_0 a1_1 a1_2 a1_3 a1_4 a1_5 a1_6 = some r) :
    Calls Try.prog 52 #[.int .i64 a0, .agg #[.int .i64 a1_0, .int .i64 a1_1, .int .i64 a1_2, .int .i64 a1_3, .int .i64 a1_4, .int .i64 a1_5, .int .i64 a1_6]] w fun e w' => e = .returned (.int .i64 r) ∧ Below w.heap.size w w' := by
  have hu23 := Try.underlying23
  have HB := Aside0.mk (Below.refl w.heap.size w)
  have H : ((hopmeshref50_isNode.f a0 a1_1).bind fun t204 => (if t204 = true then ((hopmeshref50_isNode.f a0 a1_2).bind fun t205 => (if t205 = true then ((hopmeshref50_isNode.f a0 a1_3).bind fun t206 => (hopmeshref50_Fault.j0 k t206 a1_0 a1_1 a1_2 a1_3 a1_4 a1_5 a1_6)) else (hopmeshref50_Fault.j0 k false a1_0 a1_1 a1_2 a1_3 a1_4 a1_5 a1_6))) else (hopmeshref50_Fault.j0 k false a1_0 a1_1 a1_2 a1_3 a1_4 a1_5 a1_6))) = some r := h
  clear h
  have HC3 := Aside0.mk H
  clear H
  go_enter Try.func52, Try.ntmps52
  go_upto_region 1 with (first | ((with_reducible refine gate_dst (N := 3) rfl ?_); refine box_event ?hg (N := 3) ?hd (cs := #[.int .i64 a1_0, .int .i64 a1_1, .int .i64 a1_2, .int .i64 a1_3, .int .i64 a1_4, .int .i64 a1_5, .int .i64 a1_6]) (t := 23) ?hr ?_; (case hd => rfl); (case hg => rfl); (case hr => first | (go_simp; done) | (go_simp; rfl)); intro gb203 hg w4 hbox hb; have n0_ := Aside0.mk (below_step (by repeat (first | (with_reducible first | exact HB.out | apply below_alloc | apply pw_below_drewN | apply below_drew1) | exact HB.out)) hb); have n1_ := Aside0.mk (hbox); have n2_ := Aside0.mk ((by rw [hg]; exact (below_size (by repeat (first | (with_reducible first | exact HB.out | apply below_alloc | apply pw_below_drewN | apply below_drew1) | exact HB.out))) : w.heap.size ≤ gb203)); have n3_ := Aside0.mk ((by rw [hg]; exact (below_size (by repeat (first | (with_reducible first | exact HB.out | apply below_alloc | apply pw_below_drewN | apply below_drew1) | exact HB.out))) : w.heap.size ≤ gb203)); clear HB; have HB := n0_; have BK203 := n1_; have GW203 := n2_; have GE203 := n3_; clear n0_ n1_ n2_ n3_; clear hb hbox hg))
  (try simp only [Act.put, List.setIfInBounds_toArray, List.set_cons_zero, List.set_cons_succ])
  go_cut [5] (fun v5 wc => ∃ (kq : Nat) (x5_2 : Bool), v5 = .bool x5_2 ∧ Aside0 (hopmeshref50_Fault.j0 kq x5_2 a1_0 a1_1 a1_2 a1_3 a1_4 a1_5 a1_6 = some r) ∧ Aside0 (kq ≤ k) ∧ Aside0 (wc.heap[gb203]? = some (.cells #[.int .i64 a1_0, .int .i64 a1_1, .int .i64 a1_2, .int .i64 a1_3, .int .i64 a1_4, .int .i64 a1_5, .int .i64 a1_6] 23 (0, 0))) ∧ Aside0 (Below w.heap.size w wc))
  case first =>
    have H := HC3.out
    clear HC3
    replace H := Option.bind_eq_some_iff.mp H
    obtain ⟨t204, A50, H⟩ := H
    replace H : (if t204 = true then ((hopmeshref50_isNode.f a0 a1_2).bind fun t205 => (if t205 = true then ((hopmeshref50_isNode.f a0 a1_3).bind fun t206 => (hopmeshref50_Fault.j0 k t206 a1_0 a1_1 a1_2 a1_3 a1_4 a1_5 a1_6)) else (hopmeshref50_Fault.j0 k false a1_0 a1_1 a1_2 a1_3 a1_4 a1_5 a1_6))) else (hopmeshref50_Fault.j0 k false a1_0 a1_1 a1_2 a1_3 a1_4 a1_5 a1_6)) = some r := H
    have A5 := Aside0.mk A50
    clear A50
    by_cases c6 : t204 = true
    · subst c6
      have H1 : ((hopmeshref50_isNode.f a0 a1_2).bind fun t205 => (if t205 = true then ((hopmeshref50_isNode.f a0 a1_3).bind fun t206 => (hopmeshref50_Fault.j0 k t206 a1_0 a1_1 a1_2 a1_3 a1_4 a1_5 a1_6)) else (hopmeshref50_Fault.j0 k false a1_0 a1_1 a1_2 a1_3 a1_4 a1_5 a1_6))) = some r := by rw [if_pos rfl] at H; exact H
      clear H
      have H := H1
      clear H1
      replace H := Option.bind_eq_some_iff.mp H
      obtain ⟨t205, A70, H⟩ := H
      replace H : (if t205 = true then ((hopmeshref50_isNode.f a0 a1_3).bind fun t206 => (hopmeshref50_Fault.j0 k t206 a1_0 a1_1 a1_2 a1_3 a1_4 a1_5 a1_6)) else (hopmeshref50_Fault.j0 k false a1_0 a1_1 a1_2 a1_3 a1_4 a1_5 a1_6)) = some r := H
      have A7 := Aside0.mk A70
      clear A70
      by_cases c8 : t205 = true
      · subst c8
        have H1 : ((hopmeshref50_isNode.f a0 a1_3).bind fun t206 => (hopmeshref50_Fault.j0 k t206 a1_0 a1_1 a1_2 a1_3 a1_4 a1_5 a1_6)) = some r := by rw [if_pos rfl] at H; exact H
        clear H
        have H := H1
        clear H1
        replace H := Option.bind_eq_some_iff.mp H
        obtain ⟨t206, A90, H⟩ := H
        replace H : (hopmeshref50_Fault.j0 k t206 a1_0 a1_1 a1_2 a1_3 a1_4 a1_5 a1_6) = some r := H
        have A9 := Aside0.mk A90
        clear A90
        have H' := Aside0.mk H
        clear H
        have hcz10_0 : w4.cell? ⟨gb203, 0, none⟩ = some (.int .i64 a1_0) := (blk_cell BK203.out 0).trans rfl
        have hcz10_1 : w4.cell? ⟨gb203, 1, none⟩ = some (.int .i64 a1_1) := (blk_cell BK203.out 1).trans rfl
        have hcz10_2 : w4.cell? ⟨gb203, 2, none⟩ = some (.int .i64 a1_2) := (blk_cell BK203.out 2).trans rfl
        have hcz10_3 : w4.cell? ⟨gb203, 3, none⟩ = some (.int .i64 a1_3) := (blk_cell BK203.out 3).trans rfl
        have hcz10_4 : w4.cell? ⟨gb203, 4, none⟩ = some (.int .i64 a1_4) := (blk_cell BK203.out 4).trans rfl
        have hcz10_5 : w4.cell? ⟨gb203, 5, none⟩ = some (.int .i64 a1_5) := (blk_cell BK203.out 5).trans rfl
        have hcz10_6 : w4.cell? ⟨gb203, 6, none⟩ = some (.int .i64 a1_6) := (blk_cell BK203.out 6).trans rfl
        have hfz10_0 := blk_frozen BK203.out 0
        have hfz10_1 := blk_frozen BK203.out 1
        have hfz10_2 := blk_frozen BK203.out 2
        have hfz10_3 := blk_frozen BK203.out 3
        have hfz10_4 := blk_frozen BK203.out 4
        have hfz10_5 := blk_frozen BK203.out 5
        have hfz10_6 := blk_frozen BK203.out 6
        go_wp2_with (first | ((with_reducible refine gate_callee (f := 59) rfl ?_); refine goesL_ (some 9) rfl rfl Try.func59 (by kernel_rfl) rfl #[.int .i64 a0, .int .i64 a1_1] rfl (by (try simp only [List.map_toArray, List.map_cons, List.map_nil]); first | done | rfl | (simp only [List.length_drop, List.length_take]; rfl)) ?_; (with_reducible refine (hopmeshref50_isNode.calls a0 a1_1 true _ A5.out).mono ?_); rintro e w' ⟨rfl, ⟨nd, rfl⟩⟩; refine ⟨_, rfl, ?_⟩) | (go_at_call 59; (with_reducible refine (hopmeshref50_isNode.calls a0 a1_2 true _ A7.out).mono ?_); rintro e w' ⟨rfl, ⟨nd, rfl⟩⟩) | (go_at_call 59; (with_reducible refine (hopmeshref50_isNode.calls a0 a1_3 t206 _ A9.out).mono ?_); rintro e w' ⟨rfl, ⟨nd, rfl⟩⟩))
        go_meet
        case rel => exact ⟨_, (t206), (by first | rfl | (simp; done) | (simp [*]; done)), H', ⟨by first | omega | exact Nat.le_refl _⟩, ⟨by (with_reducible repeat (first | refine blk_drewN ?_ _ | refine blk_drew ?_ | refine blk_alloc ?_ _)); exact BK203.out⟩, ⟨by repeat (first | (with_reducible first | exact HB.out | apply below_alloc | apply pw_below_drewN | apply below_drew1 | refine below_set ?_ GE203.out) | exact HB.out)⟩⟩
      · replace c8 := Bool.eq_false_iff.mpr c8
        subst c8
        have H1 : (hopmeshref50_Fault.j0 k false a1_0 a1_1 a1_2 a1_3 a1_4 a1_5 a1_6) = some r := by rw [if_neg (show ¬ (false = true) by decide)] at H; exact H
        clear H
        have H := H1
        clear H1
        have H' := Aside0.mk H
        clear H
        have hcz11_0 : w4.cell? ⟨gb203, 0, none⟩ = some (.int .i64 a1_0) := (blk_cell BK203.out 0).trans rfl
        have hcz11_1 : w4.cell? ⟨gb203, 1, none⟩ = some (.int .i64 a1_1) := (blk_cell BK203.out 1).trans rfl
        have hcz11_2 : w4.cell? ⟨gb203, 2, none⟩ = some (.int .i64 a1_2) := (blk_cell BK203.out 2).trans rfl
        have hcz11_3 : w4.cell? ⟨gb203, 3, none⟩ = some (.int .i64 a1_3) := (blk_cell BK203.out 3).trans rfl
        have hcz11_4 : w4.cell? ⟨gb203, 4, none⟩ = some (.int .i64 a1_4) := (blk_cell BK203.out 4).trans rfl
        have hcz11_5 : w4.cell? ⟨gb203, 5, none⟩ = some (.int .i64 a1_5) := (blk_cell BK203.out 5).trans rfl
        have hcz11_6 : w4.cell? ⟨gb203, 6, none⟩ = some (.int .i64 a1_6) := (blk_cell BK203.out 6).trans rfl
        have hfz11_0 := blk_frozen BK203.out 0
        have hfz11_1 := blk_frozen BK203.out 1
        have hfz11_2 := blk_frozen BK203.out 2
        have hfz11_3 := blk_frozen BK203.out 3
        have hfz11_4 := blk_frozen BK203.out 4
        have hfz11_5 := blk_frozen BK203.out 5
        have hfz11_6 := blk_frozen BK203.out 6
        go_wp2_with (first | ((with_reducible refine gate_callee (f := 59) rfl ?_); refine goesL_ (some 9) rfl rfl Try.func59 (by kernel_rfl) rfl #[.int .i64 a0, .int .i64 a1_1] rfl (by (try simp only [List.map_toArray, List.map_cons, List.map_nil]); first | done | rfl | (simp only [List.length_drop, List.length_take]; rfl)) ?_; (with_reducible refine (hopmeshref50_isNode.calls a0 a1_1 true _ A5.out).mono ?_); rintro e w' ⟨rfl, ⟨nd, rfl⟩⟩; refine ⟨_, rfl, ?_⟩) | (go_at_call 59; (with_reducible refine (hopmeshref50_isNode.calls a0 a1_2 false _ A7.out).mono ?_); rintro e w' ⟨rfl, ⟨nd, rfl⟩⟩))
        go_meet
        case rel => exact ⟨_, (false), (by first | rfl | (simp; done) | (simp [*]; done)), H', ⟨by first | omega | exact Nat.le_refl _⟩, ⟨by (with_reducible repeat (first | refine blk_drewN ?_ _ | refine blk_drew ?_ | refine blk_alloc ?_ _)); exact BK203.out⟩, ⟨by repeat (first | (with_reducible first | exact HB.out | apply below_alloc | apply pw_below_drewN | apply below_drew1 | refine below_set ?_ GE203.out) | exact HB.out)⟩⟩
    · replace c6 := Bool.eq_false_iff.mpr c6
      subst c6
      have H1 : (hopmeshref50_Fault.j0 k false a1_0 a1_1 a1_2 a1_3 a1_4 a1_5 a1_6) = some r := by rw [if_neg (show ¬ (false = true) by decide)] at H; exact H
      clear H
      have H := H1
      clear H1
      have H' := Aside0.mk H
      clear H
      have hcz12_0 : w4.cell? ⟨gb203, 0, none⟩ = some (.int .i64 a1_0) := (blk_cell BK203.out 0).trans rfl
      have hcz12_1 : w4.cell? ⟨gb203, 1, none⟩ = some (.int .i64 a1_1) := (blk_cell BK203.out 1).trans rfl
      have hcz12_2 : w4.cell? ⟨gb203, 2, none⟩ = some (.int .i64 a1_2) := (blk_cell BK203.out 2).trans rfl
      have hcz12_3 : w4.cell? ⟨gb203, 3, none⟩ = some (.int .i64 a1_3) := (blk_cell BK203.out 3).trans rfl
      have hcz12_4 : w4.cell? ⟨gb203, 4, none⟩ = some (.int .i64 a1_4) := (blk_cell BK203.out 4).trans rfl
      have hcz12_5 : w4.cell? ⟨gb203, 5, none⟩ = some (.int .i64 a1_5) := (blk_cell BK203.out 5).trans rfl
      have hcz12_6 : w4.cell? ⟨gb203, 6, none⟩ = some (.int .i64 a1_6) := (blk_cell BK203.out 6).trans rfl
      have hfz12_0 := blk_frozen BK203.out 0
      have hfz12_1 := blk_frozen BK203.out 1
      have hfz12_2 := blk_frozen BK203.out 2
      have hfz12_3 := blk_frozen BK203.out 3
      have hfz12_4 := blk_frozen BK203.out 4
      have hfz12_5 := blk_frozen BK203.out 5
      have hfz12_6 := blk_frozen BK203.out 6
      go_wp2_with (first | ((with_reducible refine gate_callee (f := 59) rfl ?_); refine goesL_ (some 9) rfl rfl Try.func59 (by kernel_rfl) rfl #[.int .i64 a0, .int .i64 a1_1] rfl (by (try simp only [List.map_toArray, List.map_cons, List.map_nil]); first | done | rfl | (simp only [List.length_drop, List.length_take]; rfl)) ?_; (with_reducible refine (hopmeshref50_isNode.calls a0 a1_1 false _ A5.out).mono ?_); rintro e w' ⟨rfl, ⟨nd, rfl⟩⟩; refine ⟨_, rfl, ?_⟩))
      go_meet
      case rel => exact ⟨_, (false), (by first | rfl | (simp; done) | (simp [*]; done)), H', ⟨by first | omega | exact Nat.le_refl _⟩, ⟨by (with_reducible repeat (first | refine blk_drewN ?_ _ | refine blk_drew ?_ | refine blk_alloc ?_ _)); exact BK203.out⟩, ⟨by repeat (first | (with_reducible first | exact HB.out | apply below_alloc | apply pw_below_drewN | apply below_drew1 | refine below_set ?_ GE203.out) | exact HB.out)⟩⟩
  case rest =>
    clear HC3
    try clear p2
    try clear c5
    try clear c6
    try clear c8
    try clear hcz10_0
    try clear hcz10_1
    try clear hcz10_2
    try clear hcz10_3
    try clear hcz10_4
    try clear hcz10_5
    try clear hcz10_6
    try clear hcz11_0
    try clear hcz11_1
    try clear hcz11_2
    try clear hcz11_3
    try clear hcz11_4
    try clear hcz11_5
    try clear hcz11_6
    try clear hcz12_0
    try clear hcz12_1
    try clear hcz12_2
    try clear hcz12_3
    try clear hcz12_4
    try clear hcz12_5
    try clear hcz12_6
    try clear hfz10_0
    try clear hfz10_1
    try clear hfz10_2
    try clear hfz10_3
    try clear hfz10_4
    try clear hfz10_5
    try clear hfz10_6
    try clear hfz11_0
    try clear hfz11_1
    try clear hfz11_2
    try clear hfz11_3
    try clear hfz11_4
    try clear hfz11_5
    try clear hfz11_6
    try clear hfz12_0
    try clear hfz12_1
    try clear hfz12_2
    try clear hfz12_3
    try clear hfz12_4
    try clear hfz12_5
    try clear hfz12_6
    obtain ⟨kq, x5_2, rfl, HA, HJ2, BK203, HB⟩ := hcut
    cases kq with
    | zero => exact absurd HA.out (by simp [hopmeshref50_Fault.j0])
    | succ kj2 =>
      have H := HA.out
      clear HA
      simp only [hopmeshref50_Fault.j0] at H
      have HC13 := Aside0.mk H
      clear H
      go_upto_region 2 with (fail)
      go_cut [65] (fun v65 wc => ∃ (kq : Nat) (x65_12 : Bool), v65 = .bool x65_12 ∧ Aside0 (hopmeshref50_Fault.j1 kq x65_12 a1_0 a1_1 a1_2 a1_3 a1_4 a1_5 a1_6 = some r) ∧ Aside0 (kq ≤ kj2) ∧ Aside0 (wc.heap[gb203]? = some (.cells #[.int .i64 a1_0, .int .i64 a1_1, .int .i64 a1_2, .int .i64 a1_3, .int .i64 a1_4, .int .i64 a1_5, .int .i64 a1_6] 23 (0, 0))) ∧ Aside0 (Below w.heap.size w wc))
      case first =>
        have H := HC13.out
        clear HC13
        by_cases c14 : a1_0 < 0
        · rw [if_pos c14] at H
          have c14b0 : decide (a1_0 < 0) = true := decide_eq_true c14
          clear c14
          (first | rw [c14b0] | (simp only [i64_w, i32_w]; rw [c14b0]) | skip)
          have H' := Aside0.mk H
          clear H
          have hcz15_0 : wc.cell? ⟨gb203, 0, none⟩ = some (.int .i64 a1_0) := (blk_cell BK203.out 0).trans rfl
          have hcz15_1 : wc.cell? ⟨gb203, 1, none⟩ = some (.int .i64 a1_1) := (blk_cell BK203.out 1).trans rfl
          have hcz15_2 : wc.cell? ⟨gb203, 2, none⟩ = some (.int .i64 a1_2) := (blk_cell BK203.out 2).trans rfl
          have hcz15_3 : wc.cell? ⟨gb203, 3, none⟩ = some (.int .i64 a1_3) := (blk_cell BK203.out 3).trans rfl
          have hcz15_4 : wc.cell? ⟨gb203, 4, none⟩ = some (.int .i64 a1_4) := (blk_cell BK203.out 4).trans rfl
          have hcz15_5 : wc.cell? ⟨gb203, 5, none⟩ = some (.int .i64 a1_5) := (blk_cell BK203.out 5).trans rfl
          have hcz15_6 : wc.cell? ⟨gb203, 6, none⟩ = some (.int .i64 a1_6) := (blk_cell BK203.out 6).trans rfl
          have hfz15_0 := blk_frozen BK203.out 0
          have hfz15_1 := blk_frozen BK203.out 1
          have hfz15_2 := blk_frozen BK203.out 2
          have hfz15_3 := blk_frozen BK203.out 3
          have hfz15_4 := blk_frozen BK203.out 4
          have hfz15_5 := blk_frozen BK203.out 5
          have hfz15_6 := blk_frozen BK203.out 6
          go_wp2
          go_meet
          case rel => exact ⟨_, (true), (by first | rfl | (simp; done) | (simp [*]; done)), H', ⟨by have := HJ2.out; first | omega | exact Nat.le_refl _⟩, ⟨by (with_reducible repeat (first | refine blk_drewN ?_ _ | refine blk_drew ?_ | refine blk_alloc ?_ _)); exact BK203.out⟩, ⟨by repeat (first | (with_reducible first | exact HB.out | apply below_alloc | apply pw_below_drewN | apply below_drew1 | refine below_set ?_ GE203.out) | exact HB.out)⟩⟩
        · rw [if_neg c14] at H
          have c14b0 : decide (a1_0 < 0) = false := decide_eq_false c14
          clear c14
          (first | rw [c14b0] | (simp only [i64_w, i32_w]; rw [c14b0]) | skip)
          by_cases c16 : a1_0 > 127
          · rw [if_pos c16] at H
            have c16b0 : decide (127 < a1_0) = true := decide_eq_true c16
            clear c16
            have H' := Aside0.mk H
            clear H
            have hcz17_0 : wc.cell? ⟨gb203, 0, none⟩ = some (.int .i64 a1_0) := (blk_cell BK203.out 0).trans rfl
            have hcz17_1 : wc.cell? ⟨gb203, 1, none⟩ = some (.int .i64 a1_1) := (blk_cell BK203.out 1).trans rfl
            have hcz17_2 : wc.cell? ⟨gb203, 2, none⟩ = some (.int .i64 a1_2) := (blk_cell BK203.out 2).trans rfl
            have hcz17_3 : wc.cell? ⟨gb203, 3, none⟩ = some (.int .i64 a1_3) := (blk_cell BK203.out 3).trans rfl
            have hcz17_4 : wc.cell? ⟨gb203, 4, none⟩ = some (.int .i64 a1_4) := (blk_cell BK203.out 4).trans rfl
            have hcz17_5 : wc.cell? ⟨gb203, 5, none⟩ = some (.int .i64 a1_5) := (blk_cell BK203.out 5).trans rfl
            have hcz17_6 : wc.cell? ⟨gb203, 6, none⟩ = some (.int .i64 a1_6) := (blk_cell BK203.out 6).trans rfl
            have hfz17_0 := blk_frozen BK203.out 0
            have hfz17_1 := blk_frozen BK203.out 1
            have hfz17_2 := blk_frozen BK203.out 2
            have hfz17_3 := blk_frozen BK203.out 3
            have hfz17_4 := blk_frozen BK203.out 4
            have hfz17_5 := blk_frozen BK203.out 5
            have hfz17_6 := blk_frozen BK203.out 6
            go_wp2
            go_meet
            case rel => exact ⟨_, (true), (by first | rfl | (simp; done) | (simp [*]; done)), H', ⟨by have := HJ2.out; first | omega | exact Nat.le_refl _⟩, ⟨by (with_reducible repeat (first | refine blk_drewN ?_ _ | refine blk_drew ?_ | refine blk_alloc ?_ _)); exact BK203.out⟩, ⟨by repeat (first | (with_reducible first | exact HB.out | apply below_alloc | apply pw_below_drewN | apply below_drew1 | refine below_set ?_ GE203.out) | exact HB.out)⟩⟩
          · rw [if_neg c16] at H
            have c16b0 : decide (127 < a1_0) = false := decide_eq_false c16
            clear c16
            by_cases c18 : x5_2 = true
            · subst c18
              have H1 : (if a1_4 < 1 then (hopmeshref50_Fault.j1 kj2 true a1_0 a1_1 a1_2 a1_3 a1_4 a1_5 a1_6) else (if a1_4 > 512 then (hopmeshref50_Fault.j1 kj2 true a1_0 a1_1 a1_2 a1_3 a1_4 a1_5 a1_6) else (if a1_5 < 0 then (hopmeshref50_Fault.j1 kj2 true a1_0 a1_1 a1_2 a1_3 a1_4 a1_5 a1_6) else (if a1_5 ≥ a1_4 then (hopmeshref50_Fault.j1 kj2 true a1_0 a1_1 a1_2 a1_3 a1_4 a1_5 a1_6) else (if a1_6 < 1 then (hopmeshref50_Fault.j1 kj2 true a1_0 a1_1 a1_2 a1_3 a1_4 a1_5 a1_6) else (hopmeshref50_Fault.j1 kj2 (decide (a1_6 > 1024)) a1_0 a1_1 a1_2 a1_3 a1_4 a1_5 a1_6)))))) = some r := by rw [if_pos rfl] at H; exact H
              clear H
              have H := H1
              clear H1
              by_cases c19 : a1_4 < 1
              · rw [if_pos c19] at H
                have c19b0 : decide (a1_4 < 1) = true := decide_eq_true c19
                clear c19
                have H' := Aside0.mk H
                clear H
                have hcz20_0 : wc.cell? ⟨gb203, 0, none⟩ = some (.int .i64 a1_0) := (blk_cell BK203.out 0).trans rfl
                have hcz20_1 : wc.cell? ⟨gb203, 1, none⟩ = some (.int .i64 a1_1) := (blk_cell BK203.out 1).trans rfl
                have hcz20_2 : wc.cell? ⟨gb203, 2, none⟩ = some (.int .i64 a1_2) := (blk_cell BK203.out 2).trans rfl
                have hcz20_3 : wc.cell? ⟨gb203, 3, none⟩ = some (.int .i64 a1_3) := (blk_cell BK203.out 3).trans rfl
                have hcz20_4 : wc.cell? ⟨gb203, 4, none⟩ = some (.int .i64 a1_4) := (blk_cell BK203.out 4).trans rfl
                have hcz20_5 : wc.cell? ⟨gb203, 5, none⟩ = some (.int .i64 a1_5) := (blk_cell BK203.out 5).trans rfl
                have hcz20_6 : wc.cell? ⟨gb203, 6, none⟩ = some (.int .i64 a1_6) := (blk_cell BK203.out 6).trans rfl
                have hfz20_0 := blk_frozen BK203.out 0
                have hfz20_1 := blk_frozen BK203.out 1
                have hfz20_2 := blk_frozen BK203.out 2
                have hfz20_3 := blk_frozen BK203.out 3
                have hfz20_4 := blk_frozen BK203.out 4
                have hfz20_5 := blk_frozen BK203.out 5
                have hfz20_6 := blk_frozen BK203.out 6
                go_wp2
                go_meet
                case rel => exact ⟨_, (true), (by first | rfl | (simp; done) | (simp [*]; done)), H', ⟨by have := HJ2.out; first | omega | exact Nat.le_refl _⟩, ⟨by (with_reducible repeat (first | refine blk_drewN ?_ _ | refine blk_drew ?_ | refine blk_alloc ?_ _)); exact BK203.out⟩, ⟨by repeat (first | (with_reducible first | exact HB.out | apply below_alloc | apply pw_below_drewN | apply below_drew1 | refine below_set ?_ GE203.out) | exact HB.out)⟩⟩
              · rw [if_neg c19] at H
                have c19b0 : decide (a1_4 < 1) = false := decide_eq_false c19
                clear c19
                by_cases c21 : a1_4 > 512
                · rw [if_pos c21] at H
                  have c21b0 : decide (512 < a1_4) = true := decide_eq_true c21
                  clear c21
                  have H' := Aside0.mk H
                  clear H
                  have hcz22_0 : wc.cell? ⟨gb203, 0, none⟩ = some (.int .i64 a1_0) := (blk_cell BK203.out 0).trans rfl
                  have hcz22_1 : wc.cell? ⟨gb203, 1, none⟩ = some (.int .i64 a1_1) := (blk_cell BK203.out 1).trans rfl
                  have hcz22_2 : wc.cell? ⟨gb203, 2, none⟩ = some (.int .i64 a1_2) := (blk_cell BK203.out 2).trans rfl
                  have hcz22_3 : wc.cell? ⟨gb203, 3, none⟩ = some (.int .i64 a1_3) := (blk_cell BK203.out 3).trans rfl
                  have hcz22_4 : wc.cell? ⟨gb203, 4, none⟩ = some (.int .i64 a1_4) := (blk_cell BK203.out 4).trans rfl
                  have hcz22_5 : wc.cell? ⟨gb203, 5, none⟩ = some (.int .i64 a1_5) := (blk_cell BK203.out 5).trans rfl
                  have hcz22_6 : wc.cell? ⟨gb203, 6, none⟩ = some (.int .i64 a1_6) := (blk_cell BK203.out 6).trans rfl
                  have hfz22_0 := blk_frozen BK203.out 0
                  have hfz22_1 := blk_frozen BK203.out 1
                  have hfz22_2 := blk_frozen BK203.out 2
                  have hfz22_3 := blk_frozen BK203.out 3
                  have hfz22_4 := blk_frozen BK203.out 4
                  have hfz22_5 := blk_frozen BK203.out 5
                  have hfz22_6 := blk_frozen BK203.out 6
                  go_wp2
                  go_meet
                  case rel => exact ⟨_, (true), (by first | rfl | (simp; done) | (simp [*]; done)), H', ⟨by have := HJ2.out; first | omega | exact Nat.le_refl _⟩, ⟨by (with_reducible repeat (first | refine blk_drewN ?_ _ | refine blk_drew ?_ | refine blk_alloc ?_ _)); exact BK203.out⟩, ⟨by repeat (first | (with_reducible first | exact HB.out | apply below_alloc | apply pw_below_drewN | apply below_drew1 | refine below_set ?_ GE203.out) | exact HB.out)⟩⟩
                · rw [if_neg c21] at H
                  have c21b0 : decide (512 < a1_4) = false := decide_eq_false c21
                  clear c21
                  by_cases c23 : a1_5 < 0
                  · rw [if_pos c23] at H
                    have c23b0 : decide (a1_5 < 0) = true := decide_eq_true c23
                    clear c23
                    have H' := Aside0.mk H
                    clear H
                    have hcz24_0 : wc.cell? ⟨gb203, 0, none⟩ = some (.int .i64 a1_0) := (blk_cell BK203.out 0).trans rfl
                    have hcz24_1 : wc.cell? ⟨gb203, 1, none⟩ = some (.int .i64 a1_1) := (blk_cell BK203.out 1).trans rfl
                    have hcz24_2 : wc.cell? ⟨gb203, 2, none⟩ = some (.int .i64 a1_2) := (blk_cell BK203.out 2).trans rfl
                    have hcz24_3 : wc.cell? ⟨gb203, 3, none⟩ = some (.int .i64 a1_3) := (blk_cell BK203.out 3).trans rfl
                    have hcz24_4 : wc.cell? ⟨gb203, 4, none⟩ = some (.int .i64 a1_4) := (blk_cell BK203.out 4).trans rfl
                    have hcz24_5 : wc.cell? ⟨gb203, 5, none⟩ = some (.int .i64 a1_5) := (blk_cell BK203.out 5).trans rfl
                    have hcz24_6 : wc.cell? ⟨gb203, 6, none⟩ = some (.int .i64 a1_6) := (blk_cell BK203.out 6).trans rfl
                    have hfz24_0 := blk_frozen BK203.out 0
                    have hfz24_1 := blk_frozen BK203.out 1
                    have hfz24_2 := blk_frozen BK203.out 2
                    have hfz24_3 := blk_frozen BK203.out 3
                    have hfz24_4 := blk_frozen BK203.out 4
                    have hfz24_5 := blk_frozen BK203.out 5
                    have hfz24_6 := blk_frozen BK203.out 6
                    go_wp2
                    go_meet
                    case rel => exact ⟨_, (true), (by first | rfl | (simp; done) | (simp [*]; done)), H', ⟨by have := HJ2.out; first | omega | exact Nat.le_refl _⟩, ⟨by (with_reducible repeat (first | refine blk_drewN ?_ _ | refine blk_drew ?_ | refine blk_alloc ?_ _)); exact BK203.out⟩, ⟨by repeat (first | (with_reducible first | exact HB.out | apply below_alloc | apply pw_below_drewN | apply below_drew1 | refine below_set ?_ GE203.out) | exact HB.out)⟩⟩
                  · rw [if_neg c23] at H
                    have c23b0 : decide (a1_5 < 0) = false := decide_eq_false c23
                    clear c23
                    by_cases c25 : a1_5 ≥ a1_4
                    · rw [if_pos c25] at H
                      have c25b0 : decide (a1_4 ≤ a1_5) = true := decide_eq_true c25
                      clear c25
                      have H' := Aside0.mk H
                      clear H
                      have hcz26_0 : wc.cell? ⟨gb203, 0, none⟩ = some (.int .i64 a1_0) := (blk_cell BK203.out 0).trans rfl
                      have hcz26_1 : wc.cell? ⟨gb203, 1, none⟩ = some (.int .i64 a1_1) := (blk_cell BK203.out 1).trans rfl
                      have hcz26_2 : wc.cell? ⟨gb203, 2, none⟩ = some (.int .i64 a1_2) := (blk_cell BK203.out 2).trans rfl
                      have hcz26_3 : wc.cell? ⟨gb203, 3, none⟩ = some (.int .i64 a1_3) := (blk_cell BK203.out 3).trans rfl
                      have hcz26_4 : wc.cell? ⟨gb203, 4, none⟩ = some (.int .i64 a1_4) := (blk_cell BK203.out 4).trans rfl
                      have hcz26_5 : wc.cell? ⟨gb203, 5, none⟩ = some (.int .i64 a1_5) := (blk_cell BK203.out 5).trans rfl
                      have hcz26_6 : wc.cell? ⟨gb203, 6, none⟩ = some (.int .i64 a1_6) := (blk_cell BK203.out 6).trans rfl
                      have hfz26_0 := blk_frozen BK203.out 0
                      have hfz26_1 := blk_frozen BK203.out 1
                      have hfz26_2 := blk_frozen BK203.out 2
                      have hfz26_3 := blk_frozen BK203.out 3
                      have hfz26_4 := blk_frozen BK203.out 4
                      have hfz26_5 := blk_frozen BK203.out 5
                      have hfz26_6 := blk_frozen BK203.out 6
                      go_wp2
                      go_meet
                      case rel => exact ⟨_, (true), (by first | rfl | (simp; done) | (simp [*]; done)), H', ⟨by have := HJ2.out; first | omega | exact Nat.le_refl _⟩, ⟨by (with_reducible repeat (first | refine blk_drewN ?_ _ | refine blk_drew ?_ | refine blk_alloc ?_ _)); exact BK203.out⟩, ⟨by repeat (first | (with_reducible first | exact HB.out | apply below_alloc | apply pw_below_drewN | apply below_drew1 | refine below_set ?_ GE203.out) | exact HB.out)⟩⟩
                    · rw [if_neg c25] at H
                      have c25b0 : decide (a1_4 ≤ a1_5) = false := decide_eq_false c25
                      clear c25
                      by_cases c27 : a1_6 < 1
                      · rw [if_pos c27] at H
                        have c27b0 : decide (a1_6 < 1) = true := decide_eq_true c27
                        clear c27
                        have H' := Aside0.mk H
                        clear H
                        have hcz28_0 : wc.cell? ⟨gb203, 0, none⟩ = some (.int .i64 a1_0) := (blk_cell BK203.out 0).trans rfl
                        have hcz28_1 : wc.cell? ⟨gb203, 1, none⟩ = some (.int .i64 a1_1) := (blk_cell BK203.out 1).trans rfl
                        have hcz28_2 : wc.cell? ⟨gb203, 2, none⟩ = some (.int .i64 a1_2) := (blk_cell BK203.out 2).trans rfl
                        have hcz28_3 : wc.cell? ⟨gb203, 3, none⟩ = some (.int .i64 a1_3) := (blk_cell BK203.out 3).trans rfl
                        have hcz28_4 : wc.cell? ⟨gb203, 4, none⟩ = some (.int .i64 a1_4) := (blk_cell BK203.out 4).trans rfl
                        have hcz28_5 : wc.cell? ⟨gb203, 5, none⟩ = some (.int .i64 a1_5) := (blk_cell BK203.out 5).trans rfl
                        have hcz28_6 : wc.cell? ⟨gb203, 6, none⟩ = some (.int .i64 a1_6) := (blk_cell BK203.out 6).trans rfl
                        have hfz28_0 := blk_frozen BK203.out 0
                        have hfz28_1 := blk_frozen BK203.out 1
                        have hfz28_2 := blk_frozen BK203.out 2
                        have hfz28_3 := blk_frozen BK203.out 3
                        have hfz28_4 := blk_frozen BK203.out 4
                        have hfz28_5 := blk_frozen BK203.out 5
                        have hfz28_6 := blk_frozen BK203.out 6
                        go_wp2
                        go_meet
                        case rel => exact ⟨_, (true), (by first | rfl | (simp; done) | (simp [*]; done)), H', ⟨by have := HJ2.out; first | omega | exact Nat.le_refl _⟩, ⟨by (with_reducible repeat (first | refine blk_drewN ?_ _ | refine blk_drew ?_ | refine blk_alloc ?_ _)); exact BK203.out⟩, ⟨by repeat (first | (with_reducible first | exact HB.out | apply below_alloc | apply pw_below_drewN | apply below_drew1 | refine below_set ?_ GE203.out) | exact HB.out)⟩⟩
                      · rw [if_neg c27] at H
                        have c27b0 : decide (a1_6 < 1) = false := decide_eq_false c27
                        clear c27
                        have H' := Aside0.mk H
                        clear H
                        have hcz29_0 : wc.cell? ⟨gb203, 0, none⟩ = some (.int .i64 a1_0) := (blk_cell BK203.out 0).trans rfl
                        have hcz29_1 : wc.cell? ⟨gb203, 1, none⟩ = some (.int .i64 a1_1) := (blk_cell BK203.out 1).trans rfl
                        have hcz29_2 : wc.cell? ⟨gb203, 2, none⟩ = some (.int .i64 a1_2) := (blk_cell BK203.out 2).trans rfl
                        have hcz29_3 : wc.cell? ⟨gb203, 3, none⟩ = some (.int .i64 a1_3) := (blk_cell BK203.out 3).trans rfl
                        have hcz29_4 : wc.cell? ⟨gb203, 4, none⟩ = some (.int .i64 a1_4) := (blk_cell BK203.out 4).trans rfl
                        have hcz29_5 : wc.cell? ⟨gb203, 5, none⟩ = some (.int .i64 a1_5) := (blk_cell BK203.out 5).trans rfl
                        have hcz29_6 : wc.cell? ⟨gb203, 6, none⟩ = some (.int .i64 a1_6) := (blk_cell BK203.out 6).trans rfl
                        have hfz29_0 := blk_frozen BK203.out 0
                        have hfz29_1 := blk_frozen BK203.out 1
                        have hfz29_2 := blk_frozen BK203.out 2
                        have hfz29_3 := blk_frozen BK203.out 3
                        have hfz29_4 := blk_frozen BK203.out 4
                        have hfz29_5 := blk_frozen BK203.out 5
                        have hfz29_6 := blk_frozen BK203.out 6
                        go_wp2
                        go_meet
                        case rel => exact ⟨_, (decide (a1_6 > 1024)), (by first | rfl | (simp; done) | (simp [*]; done)), H', ⟨by have := HJ2.out; first | omega | exact Nat.le_refl _⟩, ⟨by (with_reducible repeat (first | refine blk_drewN ?_ _ | refine blk_drew ?_ | refine blk_alloc ?_ _)); exact BK203.out⟩, ⟨by repeat (first | (with_reducible first | exact HB.out | apply below_alloc | apply pw_below_drewN | apply below_drew1 | refine below_set ?_ GE203.out) | exact HB.out)⟩⟩
            · replace c18 := Bool.eq_false_iff.mpr c18
              subst c18
              have H1 : (hopmeshref50_Fault.j1 kj2 true a1_0 a1_1 a1_2 a1_3 a1_4 a1_5 a1_6) = some r := by rw [if_neg (show ¬ (false = true) by decide)] at H; exact H
              clear H
              have H := H1
              clear H1
              have H' := Aside0.mk H
              clear H
              have hcz30_0 : wc.cell? ⟨gb203, 0, none⟩ = some (.int .i64 a1_0) := (blk_cell BK203.out 0).trans rfl
              have hcz30_1 : wc.cell? ⟨gb203, 1, none⟩ = some (.int .i64 a1_1) := (blk_cell BK203.out 1).trans rfl
              have hcz30_2 : wc.cell? ⟨gb203, 2, none⟩ = some (.int .i64 a1_2) := (blk_cell BK203.out 2).trans rfl
              have hcz30_3 : wc.cell? ⟨gb203, 3, none⟩ = some (.int .i64 a1_3) := (blk_cell BK203.out 3).trans rfl
              have hcz30_4 : wc.cell? ⟨gb203, 4, none⟩ = some (.int .i64 a1_4) := (blk_cell BK203.out 4).trans rfl
              have hcz30_5 : wc.cell? ⟨gb203, 5, none⟩ = some (.int .i64 a1_5) := (blk_cell BK203.out 5).trans rfl
              have hcz30_6 : wc.cell? ⟨gb203, 6, none⟩ = some (.int .i64 a1_6) := (blk_cell BK203.out 6).trans rfl
              have hfz30_0 := blk_frozen BK203.out 0
              have hfz30_1 := blk_frozen BK203.out 1
              have hfz30_2 := blk_frozen BK203.out 2
              have hfz30_3 := blk_frozen BK203.out 3
              have hfz30_4 := blk_frozen BK203.out 4
              have hfz30_5 := blk_frozen BK203.out 5
              have hfz30_6 := blk_frozen BK203.out 6
              go_wp2
              go_meet
              case rel => exact ⟨_, (true), (by first | rfl | (simp; done) | (simp [*]; done)), H', ⟨by have := HJ2.out; first | omega | exact Nat.le_refl _⟩, ⟨by (with_reducible repeat (first | refine blk_drewN ?_ _ | refine blk_drew ?_ | refine blk_alloc ?_ _)); exact BK203.out⟩, ⟨by repeat (first | (with_reducible first | exact HB.out | apply below_alloc | apply pw_below_drewN | apply below_drew1 | refine below_set ?_ GE203.out) | exact HB.out)⟩⟩
      case rest =>
        clear HC13
        try clear c1
        try clear c2
        try clear p2
        try clear c5
        try clear c6
        try clear c8
        try clear c14
        try clear c14b0
        try clear c16
        try clear c16b0
        try clear c18
        try clear c19
        try clear c19b0
        try clear c21
        try clear c21b0
        try clear c23
        try clear c23b0
        try clear c25
        try clear c25b0
        try clear c27
        try clear c27b0
        try clear hcz10_0
        try clear hcz10_1
        try clear hcz10_2
        try clear hcz10_3
        try clear hcz10_4
        try clear hcz10_5
        try clear hcz10_6
        try clear hcz11_0
        try clear hcz11_1
        try clear hcz11_2
        try clear hcz11_3
        try clear hcz11_4
        try clear hcz11_5
        try clear hcz11_6
        try clear hcz12_0
        try clear hcz12_1
        try clear hcz12_2
        try clear hcz12_3
        try clear hcz12_4
        try clear hcz12_5
        try clear hcz12_6
        try clear hcz15_0
        try clear hcz15_1
        try clear hcz15_2
        try clear hcz15_3
        try clear hcz15_4
        try clear hcz15_5
        try clear hcz15_6
        try clear hcz17_0
        try clear hcz17_1
        try clear hcz17_2
        try clear hcz17_3
        try clear hcz17_4
        try clear hcz17_5
        try clear hcz17_6
        try clear hcz20_0
        try clear hcz20_1
        try clear hcz20_2
        try clear hcz20_3
        try clear hcz20_4
        try clear hcz20_5
        try clear hcz20_6
        try clear hcz22_0
        try clear hcz22_1
        try clear hcz22_2
        try clear hcz22_3
        try clear hcz22_4
        try clear hcz22_5
        try clear hcz22_6
        try clear hcz24_0
        try clear hcz24_1
        try clear hcz24_2
        try clear hcz24_3
        try clear hcz24_4
        try clear hcz24_5
        try clear hcz24_6
        try clear hcz26_0
        try clear hcz26_1
        try clear hcz26_2
        try clear hcz26_3
        try clear hcz26_4
        try clear hcz26_5
        try clear hcz26_6
        try clear hcz28_0
        try clear hcz28_1
        try clear hcz28_2
        try clear hcz28_3
        try clear hcz28_4
        try clear hcz28_5
        try clear hcz28_6
        try clear hcz29_0
        try clear hcz29_1
        try clear hcz29_2
        try clear hcz29_3
        try clear hcz29_4
        try clear hcz29_5
        try clear hcz29_6
        try clear hcz30_0
        try clear hcz30_1
        try clear hcz30_2
        try clear hcz30_3
        try clear hcz30_4
        try clear hcz30_5
        try clear hcz30_6
        try clear hfz10_0
        try clear hfz10_1
        try clear hfz10_2
        try clear hfz10_3
        try clear hfz10_4
        try clear hfz10_5
        try clear hfz10_6
        try clear hfz11_0
        try clear hfz11_1
        try clear hfz11_2
        try clear hfz11_3
        try clear hfz11_4
        try clear hfz11_5
        try clear hfz11_6
        try clear hfz12_0
        try clear hfz12_1
        try clear hfz12_2
        try clear hfz12_3
        try clear hfz12_4
        try clear hfz12_5
        try clear hfz12_6
        try clear hfz15_0
        try clear hfz15_1
        try clear hfz15_2
        try clear hfz15_3
        try clear hfz15_4
        try clear hfz15_5
        try clear hfz15_6
        try clear hfz17_0
        try clear hfz17_1
        try clear hfz17_2
        try clear hfz17_3
        try clear hfz17_4
        try clear hfz17_5
        try clear hfz17_6
        try clear hfz20_0
        try clear hfz20_1
        try clear hfz20_2
        try clear hfz20_3
        try clear hfz20_4
        try clear hfz20_5
        try clear hfz20_6
        try clear hfz22_0
        try clear hfz22_1
        try clear hfz22_2
        try clear hfz22_3
        try clear hfz22_4
        try clear hfz22_5
        try clear hfz22_6
        try clear hfz24_0
        try clear hfz24_1
        try clear hfz24_2
        try clear hfz24_3
        try clear hfz24_4
        try clear hfz24_5
        try clear hfz24_6
        try clear hfz26_0
        try clear hfz26_1
        try clear hfz26_2
        try clear hfz26_3
        try clear hfz26_4
        try clear hfz26_5
        try clear hfz26_6
        try clear hfz28_0
        try clear hfz28_1
        try clear hfz28_2
        try clear hfz28_3
        try clear hfz28_4
        try clear hfz28_5
        try clear hfz28_6
        try clear hfz29_0
        try clear hfz29_1
        try clear hfz29_2
        try clear hfz29_3
        try clear hfz29_4
        try clear hfz29_5
        try clear hfz29_6
        try clear hfz30_0
        try clear hfz30_1
        try clear hfz30_2
        try clear hfz30_3
        try clear hfz30_4
        try clear hfz30_5
        try clear hfz30_6
        try clear p2
        obtain ⟨kq, x65_12, rfl, HA, HJ12, BK203, HB⟩ := hcut
        cases kq with
        | zero => exact absurd HA.out (by simp [hopmeshref50_Fault.j1])
        | succ kj12 =>
          have H := HA.out
          clear HA
          simp only [hopmeshref50_Fault.j1] at H
          by_cases c31 : x65_12 = true
          · subst c31
            have H1 : (some 2) = some r := by rw [if_pos rfl] at H; exact H
            clear H
            have H := H1
            clear H1
            obtain rfl := Option.some.inj H
            go_wp2
            go_ret
            exact ⟨by first | rfl | (simp [errW_none, errW_some] <;> rfl) | (simp [*, errW_none, errW_some] <;> rfl), by repeat (first | (with_reducible first | exact HB.out | apply below_alloc | apply pw_below_drewN | apply below_drew1 | refine below_set ?_ GE203.out) | exact HB.out)⟩
          · replace c31 := Bool.eq_false_iff.mpr c31
            subst c31
            have H1 : (if a1_1 = a1_2 then (some 1) else (if a1_3 = a1_2 then (some 1) else (some 0))) = some r := by rw [if_neg (show ¬ (false = true) by decide)] at H; exact H
            clear H
            have H := H1
            clear H1
            by_cases c32 : a1_1 = a1_2
            · rw [if_pos c32] at H
              have c32b0 : (a1_1 == a1_2) = true := beq_iff_eq.mpr c32
              have c32b1 : (a1_1 != a1_2) = false := bne_eq_false_iff_eq.mpr c32
              clear c32
              obtain rfl := Option.some.inj H
              have hcz33_0 : wc.cell? ⟨gb203, 0, none⟩ = some (.int .i64 a1_0) := (blk_cell BK203.out 0).trans rfl
              have hcz33_1 : wc.cell? ⟨gb203, 1, none⟩ = some (.int .i64 a1_1) := (blk_cell BK203.out 1).trans rfl
              have hcz33_2 : wc.cell? ⟨gb203, 2, none⟩ = some (.int .i64 a1_2) := (blk_cell BK203.out 2).trans rfl
              have hcz33_3 : wc.cell? ⟨gb203, 3, none⟩ = some (.int .i64 a1_3) := (blk_cell BK203.out 3).trans rfl
              have hcz33_4 : wc.cell? ⟨gb203, 4, none⟩ = some (.int .i64 a1_4) := (blk_cell BK203.out 4).trans rfl
              have hcz33_5 : wc.cell? ⟨gb203, 5, none⟩ = some (.int .i64 a1_5) := (blk_cell BK203.out 5).trans rfl
              have hcz33_6 : wc.cell? ⟨gb203, 6, none⟩ = some (.int .i64 a1_6) := (blk_cell BK203.out 6).trans rfl
              have hfz33_0 := blk_frozen BK203.out 0
              have hfz33_1 := blk_frozen BK203.out 1
              have hfz33_2 := blk_frozen BK203.out 2
              have hfz33_3 := blk_frozen BK203.out 3
              have hfz33_4 := blk_frozen BK203.out 4
              have hfz33_5 := blk_frozen BK203.out 5
              have hfz33_6 := blk_frozen BK203.out 6
              go_wp2
              go_ret
              exact ⟨by first | rfl | (simp [errW_none, errW_some] <;> rfl) | (simp [*, errW_none, errW_some] <;> rfl), by repeat (first | (with_reducible first | exact HB.out | apply below_alloc | apply pw_below_drewN | apply below_drew1 | refine below_set ?_ GE203.out) | exact HB.out)⟩
            · rw [if_neg c32] at H
              have c32b0 : (a1_1 == a1_2) = false := beq_eq_false_iff_ne.mpr c32
              have c32b1 : (a1_1 != a1_2) = true := bne_iff_ne.mpr c32
              by_cases c34 : a1_3 = a1_2
              · rw [if_pos c34] at H
                have c34b0 : (a1_3 == a1_2) = true := beq_iff_eq.mpr c34
                have c34b1 : (a1_3 != a1_2) = false := bne_eq_false_iff_eq.mpr c34
                clear c34
                obtain rfl := Option.some.inj H
                have hcz35_0 : wc.cell? ⟨gb203, 0, none⟩ = some (.int .i64 a1_0) := (blk_cell BK203.out 0).trans rfl
                have hcz35_1 : wc.cell? ⟨gb203, 1, none⟩ = some (.int .i64 a1_1) := (blk_cell BK203.out 1).trans rfl
                have hcz35_2 : wc.cell? ⟨gb203, 2, none⟩ = some (.int .i64 a1_2) := (blk_cell BK203.out 2).trans rfl
                have hcz35_3 : wc.cell? ⟨gb203, 3, none⟩ = some (.int .i64 a1_3) := (blk_cell BK203.out 3).trans rfl
                have hcz35_4 : wc.cell? ⟨gb203, 4, none⟩ = some (.int .i64 a1_4) := (blk_cell BK203.out 4).trans rfl
                have hcz35_5 : wc.cell? ⟨gb203, 5, none⟩ = some (.int .i64 a1_5) := (blk_cell BK203.out 5).trans rfl
                have hcz35_6 : wc.cell? ⟨gb203, 6, none⟩ = some (.int .i64 a1_6) := (blk_cell BK203.out 6).trans rfl
                have hfz35_0 := blk_frozen BK203.out 0
                have hfz35_1 := blk_frozen BK203.out 1
                have hfz35_2 := blk_frozen BK203.out 2
                have hfz35_3 := blk_frozen BK203.out 3
                have hfz35_4 := blk_frozen BK203.out 4
                have hfz35_5 := blk_frozen BK203.out 5
                have hfz35_6 := blk_frozen BK203.out 6
                go_wp2
                go_ret
                exact ⟨by first | rfl | (simp [errW_none, errW_some] <;> rfl) | (simp [*, errW_none, errW_some] <;> rfl), by repeat (first | (with_reducible first | exact HB.out | apply below_alloc | apply pw_below_drewN | apply below_drew1 | refine below_set ?_ GE203.out) | exact HB.out)⟩
              · rw [if_neg c34] at H
                have c34b0 : (a1_3 == a1_2) = false := beq_eq_false_iff_ne.mpr c34
                have c34b1 : (a1_3 != a1_2) = true := bne_iff_ne.mpr c34
                obtain rfl := Option.some.inj H
                have hcz36_0 : wc.cell? ⟨gb203, 0, none⟩ = some (.int .i64 a1_0) := (blk_cell BK203.out 0).trans rfl
                have hcz36_1 : wc.cell? ⟨gb203, 1, none⟩ = some (.int .i64 a1_1) := (blk_cell BK203.out 1).trans rfl
                have hcz36_2 : wc.cell? ⟨gb203, 2, none⟩ = some (.int .i64 a1_2) := (blk_cell BK203.out 2).trans rfl
                have hcz36_3 : wc.cell? ⟨gb203, 3, none⟩ = some (.int .i64 a1_3) := (blk_cell BK203.out 3).trans rfl
                have hcz36_4 : wc.cell? ⟨gb203, 4, none⟩ = some (.int .i64 a1_4) := (blk_cell BK203.out 4).trans rfl
                have hcz36_5 : wc.cell? ⟨gb203, 5, none⟩ = some (.int .i64 a1_5) := (blk_cell BK203.out 5).trans rfl
                have hcz36_6 : wc.cell? ⟨gb203, 6, none⟩ = some (.int .i64 a1_6) := (blk_cell BK203.out 6).trans rfl
                have hfz36_0 := blk_frozen BK203.out 0
                have hfz36_1 := blk_frozen BK203.out 1
                have hfz36_2 := blk_frozen BK203.out 2
                have hfz36_3 := blk_frozen BK203.out 3
                have hfz36_4 := blk_frozen BK203.out 4
                have hfz36_5 := blk_frozen BK203.out 5
                have hfz36_6 := blk_frozen BK203.out 6
                go_wp2
                go_ret
                exact ⟨by first | rfl | (simp [errW_none, errW_some] <;> rfl) | (simp [*, errW_none, errW_some] <;> rfl), by repeat (first | (with_reducible first | exact HB.out | apply below_alloc | apply pw_below_drewN | apply below_drew1 | refine below_set ?_ GE203.out) | exact HB.out)⟩

end Go.Proofs.Ytnjljajopdpjjaa.PX
