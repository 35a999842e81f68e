-- Written by wip/xprint.py, a program of this claim's own, over the kit's print program. Lean checks it.
import Derived.Test.YtnjljajopdpjjaaPXx0
import Derived.Test.YtnjljajopdpjjaaPXx4
namespace Go.Proofs.Ytnjljajopdpjjaa.PX
open Go.RowKit Go.Proofs.YtnjljajopdpjjaaW.PrintWords Go.Proofs.YtnjljajopdpjjaaW.PrintLast Go.Proofs.YtnjljajopdpjjaaW.PrintMore
attribute [local go_sem] max2_int min2_int max_two min_two max_three min_three max_four min_four   -- for this text's walks alone
set_option linter.unusedVariables false
set_option linter.unusedSimpArgs false

/-! ### loop_carries: function 41, by hand -/
open Go.Maps in
/-- Which frame a frame that is released in a slot carries. -/
def IsCarry (m : Int → Option Int) (at' r : Int) : Prop := (r = -1 ∨ ∃ s, m r = some s ∧ s < at') ∧ ∀ k s, m k = some s → s < at' → k ≤ r
set_option maxHeartbeats 8000000 in
set_option maxRecDepth 100000 in
theorem carriesCalls (m : Int → Option Int) (b : Nat) (at' : Int) (w : World) (hm : MapIs w b m) :
    Calls Try.prog 41 #[.map (some b), .int .i64 at'] w fun e w' => ∃ r, e = .returned (.int .i64 r) ∧ IsCarry m at' r ∧ Below w.heap.size w w' := by
  obtain ⟨n, D, hn, hown, hhas, hatk, hbd⟩ := hm
  have hbl := hown.lt
  have HF := Aside0.mk (And.intro hhas (And.intro hatk hbd))
  clear hhas hatk hbd
  go_enter Try.func41, Try.ntmps41
  go_wp2_with (first
    | (at_range; refine wpList_range_own _ rfl _ 72 rfl 3 3 mapLaw Try.underlying72 _ b n _ rfl hown ?_; intro w0 hrg0 hg0 hs0)
    | go_in)
  go_frame
  go_loopw [5] (fun v5 wr => ∃ (left : Lit → Bool) (cnt : Nat) (best : Int), v5 = .int .i64 best ∧ wr.ranges Try.prog 3 (plainElem Try.prog 3) b w.heap.size n D left cnt ∧
      Aside0 (best = -1 ∨ ∃ s, m best = some s ∧ s < at') ∧ Aside0 (∀ k s, m k = some s → s < at' → left (.int .i64 k) = false → k ≤ best) ∧ Aside0 (Below w.heap.size w wr))
    (fun _ wr => wr.rangeLeft b w.heap.size)
  case atStart =>
    refine ⟨_, _, -1, rfl, hrg0, ⟨.inl rfl⟩, ⟨fun k s hk _ hl => ?_⟩, ⟨(Below.refl _ _).grown hg0 (by simp) (fun j hj => by cases hj)⟩⟩
    rw [HF.out.1 k, hk] at hl
    cases hl
  case round =>
    obtain ⟨left, cnt, best, rfl, hrg, HB1, HB2, HBW⟩ := hrel
    go_wp2_with (first
      | (at_next; refine wpList_next_ranges_ii _ rfl _ rfl 3 3 .i64 .i64 mapLaw Try.underlying3 Try.underlying3 b w.heap.size n _ _ _ rfl hrg ?_ ?_)
      | go_in)
    · intro hc0 hl0
      go_wp2
      go_ret
      exact ⟨best, rfl, ⟨HB1.out, fun k s hk hs => HB2.out k s hk hs (hl0 _)⟩, HBW.out⟩
    · intro x c w1 cnt1 hwx hwc hlx hat hrg1 hlt hg1 hs1 hen
      have hB3 := HBW.out.grown hg1 HBW.out.size (fun j hj => by cases hj; exact Nat.le_refl _)
      have hmx : m x = some c := by
        have hh := HF.out.1 x
        cases hmx : m x with
        | some s =>
          have := (hat (.lit (.int .i64 0))).symm.trans (HF.out.2.1 x s hmx (.lit (.int .i64 0)))
          injection this with this
          injection this with _ this
          rw [this]
        | none =>
          rw [hmx] at hh
          exact absurd ((Maps.atKey_of_not_has hh (.lit (.int .i64 (c + 1)))).symm.trans (hat _)) (fun h => by injection h with h; injection h with _ h; omega)
      have hbx := HF.out.2.2 x c hmx
      have hstr : ∀ k, (left (.int .i64 k) && !(Lit.int .i64 k).sameKey (.int .i64 x)) = false → k = x ∨ left (.int .i64 k) = false := fun k h => by
        by_cases hkx : k = x
        · exact .inl hkx
        · rw [Maps.sameKey_ne (fun e => hkx (by injection e))] at h
          exact .inr (by simpa using h)
      have HX := Aside0.mk (And.intro hmx hstr)
      have HB3 := Aside0.mk hB3
      clear hmx hstr hB3
      by_cases hca : c < at'
      · by_cases hbest : best < x
        · have hm1 : max best x = x := by omega
          go_wp2
          go_roundw
          case rel =>
            exact ⟨_, cnt1, x, rfl, hrg1, ⟨.inr ⟨c, HX.out.1, hca⟩⟩, ⟨fun k s hk hs hl => (HX.out.2 k hl).elim (fun h => by omega) (fun h => by have := HB2.out k s hk hs h; omega)⟩, HB3⟩
          case measure => rw [hrg1.left_eq, hrg.left_eq]; exact hlt
        · have hm1 : max best x = best := by omega
          go_wp2
          go_roundw
          case rel =>
            exact ⟨_, cnt1, best, rfl, hrg1, HB1, ⟨fun k s hk hs hl => (HX.out.2 k hl).elim (fun h => by omega) (fun h => HB2.out k s hk hs h)⟩, HB3⟩
          case measure => rw [hrg1.left_eq, hrg.left_eq]; exact hlt
      · go_wp2
        go_roundw
        case rel =>
          exact ⟨_, cnt1, best, rfl, hrg1, HB1, ⟨fun k s hk hs hl => (HX.out.2 k hl).elim (fun h => by subst h; rw [HX.out.1] at hk; injection hk with hk; omega) (fun h => HB2.out k s hk hs h)⟩, HB3⟩
        case measure => rw [hrg1.left_eq, hrg.left_eq]; exact hlt

/-! ### loop_fault: function 51 -/
def loop_fault.f (a0 : Int) (a1_0 : Int) (a1_1 : Int) (a1_2 : Int) (a1_3 : Int) (a1_4 : Int) (a1_5 : Int) (a1_6 : Int) : Option (Int) := if 0 ≤ a1_0 ∧ a1_0 ≤ 127 ∧ 0 ≤ a1_1 ∧ a1_1 < a0 ∧ 0 ≤ a1_2 ∧ a1_2 < a0 ∧ 0 ≤ a1_3 ∧ a1_3 < a0 ∧ 1 ≤ a1_4 ∧ a1_4 ≤ 512 ∧ 0 ≤ a1_5 ∧ a1_5 < a1_4 ∧ 1 ≤ a1_6 ∧ a1_6 ≤ 1024 then (if a1_1 = a1_2 ∨ a1_3 = a1_2 then some 1 else some 0) else some 2
theorem loop_fault.node (nodes n : Int) (a : Addr) (w : World) (hc : w.cell? a = some (.int .i64 nodes)) :
    Calls Try.prog 58 #[.int .i64 n, .pointer (some a)] w fun e w' => e = .returned (.bool (decide (0 ≤ n ∧ n < nodes))) ∧ w = w' := by
  by_cases h0 : 0 ≤ n
  · by_cases h1 : n < nodes
    · have b0 : decide (0 ≤ n) = true := decide_eq_true h0
      have b1 : decide (n < nodes) = true := decide_eq_true h1
      go_enter Try.func58, Try.ntmps58
      go_wp2
      go_ret
      exact ⟨by simp [h0, h1], rfl⟩
    · have b0 : decide (0 ≤ n) = true := decide_eq_true h0
      have b1 : decide (n < nodes) = false := decide_eq_false h1
      go_enter Try.func58, Try.ntmps58
      go_wp2
      go_ret
      exact ⟨by simp [h1], rfl⟩
  · have b0 : decide (0 ≤ n) = false := decide_eq_false h0
    go_enter Try.func58, Try.ntmps58
    go_wp2
    go_ret
    exact ⟨by simp [h0], rfl⟩
set_option maxHeartbeats 8000000 in
set_option maxRecDepth 100000 in
theorem loop_fault.calls (a0 : Int) (a1_0 : Int) (a1_1 : Int) (a1_2 : Int) (a1_3 : Int) (a1_4 : Int) (a1_5 : Int) (a1_6 : Int) (r : Int) (w : World) (h : loop_fault.f a0 a1_0 a1_1 a1_2 a1_3 a1_4 a1_5 a1_6 = some r) :
    Calls Try.prog 51 #[.int .i64 a0, .agg #[.int .i64 a1_0, .int .i64 a1_1, .int .i64 a1_2, .int .i64 a1_3, .int .i64 a1_4, .int .i64 a1_5, .int .i64 a1_6]] w fun e w' => e = .returned (.int .i64 r) ∧ Below w.heap.size w w' := by
  have hcl : (r = 2 ∧ ¬ (0 ≤ a1_0 ∧ a1_0 ≤ 127 ∧ 0 ≤ a1_1 ∧ a1_1 < a0 ∧ 0 ≤ a1_2 ∧ a1_2 < a0 ∧ 0 ≤ a1_3 ∧ a1_3 < a0 ∧ 1 ≤ a1_4 ∧ a1_4 ≤ 512 ∧ 0 ≤ a1_5 ∧ a1_5 < a1_4 ∧ 1 ≤ a1_6 ∧ a1_6 ≤ 1024)) ∨
      ((0 ≤ a1_0 ∧ a1_0 ≤ 127 ∧ 0 ≤ a1_1 ∧ a1_1 < a0 ∧ 0 ≤ a1_2 ∧ a1_2 < a0 ∧ 0 ≤ a1_3 ∧ a1_3 < a0 ∧ 1 ≤ a1_4 ∧ a1_4 ≤ 512 ∧ 0 ≤ a1_5 ∧ a1_5 < a1_4 ∧ 1 ≤ a1_6 ∧ a1_6 ≤ 1024) ∧ (r = 1 ∧ (a1_1 = a1_2 ∨ a1_3 = a1_2) ∨ r = 0 ∧ ¬ (a1_1 = a1_2 ∨ a1_3 = a1_2))) := by
    unfold loop_fault.f at h
    by_cases c1 : 0 ≤ a1_0 ∧ a1_0 ≤ 127 ∧ 0 ≤ a1_1 ∧ a1_1 < a0 ∧ 0 ≤ a1_2 ∧ a1_2 < a0 ∧ 0 ≤ a1_3 ∧ a1_3 < a0 ∧ 1 ≤ a1_4 ∧ a1_4 ≤ 512 ∧ 0 ≤ a1_5 ∧ a1_5 < a1_4 ∧ 1 ≤ a1_6 ∧ a1_6 ≤ 1024
    · rw [if_pos c1] at h
      by_cases c2 : a1_1 = a1_2 ∨ a1_3 = a1_2
      · rw [if_pos c2] at h
        exact .inr ⟨c1, .inl ⟨(Option.some.inj h).symm, c2⟩⟩
      · rw [if_neg c2] at h
        exact .inr ⟨c1, .inr ⟨(Option.some.inj h).symm, c2⟩⟩
    · rw [if_neg c1] at h
      exact .inl ⟨(Option.some.inj h).symm, c1⟩
  have HCL := Aside0.mk hcl
  clear hcl h
  have hmf : ∀ (fn : Fn) (first cap : Array Value) (w : World), (Instr.makeFunc fn first cap).run Try.prog w = .ok (.func fn first cap) w := fun _ _ _ _ => rfl
  have hu := Try.underlying23
  go_enter Try.func51, Try.ntmps51
  go_wp2
  all_goals go_ret
  all_goals (refine ⟨?_, by repeat (first | exact Below.refl _ _ | apply below_alloc)⟩; clear hmf hu; have hcl := HCL.out; clear HCL; go_light; simp only [Bool.not_eq_eq_eq_not, Bool.not_false, Bool.not_true, decide_eq_true_eq, decide_eq_false_iff_not, beq_iff_eq, beq_eq_false_iff_ne, ne_eq] at *)
  all_goals first | (have e : r = 2 := (by omega); subst e; rfl) | (have e : r = 1 := (by omega); subst e; rfl) | (have e : r = 0 := (by omega); subst e; rfl)

/-! ### loop_worst: function 48 -/
def loop_worst.f (a0_0 : Int) (a0_1 : Int) (a0_2 : Int) (a0_3 : Int) (a0_4 : Int) (a0_5 : Int) (a0_6 : Int) (a1_0 : Int) (a1_1 : Int) : Option (Int) := some (wrap64 ((wrap64 ((wrap64 (a0_4 + a1_0)) + a1_1)) - 1))
set_option maxHeartbeats 8000000 in
set_option maxRecDepth 100000 in
theorem loop_worst.calls (a0_0 : Int) (a0_1 : Int) (a0_2 : Int) (a0_3 : Int) (a0_4 : Int) (a0_5 : Int) (a0_6 : Int) (a1_0 : Int) (a1_1 : Int) (r : Int) (w : World) (h : loop_worst.f a0_0 a0_1 a0_2 a0_3 a0_4 a0_5 a0_6 a1_0 a1_1 = some r) :
    Calls Try.prog 48 #[.agg #[.int .i64 a0_0, .int .i64 a0_1, .int .i64 a0_2, .int .i64 a0_3, .int .i64 a0_4, .int .i64 a0_5, .int .i64 a0_6], .agg #[.int .i64 a1_0, .int .i64 a1_1]] w fun e w' => e = .returned (.int .i64 r) ∧ Below w.heap.size w w' := by
  have hu23 := Try.underlying23
  have hu25 := Try.underlying25
  have HB := Aside0.mk (Below.refl w.heap.size w)
  have H : (some (wrap64 ((wrap64 ((wrap64 (a0_4 + a1_0)) + a1_1)) - 1))) = some r := h
  clear h
  obtain rfl := Option.some.inj H
  go_enter Try.func48, Try.ntmps48
  go_wp2_with (first | ((with_reducible refine gate_dst (N := 2) rfl ?_); refine box_event ?hg (N := 2) ?hd (cs := #[.int .i64 a0_0, .int .i64 a0_1, .int .i64 a0_2, .int .i64 a0_3, .int .i64 a0_4, .int .i64 a0_5, .int .i64 a0_6]) (t := 23) ?hr ?_; (case hd => rfl); (case hg => rfl); (case hr => first | (go_simp; done) | (go_simp; rfl)); intro gb112 hg w3 hbox hb; have n0_ := Aside0.mk (below_step (by repeat (first | (with_reducible first | exact HB.out | apply below_alloc | apply pw_below_drewN | apply below_drew1) | exact HB.out)) hb); have n1_ := Aside0.mk (hbox); have n2_ := Aside0.mk ((by rw [hg]; exact (below_size (by repeat (first | (with_reducible first | exact HB.out | apply below_alloc | apply pw_below_drewN | apply below_drew1) | exact HB.out))) : w.heap.size ≤ gb112)); have n3_ := Aside0.mk ((by rw [hg]; exact (below_size (by repeat (first | (with_reducible first | exact HB.out | apply below_alloc | apply pw_below_drewN | apply below_drew1) | exact HB.out))) : w.heap.size ≤ gb112)); clear HB; have HB := n0_; have BK112 := n1_; have GW112 := n2_; have GE112 := n3_; clear n0_ n1_ n2_ n3_; clear hb hbox hg) | ((with_reducible refine gate_dst (N := 3) rfl ?_); refine box_event ?hg (N := 3) ?hd (cs := #[.int .i64 a1_0, .int .i64 a1_1]) (t := 25) ?hr ?_; (case hd => rfl); (case hg => rfl); (case hr => first | (go_simp; done) | (go_simp; rfl)); intro gb113 hg w4 hbox hb; have n0_ := Aside0.mk (blk_below (g := gb112) (o := .cells #[.int .i64 a0_0, .int .i64 a0_1, .int .i64 a0_2, .int .i64 a0_3, .int .i64 a0_4, .int .i64 a0_5, .int .i64 a0_6] 23 (0, 0)) (by (with_reducible repeat (first | refine blk_drewN ?_ _ | refine blk_drew ?_ | refine blk_alloc ?_ _)); exact BK112.out) hb); have n1_ := Aside0.mk (below_step (by repeat (first | (with_reducible first | exact HB.out | apply below_alloc | apply pw_below_drewN | apply below_drew1 | refine below_set ?_ GE112.out) | exact HB.out)) hb); have n2_ := Aside0.mk (hbox); have n3_ := Aside0.mk ((by rw [hg]; exact (below_size (by repeat (first | (with_reducible first | exact HB.out | apply below_alloc | apply pw_below_drewN | apply below_drew1 | refine below_set ?_ GE112.out) | exact HB.out))) : w.heap.size ≤ gb113)); have n4_ := Aside0.mk ((by rw [hg]; exact (below_size (by repeat (first | (with_reducible first | exact HB.out | apply below_alloc | apply pw_below_drewN | apply below_drew1 | refine below_set ?_ GE112.out) | exact HB.out))) : w.heap.size ≤ gb113)); have n5_ := Aside0.mk ((by rw [hg]; exact Nat.ne_of_lt (blk_lt (g := gb112) (o := .cells #[.int .i64 a0_0, .int .i64 a0_1, .int .i64 a0_2, .int .i64 a0_3, .int .i64 a0_4, .int .i64 a0_5, .int .i64 a0_6] 23 (0, 0)) (by (with_reducible repeat (first | refine blk_drewN ?_ _ | refine blk_drew ?_ | refine blk_alloc ?_ _)); exact BK112.out)) : gb112 ≠ gb113)); have n6_ := Aside0.mk ((by rw [hg]; exact Nat.ne_of_gt (blk_lt (g := gb112) (o := .cells #[.int .i64 a0_0, .int .i64 a0_1, .int .i64 a0_2, .int .i64 a0_3, .int .i64 a0_4, .int .i64 a0_5, .int .i64 a0_6] 23 (0, 0)) (by (with_reducible repeat (first | refine blk_drewN ?_ _ | refine blk_drew ?_ | refine blk_alloc ?_ _)); exact BK112.out)) : gb113 ≠ gb112)); clear BK112; clear HB; have BK112 := n0_; have HB := n1_; have BK113 := n2_; have GW113 := n3_; have GE113 := n4_; have NB112_113 := n5_; have NB113_112 := n6_; clear n0_ n1_ n2_ n3_ n4_ n5_ n6_; clear hb hbox hg; have hnb5 := NB112_113.out; have hnc5 := NB113_112.out; have hcz6_0 : w4.cell? ⟨gb112, 0, none⟩ = some (.int .i64 a0_0) := (blk_cell BK112.out 0).trans rfl; have hcz6_1 : w4.cell? ⟨gb112, 1, none⟩ = some (.int .i64 a0_1) := (blk_cell BK112.out 1).trans rfl; have hcz6_2 : w4.cell? ⟨gb112, 2, none⟩ = some (.int .i64 a0_2) := (blk_cell BK112.out 2).trans rfl; have hcz6_3 : w4.cell? ⟨gb112, 3, none⟩ = some (.int .i64 a0_3) := (blk_cell BK112.out 3).trans rfl; have hcz6_4 : w4.cell? ⟨gb112, 4, none⟩ = some (.int .i64 a0_4) := (blk_cell BK112.out 4).trans rfl; have hcz6_5 : w4.cell? ⟨gb112, 5, none⟩ = some (.int .i64 a0_5) := (blk_cell BK112.out 5).trans rfl; have hcz6_6 : w4.cell? ⟨gb112, 6, none⟩ = some (.int .i64 a0_6) := (blk_cell BK112.out 6).trans rfl; have hfz6_0 := blk_frozen BK112.out 0; have hfz6_1 := blk_frozen BK112.out 1; have hfz6_2 := blk_frozen BK112.out 2; have hfz6_3 := blk_frozen BK112.out 3; have hfz6_4 := blk_frozen BK112.out 4; have hfz6_5 := blk_frozen BK112.out 5; have hfz6_6 := blk_frozen BK112.out 6; have hcz7_0 : w4.cell? ⟨gb113, 0, none⟩ = some (.int .i64 a1_0) := (blk_cell BK113.out 0).trans rfl; have hcz7_1 : w4.cell? ⟨gb113, 1, none⟩ = some (.int .i64 a1_1) := (blk_cell BK113.out 1).trans rfl; have hfz7_0 := blk_frozen BK113.out 0; have hfz7_1 := blk_frozen BK113.out 1))
  go_ret
  exact ⟨by first | rfl | (simp [errW_none, errW_some] <;> rfl) | (simp [*, errW_none, errW_some] <;> rfl), by repeat (first | (with_reducible first | exact HB.out | apply below_alloc | apply pw_below_drewN | apply below_drew1 | refine below_set ?_ GE112.out | refine below_set ?_ GE113.out) | exact HB.out)⟩

end Go.Proofs.Ytnjljajopdpjjaa.PX
