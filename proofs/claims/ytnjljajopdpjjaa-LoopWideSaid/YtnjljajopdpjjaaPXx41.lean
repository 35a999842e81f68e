-- Written by wip/xprint.py, a program of this claim's own, over the kit's print program. Lean checks it.
import Derived.Test.YtnjljajopdpjjaaPXx0
import Derived.BigRegion
import Derived.Test.YtnjljajopdpjjaaPXx5
import Derived.Test.YtnjljajopdpjjaaPXx6
import Derived.Test.YtnjljajopdpjjaaPXx7
import Derived.Test.YtnjljajopdpjjaaPXx9
import Derived.Test.YtnjljajopdpjjaaPXx11
import Derived.Test.YtnjljajopdpjjaaPXx12
import Derived.Test.YtnjljajopdpjjaaPXx13
import Derived.Test.YtnjljajopdpjjaaPXx14
import Derived.Test.YtnjljajopdpjjaaPXx15
import Derived.Test.YtnjljajopdpjjaaPXx40
namespace Go.Proofs.Ytnjljajopdpjjaa.PX
open Go.RowKit Go.Proofs.YtnjljajopdpjjaaW.PrintWords Go.Proofs.YtnjljajopdpjjaaW.PrintLast Go.Proofs.YtnjljajopdpjjaaW.PrintMore
attribute [local go_sem] max2_int min2_int max_two min_two max_three min_three max_four min_four   -- for this text's walks alone
set_option linter.unusedVariables false
set_option linter.unusedSimpArgs false

/-! ### hopmeshlaw50_LoopWide: function 8 -/
/-- A wide split fits, and with a greater second part it does not; its first part is greater than the one's before. -/
def goodW (l : S23) (ws : List S25) (i : Nat) : Bool := decide (loop_right.f l.f0 l.f1 l.f2 l.f3 l.f4 l.f5 l.f6 (rd_T25 ws (i : Int)).f0 (rd_T25 ws (i : Int)).f1 = some 0 ∧ loop_right.f l.f0 l.f1 l.f2 l.f3 l.f4 l.f5 l.f6 (rd_T25 ws (i : Int)).f0 ((rd_T25 ws (i : Int)).f1 + 1) = some 11 ∧ (0 < i → (rd_T25 ws ((i : Int) - 1)).f0 < (rd_T25 ws (i : Int)).f0))
def coverB (s x : S25) : Bool := x.f0 == s.f0 && decide (s.f1 ≤ x.f1)
/-- What is said of any split. -/
def endW (l : S23) (s : S25) (ws : List S25) : Bool := decide (loop_right.f l.f0 l.f1 l.f2 l.f3 l.f4 l.f5 l.f6 s.f0 s.f1 = some 0) == ((List.range ws.length).any (fun i => coverB s (rd_T25 ws (i : Int))) && decide (1 ≤ s.f1))
def hopmeshlaw50_LoopWide.f (k : Nat) (a0_0 a0_1 a0_2 a0_3 a0_4 a0_5 a0_6 a1_0 a1_1 : Int) : Option Bool :=
  (hopmeshlaw50_awake.f k).bind fun b => if b = true then
    (loop_Splits.f k a0_0 a0_1 a0_2 a0_3 a0_4 a0_5 a0_6).bind fun we => if we.2 = 0 then
      (if we.1.length ≤ 512 ∧ (List.range we.1.length).all (goodW ⟨a0_0, a0_1, a0_2, a0_3, a0_4, a0_5, a0_6⟩ we.1) = true ∧ endW ⟨a0_0, a0_1, a0_2, a0_3, a0_4, a0_5, a0_6⟩ ⟨a1_0, a1_1⟩ we.1 = true then some true else none) else if we.1.length = 0 then some true else none else none
theorem wide_right {l : S23} {s : S25} (h : loop_right.f l.f0 l.f1 l.f2 l.f3 l.f4 l.f5 l.f6 s.f0 s.f1 = some 0) : loop_Worst.f l.f0 l.f1 l.f2 l.f3 l.f4 l.f5 l.f6 s.f0 s.f1 = some (l.f4 + s.f0 + s.f1 - 1, 0) := by
  have hR := right_zero h
  unfold rightP at hR
  unfold loop_Worst.f loop_worst.f
  rw [h, Option.bind_some, if_pos rfl, Option.bind_some, show wrap64 (l.f4 + s.f0) = l.f4 + s.f0 by unfold wrap64; omega, show wrap64 (l.f4 + s.f0 + s.f1) = l.f4 + s.f0 + s.f1 by unfold wrap64; omega, show wrap64 (l.f4 + s.f0 + s.f1 - 1) = l.f4 + s.f0 + s.f1 - 1 by unfold wrap64; omega]
theorem wide_wrong {a0 a1 a2 a3 a4 a5 a6 s0 s1 e : Int} (h : loop_right.f a0 a1 a2 a3 a4 a5 a6 s0 s1 = some e) (he : e ≠ 0) : loop_Worst.f a0 a1 a2 a3 a4 a5 a6 s0 s1 = some (0, e) := by
  unfold loop_Worst.f
  rw [h, Option.bind_some, if_neg he]
theorem wide_flows {l : S23} {s : S25} (h : loop_right.f l.f0 l.f1 l.f2 l.f3 l.f4 l.f5 l.f6 s.f0 s.f1 = some 0) : loop_Flows.f l.f0 l.f1 l.f2 l.f3 l.f4 l.f5 l.f6 s.f0 s.f1 = some ([flowA l s, flowB l s], 0) := by
  unfold loop_Flows.f
  rw [h, Option.bind_some, if_pos rfl, flows_right (right_zero h), Option.bind_some]
theorem two_flows {w : World} {A : Option Addr} {a b : S39} (h : Kd.C k39 w A 2 [a, b]) : ∃ af, A = some af ∧ w.cell? af = some (.int .i64 a.f0) ∧ w.cell? ⟨af.block, af.off + 1, none⟩ = some (.int .i64 a.f1) ∧ w.cell? ⟨af.block, af.off + 2, none⟩ = some (.int .i64 a.f2) ∧ w.cell? ⟨af.block, af.off + 3, none⟩ = some (.int .i64 a.f3) ∧ w.cell? ⟨af.block, af.off + 4, none⟩ = some (.int .i64 a.f4) ∧ w.cell? ⟨af.block, af.off + 5, none⟩ = some (.int .i64 a.f5) ∧
    w.cell? ⟨af.block, af.off + 6, none⟩ = some (.int .i64 b.f0) ∧ w.cell? ⟨af.block, af.off + 6 + 1, none⟩ = some (.int .i64 b.f1) ∧ w.cell? ⟨af.block, af.off + 6 + 2, none⟩ = some (.int .i64 b.f2) ∧ w.cell? ⟨af.block, af.off + 6 + 3, none⟩ = some (.int .i64 b.f3) ∧ w.cell? ⟨af.block, af.off + 6 + 4, none⟩ = some (.int .i64 b.f4) ∧ w.cell? ⟨af.block, af.off + 6 + 5, none⟩ = some (.int .i64 b.f5) := by
  obtain ⟨af, e, f0, f1, f2, f3, f4, f5⟩ := at_T39 h 0 (by omega) (by omega)
  obtain ⟨af', e', k0, k1, k2, k3, k4, k5⟩ := at_T39 h 1 (by omega) (by omega)
  subst e
  obtain rfl : af = af' := by injection e'
  rw [show ((0 : Int)).toNat = 0 from rfl, show 0 * 6 = 0 from rfl, Addr.add_zero'] at f0 f1 f2 f3 f4 f5
  rw [show ((1 : Int)).toNat = 1 from rfl, show 1 * 6 = 6 from rfl] at k0 k1 k2 k3 k4 k5
  exact ⟨af, rfl, f0, f1, f2, f3, f4, f5, k0, k1, k2, k3, k4, k5⟩
theorem wide_mod {p q m : Int} (hp : 1 ≤ p) (hq : 0 ≤ q) (hm : q % p = m) : 0 ≤ m ∧ m ≤ q ∧ (q - m) % p = 0 ∧ Int.tmod (q - m) p = 0 := by
  have h1 := Int.emod_nonneg q (b := p) (by omega)
  have h2 := Int.emod_add_mul_ediv q p
  have h3 : 0 ≤ p * (q / p) := Int.mul_nonneg (by omega) (Int.ediv_nonneg hq (by omega))
  rw [hm] at h1 h2
  have h4 : q - m = p * (q / p) := by omega
  refine ⟨h1, by omega, ?_, ?_⟩
  · rw [h4]
    exact Int.mul_emod_right _ _
  · rw [h4]
    exact Int.mul_tmod_right _ _
theorem right_any (a0 a1 a2 a3 a4 a5 a6 s0 s1 : Int) : ∃ e, loop_right.f a0 a1 a2 a3 a4 a5 a6 s0 s1 = some e := by
  unfold loop_right.f loop_fault.f
  have hf : ∃ b, loop_fits.f a0 a1 a2 a3 a4 a5 a6 s0 s1 = some b := by
    unfold loop_fits.f
    repeat' split
    all_goals exact ⟨_, rfl⟩
  obtain ⟨b, hb⟩ := hf
  repeat' split
  all_goals simp only [Option.bind_some, hb]
  all_goals repeat' split
  all_goals exact ⟨_, rfl⟩
set_option maxHeartbeats 8000000 in
set_option maxRecDepth 100000 in
theorem wide_one (x s : S25) (b : Nat) (w : World) (hblk : w.heap[b]? = some (.cells #[.int .i64 s.f0, .int .i64 s.f1] 25 (0, 0))) :
    Calls Try.prog 33 #[splitV x, .pointer (some ⟨b, 0, none⟩)] w fun e w' => e = .returned (.bool (coverB s x)) ∧ Below w.heap.size w w' := by
  obtain ⟨x0, x1⟩ := x
  obtain ⟨s0, s1⟩ := s
  have hu := Try.underlying25
  have hs0 : ∀ o : Obj, (w.alloc o).cell? ⟨b, 0, none⟩ = some (.int .i64 s0) := fun o => (blk_cell (blk_alloc hblk o) 0).trans rfl
  have hs1 : ∀ o : Obj, (w.alloc o).cell? ⟨b, 1, none⟩ = some (.int .i64 s1) := fun o => (blk_cell (blk_alloc hblk o) 1).trans rfl
  have hx0 := (blk_cell (heap_alloc_new w (.cells #[.int .i64 x0, .int .i64 x1] 25 (0, 0))) 0).trans (rfl : _ = some (Value.int .i64 x0))
  have hx1 := (blk_cell (heap_alloc_new w (.cells #[.int .i64 x0, .int .i64 x1] 25 (0, 0))) 1).trans (rfl : _ = some (Value.int .i64 x1))
  have g0 := hs0 (.cells #[.int .i64 x0, .int .i64 x1] 25 (0, 0))
  have g1 := hs1 (.cells #[.int .i64 x0, .int .i64 x1] 25 (0, 0))
  clear hs0 hs1 hblk
  unfold splitV coverB
  by_cases c0 : x0 = s0
  · have e1 : (x0 == s0) = true := beq_iff_eq.mpr c0
    simp only [e1, Bool.true_and]
    clear c0
    by_cases c1 : s1 ≤ x1
    · have e2 : decide (s1 ≤ x1) = true := decide_eq_true c1
      rw [e2]
      clear c1
      go_enter Try.func33, Try.ntmps33
      go_wp2
      go_ret
      exact ⟨rfl, below_alloc (Below.refl _ _) _⟩
    · have e2 : decide (s1 ≤ x1) = false := decide_eq_false c1
      rw [e2]
      clear c1
      go_enter Try.func33, Try.ntmps33
      go_wp2
      go_ret
      exact ⟨rfl, below_alloc (Below.refl _ _) _⟩
  · have e1 : (x0 == s0) = false := beq_eq_false_iff_ne.mpr c0
    simp only [e1, Bool.false_and]
    clear c0
    go_enter Try.func33, Try.ntmps33
    go_wp2
    go_ret
    exact ⟨rfl, below_alloc (Below.refl _ _) _⟩
theorem hopmeshlaw50_LoopWide.mono : ∀ a0_0 a0_1 a0_2 a0_3 a0_4 a0_5 a0_6 a1_0 a1_1 k, LeO (hopmeshlaw50_LoopWide.f k a0_0 a0_1 a0_2 a0_3 a0_4 a0_5 a0_6 a1_0 a1_1) (hopmeshlaw50_LoopWide.f (k + 1) a0_0 a0_1 a0_2 a0_3 a0_4 a0_5 a0_6 a1_0 a1_1) := by
  intro a0_0 a0_1 a0_2 a0_3 a0_4 a0_5 a0_6 a1_0 a1_1 k
  unfold hopmeshlaw50_LoopWide.f
  refine LeO.bind (hopmeshlaw50_awake.mono k) (fun _ => ?_)
  refine LeO.ite ?_ (LeO.refl _)
  exact LeO.bind (loop_Splits.mono _ _ _ _ _ _ _ k) (fun _ => LeO.refl _)
set_option maxHeartbeats 8000000 in
set_option maxRecDepth 100000 in
theorem hopmeshlaw50_LoopWide.calls (k : Nat) (a0_0 : Int) (a0_1 : Int) (a0_2 : Int) (a0_3 : Int) (a0_4 : Int) (a0_5 : Int) (a0_6 : Int) (a1_0 : Int) (a1_1 : Int) (r : Bool) (w : World) (h : hopmeshlaw50_LoopWide.f k a0_0 a0_1 a0_2 a0_3 a0_4 a0_5 a0_6 a1_0 a1_1 = some r) :
    Calls Try.prog 8 #[.agg #[.int .i64 a0_0, .int .i64 a0_1, .int .i64 a0_2, .int .i64 a0_3, .int .i64 a0_4, .int .i64 a0_5, .int .i64 a0_6], .agg #[.int .i64 a1_0, .int .i64 a1_1]] w fun e w' => e = .returned (.bool r) ∧ Below w.heap.size w w' := by
  have hu1 := Try.underlying23
  have hu2 := Try.underlying25
  have hu3 := Try.underlying39
  have hmf : ∀ (fn : Fn) (first cap : Array Value) (w : World), (Instr.makeFunc fn first cap).run Try.prog w = .ok (.func fn first cap) w := fun _ _ _ _ => rfl
  unfold hopmeshlaw50_LoopWide.f at h
  obtain ⟨b, hb, h⟩ := Option.bind_eq_some_iff.mp h
  have HAW := Aside0.mk hb
  clear hb
  cases b with
  | false =>
    rw [if_neg (by simp)] at h
    cases h
  | true =>
  rw [if_pos rfl] at h
  obtain ⟨⟨ws, e1⟩, hw, h⟩ := Option.bind_eq_some_iff.mp h
  have HW := Aside0.mk hw
  clear hw
  simp only at h
  have hbk1 := blk_alloc (heap_alloc_new w (.cells #[.int .i64 a0_0, .int .i64 a0_1, .int .i64 a0_2, .int .i64 a0_3, .int .i64 a0_4, .int .i64 a0_5, .int .i64 a0_6] 23 (0, 0))) (.cells #[.int .i64 a1_0, .int .i64 a1_1] 25 (0, 0))
  have hbk2 := heap_alloc_new (w.alloc (.cells #[.int .i64 a0_0, .int .i64 a0_1, .int .i64 a0_2, .int .i64 a0_3, .int .i64 a0_4, .int .i64 a0_5, .int .i64 a0_6] 23 (0, 0))) (.cells #[.int .i64 a1_0, .int .i64 a1_1] 25 (0, 0))
  simp only [World.alloc, Array.size_push] at hbk2
  have HL2 : Aside0 (((w.alloc (.cells #[.int .i64 a0_0, .int .i64 a0_1, .int .i64 a0_2, .int .i64 a0_3, .int .i64 a0_4, .int .i64 a0_5, .int .i64 a0_6] 23 (0, 0))).alloc (.cells #[.int .i64 a1_0, .int .i64 a1_1] 25 (0, 0))).heap[w.heap.size]? = some (.cells #[.int .i64 a0_0, .int .i64 a0_1, .int .i64 a0_2, .int .i64 a0_3, .int .i64 a0_4, .int .i64 a0_5, .int .i64 a0_6] 23 (0, 0))) := ⟨hbk1⟩
  have HS2 : Aside0 (((w.alloc (.cells #[.int .i64 a0_0, .int .i64 a0_1, .int .i64 a0_2, .int .i64 a0_3, .int .i64 a0_4, .int .i64 a0_5, .int .i64 a0_6] 23 (0, 0))).alloc (.cells #[.int .i64 a1_0, .int .i64 a1_1] 25 (0, 0))).heap[w.heap.size + 1]? = some (.cells #[.int .i64 a1_0, .int .i64 a1_1] 25 (0, 0))) := ⟨hbk2⟩
  have HB2 : Aside0 (Below w.heap.size w ((w.alloc (.cells #[.int .i64 a0_0, .int .i64 a0_1, .int .i64 a0_2, .int .i64 a0_3, .int .i64 a0_4, .int .i64 a0_5, .int .i64 a0_6] 23 (0, 0))).alloc (.cells #[.int .i64 a1_0, .int .i64 a1_1] 25 (0, 0)))) := ⟨below_alloc (below_alloc (Below.refl _ _) _) _⟩
  clear hbk1 hbk2
  have H := Aside0.mk h
  clear h
  go_enter Try.func8, Try.ntmps8
  go_upto_region 1 with (fail)
  generalize ((w.alloc (.cells #[.int .i64 a0_0, .int .i64 a0_1, .int .i64 a0_2, .int .i64 a0_3, .int .i64 a0_4, .int .i64 a0_5, .int .i64 a0_6] 23 (0, 0))).alloc (.cells #[.int .i64 a1_0, .int .i64 a1_1] 25 (0, 0))) = w2 at *
  by_cases c0 : e1 = 0
  rotate_left
  · have h := H.out
    rw [if_neg c0] at h
    split at h
    rotate_left
    · cases h
    rename_i hz
    obtain rfl := Option.some.inj h
    have HZ := Aside0.mk hz
    have b0 : (e1 == 0) = false := beq_eq_false_iff_ne.mpr c0
    have b1 : (e1 != 0) = true := bne_iff_ne.mpr c0
    clear h c0 H hz
    go_wp2_with (first | (go_at_call 11; (with_reducible refine (hopmeshlaw50_awake.calls k true _ HAW.out).mono ?_); rintro e w3 ⟨rfl, hb⟩; have HL3 := Aside0.mk (blk_below (g := w.heap.size) (o := (.cells #[.int .i64 a0_0, .int .i64 a0_1, .int .i64 a0_2, .int .i64 a0_3, .int .i64 a0_4, .int .i64 a0_5, .int .i64 a0_6] 23 (0, 0))) (by (with_reducible repeat (first | refine blk_drewN ?_ _ | refine blk_drew ?_)); exact HL2.out) hb); have HS3 := Aside0.mk (blk_below (g := w.heap.size + 1) (o := (.cells #[.int .i64 a1_0, .int .i64 a1_1] 25 (0, 0))) (by (with_reducible repeat (first | refine blk_drewN ?_ _ | refine blk_drew ?_)); exact HS2.out) hb); have HB3 := Aside0.mk (below_step (by repeat (first | exact HB2.out | apply below_alloc | apply pw_below_drewN | apply below_drew1)) hb); clear hb; have gl0 := (blk_cell HL3.out 0).trans (rfl : _ = some (Value.int .i64 a0_0)); have gl1 := (blk_cell HL3.out 1).trans (rfl : _ = some (Value.int .i64 a0_1)); have gl2 := (blk_cell HL3.out 2).trans (rfl : _ = some (Value.int .i64 a0_2)); have gl3 := (blk_cell HL3.out 3).trans (rfl : _ = some (Value.int .i64 a0_3)); have gl4 := (blk_cell HL3.out 4).trans (rfl : _ = some (Value.int .i64 a0_4)); have gl5 := (blk_cell HL3.out 5).trans (rfl : _ = some (Value.int .i64 a0_5)); have gl6 := (blk_cell HL3.out 6).trans (rfl : _ = some (Value.int .i64 a0_6))) | (go_at_call 27; (with_reducible refine (loop_Splits.calls k a0_0 a0_1 a0_2 a0_3 a0_4 a0_5 a0_6 ws e1 _ HW.out).mono ?_); rintro e w4 ⟨v4, rfl, ho, hb⟩; obtain ⟨Ao, co, eo⟩ := Kd.R_slice ho; subst eo; have HO4 := Aside0.mk ho; clear ho; rw [HZ.out]; clear gl0 gl1 gl2 gl3 gl4 gl5 gl6; have HL4 := Aside0.mk (blk_below (g := w.heap.size) (o := (.cells #[.int .i64 a0_0, .int .i64 a0_1, .int .i64 a0_2, .int .i64 a0_3, .int .i64 a0_4, .int .i64 a0_5, .int .i64 a0_6] 23 (0, 0))) (by (with_reducible repeat (first | refine blk_drewN ?_ _ | refine blk_drew ?_)); exact HL3.out) hb); have HS4 := Aside0.mk (blk_below (g := w.heap.size + 1) (o := (.cells #[.int .i64 a1_0, .int .i64 a1_1] 25 (0, 0))) (by (with_reducible repeat (first | refine blk_drewN ?_ _ | refine blk_drew ?_)); exact HS3.out) hb); have HB4 := Aside0.mk (below_step (by repeat (first | exact HB3.out | apply below_alloc | apply pw_below_drewN | apply below_drew1)) hb); clear hb))
    go_ret
    exact ⟨by first | rfl | (simp; done), HB4.out⟩
  subst c0
  have h := H.out
  rw [if_pos rfl] at h
  split at h
  rotate_left
  · cases h
  rename_i hc
  obtain rfl := Option.some.inj h
  obtain ⟨c1, c2, c3⟩ := hc
  have HLE := Aside0.mk c1
  have HAL := Aside0.mk c2
  have HEND := Aside0.mk c3
  clear h H c1 c2 c3
  go_wp2_with (first | (go_at_call 11; (with_reducible refine (hopmeshlaw50_awake.calls k true _ HAW.out).mono ?_); rintro e w3 ⟨rfl, hb⟩; have HL3 := Aside0.mk (blk_below (g := w.heap.size) (o := (.cells #[.int .i64 a0_0, .int .i64 a0_1, .int .i64 a0_2, .int .i64 a0_3, .int .i64 a0_4, .int .i64 a0_5, .int .i64 a0_6] 23 (0, 0))) (by (with_reducible repeat (first | refine blk_drewN ?_ _ | refine blk_drew ?_)); exact HL2.out) hb); have HS3 := Aside0.mk (blk_below (g := w.heap.size + 1) (o := (.cells #[.int .i64 a1_0, .int .i64 a1_1] 25 (0, 0))) (by (with_reducible repeat (first | refine blk_drewN ?_ _ | refine blk_drew ?_)); exact HS2.out) hb); have HB3 := Aside0.mk (below_step (by repeat (first | exact HB2.out | apply below_alloc | apply pw_below_drewN | apply below_drew1)) hb); clear hb; have gl0 := (blk_cell HL3.out 0).trans (rfl : _ = some (Value.int .i64 a0_0)); have gl1 := (blk_cell HL3.out 1).trans (rfl : _ = some (Value.int .i64 a0_1)); have gl2 := (blk_cell HL3.out 2).trans (rfl : _ = some (Value.int .i64 a0_2)); have gl3 := (blk_cell HL3.out 3).trans (rfl : _ = some (Value.int .i64 a0_3)); have gl4 := (blk_cell HL3.out 4).trans (rfl : _ = some (Value.int .i64 a0_4)); have gl5 := (blk_cell HL3.out 5).trans (rfl : _ = some (Value.int .i64 a0_5)); have gl6 := (blk_cell HL3.out 6).trans (rfl : _ = some (Value.int .i64 a0_6))) | (go_at_call 27; (with_reducible refine (loop_Splits.calls k a0_0 a0_1 a0_2 a0_3 a0_4 a0_5 a0_6 ws 0 _ HW.out).mono ?_); rintro e w4 ⟨v4, rfl, ho, hb⟩; obtain ⟨Ao, co, eo⟩ := Kd.R_slice ho; subst eo; have HO4 := Aside0.mk ho; clear ho; clear gl0 gl1 gl2 gl3 gl4 gl5 gl6; have HL4 := Aside0.mk (blk_below (g := w.heap.size) (o := (.cells #[.int .i64 a0_0, .int .i64 a0_1, .int .i64 a0_2, .int .i64 a0_3, .int .i64 a0_4, .int .i64 a0_5, .int .i64 a0_6] 23 (0, 0))) (by (with_reducible repeat (first | refine blk_drewN ?_ _ | refine blk_drew ?_)); exact HL3.out) hb); have HS4 := Aside0.mk (blk_below (g := w.heap.size + 1) (o := (.cells #[.int .i64 a1_0, .int .i64 a1_1] 25 (0, 0))) (by (with_reducible repeat (first | refine blk_drewN ?_ _ | refine blk_drew ?_)); exact HS3.out) hb); have HB4 := Aside0.mk (below_step (by repeat (first | exact HB3.out | apply below_alloc | apply pw_below_drewN | apply below_drew1)) hb); clear hb))
  have HR4 := Aside0.mk (Kd.R_reads' HO4.out).2.2
  go_loopg [34] ws.length (fun kq v34 w' => ∃ i : Nat, v34 = .int .i64 (i : Int) ∧ Aside0 (kq + i = ws.length) ∧ Aside0 (Below w4.heap.size w4 w'))
  case atStart => exact ⟨0, by simp, ⟨by simp⟩, ⟨Below.refl _ _⟩⟩
  case round =>
    obtain ⟨i, rfl, HK, HBr⟩ := hrel
    by_cases hlt : i < ws.length
    · have b0 : decide ((i : Int) < (ws.length : Int)) = true := decide_eq_true (by omega)
      have b1 : decide (i < ws.length) = true := decide_eq_true hlt
      have p0 : (0 : Int) ≤ (i : Int) := by omega
      have q0 : (i : Int) < (ws.length : Int) := by omega
      have p512 : (i : Int) ≤ 512 := by have := HLE.out; omega
      have WR : Aside0 ((i : Int) + 1 = ((i + 1 : Nat) : Int)) := ⟨by omega⟩
      have HT : Aside0 (i < ws.length) := ⟨hlt⟩
      have hgood := List.all_eq_true.1 HAL.out i (List.mem_range.2 hlt)
      have hgood := of_decide_eq_true hgood
      dsimp only at hgood
      have HRr := Kd.C_below HR4.out HBr.out
      obtain ⟨ad, e, h0, h1⟩ := at_T25 HRr (i : Int) p0 q0
      cases e
      have hy : 0 < i → wr.cell? (ad.add ((i - 1) * 2)) = some (.int .i64 (rd_T25 ws ((i : Int) - 1)).f0) := by
        intro hi
        obtain ⟨ad', e', k0, -⟩ := at_T25 HRr ((i : Int) - 1) (by omega) (by omega)
        obtain rfl : ad = ad' := by injection e'
        rw [show ((i : Int) - 1).toNat = i - 1 by omega] at k0
        exact k0
      obtain ⟨x0, hx0⟩ : ∃ x, (rd_T25 ws (i : Int)).f0 = x := ⟨_, rfl⟩
      obtain ⟨x1, hx1⟩ : ∃ x, (rd_T25 ws (i : Int)).f1 = x := ⟨_, rfl⟩
      obtain ⟨y0, hy0⟩ : ∃ x, (rd_T25 ws ((i : Int) - 1)).f0 = x := ⟨_, rfl⟩
      rw [hx0, hx1, hy0] at hgood
      rw [hx0] at h0
      rw [hx1] at h1
      rw [hy0] at hy
      obtain ⟨gr, gw, gy⟩ := hgood
      have HY := Aside0.mk hy
      have GY := Aside0.mk gy
      have HWO := Aside0.mk (wide_right (l := ⟨a0_0, a0_1, a0_2, a0_3, a0_4, a0_5, a0_6⟩) (s := ⟨x0, x1⟩) gr)
      have HWN := Aside0.mk (wide_wrong gw (by decide))
      have HFL := Aside0.mk (wide_flows (l := ⟨a0_0, a0_1, a0_2, a0_3, a0_4, a0_5, a0_6⟩) (s := ⟨x0, x1⟩) gr)
      have hR := right_zero (l := ⟨a0_0, a0_1, a0_2, a0_3, a0_4, a0_5, a0_6⟩) (s := ⟨x0, x1⟩) gr
      unfold rightP at hR
      dsimp only at hR HWO HFL
      obtain ⟨wv, hwv⟩ : ∃ wv : Int, a0_4 + x0 + x1 - 1 = wv := ⟨_, rfl⟩
      have hwl : wv ≤ a0_6 := by omega
      rw [hwv] at HWO
      have hx1b : x1 ≤ 512 := by omega
      have hx1c : 1 ≤ x1 := by omega
      have HRP := Aside0.mk hR
      clear hy gy gr gw hR hx0 hx1 hy0 hgood HRr hlt hwv
      simp only [Int.toNat_natCast] at h0 h1
      replace p0 := eq_true p0
      replace q0 := eq_true q0
      have HLr := Aside0.mk (blk_below HL4.out HBr.out)
      have HSr := Aside0.mk (blk_below HS4.out HBr.out)
      have HBw := Aside0.mk (below_step HB4.out HBr.out)
      go_upto_region 9 with (fail)
      have HX5 : Aside0 ((wr.alloc (.cells #[.int .i64 x0, .int .i64 x1] 25 (0, 0))).heap[wr.heap.size]? = some (.cells #[.int .i64 x0, .int .i64 x1] 25 (0, 0))) := ⟨heap_alloc_new wr (.cells #[.int .i64 x0, .int .i64 x1] 25 (0, 0))⟩
      have HL5 := Aside0.mk (blk_alloc HLr.out (.cells #[.int .i64 x0, .int .i64 x1] 25 (0, 0)))
      have HS5 := Aside0.mk (blk_alloc HSr.out (.cells #[.int .i64 x0, .int .i64 x1] 25 (0, 0)))
      have HB5 : Aside0 (Below w.heap.size w (wr.alloc (.cells #[.int .i64 x0, .int .i64 x1] 25 (0, 0)))) := ⟨below_alloc HBw.out _⟩
      have HBX5 : Aside0 (Below wr.heap.size wr (wr.alloc (.cells #[.int .i64 x0, .int .i64 x1] 25 (0, 0)))) := ⟨below_alloc (Below.refl _ _) _⟩
      have HD5 : Aside0 (Below w4.heap.size w4 (wr.alloc (.cells #[.int .i64 x0, .int .i64 x1] 25 (0, 0)))) := ⟨below_alloc HBr.out _⟩
      clear h0 h1 HLr HSr HBw
      generalize (wr.alloc (.cells #[.int .i64 x0, .int .i64 x1] 25 (0, 0))) = w5 at *
      have ew1 : IntKind.i64.wrap (x1 + 1) = x1 + 1 := by rw [IntKind.wrap_i64]; omega
      have gl0 := (blk_cell HL5.out 0).trans (rfl : _ = some (Value.int .i64 a0_0)); have gl1 := (blk_cell HL5.out 1).trans (rfl : _ = some (Value.int .i64 a0_1)); have gl2 := (blk_cell HL5.out 2).trans (rfl : _ = some (Value.int .i64 a0_2)); have gl3 := (blk_cell HL5.out 3).trans (rfl : _ = some (Value.int .i64 a0_3)); have gl4 := (blk_cell HL5.out 4).trans (rfl : _ = some (Value.int .i64 a0_4)); have gl5 := (blk_cell HL5.out 5).trans (rfl : _ = some (Value.int .i64 a0_5)); have gl6 := (blk_cell HL5.out 6).trans (rfl : _ = some (Value.int .i64 a0_6))
      have gx0 := (blk_cell HX5.out 0).trans (rfl : _ = some (Value.int .i64 x0)); have gx1 := (blk_cell HX5.out 1).trans (rfl : _ = some (Value.int .i64 x1))
      go_upto_region 12 with (first
        | (go_at_call 24; (with_reducible refine (loop_Worst.calls a0_0 a0_1 a0_2 a0_3 a0_4 a0_5 a0_6 x0 x1 wv 0 _ HWO.out).mono ?_); rintro e w6 ⟨rfl, hb⟩; clear gl0 gl1 gl2 gl3 gl4 gl5 gl6; clear gx0 gx1; have HX6 := Aside0.mk (blk_below HX5.out hb); have HL6 := Aside0.mk (blk_below (g := w.heap.size) (o := (.cells #[.int .i64 a0_0, .int .i64 a0_1, .int .i64 a0_2, .int .i64 a0_3, .int .i64 a0_4, .int .i64 a0_5, .int .i64 a0_6] 23 (0, 0))) (by (with_reducible repeat (first | refine blk_drewN ?_ _ | refine blk_drew ?_)); exact HL5.out) hb); have HS6 := Aside0.mk (blk_below (g := w.heap.size + 1) (o := (.cells #[.int .i64 a1_0, .int .i64 a1_1] 25 (0, 0))) (by (with_reducible repeat (first | refine blk_drewN ?_ _ | refine blk_drew ?_)); exact HS5.out) hb); have HB6 := Aside0.mk (below_step (by repeat (first | exact HB5.out | apply below_alloc | apply pw_below_drewN | apply below_drew1)) hb); have HD6 := Aside0.mk (below_step HD5.out hb); have HBX6 := Aside0.mk (below_step HBX5.out hb); clear hb; have gl0 := (blk_cell HL6.out 0).trans (rfl : _ = some (Value.int .i64 a0_0)); have gl1 := (blk_cell HL6.out 1).trans (rfl : _ = some (Value.int .i64 a0_1)); have gl2 := (blk_cell HL6.out 2).trans (rfl : _ = some (Value.int .i64 a0_2)); have gl3 := (blk_cell HL6.out 3).trans (rfl : _ = some (Value.int .i64 a0_3)); have gl4 := (blk_cell HL6.out 4).trans (rfl : _ = some (Value.int .i64 a0_4)); have gl5 := (blk_cell HL6.out 5).trans (rfl : _ = some (Value.int .i64 a0_5)); have gl6 := (blk_cell HL6.out 6).trans (rfl : _ = some (Value.int .i64 a0_6)); have gx0 := (blk_cell HX6.out 0).trans (rfl : _ = some (Value.int .i64 x0)); have gx1 := (blk_cell HX6.out 1).trans (rfl : _ = some (Value.int .i64 x1)))
        | (go_at_call 24; (with_reducible refine (loop_Worst.calls a0_0 a0_1 a0_2 a0_3 a0_4 a0_5 a0_6 x0 (x1 + 1) 0 11 _ HWN.out).mono ?_); rintro e w7 ⟨rfl, hb⟩; clear gl0 gl1 gl2 gl3 gl4 gl5 gl6; clear gx0 gx1; have HX7 := Aside0.mk (blk_below HX6.out hb); have HL7 := Aside0.mk (blk_below (g := w.heap.size) (o := (.cells #[.int .i64 a0_0, .int .i64 a0_1, .int .i64 a0_2, .int .i64 a0_3, .int .i64 a0_4, .int .i64 a0_5, .int .i64 a0_6] 23 (0, 0))) (by (with_reducible repeat (first | refine blk_drewN ?_ _ | refine blk_drew ?_)); exact HL6.out) hb); have HS7 := Aside0.mk (blk_below (g := w.heap.size + 1) (o := (.cells #[.int .i64 a1_0, .int .i64 a1_1] 25 (0, 0))) (by (with_reducible repeat (first | refine blk_drewN ?_ _ | refine blk_drew ?_)); exact HS6.out) hb); have HB7 := Aside0.mk (below_step (by repeat (first | exact HB6.out | apply below_alloc | apply pw_below_drewN | apply below_drew1)) hb); have HD7 := Aside0.mk (below_step HD6.out hb); have HBX7 := Aside0.mk (below_step HBX6.out hb); clear hb; have gl0 := (blk_cell HL7.out 0).trans (rfl : _ = some (Value.int .i64 a0_0)); have gl1 := (blk_cell HL7.out 1).trans (rfl : _ = some (Value.int .i64 a0_1)); have gl2 := (blk_cell HL7.out 2).trans (rfl : _ = some (Value.int .i64 a0_2)); have gl3 := (blk_cell HL7.out 3).trans (rfl : _ = some (Value.int .i64 a0_3)); have gl4 := (blk_cell HL7.out 4).trans (rfl : _ = some (Value.int .i64 a0_4)); have gl5 := (blk_cell HL7.out 5).trans (rfl : _ = some (Value.int .i64 a0_5)); have gl6 := (blk_cell HL7.out 6).trans (rfl : _ = some (Value.int .i64 a0_6)); have gx0 := (blk_cell HX7.out 0).trans (rfl : _ = some (Value.int .i64 x0)); have gx1 := (blk_cell HX7.out 1).trans (rfl : _ = some (Value.int .i64 x1)))
        | (go_at_call 13; (with_reducible refine (loop_Flows.calls a0_0 a0_1 a0_2 a0_3 a0_4 a0_5 a0_6 x0 x1 _ 0 _ HFL.out).mono ?_); rintro e w8 ⟨v8, rfl, ho, hb⟩; obtain ⟨Af, cf, ef⟩ := Kd.R_slice ho; subst ef; have HO8 := Aside0.mk ho; clear ho; clear gl0 gl1 gl2 gl3 gl4 gl5 gl6; clear gx0 gx1; have HX8 := Aside0.mk (blk_below HX7.out hb); have HL8 := Aside0.mk (blk_below (g := w.heap.size) (o := (.cells #[.int .i64 a0_0, .int .i64 a0_1, .int .i64 a0_2, .int .i64 a0_3, .int .i64 a0_4, .int .i64 a0_5, .int .i64 a0_6] 23 (0, 0))) (by (with_reducible repeat (first | refine blk_drewN ?_ _ | refine blk_drew ?_)); exact HL7.out) hb); have HS8 := Aside0.mk (blk_below (g := w.heap.size + 1) (o := (.cells #[.int .i64 a1_0, .int .i64 a1_1] 25 (0, 0))) (by (with_reducible repeat (first | refine blk_drewN ?_ _ | refine blk_drew ?_)); exact HS7.out) hb); have HB8 := Aside0.mk (below_step (by repeat (first | exact HB7.out | apply below_alloc | apply pw_below_drewN | apply below_drew1)) hb); have HD8 := Aside0.mk (below_step HD7.out hb); have HBX8 := Aside0.mk (below_step HBX7.out hb); clear hb; have gl0 := (blk_cell HL8.out 0).trans (rfl : _ = some (Value.int .i64 a0_0)); have gl1 := (blk_cell HL8.out 1).trans (rfl : _ = some (Value.int .i64 a0_1)); have gl2 := (blk_cell HL8.out 2).trans (rfl : _ = some (Value.int .i64 a0_2)); have gl3 := (blk_cell HL8.out 3).trans (rfl : _ = some (Value.int .i64 a0_3)); have gl4 := (blk_cell HL8.out 4).trans (rfl : _ = some (Value.int .i64 a0_4)); have gl5 := (blk_cell HL8.out 5).trans (rfl : _ = some (Value.int .i64 a0_5)); have gl6 := (blk_cell HL8.out 6).trans (rfl : _ = some (Value.int .i64 a0_6)); have gx0 := (blk_cell HX8.out 0).trans (rfl : _ = some (Value.int .i64 x0)); have gx1 := (blk_cell HX8.out 1).trans (rfl : _ = some (Value.int .i64 x1))))
      obtain ⟨m, hm⟩ : ∃ m : Int, (a0_5 + x0) % a0_4 = m := ⟨_, rfl⟩
      have HM := Aside0.mk hm
      obtain ⟨af, ea, fa0, fa1, fa2, fa3, fa4, fa5, fb0, fb1, fb2, fb3, fb4, fb5⟩ := two_flows (Kd.R_reads' HO8.out).2.2
      subst ea
      simp only [flowA, flowB] at fa0 fa1 fa2 fa3 fa4 fa5 fb0 fb1 fb2 fb3 fb4 fb5
      rw [hm] at fb4
      clear hm
      have r12 : decide (a0_6 < wv) = false := decide_eq_false (by omega)
      have hy8 : 0 < i → w8.cell? (ad.add ((i - 1) * 2)) = some (.int .i64 y0) := fun hi => pw_cell_below HBX8.out (HY.out hi)
      have HY8 := Aside0.mk hy8
      clear hy8
      by_cases q : 0 < i
      rotate_left
      · have f0_ : decide ((0 : Int) < (i : Int)) = false := decide_eq_false (by omega)
        have f1_ : decide (0 < i) = false := decide_eq_false q
        clear q
        go_quiet (fail)
        go_upto_region 14 with (fail)
        replace fa0 : (w8.drewN nq).cell? af = some (.int .i64 (2 * a0_0)) := fa0
        replace fa1 : (w8.drewN nq).cell? ⟨af.block, af.off + 1, none⟩ = some (.int .i64 (a0_1)) := fa1
        replace fa2 : (w8.drewN nq).cell? ⟨af.block, af.off + 2, none⟩ = some (.int .i64 (a0_2)) := fa2
        replace fa3 : (w8.drewN nq).cell? ⟨af.block, af.off + 3, none⟩ = some (.int .i64 (a0_4)) := fa3
        replace fa4 : (w8.drewN nq).cell? ⟨af.block, af.off + 4, none⟩ = some (.int .i64 (a0_5)) := fa4
        replace fa5 : (w8.drewN nq).cell? ⟨af.block, af.off + 5, none⟩ = some (.int .i64 (x0)) := fa5
        replace fb0 : (w8.drewN nq).cell? ⟨af.block, af.off + 6, none⟩ = some (.int .i64 (2 * a0_0 + 1)) := fb0
        replace fb1 : (w8.drewN nq).cell? ⟨af.block, af.off + 6 + 1, none⟩ = some (.int .i64 (a0_2)) := fb1
        replace fb2 : (w8.drewN nq).cell? ⟨af.block, af.off + 6 + 2, none⟩ = some (.int .i64 (a0_3)) := fb2
        replace fb3 : (w8.drewN nq).cell? ⟨af.block, af.off + 6 + 3, none⟩ = some (.int .i64 (a0_4)) := fb3
        replace fb4 : (w8.drewN nq).cell? ⟨af.block, af.off + 6 + 4, none⟩ = some (.int .i64 (m)) := fb4
        replace fb5 : (w8.drewN nq).cell? ⟨af.block, af.off + 6 + 5, none⟩ = some (.int .i64 (x1)) := fb5
        have HB9 : Aside0 (Below w.heap.size w (w8.drewN nq)) := ⟨pw_below_drewN HB8.out _⟩
        have HD9 : Aside0 (Below w4.heap.size w4 (w8.drewN nq)) := ⟨pw_below_drewN HD8.out _⟩
        have HL9 : Aside0 ((w8.drewN nq).heap[w.heap.size]? = some (.cells #[.int .i64 a0_0, .int .i64 a0_1, .int .i64 a0_2, .int .i64 a0_3, .int .i64 a0_4, .int .i64 a0_5, .int .i64 a0_6] 23 (0, 0))) := ⟨blk_drewN HL8.out _⟩
        have HX9 : Aside0 ((w8.drewN nq).heap[wr.heap.size]? = some (.cells #[.int .i64 x0, .int .i64 x1] 25 (0, 0))) := ⟨blk_drewN HX8.out _⟩
        clear gl0 gl1 gl2 gl3 gl4 gl5 gl6 gx0 gx1
        generalize w8.drewN nq = w9 at *
        have hZ1 : ((w9.alloc (.cells #[.int .i64 0, .int .i64 0, .int .i64 0, .int .i64 0, .int .i64 0, .int .i64 0] 39 (0, 0))).alloc (.cells #[.int .i64 0, .int .i64 0, .int .i64 0, .int .i64 0, .int .i64 0, .int .i64 0] 39 (0, 0))).heap[w9.heap.size]? = some (.cells #[.int .i64 0, .int .i64 0, .int .i64 0, .int .i64 0, .int .i64 0, .int .i64 0] 39 (0, 0)) := blk_alloc (heap_alloc_new w9 (.cells #[.int .i64 0, .int .i64 0, .int .i64 0, .int .i64 0, .int .i64 0, .int .i64 0] 39 (0, 0))) (.cells #[.int .i64 0, .int .i64 0, .int .i64 0, .int .i64 0, .int .i64 0, .int .i64 0] 39 (0, 0))
        have hZ2 : ((w9.alloc (.cells #[.int .i64 0, .int .i64 0, .int .i64 0, .int .i64 0, .int .i64 0, .int .i64 0] 39 (0, 0))).alloc (.cells #[.int .i64 0, .int .i64 0, .int .i64 0, .int .i64 0, .int .i64 0, .int .i64 0] 39 (0, 0))).heap[w9.heap.size + 1]? = some (.cells #[.int .i64 0, .int .i64 0, .int .i64 0, .int .i64 0, .int .i64 0, .int .i64 0] 39 (0, 0)) := by
          have h_ := heap_alloc_new (w9.alloc (.cells #[.int .i64 0, .int .i64 0, .int .i64 0, .int .i64 0, .int .i64 0, .int .i64 0] 39 (0, 0))) (.cells #[.int .i64 0, .int .i64 0, .int .i64 0, .int .i64 0, .int .i64 0, .int .i64 0] 39 (0, 0))
          simpa only [World.alloc, Array.size_push] using h_
        have hZ1c0 : ((w9.alloc (.cells #[.int .i64 0, .int .i64 0, .int .i64 0, .int .i64 0, .int .i64 0, .int .i64 0] 39 (0, 0))).alloc (.cells #[.int .i64 0, .int .i64 0, .int .i64 0, .int .i64 0, .int .i64 0, .int .i64 0] 39 (0, 0))).cell? ⟨w9.heap.size, 0, none⟩ = some (.int .i64 0) := (blk_cell hZ1 0).trans rfl
        have hZ1f0 : ((w9.alloc (.cells #[.int .i64 0, .int .i64 0, .int .i64 0, .int .i64 0, .int .i64 0, .int .i64 0] 39 (0, 0))).alloc (.cells #[.int .i64 0, .int .i64 0, .int .i64 0, .int .i64 0, .int .i64 0, .int .i64 0] 39 (0, 0))).frozen? ⟨w9.heap.size, 0, none⟩ = false := blk_frozen hZ1 0
        have hZ1c1 : ((w9.alloc (.cells #[.int .i64 0, .int .i64 0, .int .i64 0, .int .i64 0, .int .i64 0, .int .i64 0] 39 (0, 0))).alloc (.cells #[.int .i64 0, .int .i64 0, .int .i64 0, .int .i64 0, .int .i64 0, .int .i64 0] 39 (0, 0))).cell? ⟨w9.heap.size, 1, none⟩ = some (.int .i64 0) := (blk_cell hZ1 1).trans rfl
        have hZ1f1 : ((w9.alloc (.cells #[.int .i64 0, .int .i64 0, .int .i64 0, .int .i64 0, .int .i64 0, .int .i64 0] 39 (0, 0))).alloc (.cells #[.int .i64 0, .int .i64 0, .int .i64 0, .int .i64 0, .int .i64 0, .int .i64 0] 39 (0, 0))).frozen? ⟨w9.heap.size, 1, none⟩ = false := blk_frozen hZ1 1
        have hZ1c2 : ((w9.alloc (.cells #[.int .i64 0, .int .i64 0, .int .i64 0, .int .i64 0, .int .i64 0, .int .i64 0] 39 (0, 0))).alloc (.cells #[.int .i64 0, .int .i64 0, .int .i64 0, .int .i64 0, .int .i64 0, .int .i64 0] 39 (0, 0))).cell? ⟨w9.heap.size, 2, none⟩ = some (.int .i64 0) := (blk_cell hZ1 2).trans rfl
        have hZ1f2 : ((w9.alloc (.cells #[.int .i64 0, .int .i64 0, .int .i64 0, .int .i64 0, .int .i64 0, .int .i64 0] 39 (0, 0))).alloc (.cells #[.int .i64 0, .int .i64 0, .int .i64 0, .int .i64 0, .int .i64 0, .int .i64 0] 39 (0, 0))).frozen? ⟨w9.heap.size, 2, none⟩ = false := blk_frozen hZ1 2
        have hZ1c3 : ((w9.alloc (.cells #[.int .i64 0, .int .i64 0, .int .i64 0, .int .i64 0, .int .i64 0, .int .i64 0] 39 (0, 0))).alloc (.cells #[.int .i64 0, .int .i64 0, .int .i64 0, .int .i64 0, .int .i64 0, .int .i64 0] 39 (0, 0))).cell? ⟨w9.heap.size, 3, none⟩ = some (.int .i64 0) := (blk_cell hZ1 3).trans rfl
        have hZ1f3 : ((w9.alloc (.cells #[.int .i64 0, .int .i64 0, .int .i64 0, .int .i64 0, .int .i64 0, .int .i64 0] 39 (0, 0))).alloc (.cells #[.int .i64 0, .int .i64 0, .int .i64 0, .int .i64 0, .int .i64 0, .int .i64 0] 39 (0, 0))).frozen? ⟨w9.heap.size, 3, none⟩ = false := blk_frozen hZ1 3
        have hZ1c4 : ((w9.alloc (.cells #[.int .i64 0, .int .i64 0, .int .i64 0, .int .i64 0, .int .i64 0, .int .i64 0] 39 (0, 0))).alloc (.cells #[.int .i64 0, .int .i64 0, .int .i64 0, .int .i64 0, .int .i64 0, .int .i64 0] 39 (0, 0))).cell? ⟨w9.heap.size, 4, none⟩ = some (.int .i64 0) := (blk_cell hZ1 4).trans rfl
        have hZ1f4 : ((w9.alloc (.cells #[.int .i64 0, .int .i64 0, .int .i64 0, .int .i64 0, .int .i64 0, .int .i64 0] 39 (0, 0))).alloc (.cells #[.int .i64 0, .int .i64 0, .int .i64 0, .int .i64 0, .int .i64 0, .int .i64 0] 39 (0, 0))).frozen? ⟨w9.heap.size, 4, none⟩ = false := blk_frozen hZ1 4
        have hZ1c5 : ((w9.alloc (.cells #[.int .i64 0, .int .i64 0, .int .i64 0, .int .i64 0, .int .i64 0, .int .i64 0] 39 (0, 0))).alloc (.cells #[.int .i64 0, .int .i64 0, .int .i64 0, .int .i64 0, .int .i64 0, .int .i64 0] 39 (0, 0))).cell? ⟨w9.heap.size, 5, none⟩ = some (.int .i64 0) := (blk_cell hZ1 5).trans rfl
        have hZ1f5 : ((w9.alloc (.cells #[.int .i64 0, .int .i64 0, .int .i64 0, .int .i64 0, .int .i64 0, .int .i64 0] 39 (0, 0))).alloc (.cells #[.int .i64 0, .int .i64 0, .int .i64 0, .int .i64 0, .int .i64 0, .int .i64 0] 39 (0, 0))).frozen? ⟨w9.heap.size, 5, none⟩ = false := blk_frozen hZ1 5
        have hZ2c0 : ((w9.alloc (.cells #[.int .i64 0, .int .i64 0, .int .i64 0, .int .i64 0, .int .i64 0, .int .i64 0] 39 (0, 0))).alloc (.cells #[.int .i64 0, .int .i64 0, .int .i64 0, .int .i64 0, .int .i64 0, .int .i64 0] 39 (0, 0))).cell? ⟨w9.heap.size + 1, 0, none⟩ = some (.int .i64 0) := (blk_cell hZ2 0).trans rfl
        have hZ2f0 : ((w9.alloc (.cells #[.int .i64 0, .int .i64 0, .int .i64 0, .int .i64 0, .int .i64 0, .int .i64 0] 39 (0, 0))).alloc (.cells #[.int .i64 0, .int .i64 0, .int .i64 0, .int .i64 0, .int .i64 0, .int .i64 0] 39 (0, 0))).frozen? ⟨w9.heap.size + 1, 0, none⟩ = false := blk_frozen hZ2 0
        have hZ2c1 : ((w9.alloc (.cells #[.int .i64 0, .int .i64 0, .int .i64 0, .int .i64 0, .int .i64 0, .int .i64 0] 39 (0, 0))).alloc (.cells #[.int .i64 0, .int .i64 0, .int .i64 0, .int .i64 0, .int .i64 0, .int .i64 0] 39 (0, 0))).cell? ⟨w9.heap.size + 1, 1, none⟩ = some (.int .i64 0) := (blk_cell hZ2 1).trans rfl
        have hZ2f1 : ((w9.alloc (.cells #[.int .i64 0, .int .i64 0, .int .i64 0, .int .i64 0, .int .i64 0, .int .i64 0] 39 (0, 0))).alloc (.cells #[.int .i64 0, .int .i64 0, .int .i64 0, .int .i64 0, .int .i64 0, .int .i64 0] 39 (0, 0))).frozen? ⟨w9.heap.size + 1, 1, none⟩ = false := blk_frozen hZ2 1
        have hZ2c2 : ((w9.alloc (.cells #[.int .i64 0, .int .i64 0, .int .i64 0, .int .i64 0, .int .i64 0, .int .i64 0] 39 (0, 0))).alloc (.cells #[.int .i64 0, .int .i64 0, .int .i64 0, .int .i64 0, .int .i64 0, .int .i64 0] 39 (0, 0))).cell? ⟨w9.heap.size + 1, 2, none⟩ = some (.int .i64 0) := (blk_cell hZ2 2).trans rfl
        have hZ2f2 : ((w9.alloc (.cells #[.int .i64 0, .int .i64 0, .int .i64 0, .int .i64 0, .int .i64 0, .int .i64 0] 39 (0, 0))).alloc (.cells #[.int .i64 0, .int .i64 0, .int .i64 0, .int .i64 0, .int .i64 0, .int .i64 0] 39 (0, 0))).frozen? ⟨w9.heap.size + 1, 2, none⟩ = false := blk_frozen hZ2 2
        have hZ2c3 : ((w9.alloc (.cells #[.int .i64 0, .int .i64 0, .int .i64 0, .int .i64 0, .int .i64 0, .int .i64 0] 39 (0, 0))).alloc (.cells #[.int .i64 0, .int .i64 0, .int .i64 0, .int .i64 0, .int .i64 0, .int .i64 0] 39 (0, 0))).cell? ⟨w9.heap.size + 1, 3, none⟩ = some (.int .i64 0) := (blk_cell hZ2 3).trans rfl
        have hZ2f3 : ((w9.alloc (.cells #[.int .i64 0, .int .i64 0, .int .i64 0, .int .i64 0, .int .i64 0, .int .i64 0] 39 (0, 0))).alloc (.cells #[.int .i64 0, .int .i64 0, .int .i64 0, .int .i64 0, .int .i64 0, .int .i64 0] 39 (0, 0))).frozen? ⟨w9.heap.size + 1, 3, none⟩ = false := blk_frozen hZ2 3
        have hZ2c4 : ((w9.alloc (.cells #[.int .i64 0, .int .i64 0, .int .i64 0, .int .i64 0, .int .i64 0, .int .i64 0] 39 (0, 0))).alloc (.cells #[.int .i64 0, .int .i64 0, .int .i64 0, .int .i64 0, .int .i64 0, .int .i64 0] 39 (0, 0))).cell? ⟨w9.heap.size + 1, 4, none⟩ = some (.int .i64 0) := (blk_cell hZ2 4).trans rfl
        have hZ2f4 : ((w9.alloc (.cells #[.int .i64 0, .int .i64 0, .int .i64 0, .int .i64 0, .int .i64 0, .int .i64 0] 39 (0, 0))).alloc (.cells #[.int .i64 0, .int .i64 0, .int .i64 0, .int .i64 0, .int .i64 0, .int .i64 0] 39 (0, 0))).frozen? ⟨w9.heap.size + 1, 4, none⟩ = false := blk_frozen hZ2 4
        have hZ2c5 : ((w9.alloc (.cells #[.int .i64 0, .int .i64 0, .int .i64 0, .int .i64 0, .int .i64 0, .int .i64 0] 39 (0, 0))).alloc (.cells #[.int .i64 0, .int .i64 0, .int .i64 0, .int .i64 0, .int .i64 0, .int .i64 0] 39 (0, 0))).cell? ⟨w9.heap.size + 1, 5, none⟩ = some (.int .i64 0) := (blk_cell hZ2 5).trans rfl
        have hZ2f5 : ((w9.alloc (.cells #[.int .i64 0, .int .i64 0, .int .i64 0, .int .i64 0, .int .i64 0, .int .i64 0] 39 (0, 0))).alloc (.cells #[.int .i64 0, .int .i64 0, .int .i64 0, .int .i64 0, .int .i64 0, .int .i64 0] 39 (0, 0))).frozen? ⟨w9.heap.size + 1, 5, none⟩ = false := blk_frozen hZ2 5
        have hb1_ : ∀ o1 : Obj, Below w9.heap.size w9 (w9.alloc o1) := fun o1 => below_alloc (Below.refl _ _) _
        have hb2_ : ∀ o1 o2 : Obj, Below w9.heap.size w9 ((w9.alloc o1).alloc o2) := fun o1 o2 => below_alloc (below_alloc (Below.refl _ _) _) _
        have fa01 := fun o1 => pw_cell_below (hb1_ o1) fa0
        have fa02 := fun o1 o2 => pw_cell_below (hb2_ o1 o2) fa0
        have fa11 := fun o1 => pw_cell_below (hb1_ o1) fa1
        have fa12 := fun o1 o2 => pw_cell_below (hb2_ o1 o2) fa1
        have fa21 := fun o1 => pw_cell_below (hb1_ o1) fa2
        have fa22 := fun o1 o2 => pw_cell_below (hb2_ o1 o2) fa2
        have fa31 := fun o1 => pw_cell_below (hb1_ o1) fa3
        have fa32 := fun o1 o2 => pw_cell_below (hb2_ o1 o2) fa3
        have fa41 := fun o1 => pw_cell_below (hb1_ o1) fa4
        have fa42 := fun o1 o2 => pw_cell_below (hb2_ o1 o2) fa4
        have fa51 := fun o1 => pw_cell_below (hb1_ o1) fa5
        have fa52 := fun o1 o2 => pw_cell_below (hb2_ o1 o2) fa5
        have fb01 := fun o1 => pw_cell_below (hb1_ o1) fb0
        have fb02 := fun o1 o2 => pw_cell_below (hb2_ o1 o2) fb0
        have fb11 := fun o1 => pw_cell_below (hb1_ o1) fb1
        have fb12 := fun o1 o2 => pw_cell_below (hb2_ o1 o2) fb1
        have fb21 := fun o1 => pw_cell_below (hb1_ o1) fb2
        have fb22 := fun o1 o2 => pw_cell_below (hb2_ o1 o2) fb2
        have fb31 := fun o1 => pw_cell_below (hb1_ o1) fb3
        have fb32 := fun o1 o2 => pw_cell_below (hb2_ o1 o2) fb3
        have fb41 := fun o1 => pw_cell_below (hb1_ o1) fb4
        have fb42 := fun o1 o2 => pw_cell_below (hb2_ o1 o2) fb4
        have fb51 := fun o1 => pw_cell_below (hb1_ o1) fb5
        have fb52 := fun o1 o2 => pw_cell_below (hb2_ o1 o2) fb5
        clear hZ1 hZ2 hb1_ hb2_
        go_region
        · have hk1 : ((w9.alloc (.cells #[.int .i64 (2 * a0_0), .int .i64 (a0_1), .int .i64 (a0_2), .int .i64 (a0_4), .int .i64 (a0_5), .int .i64 (x0)] 39 (0, 0))).alloc (.cells #[.int .i64 (2 * a0_0 + 1), .int .i64 (a0_2), .int .i64 (a0_3), .int .i64 (a0_4), .int .i64 (m), .int .i64 (x1)] 39 (0, 0))).heap[w9.heap.size]? = some (.cells #[.int .i64 (2 * a0_0), .int .i64 (a0_1), .int .i64 (a0_2), .int .i64 (a0_4), .int .i64 (a0_5), .int .i64 (x0)] 39 (0, 0)) := blk_alloc (heap_alloc_new w9 (.cells #[.int .i64 (2 * a0_0), .int .i64 (a0_1), .int .i64 (a0_2), .int .i64 (a0_4), .int .i64 (a0_5), .int .i64 (x0)] 39 (0, 0))) (.cells #[.int .i64 (2 * a0_0 + 1), .int .i64 (a0_2), .int .i64 (a0_3), .int .i64 (a0_4), .int .i64 (m), .int .i64 (x1)] 39 (0, 0))
          have hk2 : ((w9.alloc (.cells #[.int .i64 (2 * a0_0), .int .i64 (a0_1), .int .i64 (a0_2), .int .i64 (a0_4), .int .i64 (a0_5), .int .i64 (x0)] 39 (0, 0))).alloc (.cells #[.int .i64 (2 * a0_0 + 1), .int .i64 (a0_2), .int .i64 (a0_3), .int .i64 (a0_4), .int .i64 (m), .int .i64 (x1)] 39 (0, 0))).heap[w9.heap.size + 1]? = some (.cells #[.int .i64 (2 * a0_0 + 1), .int .i64 (a0_2), .int .i64 (a0_3), .int .i64 (a0_4), .int .i64 (m), .int .i64 (x1)] 39 (0, 0)) := by
            have h_ := heap_alloc_new (w9.alloc (.cells #[.int .i64 (2 * a0_0), .int .i64 (a0_1), .int .i64 (a0_2), .int .i64 (a0_4), .int .i64 (a0_5), .int .i64 (x0)] 39 (0, 0))) (.cells #[.int .i64 (2 * a0_0 + 1), .int .i64 (a0_2), .int .i64 (a0_3), .int .i64 (a0_4), .int .i64 (m), .int .i64 (x1)] 39 (0, 0))
            simpa only [World.alloc, Array.size_push] using h_
          have HLz : Aside0 (((w9.alloc (.cells #[.int .i64 (2 * a0_0), .int .i64 (a0_1), .int .i64 (a0_2), .int .i64 (a0_4), .int .i64 (a0_5), .int .i64 (x0)] 39 (0, 0))).alloc (.cells #[.int .i64 (2 * a0_0 + 1), .int .i64 (a0_2), .int .i64 (a0_3), .int .i64 (a0_4), .int .i64 (m), .int .i64 (x1)] 39 (0, 0))).heap[w.heap.size]? = some (.cells #[.int .i64 a0_0, .int .i64 a0_1, .int .i64 a0_2, .int .i64 a0_3, .int .i64 a0_4, .int .i64 a0_5, .int .i64 a0_6] 23 (0, 0))) := ⟨blk_alloc (blk_alloc HL9.out _) _⟩
          have HXz : Aside0 (((w9.alloc (.cells #[.int .i64 (2 * a0_0), .int .i64 (a0_1), .int .i64 (a0_2), .int .i64 (a0_4), .int .i64 (a0_5), .int .i64 (x0)] 39 (0, 0))).alloc (.cells #[.int .i64 (2 * a0_0 + 1), .int .i64 (a0_2), .int .i64 (a0_3), .int .i64 (a0_4), .int .i64 (m), .int .i64 (x1)] 39 (0, 0))).heap[wr.heap.size]? = some (.cells #[.int .i64 x0, .int .i64 x1] 25 (0, 0))) := ⟨blk_alloc (blk_alloc HX9.out _) _⟩
          have HDz : Aside0 (Below w4.heap.size w4 ((w9.alloc (.cells #[.int .i64 (2 * a0_0), .int .i64 (a0_1), .int .i64 (a0_2), .int .i64 (a0_4), .int .i64 (a0_5), .int .i64 (x0)] 39 (0, 0))).alloc (.cells #[.int .i64 (2 * a0_0 + 1), .int .i64 (a0_2), .int .i64 (a0_3), .int .i64 (a0_4), .int .i64 (m), .int .i64 (x1)] 39 (0, 0)))) := ⟨below_alloc (below_alloc HD9.out _) _⟩
          have HKA := Aside0.mk hk1
          have HKB := Aside0.mk hk2
          clear hk1 hk2
          generalize ((w9.alloc (.cells #[.int .i64 (2 * a0_0), .int .i64 (a0_1), .int .i64 (a0_2), .int .i64 (a0_4), .int .i64 (a0_5), .int .i64 (x0)] 39 (0, 0))).alloc (.cells #[.int .i64 (2 * a0_0 + 1), .int .i64 (a0_2), .int .i64 (a0_3), .int .i64 (a0_4), .int .i64 (m), .int .i64 (x1)] 39 (0, 0))) = wz at *
          have ga2 := (blk_cell HKA.out 2).trans (rfl : _ = some (Value.int .i64 (a0_2)))
          have ga3 := (blk_cell HKA.out 3).trans (rfl : _ = some (Value.int .i64 (a0_4)))
          have ga4 := (blk_cell HKA.out 4).trans (rfl : _ = some (Value.int .i64 (a0_5)))
          have ga5 := (blk_cell HKA.out 5).trans (rfl : _ = some (Value.int .i64 (x0)))
          have gb1 := (blk_cell HKB.out 1).trans (rfl : _ = some (Value.int .i64 (a0_2)))
          have gb3 := (blk_cell HKB.out 3).trans (rfl : _ = some (Value.int .i64 (a0_4)))
          have gb4 := (blk_cell HKB.out 4).trans (rfl : _ = some (Value.int .i64 (m)))
          have gb5 := (blk_cell HKB.out 5).trans (rfl : _ = some (Value.int .i64 (x1)))
          have gl4 := (blk_cell HLz.out 4).trans (rfl : _ = some (Value.int .i64 a0_4))
          have gx0 := (blk_cell HXz.out 0).trans (rfl : _ = some (Value.int .i64 x0))
          have gx1 := (blk_cell HXz.out 1).trans (rfl : _ = some (Value.int .i64 x1))
          have hR := HRP.out
          have a50 : 0 ≤ a0_5 := by omega
          have a51 : a0_5 ≤ 512 := by omega
          have x00 : 1 ≤ x0 := by omega
          have x01 : x0 ≤ 512 := by omega
          have a41 : 1 ≤ a0_4 := by omega
          clear hR
          obtain ⟨m0, m1, m2, m3⟩ := wide_mod a41 (show 0 ≤ a0_5 + x0 by omega) HM.out
          have ms : 0 ≤ a0_5 + x0 - m := by omega
          have hz4 : (a0_4 == 0) = false := beq_eq_false_iff_ne.mpr (by omega)
          have hz5 : ¬ a0_4 = 0 := by omega
          have ee1 : (x0 != x0) = false := by simp
          have ee2 : (x1 != x1) = false := by simp
          have ee3 : (a0_4 != a0_4) = false := by simp
          have ee4 : (a0_2 != a0_2) = false := by simp
          have M2 := Aside0.mk m2
          have M3 := Aside0.mk m3
          have e5 : ((a0_5 + x0 - m) % a0_4 == 0) = true := beq_iff_eq.mpr M2.out
          have e6 : ((a0_5 + x0 - m) % a0_4 != 0) = false := bne_eq_false_iff_eq.mpr M2.out
          have e7 : (Int.tmod (a0_5 + x0 - m) a0_4 != 0) = false := bne_eq_false_iff_eq.mpr M3.out
          clear m2 m3
          go_wp2
          go_roundg (gk - 1)
          case measure => have := HK.out; have := HT.out; omega
          case rel => exact ⟨i + 1, congrArg (Value.int .i64) WR.out, ⟨by have := HK.out; have := HT.out; omega⟩, ⟨by repeat (first | exact HDz.out | apply pw_below_drewN | apply below_drew1)⟩⟩
        · have hk1 : ((w9.alloc (.cells #[.int .i64 (2 * a0_0 + 1), .int .i64 (a0_2), .int .i64 (a0_3), .int .i64 (a0_4), .int .i64 (m), .int .i64 (x1)] 39 (0, 0))).alloc (.cells #[.int .i64 (2 * a0_0), .int .i64 (a0_1), .int .i64 (a0_2), .int .i64 (a0_4), .int .i64 (a0_5), .int .i64 (x0)] 39 (0, 0))).heap[w9.heap.size]? = some (.cells #[.int .i64 (2 * a0_0 + 1), .int .i64 (a0_2), .int .i64 (a0_3), .int .i64 (a0_4), .int .i64 (m), .int .i64 (x1)] 39 (0, 0)) := blk_alloc (heap_alloc_new w9 (.cells #[.int .i64 (2 * a0_0 + 1), .int .i64 (a0_2), .int .i64 (a0_3), .int .i64 (a0_4), .int .i64 (m), .int .i64 (x1)] 39 (0, 0))) (.cells #[.int .i64 (2 * a0_0), .int .i64 (a0_1), .int .i64 (a0_2), .int .i64 (a0_4), .int .i64 (a0_5), .int .i64 (x0)] 39 (0, 0))
          have hk2 : ((w9.alloc (.cells #[.int .i64 (2 * a0_0 + 1), .int .i64 (a0_2), .int .i64 (a0_3), .int .i64 (a0_4), .int .i64 (m), .int .i64 (x1)] 39 (0, 0))).alloc (.cells #[.int .i64 (2 * a0_0), .int .i64 (a0_1), .int .i64 (a0_2), .int .i64 (a0_4), .int .i64 (a0_5), .int .i64 (x0)] 39 (0, 0))).heap[w9.heap.size + 1]? = some (.cells #[.int .i64 (2 * a0_0), .int .i64 (a0_1), .int .i64 (a0_2), .int .i64 (a0_4), .int .i64 (a0_5), .int .i64 (x0)] 39 (0, 0)) := by
            have h_ := heap_alloc_new (w9.alloc (.cells #[.int .i64 (2 * a0_0 + 1), .int .i64 (a0_2), .int .i64 (a0_3), .int .i64 (a0_4), .int .i64 (m), .int .i64 (x1)] 39 (0, 0))) (.cells #[.int .i64 (2 * a0_0), .int .i64 (a0_1), .int .i64 (a0_2), .int .i64 (a0_4), .int .i64 (a0_5), .int .i64 (x0)] 39 (0, 0))
            simpa only [World.alloc, Array.size_push] using h_
          have HLz : Aside0 (((w9.alloc (.cells #[.int .i64 (2 * a0_0 + 1), .int .i64 (a0_2), .int .i64 (a0_3), .int .i64 (a0_4), .int .i64 (m), .int .i64 (x1)] 39 (0, 0))).alloc (.cells #[.int .i64 (2 * a0_0), .int .i64 (a0_1), .int .i64 (a0_2), .int .i64 (a0_4), .int .i64 (a0_5), .int .i64 (x0)] 39 (0, 0))).heap[w.heap.size]? = some (.cells #[.int .i64 a0_0, .int .i64 a0_1, .int .i64 a0_2, .int .i64 a0_3, .int .i64 a0_4, .int .i64 a0_5, .int .i64 a0_6] 23 (0, 0))) := ⟨blk_alloc (blk_alloc HL9.out _) _⟩
          have HXz : Aside0 (((w9.alloc (.cells #[.int .i64 (2 * a0_0 + 1), .int .i64 (a0_2), .int .i64 (a0_3), .int .i64 (a0_4), .int .i64 (m), .int .i64 (x1)] 39 (0, 0))).alloc (.cells #[.int .i64 (2 * a0_0), .int .i64 (a0_1), .int .i64 (a0_2), .int .i64 (a0_4), .int .i64 (a0_5), .int .i64 (x0)] 39 (0, 0))).heap[wr.heap.size]? = some (.cells #[.int .i64 x0, .int .i64 x1] 25 (0, 0))) := ⟨blk_alloc (blk_alloc HX9.out _) _⟩
          have HDz : Aside0 (Below w4.heap.size w4 ((w9.alloc (.cells #[.int .i64 (2 * a0_0 + 1), .int .i64 (a0_2), .int .i64 (a0_3), .int .i64 (a0_4), .int .i64 (m), .int .i64 (x1)] 39 (0, 0))).alloc (.cells #[.int .i64 (2 * a0_0), .int .i64 (a0_1), .int .i64 (a0_2), .int .i64 (a0_4), .int .i64 (a0_5), .int .i64 (x0)] 39 (0, 0)))) := ⟨below_alloc (below_alloc HD9.out _) _⟩
          have HKA := Aside0.mk hk2
          have HKB := Aside0.mk hk1
          clear hk1 hk2
          generalize ((w9.alloc (.cells #[.int .i64 (2 * a0_0 + 1), .int .i64 (a0_2), .int .i64 (a0_3), .int .i64 (a0_4), .int .i64 (m), .int .i64 (x1)] 39 (0, 0))).alloc (.cells #[.int .i64 (2 * a0_0), .int .i64 (a0_1), .int .i64 (a0_2), .int .i64 (a0_4), .int .i64 (a0_5), .int .i64 (x0)] 39 (0, 0))) = wz at *
          have ga2 := (blk_cell HKA.out 2).trans (rfl : _ = some (Value.int .i64 (a0_2)))
          have ga3 := (blk_cell HKA.out 3).trans (rfl : _ = some (Value.int .i64 (a0_4)))
          have ga4 := (blk_cell HKA.out 4).trans (rfl : _ = some (Value.int .i64 (a0_5)))
          have ga5 := (blk_cell HKA.out 5).trans (rfl : _ = some (Value.int .i64 (x0)))
          have gb1 := (blk_cell HKB.out 1).trans (rfl : _ = some (Value.int .i64 (a0_2)))
          have gb3 := (blk_cell HKB.out 3).trans (rfl : _ = some (Value.int .i64 (a0_4)))
          have gb4 := (blk_cell HKB.out 4).trans (rfl : _ = some (Value.int .i64 (m)))
          have gb5 := (blk_cell HKB.out 5).trans (rfl : _ = some (Value.int .i64 (x1)))
          have gl4 := (blk_cell HLz.out 4).trans (rfl : _ = some (Value.int .i64 a0_4))
          have gx0 := (blk_cell HXz.out 0).trans (rfl : _ = some (Value.int .i64 x0))
          have gx1 := (blk_cell HXz.out 1).trans (rfl : _ = some (Value.int .i64 x1))
          have hR := HRP.out
          have a50 : 0 ≤ a0_5 := by omega
          have a51 : a0_5 ≤ 512 := by omega
          have x00 : 1 ≤ x0 := by omega
          have x01 : x0 ≤ 512 := by omega
          have a41 : 1 ≤ a0_4 := by omega
          clear hR
          obtain ⟨m0, m1, m2, m3⟩ := wide_mod a41 (show 0 ≤ a0_5 + x0 by omega) HM.out
          have ms : 0 ≤ a0_5 + x0 - m := by omega
          have hz4 : (a0_4 == 0) = false := beq_eq_false_iff_ne.mpr (by omega)
          have hz5 : ¬ a0_4 = 0 := by omega
          have ee1 : (x0 != x0) = false := by simp
          have ee2 : (x1 != x1) = false := by simp
          have ee3 : (a0_4 != a0_4) = false := by simp
          have ee4 : (a0_2 != a0_2) = false := by simp
          have M2 := Aside0.mk m2
          have M3 := Aside0.mk m3
          have e5 : ((a0_5 + x0 - m) % a0_4 == 0) = true := beq_iff_eq.mpr M2.out
          have e6 : ((a0_5 + x0 - m) % a0_4 != 0) = false := bne_eq_false_iff_eq.mpr M2.out
          have e7 : (Int.tmod (a0_5 + x0 - m) a0_4 != 0) = false := bne_eq_false_iff_eq.mpr M3.out
          clear m2 m3
          go_wp2
          go_roundg (gk - 1)
          case measure => have := HK.out; have := HT.out; omega
          case rel => exact ⟨i + 1, congrArg (Value.int .i64) WR.out, ⟨by have := HK.out; have := HT.out; omega⟩, ⟨by repeat (first | exact HDz.out | apply pw_below_drewN | apply below_drew1)⟩⟩
      have f0_ : decide ((0 : Int) < (i : Int)) = true := decide_eq_true (by omega)
      have f1_ : decide (0 < i) = true := decide_eq_true q
      have hy := HY8.out q
      have ey : ((i : Int) - 1).toNat = i - 1 := by omega
      have ew : IntKind.i64.wrap ((i : Int) - 1) = (i : Int) - 1 := by rw [IntKind.wrap_i64]; omega
      have r0 : ((0 : Int) ≤ (i : Int) - 1) = True := eq_true (by omega)
      have r1 : ((1 : Int) ≤ (i : Int)) = True := eq_true (by omega)
      have r2 : ((i : Int) - 1 < (ws.length : Int)) = True := eq_true (by have := HT.out; omega)
      have s0 : decide (x0 ≤ y0) = false := decide_eq_false (by have := GY.out q; omega)
      clear q
      go_quiet (fail)
      go_upto_region 14 with (fail)
      replace fa0 : (w8.drewN nq).cell? af = some (.int .i64 (2 * a0_0)) := fa0
      replace fa1 : (w8.drewN nq).cell? ⟨af.block, af.off + 1, none⟩ = some (.int .i64 (a0_1)) := fa1
      replace fa2 : (w8.drewN nq).cell? ⟨af.block, af.off + 2, none⟩ = some (.int .i64 (a0_2)) := fa2
      replace fa3 : (w8.drewN nq).cell? ⟨af.block, af.off + 3, none⟩ = some (.int .i64 (a0_4)) := fa3
      replace fa4 : (w8.drewN nq).cell? ⟨af.block, af.off + 4, none⟩ = some (.int .i64 (a0_5)) := fa4
      replace fa5 : (w8.drewN nq).cell? ⟨af.block, af.off + 5, none⟩ = some (.int .i64 (x0)) := fa5
      replace fb0 : (w8.drewN nq).cell? ⟨af.block, af.off + 6, none⟩ = some (.int .i64 (2 * a0_0 + 1)) := fb0
      replace fb1 : (w8.drewN nq).cell? ⟨af.block, af.off + 6 + 1, none⟩ = some (.int .i64 (a0_2)) := fb1
      replace fb2 : (w8.drewN nq).cell? ⟨af.block, af.off + 6 + 2, none⟩ = some (.int .i64 (a0_3)) := fb2
      replace fb3 : (w8.drewN nq).cell? ⟨af.block, af.off + 6 + 3, none⟩ = some (.int .i64 (a0_4)) := fb3
      replace fb4 : (w8.drewN nq).cell? ⟨af.block, af.off + 6 + 4, none⟩ = some (.int .i64 (m)) := fb4
      replace fb5 : (w8.drewN nq).cell? ⟨af.block, af.off + 6 + 5, none⟩ = some (.int .i64 (x1)) := fb5
      have HB9 : Aside0 (Below w.heap.size w (w8.drewN nq)) := ⟨pw_below_drewN HB8.out _⟩
      have HD9 : Aside0 (Below w4.heap.size w4 (w8.drewN nq)) := ⟨pw_below_drewN HD8.out _⟩
      have HL9 : Aside0 ((w8.drewN nq).heap[w.heap.size]? = some (.cells #[.int .i64 a0_0, .int .i64 a0_1, .int .i64 a0_2, .int .i64 a0_3, .int .i64 a0_4, .int .i64 a0_5, .int .i64 a0_6] 23 (0, 0))) := ⟨blk_drewN HL8.out _⟩
      have HX9 : Aside0 ((w8.drewN nq).heap[wr.heap.size]? = some (.cells #[.int .i64 x0, .int .i64 x1] 25 (0, 0))) := ⟨blk_drewN HX8.out _⟩
      clear gl0 gl1 gl2 gl3 gl4 gl5 gl6 gx0 gx1
      generalize w8.drewN nq = w9 at *
      have hZ1 : ((w9.alloc (.cells #[.int .i64 0, .int .i64 0, .int .i64 0, .int .i64 0, .int .i64 0, .int .i64 0] 39 (0, 0))).alloc (.cells #[.int .i64 0, .int .i64 0, .int .i64 0, .int .i64 0, .int .i64 0, .int .i64 0] 39 (0, 0))).heap[w9.heap.size]? = some (.cells #[.int .i64 0, .int .i64 0, .int .i64 0, .int .i64 0, .int .i64 0, .int .i64 0] 39 (0, 0)) := blk_alloc (heap_alloc_new w9 (.cells #[.int .i64 0, .int .i64 0, .int .i64 0, .int .i64 0, .int .i64 0, .int .i64 0] 39 (0, 0))) (.cells #[.int .i64 0, .int .i64 0, .int .i64 0, .int .i64 0, .int .i64 0, .int .i64 0] 39 (0, 0))
      have hZ2 : ((w9.alloc (.cells #[.int .i64 0, .int .i64 0, .int .i64 0, .int .i64 0, .int .i64 0, .int .i64 0] 39 (0, 0))).alloc (.cells #[.int .i64 0, .int .i64 0, .int .i64 0, .int .i64 0, .int .i64 0, .int .i64 0] 39 (0, 0))).heap[w9.heap.size + 1]? = some (.cells #[.int .i64 0, .int .i64 0, .int .i64 0, .int .i64 0, .int .i64 0, .int .i64 0] 39 (0, 0)) := by
        have h_ := heap_alloc_new (w9.alloc (.cells #[.int .i64 0, .int .i64 0, .int .i64 0, .int .i64 0, .int .i64 0, .int .i64 0] 39 (0, 0))) (.cells #[.int .i64 0, .int .i64 0, .int .i64 0, .int .i64 0, .int .i64 0, .int .i64 0] 39 (0, 0))
        simpa only [World.alloc, Array.size_push] using h_
      have hZ1c0 : ((w9.alloc (.cells #[.int .i64 0, .int .i64 0, .int .i64 0, .int .i64 0, .int .i64 0, .int .i64 0] 39 (0, 0))).alloc (.cells #[.int .i64 0, .int .i64 0, .int .i64 0, .int .i64 0, .int .i64 0, .int .i64 0] 39 (0, 0))).cell? ⟨w9.heap.size, 0, none⟩ = some (.int .i64 0) := (blk_cell hZ1 0).trans rfl
      have hZ1f0 : ((w9.alloc (.cells #[.int .i64 0, .int .i64 0, .int .i64 0, .int .i64 0, .int .i64 0, .int .i64 0] 39 (0, 0))).alloc (.cells #[.int .i64 0, .int .i64 0, .int .i64 0, .int .i64 0, .int .i64 0, .int .i64 0] 39 (0, 0))).frozen? ⟨w9.heap.size, 0, none⟩ = false := blk_frozen hZ1 0
      have hZ1c1 : ((w9.alloc (.cells #[.int .i64 0, .int .i64 0, .int .i64 0, .int .i64 0, .int .i64 0, .int .i64 0] 39 (0, 0))).alloc (.cells #[.int .i64 0, .int .i64 0, .int .i64 0, .int .i64 0, .int .i64 0, .int .i64 0] 39 (0, 0))).cell? ⟨w9.heap.size, 1, none⟩ = some (.int .i64 0) := (blk_cell hZ1 1).trans rfl
      have hZ1f1 : ((w9.alloc (.cells #[.int .i64 0, .int .i64 0, .int .i64 0, .int .i64 0, .int .i64 0, .int .i64 0] 39 (0, 0))).alloc (.cells #[.int .i64 0, .int .i64 0, .int .i64 0, .int .i64 0, .int .i64 0, .int .i64 0] 39 (0, 0))).frozen? ⟨w9.heap.size, 1, none⟩ = false := blk_frozen hZ1 1
      have hZ1c2 : ((w9.alloc (.cells #[.int .i64 0, .int .i64 0, .int .i64 0, .int .i64 0, .int .i64 0, .int .i64 0] 39 (0, 0))).alloc (.cells #[.int .i64 0, .int .i64 0, .int .i64 0, .int .i64 0, .int .i64 0, .int .i64 0] 39 (0, 0))).cell? ⟨w9.heap.size, 2, none⟩ = some (.int .i64 0) := (blk_cell hZ1 2).trans rfl
      have hZ1f2 : ((w9.alloc (.cells #[.int .i64 0, .int .i64 0, .int .i64 0, .int .i64 0, .int .i64 0, .int .i64 0] 39 (0, 0))).alloc (.cells #[.int .i64 0, .int .i64 0, .int .i64 0, .int .i64 0, .int .i64 0, .int .i64 0] 39 (0, 0))).frozen? ⟨w9.heap.size, 2, none⟩ = false := blk_frozen hZ1 2
      have hZ1c3 : ((w9.alloc (.cells #[.int .i64 0, .int .i64 0, .int .i64 0, .int .i64 0, .int .i64 0, .int .i64 0] 39 (0, 0))).alloc (.cells #[.int .i64 0, .int .i64 0, .int .i64 0, .int .i64 0, .int .i64 0, .int .i64 0] 39 (0, 0))).cell? ⟨w9.heap.size, 3, none⟩ = some (.int .i64 0) := (blk_cell hZ1 3).trans rfl
      have hZ1f3 : ((w9.alloc (.cells #[.int .i64 0, .int .i64 0, .int .i64 0, .int .i64 0, .int .i64 0, .int .i64 0] 39 (0, 0))).alloc (.cells #[.int .i64 0, .int .i64 0, .int .i64 0, .int .i64 0, .int .i64 0, .int .i64 0] 39 (0, 0))).frozen? ⟨w9.heap.size, 3, none⟩ = false := blk_frozen hZ1 3
      have hZ1c4 : ((w9.alloc (.cells #[.int .i64 0, .int .i64 0, .int .i64 0, .int .i64 0, .int .i64 0, .int .i64 0] 39 (0, 0))).alloc (.cells #[.int .i64 0, .int .i64 0, .int .i64 0, .int .i64 0, .int .i64 0, .int .i64 0] 39 (0, 0))).cell? ⟨w9.heap.size, 4, none⟩ = some (.int .i64 0) := (blk_cell hZ1 4).trans rfl
      have hZ1f4 : ((w9.alloc (.cells #[.int .i64 0, .int .i64 0, .int .i64 0, .int .i64 0, .int .i64 0, .int .i64 0] 39 (0, 0))).alloc (.cells #[.int .i64 0, .int .i64 0, .int .i64 0, .int .i64 0, .int .i64 0, .int .i64 0] 39 (0, 0))).frozen? ⟨w9.heap.size, 4, none⟩ = false := blk_frozen hZ1 4
      have hZ1c5 : ((w9.alloc (.cells #[.int .i64 0, .int .i64 0, .int .i64 0, .int .i64 0, .int .i64 0, .int .i64 0] 39 (0, 0))).alloc (.cells #[.int .i64 0, .int .i64 0, .int .i64 0, .int .i64 0, .int .i64 0, .int .i64 0] 39 (0, 0))).cell? ⟨w9.heap.size, 5, none⟩ = some (.int .i64 0) := (blk_cell hZ1 5).trans rfl
      have hZ1f5 : ((w9.alloc (.cells #[.int .i64 0, .int .i64 0, .int .i64 0, .int .i64 0, .int .i64 0, .int .i64 0] 39 (0, 0))).alloc (.cells #[.int .i64 0, .int .i64 0, .int .i64 0, .int .i64 0, .int .i64 0, .int .i64 0] 39 (0, 0))).frozen? ⟨w9.heap.size, 5, none⟩ = false := blk_frozen hZ1 5
      have hZ2c0 : ((w9.alloc (.cells #[.int .i64 0, .int .i64 0, .int .i64 0, .int .i64 0, .int .i64 0, .int .i64 0] 39 (0, 0))).alloc (.cells #[.int .i64 0, .int .i64 0, .int .i64 0, .int .i64 0, .int .i64 0, .int .i64 0] 39 (0, 0))).cell? ⟨w9.heap.size + 1, 0, none⟩ = some (.int .i64 0) := (blk_cell hZ2 0).trans rfl
      have hZ2f0 : ((w9.alloc (.cells #[.int .i64 0, .int .i64 0, .int .i64 0, .int .i64 0, .int .i64 0, .int .i64 0] 39 (0, 0))).alloc (.cells #[.int .i64 0, .int .i64 0, .int .i64 0, .int .i64 0, .int .i64 0, .int .i64 0] 39 (0, 0))).frozen? ⟨w9.heap.size + 1, 0, none⟩ = false := blk_frozen hZ2 0
      have hZ2c1 : ((w9.alloc (.cells #[.int .i64 0, .int .i64 0, .int .i64 0, .int .i64 0, .int .i64 0, .int .i64 0] 39 (0, 0))).alloc (.cells #[.int .i64 0, .int .i64 0, .int .i64 0, .int .i64 0, .int .i64 0, .int .i64 0] 39 (0, 0))).cell? ⟨w9.heap.size + 1, 1, none⟩ = some (.int .i64 0) := (blk_cell hZ2 1).trans rfl
      have hZ2f1 : ((w9.alloc (.cells #[.int .i64 0, .int .i64 0, .int .i64 0, .int .i64 0, .int .i64 0, .int .i64 0] 39 (0, 0))).alloc (.cells #[.int .i64 0, .int .i64 0, .int .i64 0, .int .i64 0, .int .i64 0, .int .i64 0] 39 (0, 0))).frozen? ⟨w9.heap.size + 1, 1, none⟩ = false := blk_frozen hZ2 1
      have hZ2c2 : ((w9.alloc (.cells #[.int .i64 0, .int .i64 0, .int .i64 0, .int .i64 0, .int .i64 0, .int .i64 0] 39 (0, 0))).alloc (.cells #[.int .i64 0, .int .i64 0, .int .i64 0, .int .i64 0, .int .i64 0, .int .i64 0] 39 (0, 0))).cell? ⟨w9.heap.size + 1, 2, none⟩ = some (.int .i64 0) := (blk_cell hZ2 2).trans rfl
      have hZ2f2 : ((w9.alloc (.cells #[.int .i64 0, .int .i64 0, .int .i64 0, .int .i64 0, .int .i64 0, .int .i64 0] 39 (0, 0))).alloc (.cells #[.int .i64 0, .int .i64 0, .int .i64 0, .int .i64 0, .int .i64 0, .int .i64 0] 39 (0, 0))).frozen? ⟨w9.heap.size + 1, 2, none⟩ = false := blk_frozen hZ2 2
      have hZ2c3 : ((w9.alloc (.cells #[.int .i64 0, .int .i64 0, .int .i64 0, .int .i64 0, .int .i64 0, .int .i64 0] 39 (0, 0))).alloc (.cells #[.int .i64 0, .int .i64 0, .int .i64 0, .int .i64 0, .int .i64 0, .int .i64 0] 39 (0, 0))).cell? ⟨w9.heap.size + 1, 3, none⟩ = some (.int .i64 0) := (blk_cell hZ2 3).trans rfl
      have hZ2f3 : ((w9.alloc (.cells #[.int .i64 0, .int .i64 0, .int .i64 0, .int .i64 0, .int .i64 0, .int .i64 0] 39 (0, 0))).alloc (.cells #[.int .i64 0, .int .i64 0, .int .i64 0, .int .i64 0, .int .i64 0, .int .i64 0] 39 (0, 0))).frozen? ⟨w9.heap.size + 1, 3, none⟩ = false := blk_frozen hZ2 3
      have hZ2c4 : ((w9.alloc (.cells #[.int .i64 0, .int .i64 0, .int .i64 0, .int .i64 0, .int .i64 0, .int .i64 0] 39 (0, 0))).alloc (.cells #[.int .i64 0, .int .i64 0, .int .i64 0, .int .i64 0, .int .i64 0, .int .i64 0] 39 (0, 0))).cell? ⟨w9.heap.size + 1, 4, none⟩ = some (.int .i64 0) := (blk_cell hZ2 4).trans rfl
      have hZ2f4 : ((w9.alloc (.cells #[.int .i64 0, .int .i64 0, .int .i64 0, .int .i64 0, .int .i64 0, .int .i64 0] 39 (0, 0))).alloc (.cells #[.int .i64 0, .int .i64 0, .int .i64 0, .int .i64 0, .int .i64 0, .int .i64 0] 39 (0, 0))).frozen? ⟨w9.heap.size + 1, 4, none⟩ = false := blk_frozen hZ2 4
      have hZ2c5 : ((w9.alloc (.cells #[.int .i64 0, .int .i64 0, .int .i64 0, .int .i64 0, .int .i64 0, .int .i64 0] 39 (0, 0))).alloc (.cells #[.int .i64 0, .int .i64 0, .int .i64 0, .int .i64 0, .int .i64 0, .int .i64 0] 39 (0, 0))).cell? ⟨w9.heap.size + 1, 5, none⟩ = some (.int .i64 0) := (blk_cell hZ2 5).trans rfl
      have hZ2f5 : ((w9.alloc (.cells #[.int .i64 0, .int .i64 0, .int .i64 0, .int .i64 0, .int .i64 0, .int .i64 0] 39 (0, 0))).alloc (.cells #[.int .i64 0, .int .i64 0, .int .i64 0, .int .i64 0, .int .i64 0, .int .i64 0] 39 (0, 0))).frozen? ⟨w9.heap.size + 1, 5, none⟩ = false := blk_frozen hZ2 5
      have hb1_ : ∀ o1 : Obj, Below w9.heap.size w9 (w9.alloc o1) := fun o1 => below_alloc (Below.refl _ _) _
      have hb2_ : ∀ o1 o2 : Obj, Below w9.heap.size w9 ((w9.alloc o1).alloc o2) := fun o1 o2 => below_alloc (below_alloc (Below.refl _ _) _) _
      have fa01 := fun o1 => pw_cell_below (hb1_ o1) fa0
      have fa02 := fun o1 o2 => pw_cell_below (hb2_ o1 o2) fa0
      have fa11 := fun o1 => pw_cell_below (hb1_ o1) fa1
      have fa12 := fun o1 o2 => pw_cell_below (hb2_ o1 o2) fa1
      have fa21 := fun o1 => pw_cell_below (hb1_ o1) fa2
      have fa22 := fun o1 o2 => pw_cell_below (hb2_ o1 o2) fa2
      have fa31 := fun o1 => pw_cell_below (hb1_ o1) fa3
      have fa32 := fun o1 o2 => pw_cell_below (hb2_ o1 o2) fa3
      have fa41 := fun o1 => pw_cell_below (hb1_ o1) fa4
      have fa42 := fun o1 o2 => pw_cell_below (hb2_ o1 o2) fa4
      have fa51 := fun o1 => pw_cell_below (hb1_ o1) fa5
      have fa52 := fun o1 o2 => pw_cell_below (hb2_ o1 o2) fa5
      have fb01 := fun o1 => pw_cell_below (hb1_ o1) fb0
      have fb02 := fun o1 o2 => pw_cell_below (hb2_ o1 o2) fb0
      have fb11 := fun o1 => pw_cell_below (hb1_ o1) fb1
      have fb12 := fun o1 o2 => pw_cell_below (hb2_ o1 o2) fb1
      have fb21 := fun o1 => pw_cell_below (hb1_ o1) fb2
      have fb22 := fun o1 o2 => pw_cell_below (hb2_ o1 o2) fb2
      have fb31 := fun o1 => pw_cell_below (hb1_ o1) fb3
      have fb32 := fun o1 o2 => pw_cell_below (hb2_ o1 o2) fb3
      have fb41 := fun o1 => pw_cell_below (hb1_ o1) fb4
      have fb42 := fun o1 o2 => pw_cell_below (hb2_ o1 o2) fb4
      have fb51 := fun o1 => pw_cell_below (hb1_ o1) fb5
      have fb52 := fun o1 o2 => pw_cell_below (hb2_ o1 o2) fb5
      clear hZ1 hZ2 hb1_ hb2_
      go_region
      · have hk1 : ((w9.alloc (.cells #[.int .i64 (2 * a0_0), .int .i64 (a0_1), .int .i64 (a0_2), .int .i64 (a0_4), .int .i64 (a0_5), .int .i64 (x0)] 39 (0, 0))).alloc (.cells #[.int .i64 (2 * a0_0 + 1), .int .i64 (a0_2), .int .i64 (a0_3), .int .i64 (a0_4), .int .i64 (m), .int .i64 (x1)] 39 (0, 0))).heap[w9.heap.size]? = some (.cells #[.int .i64 (2 * a0_0), .int .i64 (a0_1), .int .i64 (a0_2), .int .i64 (a0_4), .int .i64 (a0_5), .int .i64 (x0)] 39 (0, 0)) := blk_alloc (heap_alloc_new w9 (.cells #[.int .i64 (2 * a0_0), .int .i64 (a0_1), .int .i64 (a0_2), .int .i64 (a0_4), .int .i64 (a0_5), .int .i64 (x0)] 39 (0, 0))) (.cells #[.int .i64 (2 * a0_0 + 1), .int .i64 (a0_2), .int .i64 (a0_3), .int .i64 (a0_4), .int .i64 (m), .int .i64 (x1)] 39 (0, 0))
        have hk2 : ((w9.alloc (.cells #[.int .i64 (2 * a0_0), .int .i64 (a0_1), .int .i64 (a0_2), .int .i64 (a0_4), .int .i64 (a0_5), .int .i64 (x0)] 39 (0, 0))).alloc (.cells #[.int .i64 (2 * a0_0 + 1), .int .i64 (a0_2), .int .i64 (a0_3), .int .i64 (a0_4), .int .i64 (m), .int .i64 (x1)] 39 (0, 0))).heap[w9.heap.size + 1]? = some (.cells #[.int .i64 (2 * a0_0 + 1), .int .i64 (a0_2), .int .i64 (a0_3), .int .i64 (a0_4), .int .i64 (m), .int .i64 (x1)] 39 (0, 0)) := by
          have h_ := heap_alloc_new (w9.alloc (.cells #[.int .i64 (2 * a0_0), .int .i64 (a0_1), .int .i64 (a0_2), .int .i64 (a0_4), .int .i64 (a0_5), .int .i64 (x0)] 39 (0, 0))) (.cells #[.int .i64 (2 * a0_0 + 1), .int .i64 (a0_2), .int .i64 (a0_3), .int .i64 (a0_4), .int .i64 (m), .int .i64 (x1)] 39 (0, 0))
          simpa only [World.alloc, Array.size_push] using h_
        have HLz : Aside0 (((w9.alloc (.cells #[.int .i64 (2 * a0_0), .int .i64 (a0_1), .int .i64 (a0_2), .int .i64 (a0_4), .int .i64 (a0_5), .int .i64 (x0)] 39 (0, 0))).alloc (.cells #[.int .i64 (2 * a0_0 + 1), .int .i64 (a0_2), .int .i64 (a0_3), .int .i64 (a0_4), .int .i64 (m), .int .i64 (x1)] 39 (0, 0))).heap[w.heap.size]? = some (.cells #[.int .i64 a0_0, .int .i64 a0_1, .int .i64 a0_2, .int .i64 a0_3, .int .i64 a0_4, .int .i64 a0_5, .int .i64 a0_6] 23 (0, 0))) := ⟨blk_alloc (blk_alloc HL9.out _) _⟩
        have HXz : Aside0 (((w9.alloc (.cells #[.int .i64 (2 * a0_0), .int .i64 (a0_1), .int .i64 (a0_2), .int .i64 (a0_4), .int .i64 (a0_5), .int .i64 (x0)] 39 (0, 0))).alloc (.cells #[.int .i64 (2 * a0_0 + 1), .int .i64 (a0_2), .int .i64 (a0_3), .int .i64 (a0_4), .int .i64 (m), .int .i64 (x1)] 39 (0, 0))).heap[wr.heap.size]? = some (.cells #[.int .i64 x0, .int .i64 x1] 25 (0, 0))) := ⟨blk_alloc (blk_alloc HX9.out _) _⟩
        have HDz : Aside0 (Below w4.heap.size w4 ((w9.alloc (.cells #[.int .i64 (2 * a0_0), .int .i64 (a0_1), .int .i64 (a0_2), .int .i64 (a0_4), .int .i64 (a0_5), .int .i64 (x0)] 39 (0, 0))).alloc (.cells #[.int .i64 (2 * a0_0 + 1), .int .i64 (a0_2), .int .i64 (a0_3), .int .i64 (a0_4), .int .i64 (m), .int .i64 (x1)] 39 (0, 0)))) := ⟨below_alloc (below_alloc HD9.out _) _⟩
        have HKA := Aside0.mk hk1
        have HKB := Aside0.mk hk2
        clear hk1 hk2
        generalize ((w9.alloc (.cells #[.int .i64 (2 * a0_0), .int .i64 (a0_1), .int .i64 (a0_2), .int .i64 (a0_4), .int .i64 (a0_5), .int .i64 (x0)] 39 (0, 0))).alloc (.cells #[.int .i64 (2 * a0_0 + 1), .int .i64 (a0_2), .int .i64 (a0_3), .int .i64 (a0_4), .int .i64 (m), .int .i64 (x1)] 39 (0, 0))) = wz at *
        have ga2 := (blk_cell HKA.out 2).trans (rfl : _ = some (Value.int .i64 (a0_2)))
        have ga3 := (blk_cell HKA.out 3).trans (rfl : _ = some (Value.int .i64 (a0_4)))
        have ga4 := (blk_cell HKA.out 4).trans (rfl : _ = some (Value.int .i64 (a0_5)))
        have ga5 := (blk_cell HKA.out 5).trans (rfl : _ = some (Value.int .i64 (x0)))
        have gb1 := (blk_cell HKB.out 1).trans (rfl : _ = some (Value.int .i64 (a0_2)))
        have gb3 := (blk_cell HKB.out 3).trans (rfl : _ = some (Value.int .i64 (a0_4)))
        have gb4 := (blk_cell HKB.out 4).trans (rfl : _ = some (Value.int .i64 (m)))
        have gb5 := (blk_cell HKB.out 5).trans (rfl : _ = some (Value.int .i64 (x1)))
        have gl4 := (blk_cell HLz.out 4).trans (rfl : _ = some (Value.int .i64 a0_4))
        have gx0 := (blk_cell HXz.out 0).trans (rfl : _ = some (Value.int .i64 x0))
        have gx1 := (blk_cell HXz.out 1).trans (rfl : _ = some (Value.int .i64 x1))
        have hR := HRP.out
        have a50 : 0 ≤ a0_5 := by omega
        have a51 : a0_5 ≤ 512 := by omega
        have x00 : 1 ≤ x0 := by omega
        have x01 : x0 ≤ 512 := by omega
        have a41 : 1 ≤ a0_4 := by omega
        clear hR
        obtain ⟨m0, m1, m2, m3⟩ := wide_mod a41 (show 0 ≤ a0_5 + x0 by omega) HM.out
        have ms : 0 ≤ a0_5 + x0 - m := by omega
        have hz4 : (a0_4 == 0) = false := beq_eq_false_iff_ne.mpr (by omega)
        have hz5 : ¬ a0_4 = 0 := by omega
        have ee1 : (x0 != x0) = false := by simp
        have ee2 : (x1 != x1) = false := by simp
        have ee3 : (a0_4 != a0_4) = false := by simp
        have ee4 : (a0_2 != a0_2) = false := by simp
        have M2 := Aside0.mk m2
        have M3 := Aside0.mk m3
        have e5 : ((a0_5 + x0 - m) % a0_4 == 0) = true := beq_iff_eq.mpr M2.out
        have e6 : ((a0_5 + x0 - m) % a0_4 != 0) = false := bne_eq_false_iff_eq.mpr M2.out
        have e7 : (Int.tmod (a0_5 + x0 - m) a0_4 != 0) = false := bne_eq_false_iff_eq.mpr M3.out
        clear m2 m3
        go_wp2
        go_roundg (gk - 1)
        case measure => have := HK.out; have := HT.out; omega
        case rel => exact ⟨i + 1, congrArg (Value.int .i64) WR.out, ⟨by have := HK.out; have := HT.out; omega⟩, ⟨by repeat (first | exact HDz.out | apply pw_below_drewN | apply below_drew1)⟩⟩
      · have hk1 : ((w9.alloc (.cells #[.int .i64 (2 * a0_0 + 1), .int .i64 (a0_2), .int .i64 (a0_3), .int .i64 (a0_4), .int .i64 (m), .int .i64 (x1)] 39 (0, 0))).alloc (.cells #[.int .i64 (2 * a0_0), .int .i64 (a0_1), .int .i64 (a0_2), .int .i64 (a0_4), .int .i64 (a0_5), .int .i64 (x0)] 39 (0, 0))).heap[w9.heap.size]? = some (.cells #[.int .i64 (2 * a0_0 + 1), .int .i64 (a0_2), .int .i64 (a0_3), .int .i64 (a0_4), .int .i64 (m), .int .i64 (x1)] 39 (0, 0)) := blk_alloc (heap_alloc_new w9 (.cells #[.int .i64 (2 * a0_0 + 1), .int .i64 (a0_2), .int .i64 (a0_3), .int .i64 (a0_4), .int .i64 (m), .int .i64 (x1)] 39 (0, 0))) (.cells #[.int .i64 (2 * a0_0), .int .i64 (a0_1), .int .i64 (a0_2), .int .i64 (a0_4), .int .i64 (a0_5), .int .i64 (x0)] 39 (0, 0))
        have hk2 : ((w9.alloc (.cells #[.int .i64 (2 * a0_0 + 1), .int .i64 (a0_2), .int .i64 (a0_3), .int .i64 (a0_4), .int .i64 (m), .int .i64 (x1)] 39 (0, 0))).alloc (.cells #[.int .i64 (2 * a0_0), .int .i64 (a0_1), .int .i64 (a0_2), .int .i64 (a0_4), .int .i64 (a0_5), .int .i64 (x0)] 39 (0, 0))).heap[w9.heap.size + 1]? = some (.cells #[.int .i64 (2 * a0_0), .int .i64 (a0_1), .int .i64 (a0_2), .int .i64 (a0_4), .int .i64 (a0_5), .int .i64 (x0)] 39 (0, 0)) := by
          have h_ := heap_alloc_new (w9.alloc (.cells #[.int .i64 (2 * a0_0 + 1), .int .i64 (a0_2), .int .i64 (a0_3), .int .i64 (a0_4), .int .i64 (m), .int .i64 (x1)] 39 (0, 0))) (.cells #[.int .i64 (2 * a0_0), .int .i64 (a0_1), .int .i64 (a0_2), .int .i64 (a0_4), .int .i64 (a0_5), .int .i64 (x0)] 39 (0, 0))
          simpa only [World.alloc, Array.size_push] using h_
        have HLz : Aside0 (((w9.alloc (.cells #[.int .i64 (2 * a0_0 + 1), .int .i64 (a0_2), .int .i64 (a0_3), .int .i64 (a0_4), .int .i64 (m), .int .i64 (x1)] 39 (0, 0))).alloc (.cells #[.int .i64 (2 * a0_0), .int .i64 (a0_1), .int .i64 (a0_2), .int .i64 (a0_4), .int .i64 (a0_5), .int .i64 (x0)] 39 (0, 0))).heap[w.heap.size]? = some (.cells #[.int .i64 a0_0, .int .i64 a0_1, .int .i64 a0_2, .int .i64 a0_3, .int .i64 a0_4, .int .i64 a0_5, .int .i64 a0_6] 23 (0, 0))) := ⟨blk_alloc (blk_alloc HL9.out _) _⟩
        have HXz : Aside0 (((w9.alloc (.cells #[.int .i64 (2 * a0_0 + 1), .int .i64 (a0_2), .int .i64 (a0_3), .int .i64 (a0_4), .int .i64 (m), .int .i64 (x1)] 39 (0, 0))).alloc (.cells #[.int .i64 (2 * a0_0), .int .i64 (a0_1), .int .i64 (a0_2), .int .i64 (a0_4), .int .i64 (a0_5), .int .i64 (x0)] 39 (0, 0))).heap[wr.heap.size]? = some (.cells #[.int .i64 x0, .int .i64 x1] 25 (0, 0))) := ⟨blk_alloc (blk_alloc HX9.out _) _⟩
        have HDz : Aside0 (Below w4.heap.size w4 ((w9.alloc (.cells #[.int .i64 (2 * a0_0 + 1), .int .i64 (a0_2), .int .i64 (a0_3), .int .i64 (a0_4), .int .i64 (m), .int .i64 (x1)] 39 (0, 0))).alloc (.cells #[.int .i64 (2 * a0_0), .int .i64 (a0_1), .int .i64 (a0_2), .int .i64 (a0_4), .int .i64 (a0_5), .int .i64 (x0)] 39 (0, 0)))) := ⟨below_alloc (below_alloc HD9.out _) _⟩
        have HKA := Aside0.mk hk2
        have HKB := Aside0.mk hk1
        clear hk1 hk2
        generalize ((w9.alloc (.cells #[.int .i64 (2 * a0_0 + 1), .int .i64 (a0_2), .int .i64 (a0_3), .int .i64 (a0_4), .int .i64 (m), .int .i64 (x1)] 39 (0, 0))).alloc (.cells #[.int .i64 (2 * a0_0), .int .i64 (a0_1), .int .i64 (a0_2), .int .i64 (a0_4), .int .i64 (a0_5), .int .i64 (x0)] 39 (0, 0))) = wz at *
        have ga2 := (blk_cell HKA.out 2).trans (rfl : _ = some (Value.int .i64 (a0_2)))
        have ga3 := (blk_cell HKA.out 3).trans (rfl : _ = some (Value.int .i64 (a0_4)))
        have ga4 := (blk_cell HKA.out 4).trans (rfl : _ = some (Value.int .i64 (a0_5)))
        have ga5 := (blk_cell HKA.out 5).trans (rfl : _ = some (Value.int .i64 (x0)))
        have gb1 := (blk_cell HKB.out 1).trans (rfl : _ = some (Value.int .i64 (a0_2)))
        have gb3 := (blk_cell HKB.out 3).trans (rfl : _ = some (Value.int .i64 (a0_4)))
        have gb4 := (blk_cell HKB.out 4).trans (rfl : _ = some (Value.int .i64 (m)))
        have gb5 := (blk_cell HKB.out 5).trans (rfl : _ = some (Value.int .i64 (x1)))
        have gl4 := (blk_cell HLz.out 4).trans (rfl : _ = some (Value.int .i64 a0_4))
        have gx0 := (blk_cell HXz.out 0).trans (rfl : _ = some (Value.int .i64 x0))
        have gx1 := (blk_cell HXz.out 1).trans (rfl : _ = some (Value.int .i64 x1))
        have hR := HRP.out
        have a50 : 0 ≤ a0_5 := by omega
        have a51 : a0_5 ≤ 512 := by omega
        have x00 : 1 ≤ x0 := by omega
        have x01 : x0 ≤ 512 := by omega
        have a41 : 1 ≤ a0_4 := by omega
        clear hR
        obtain ⟨m0, m1, m2, m3⟩ := wide_mod a41 (show 0 ≤ a0_5 + x0 by omega) HM.out
        have ms : 0 ≤ a0_5 + x0 - m := by omega
        have hz4 : (a0_4 == 0) = false := beq_eq_false_iff_ne.mpr (by omega)
        have hz5 : ¬ a0_4 = 0 := by omega
        have ee1 : (x0 != x0) = false := by simp
        have ee2 : (x1 != x1) = false := by simp
        have ee3 : (a0_4 != a0_4) = false := by simp
        have ee4 : (a0_2 != a0_2) = false := by simp
        have M2 := Aside0.mk m2
        have M3 := Aside0.mk m3
        have e5 : ((a0_5 + x0 - m) % a0_4 == 0) = true := beq_iff_eq.mpr M2.out
        have e6 : ((a0_5 + x0 - m) % a0_4 != 0) = false := bne_eq_false_iff_eq.mpr M2.out
        have e7 : (Int.tmod (a0_5 + x0 - m) a0_4 != 0) = false := bne_eq_false_iff_eq.mpr M3.out
        clear m2 m3
        go_wp2
        go_roundg (gk - 1)
        case measure => have := HK.out; have := HT.out; omega
        case rel => exact ⟨i + 1, congrArg (Value.int .i64) WR.out, ⟨by have := HK.out; have := HT.out; omega⟩, ⟨by repeat (first | exact HDz.out | apply pw_below_drewN | apply below_drew1)⟩⟩
    · have b0 : decide ((i : Int) < (ws.length : Int)) = false := decide_eq_false (by omega)
      have b1 : decide (i < ws.length) = false := decide_eq_false hlt
      have HLr := Aside0.mk (blk_below HL4.out HBr.out)
      have HSr := Aside0.mk (blk_below HS4.out HBr.out)
      have HBw := Aside0.mk (below_step HB4.out HBr.out)
      have HRr := Aside0.mk (Kd.C_below HR4.out HBr.out)
      clear hlt
      have gl0 := (blk_cell HLr.out 0).trans (rfl : _ = some (Value.int .i64 a0_0)); have gl1 := (blk_cell HLr.out 1).trans (rfl : _ = some (Value.int .i64 a0_1)); have gl2 := (blk_cell HLr.out 2).trans (rfl : _ = some (Value.int .i64 a0_2)); have gl3 := (blk_cell HLr.out 3).trans (rfl : _ = some (Value.int .i64 a0_3)); have gl4 := (blk_cell HLr.out 4).trans (rfl : _ = some (Value.int .i64 a0_4)); have gl5 := (blk_cell HLr.out 5).trans (rfl : _ = some (Value.int .i64 a0_5)); have gl6 := (blk_cell HLr.out 6).trans (rfl : _ = some (Value.int .i64 a0_6))
      have gs0 := (blk_cell HSr.out 0).trans (rfl : _ = some (Value.int .i64 a1_0)); have gs1 := (blk_cell HSr.out 1).trans (rfl : _ = some (Value.int .i64 a1_1))
      obtain ⟨t2, ht⟩ := right_any a0_0 a0_1 a0_2 a0_3 a0_4 a0_5 a0_6 a1_0 a1_1
      have hend := HEND.out
      unfold endW at hend
      dsimp only at hend
      rw [ht] at hend
      by_cases cr : t2 = 0
      · subst cr
        have hb : (List.range ws.length).any (fun j => coverB ⟨a1_0, a1_1⟩ (rd_T25 ws (j : Int))) = true ∧ decide (1 ≤ a1_1) = true := by
          simpa using hend
        obtain ⟨hany, hge⟩ := hb
        have HAN := Aside0.mk hany
        clear hany hend
        have HWS : Aside0 (loop_Worst.f a0_0 a0_1 a0_2 a0_3 a0_4 a0_5 a0_6 a1_0 a1_1 = some ((a0_4 + a1_0 + a1_1 - 1), 0)) := ⟨wide_right (l := ⟨a0_0, a0_1, a0_2, a0_3, a0_4, a0_5, a0_6⟩) (s := ⟨a1_0, a1_1⟩) ht⟩
        have h1_ : 1 ≤ a1_1 := of_decide_eq_true hge
        clear ht
        go_wp2_with (first | (go_at_call 24; (with_reducible refine (loop_Worst.calls a0_0 a0_1 a0_2 a0_3 a0_4 a0_5 a0_6 a1_0 a1_1 (a0_4 + a1_0 + a1_1 - 1) 0 _ HWS.out).mono ?_); rintro e w6 ⟨rfl, hb⟩; clear gl0 gl1 gl2 gl3 gl4 gl5 gl6 gs0 gs1; have HS6 := Aside0.mk (blk_below HSr.out hb); have HB6 := Aside0.mk (below_step HBw.out hb); have HR6 := Aside0.mk (Kd.C_below HRr.out hb); clear hb) | (go_at_call 32; refine (containsSplit Ao co ws 33 Try.f33 #[.pointer (some ⟨w.heap.size + 1, 0, none⟩)] (fun j => coverB ⟨a1_0, a1_1⟩ (rd_T25 ws (j : Int))) (fun j w_ => True ∧ Below w6.heap.size w6 w_) w6 Try.func33 (by kernel_rfl) rfl (by have := HLE.out; omega) ⟨trivial, Below.refl _ _⟩ (fun j w_ hi => Kd.C_below HR6.out hi.2) ?hs).mono ?_; (case hs => intro j w_ hj _ hi; exact (wide_one (rd_T25 ws (j : Int)) ⟨a1_0, a1_1⟩ (w.heap.size + 1) w_ (blk_below HS6.out hi.2)).mono (fun e w__ ⟨he, hb⟩ => ⟨he, trivial, below_step hi.2 hb⟩)); rintro e w7 ⟨r, rfl, hfd⟩; have hb := (Found.inv hfd).2; rw [Found.hit hfd HAN.out]; have HS7 := Aside0.mk (blk_below HS6.out hb); have HB7 := Aside0.mk (below_step HB6.out hb); clear hb hfd; have gs1 := (blk_cell HS7.out 1).trans (rfl : _ = some (Value.int .i64 a1_1))))
        go_ret
        exact ⟨by first | rfl | (simp; done), HB7.out⟩
      have ht0 : decide (some t2 = some (0 : Int)) = false := decide_eq_false (by simpa using cr)
      rw [ht0] at hend
      have b2 : (t2 == 0) = false := beq_eq_false_iff_ne.mpr cr
      have b3 : (t2 != 0) = true := bne_iff_ne.mpr cr
      have HWS0 := wide_wrong ht cr
      clear ht ht0 cr
      cases hany : (List.range ws.length).any (fun j => coverB ⟨a1_0, a1_1⟩ (rd_T25 ws (j : Int))) with
      | true =>
        rw [hany] at hend
        have hge : decide (1 ≤ a1_1) = false := by
          cases hq : decide (1 ≤ a1_1) with
          | true => rw [hq] at hend; cases hend
          | false => rfl
        have HAN := Aside0.mk hany
        clear hany hend
        have HWS : Aside0 (loop_Worst.f a0_0 a0_1 a0_2 a0_3 a0_4 a0_5 a0_6 a1_0 a1_1 = some (0, t2)) := ⟨HWS0⟩
        clear HWS0
        go_wp2_with (first | (go_at_call 24; (with_reducible refine (loop_Worst.calls a0_0 a0_1 a0_2 a0_3 a0_4 a0_5 a0_6 a1_0 a1_1 0 t2 _ HWS.out).mono ?_); rintro e w6 ⟨rfl, hb⟩; clear gl0 gl1 gl2 gl3 gl4 gl5 gl6 gs0 gs1; have HS6 := Aside0.mk (blk_below HSr.out hb); have HB6 := Aside0.mk (below_step HBw.out hb); have HR6 := Aside0.mk (Kd.C_below HRr.out hb); clear hb) | (go_at_call 32; refine (containsSplit Ao co ws 33 Try.f33 #[.pointer (some ⟨w.heap.size + 1, 0, none⟩)] (fun j => coverB ⟨a1_0, a1_1⟩ (rd_T25 ws (j : Int))) (fun j w_ => True ∧ Below w6.heap.size w6 w_) w6 Try.func33 (by kernel_rfl) rfl (by have := HLE.out; omega) ⟨trivial, Below.refl _ _⟩ (fun j w_ hi => Kd.C_below HR6.out hi.2) ?hs).mono ?_; (case hs => intro j w_ hj _ hi; exact (wide_one (rd_T25 ws (j : Int)) ⟨a1_0, a1_1⟩ (w.heap.size + 1) w_ (blk_below HS6.out hi.2)).mono (fun e w__ ⟨he, hb⟩ => ⟨he, trivial, below_step hi.2 hb⟩)); rintro e w7 ⟨r, rfl, hfd⟩; have hb := (Found.inv hfd).2; rw [Found.hit hfd HAN.out]; have HS7 := Aside0.mk (blk_below HS6.out hb); have HB7 := Aside0.mk (below_step HB6.out hb); clear hb hfd; have gs1 := (blk_cell HS7.out 1).trans (rfl : _ = some (Value.int .i64 a1_1))))
        go_ret
        exact ⟨by first | rfl | (simp; done), HB7.out⟩
      | false =>
        have HAN := Aside0.mk hany
        clear hany hend
        have HWS : Aside0 (loop_Worst.f a0_0 a0_1 a0_2 a0_3 a0_4 a0_5 a0_6 a1_0 a1_1 = some (0, t2)) := ⟨HWS0⟩
        clear HWS0
        go_wp2_with (first | (go_at_call 24; (with_reducible refine (loop_Worst.calls a0_0 a0_1 a0_2 a0_3 a0_4 a0_5 a0_6 a1_0 a1_1 0 t2 _ HWS.out).mono ?_); rintro e w6 ⟨rfl, hb⟩; clear gl0 gl1 gl2 gl3 gl4 gl5 gl6 gs0 gs1; have HS6 := Aside0.mk (blk_below HSr.out hb); have HB6 := Aside0.mk (below_step HBw.out hb); have HR6 := Aside0.mk (Kd.C_below HRr.out hb); clear hb) | (go_at_call 32; refine (containsSplit Ao co ws 33 Try.f33 #[.pointer (some ⟨w.heap.size + 1, 0, none⟩)] (fun j => coverB ⟨a1_0, a1_1⟩ (rd_T25 ws (j : Int))) (fun j w_ => True ∧ Below w6.heap.size w6 w_) w6 Try.func33 (by kernel_rfl) rfl (by have := HLE.out; omega) ⟨trivial, Below.refl _ _⟩ (fun j w_ hi => Kd.C_below HR6.out hi.2) ?hs).mono ?_; (case hs => intro j w_ hj _ hi; exact (wide_one (rd_T25 ws (j : Int)) ⟨a1_0, a1_1⟩ (w.heap.size + 1) w_ (blk_below HS6.out hi.2)).mono (fun e w__ ⟨he, hb⟩ => ⟨he, trivial, below_step hi.2 hb⟩)); rintro e w7 ⟨r, rfl, hfd⟩; have hb := (Found.inv hfd).2; rw [(Found.miss hfd HAN.out).1]; have HS7 := Aside0.mk (blk_below HS6.out hb); have HB7 := Aside0.mk (below_step HB6.out hb); clear hb hfd; have gs1 := (blk_cell HS7.out 1).trans (rfl : _ = some (Value.int .i64 a1_1))))
        go_ret
        exact ⟨by first | rfl | (simp; done), HB7.out⟩

end Go.Proofs.Ytnjljajopdpjjaa.PX
