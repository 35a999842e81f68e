-- Written by wip/xprint.py, a program of this claim's own, over the kit's print program. Lean checks it.
import Derived.Test.YthlgnbeoanafbaaPXx0
import Derived.Test.YthlgnbeoanafbaaPXx1
namespace Go.Proofs.Ythlgnbeoanafbaa.PX
open Go.RowKit Go.Proofs.YthlgnbeoanafbaaW.PrintWords Go.Proofs.YthlgnbeoanafbaaW.PrintLast Go.Proofs.YthlgnbeoanafbaaW.PrintMore
attribute [local go_sem] max2_int min2_int max_two min_two max_three min_three max_four min_four   -- for this text's walks alone
set_option linter.unusedVariables false
set_option linter.unusedSimpArgs false

/-! ### flow_Hyper_1: function 33, by hand -/
theorem hyperVal {x g p : Int} (hx : 1 ≤ x) (hx2 : x ≤ 512) (hp : 1 ≤ p) (hg : 1 ≤ g) (hy : x / g * p ≤ 262144) : IntKind.i64.wrap (IntKind.i64.wrap (x.tdiv g) * p) = x / g * p := by
  rw [Int.tdiv_eq_ediv_of_nonneg (by omega)]
  have h1 : 0 ≤ x / g := Int.ediv_nonneg (by omega) (by omega)
  have h2 : x / g ≤ x := Int.ediv_le_self _ (by omega)
  have h3 : 0 ≤ x / g * p := Int.mul_nonneg h1 (by omega)
  rw [IntWalk.i64_in (x / g) (by omega), IntWalk.i64_in (x / g * p) (by omega)]
set_option maxHeartbeats 8000000 in
set_option maxRecDepth 100000 in
theorem hyperStep (f : S23) (x g : Int) (k b : Nat) (w : World) (hx : 1 ≤ x) (hx2 : x ≤ 512) (hp : 1 ≤ f.f3) (hp2 : f.f3 ≤ 512) (hg : 1 ≤ g) (hd : flow_divisor.f k x f.f3 = some g)
    (hy : x / g * f.f3 ≤ 262144) (hblk : w.heap[b]? = some (.cells #[.int .i64 x] 3 (0, 0))) :
    Calls Try.prog 33 #[.agg #[.int .i64 f.f0, .int .i64 f.f1, .int .i64 f.f2, .int .i64 f.f3, .int .i64 f.f4, .int .i64 f.f5], .pointer (some ⟨b, 0, none⟩)] w fun e w' =>
      e = .returned (.bool (decide (512 < x / g * f.f3))) ∧ w'.heap[b]? = some (.cells #[.int .i64 (x / g * f.f3)] 3 (0, 0)) ∧ (∀ base, base ≤ b → base ≤ w.heap.size → Below base w w') := by
  have hlt : b < w.heap.size := blk_lt hblk
  have hu := Try.underlying23
  have HD := Aside0.mk hd
  have HLT := Aside0.mk hlt
  have hne : w.heap.size ≠ b := by omega
  have HNE := Aside0.mk hne
  clear hne
  have HB := Aside0.mk (blk_alloc hblk (.cells #[.int .i64 f.f0, .int .i64 f.f1, .int .i64 f.f2, .int .i64 f.f3, .int .i64 f.f4, .int .i64 f.f5] 23))
  clear hd hlt
  have HBW : Aside0 (∀ base, base ≤ w.heap.size → Below base w (w.alloc (.cells #[.int .i64 f.f0, .int .i64 f.f1, .int .i64 f.f2, .int .i64 f.f3, .int .i64 f.f4, .int .i64 f.f5] 23))) := ⟨fun base h => (Below.refl base w).alloc h _⟩
  have HV : Aside0 (IntKind.i64.wrap (IntKind.i64.wrap (x.tdiv g) * f.f3) = x / g * f.f3) := ⟨hyperVal hx hx2 hp hg hy⟩
  go_enter Try.func33, Try.ntmps33
  go_wp2_with fail
  have hc1 := blk_cell HB.out 0
  have hf1 := blk_frozen HB.out 0
  have hc2 : (w.alloc (.cells #[.int .i64 f.f0, .int .i64 f.f1, .int .i64 f.f2, .int .i64 f.f3, .int .i64 f.f4, .int .i64 f.f5] 23)).cell? ⟨w.heap.size, 3, none⟩ = some (.int .i64 f.f3) := by
    rw [blk_cell (by simpa using heap_alloc_new w _)]; rfl
  generalize w.alloc (.cells #[.int .i64 f.f0, .int .i64 f.f1, .int .i64 f.f2, .int .i64 f.f3, .int .i64 f.f4, .int .i64 f.f5] 23) = W at *
  have hz1 : (g == 0) = false := beq_eq_false_iff_ne.mpr (by omega)
  have hz2 : ¬ g = 0 := by omega
  go_region_law (go_simp; go_at_call 34; (with_reducible refine (flow_divisor.calls k x f.f3 g _ HD.out).mono ?_); rintro e w' ⟨rfl, ⟨nd, rfl⟩⟩)
  all_goals
    rw [HV.out]
    have hb2 : (W.drewN (1 + nd)).heap[b]? = some (.cells #[.int .i64 x] 3 (0, 0)) := HB.out
    have hb3 := blk_put hb2 0 (.int .i64 (x / g * f.f3)) (rfl : (#[.int .i64 x] : Array Value).setIfInBounds 0 (.int .i64 (x / g * f.f3)) = #[.int .i64 (x / g * f.f3)])
    have hc3 : ((W.drewN (1 + nd)).setCell ⟨b, 0, none⟩ (.int .i64 (x / g * f.f3))).cell? ⟨b, 0, none⟩ = some (.int .i64 (x / g * f.f3)) := (blk_cell hb3 0).trans rfl
    have HB3 := Aside0.mk hb3
    have HW3 : Aside0 (∀ base, base ≤ b → base ≤ w.heap.size → Below base w ((W.drewN (1 + nd)).setCell ⟨b, 0, none⟩ (.int .i64 (x / g * f.f3)))) := ⟨fun base h1 h2 => Below.setCell (pw_below_drewN (HBW.out base h2) _) h1 _⟩
    clear hb2 hb3 hc1 hf1 hc2
    generalize (W.drewN (1 + nd)).setCell ⟨b, 0, none⟩ (.int .i64 (x / g * f.f3)) = W3 at *
    go_wp2
    go_ret
    exact ⟨by simp, HB3.out, HW3.out⟩

/-! ### flow_Find_1: function 39, by hand -/
set_option maxHeartbeats 8000000 in
set_option maxRecDepth 100000 in
theorem findStep (f : S23) (id : Int) (b : Nat) (w : World) (hblk : w.heap[b]? = some (.cells #[.int .i64 id] 3 (0, 0))) :
    Calls Try.prog 39 #[.agg #[.int .i64 f.f0, .int .i64 f.f1, .int .i64 f.f2, .int .i64 f.f3, .int .i64 f.f4, .int .i64 f.f5], .pointer (some ⟨b, 0, none⟩)] w fun e w' =>
      e = .returned (.bool (f.f0 == id)) ∧ Below w.heap.size w w' := by
  have hu := Try.underlying23
  have hc : (w.alloc (.cells #[.int .i64 f.f0, .int .i64 f.f1, .int .i64 f.f2, .int .i64 f.f3, .int .i64 f.f4, .int .i64 f.f5] 23)).cell? ⟨b, 0, none⟩ = some (.int .i64 id) := (blk_cell (blk_alloc hblk _) 0).trans rfl
  clear hblk
  go_enter Try.func39, Try.ntmps39
  go_wp2
  go_ret
  exact ⟨rfl, below_alloc (Below.refl _ _) _⟩

end Go.Proofs.Ythlgnbeoanafbaa.PX
