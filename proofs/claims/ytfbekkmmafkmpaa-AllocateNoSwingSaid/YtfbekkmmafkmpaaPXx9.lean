-- Written by wip/xprint.py, a program of this claim's own, over the kit's print program. Lean checks it.
import Derived.Test.YtfbekkmmafkmpaaPXx0
import Derived.Test.YtfbekkmmafkmpaaPXx10
namespace Go.Proofs.Ytfbekkmmafkmpaa.PX
open Go.RowKit Go.Proofs.YtfbekkmmafkmpaaW.PrintWords Go.Proofs.YtfbekkmmafkmpaaW.PrintLast Go.Proofs.YtfbekkmmafkmpaaW.PrintMore
attribute [local go_sem] max2_int min2_int max_two min_two max_three min_three max_four min_four   -- for this text's walks alone
set_option linter.unusedVariables false
set_option linter.unusedSimpArgs false

/-! ### allocate_rules_13: function 61 -/
def allocate_rules_13.f (a0_0 : Int) (a0_1 : Int) (a0_2 : Int) (a0_3 : Int) (a0_4 : Int) (a0_5 : Int) (a0_6 : Bool) : Option (Bool) := some true
set_option maxHeartbeats 8000000 in
set_option maxRecDepth 100000 in
theorem allocate_rules_13.calls (a0_0 : Int) (a0_1 : Int) (a0_2 : Int) (a0_3 : Int) (a0_4 : Int) (a0_5 : Int) (a0_6 : Bool) (r : Bool) (w : World) (h : allocate_rules_13.f a0_0 a0_1 a0_2 a0_3 a0_4 a0_5 a0_6 = some r) :
    Calls Try.prog 61 #[.agg #[.int .i64 a0_0, .int .i64 a0_1, .int .i64 a0_2, .int .i64 a0_3, .int .i64 a0_4, .int .i64 a0_5, .bool a0_6]] w fun e w' => e = .returned (.bool r) ∧ Below w.heap.size w w' := by
  have hu60 := Try.underlying60
  have HB := Aside0.mk (Below.refl w.heap.size w)
  have H : (some true) = some r := h
  clear h
  obtain rfl := Option.some.inj H
  go_enter Try.func61, Try.ntmps61
  go_wp2_with (first | ((with_reducible refine gate_dst (N := 1) rfl ?_); refine box_event ?hg (N := 1) ?hd (cs := #[.int .i64 a0_0, .int .i64 a0_1, .int .i64 a0_2, .int .i64 a0_3, .int .i64 a0_4, .int .i64 a0_5, .bool a0_6]) (t := 60) ?hr ?_; (case hd => rfl); (case hg => rfl); (case hr => first | (go_simp; done) | (go_simp; rfl)); intro gb115 hg w2 hbox hb; have n0_ := Aside0.mk (below_step (by repeat (first | (with_reducible first | exact HB.out | apply below_alloc | apply pw_below_drewN | apply below_drew1) | exact HB.out)) hb); have n1_ := Aside0.mk (hbox); have n2_ := Aside0.mk ((by rw [hg]; exact (below_size (by repeat (first | (with_reducible first | exact HB.out | apply below_alloc | apply pw_below_drewN | apply below_drew1) | exact HB.out))) : w.heap.size ≤ gb115)); have n3_ := Aside0.mk ((by rw [hg]; exact (below_size (by repeat (first | (with_reducible first | exact HB.out | apply below_alloc | apply pw_below_drewN | apply below_drew1) | exact HB.out))) : w.heap.size ≤ gb115)); clear HB; have HB := n0_; have BK115 := n1_; have GW115 := n2_; have GE115 := n3_; clear n0_ n1_ n2_ n3_; clear hb hbox hg))
  go_ret
  exact ⟨by first | rfl | (simp [errW_none, errW_some] <;> rfl) | (simp [*, errW_none, errW_some] <;> rfl), by repeat (first | (with_reducible first | exact HB.out | apply below_alloc | apply pw_below_drewN | apply below_drew1 | refine below_set ?_ GE115.out) | exact HB.out)⟩

/-! ### allocate_decide_1: function 48, by hand -/
def factsV (x : S60) : Value := .agg #[.int .i64 x.f0, .int .i64 x.f1, .int .i64 x.f2, .int .i64 x.f3, .int .i64 x.f4, .int .i64 x.f5, .bool x.f6]
def factsB (x : S60) : Obj := .cells #[.int .i64 x.f0, .int .i64 x.f1, .int .i64 x.f2, .int .i64 x.f3, .int .i64 x.f4, .int .i64 x.f5, .bool x.f6] 60 (0, 0)
set_option maxHeartbeats 8000000 in
set_option maxRecDepth 100000 in
theorem ruleStep (g : FuncId) (fn : Func) (kd : Int) (cn : Value) (x : S60) (p : Bool) (b : Nat) (w : World)
    (hf : Try.prog.funcs[g]? = some fn) (hname : (fn.name == "runtime.NumGoroutine") = false) (hb : fn.body.isSome = true) (hblk : w.heap[b]? = some (factsB x))
    (hstep : ∀ w, Calls Try.prog g #[factsV x] w fun e w' => e = .returned (.bool p) ∧ Below w.heap.size w w') :
    Calls Try.prog 48 #[.agg #[fv g, .int .i64 kd, cn], .pointer (some ⟨b, 0, none⟩)] w fun e w' => e = .returned (.bool p) ∧ Below w.heap.size w w' := by
  have HF := Aside0.mk hf
  have HN := Aside0.mk hname
  have HBd := Aside0.mk hb
  have HS := Aside0.mk hstep
  clear hf hname hb hstep
  have hu := Try.underlying60
  have hu2 := Try.underlying69
  have hbl : ∀ blk : Obj, (w.alloc blk).heap[b]? = some (.cells #[.int .i64 x.f0, .int .i64 x.f1, .int .i64 x.f2, .int .i64 x.f3, .int .i64 x.f4, .int .i64 x.f5, .bool x.f6] 60 (0, 0)) := fun blk => blk_alloc hblk blk
  have hc0 : ∀ blk : Obj, (w.alloc blk).cell? ⟨b, 0, none⟩ = some (.int .i64 x.f0) := fun blk => (blk_cell (hbl blk) 0).trans rfl
  have hc1 : ∀ blk : Obj, (w.alloc blk).cell? ⟨b, 1, none⟩ = some (.int .i64 x.f1) := fun blk => (blk_cell (hbl blk) 1).trans rfl
  have hc2 : ∀ blk : Obj, (w.alloc blk).cell? ⟨b, 2, none⟩ = some (.int .i64 x.f2) := fun blk => (blk_cell (hbl blk) 2).trans rfl
  have hc3 : ∀ blk : Obj, (w.alloc blk).cell? ⟨b, 3, none⟩ = some (.int .i64 x.f3) := fun blk => (blk_cell (hbl blk) 3).trans rfl
  have hc4 : ∀ blk : Obj, (w.alloc blk).cell? ⟨b, 4, none⟩ = some (.int .i64 x.f4) := fun blk => (blk_cell (hbl blk) 4).trans rfl
  have hc5 : ∀ blk : Obj, (w.alloc blk).cell? ⟨b, 5, none⟩ = some (.int .i64 x.f5) := fun blk => (blk_cell (hbl blk) 5).trans rfl
  have hc6 : ∀ blk : Obj, (w.alloc blk).cell? ⟨b, 6, none⟩ = some (.bool x.f6) := fun blk => (blk_cell (hbl blk) 6).trans rfl
  clear hblk hbl
  unfold fv
  go_enter Try.func48, Try.ntmps48
  go_wp2_with (first | ((with_reducible refine gate_dst (N := 7) rfl ?_); refine goesV_ (some 7) rfl rfl HF.out HN.out HBd.out #[factsV x] rfl rfl (by (try simp only [List.map_toArray, List.map_cons, List.map_nil]); rfl) ?_; refine (HS.out _).mono ?_; rintro e w1 ⟨rfl, hb1⟩; refine ⟨_, rfl, ?_⟩; have HB1 : Aside0 (Below w.heap.size w w1) := ⟨below_step (below_alloc (Below.refl _ _) _) hb1⟩; clear hb1))
  go_ret
  exact ⟨rfl, HB1.out⟩

end Go.Proofs.Ytfbekkmmafkmpaa.PX
