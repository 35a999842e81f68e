-- Written by wip/xprint.py, a program of this claim's own, over the kit's print program. Lean checks it.
import Derived.Test.YtfbekkmmafkmpaaPXx0
import Derived.Test.YtfbekkmmafkmpaaPXx3
import Derived.Test.YtfbekkmmafkmpaaPXx4
import Derived.Test.YtfbekkmmafkmpaaPXx5
namespace Go.Proofs.Ytfbekkmmafkmpaa.PX
open Go.RowKit Go.Proofs.YtfbekkmmafkmpaaW.PrintWords Go.Proofs.YtfbekkmmafkmpaaW.PrintLast Go.Proofs.YtfbekkmmafkmpaaW.PrintMore
attribute [local go_sem] max2_int min2_int max_two min_two max_three min_three max_four min_four   -- for this text's walks alone
set_option linter.unusedVariables false
set_option linter.unusedSimpArgs false

/-! ### allocate_decide: function 41 -/
def allocate_decide.f (a0_0 : Int) (a0_1 : Int) (a0_2 : Int) (a0_3 : Int) (a0_4 : Int) (a0_5 : Int) (a0_6 : Bool) : Option (Int × Int) := if allocate_rules_3.f a0_0 a0_1 a0_2 a0_3 a0_4 a0_5 a0_6 = some true then (allocate_rules_4.f a0_0 a0_1 a0_2 a0_3 a0_4 a0_5 a0_6).map (fun c => (1, c)) else if allocate_rules_5.f a0_0 a0_1 a0_2 a0_3 a0_4 a0_5 a0_6 = some true then some (1, 1) else if allocate_rules_6.f a0_0 a0_1 a0_2 a0_3 a0_4 a0_5 a0_6 = some true then some (0, 0) else if allocate_rules_7.f a0_0 a0_1 a0_2 a0_3 a0_4 a0_5 a0_6 = some true then (allocate_rules_8.f a0_0 a0_1 a0_2 a0_3 a0_4 a0_5 a0_6).map (fun c => (1, c)) else if allocate_rules_9.f a0_0 a0_1 a0_2 a0_3 a0_4 a0_5 a0_6 = some true then some (0, 0) else if allocate_rules_10.f a0_0 a0_1 a0_2 a0_3 a0_4 a0_5 a0_6 = some true then some (1, 1) else if allocate_rules_11.f a0_0 a0_1 a0_2 a0_3 a0_4 a0_5 a0_6 = some true then some (2, 1) else if allocate_rules_12.f a0_0 a0_1 a0_2 a0_3 a0_4 a0_5 a0_6 = some true then some (3, 1) else some (0, 0)
/-- Whether a rule applies. -/
def ruleB (x : S60) : Nat → Option Bool
  | 0 => allocate_rules_3.f x.f0 x.f1 x.f2 x.f3 x.f4 x.f5 x.f6
  | 1 => allocate_rules_5.f x.f0 x.f1 x.f2 x.f3 x.f4 x.f5 x.f6
  | 2 => allocate_rules_6.f x.f0 x.f1 x.f2 x.f3 x.f4 x.f5 x.f6
  | 3 => allocate_rules_7.f x.f0 x.f1 x.f2 x.f3 x.f4 x.f5 x.f6
  | 4 => allocate_rules_9.f x.f0 x.f1 x.f2 x.f3 x.f4 x.f5 x.f6
  | 5 => allocate_rules_10.f x.f0 x.f1 x.f2 x.f3 x.f4 x.f5 x.f6
  | 6 => allocate_rules_11.f x.f0 x.f1 x.f2 x.f3 x.f4 x.f5 x.f6
  | 7 => allocate_rules_12.f x.f0 x.f1 x.f2 x.f3 x.f4 x.f5 x.f6
  | _ => allocate_rules_13.f x.f0 x.f1 x.f2 x.f3 x.f4 x.f5 x.f6
/-- For how many cells a rule asks. -/
def ruleC (x : S60) : Nat → Option Int
  | 0 => allocate_rules_4.f x.f0 x.f1 x.f2 x.f3 x.f4 x.f5 x.f6
  | 1 => allocate_rules_1.f x.f0 x.f1 x.f2 x.f3 x.f4 x.f5 x.f6
  | 2 => allocate_rules_2.f x.f0 x.f1 x.f2 x.f3 x.f4 x.f5 x.f6
  | 3 => allocate_rules_8.f x.f0 x.f1 x.f2 x.f3 x.f4 x.f5 x.f6
  | 4 => allocate_rules_2.f x.f0 x.f1 x.f2 x.f3 x.f4 x.f5 x.f6
  | 5 => allocate_rules_1.f x.f0 x.f1 x.f2 x.f3 x.f4 x.f5 x.f6
  | 6 => allocate_rules_1.f x.f0 x.f1 x.f2 x.f3 x.f4 x.f5 x.f6
  | 7 => allocate_rules_1.f x.f0 x.f1 x.f2 x.f3 x.f4 x.f5 x.f6
  | _ => allocate_rules_2.f x.f0 x.f1 x.f2 x.f3 x.f4 x.f5 x.f6
theorem ruleB_some (x : S60) (i : Nat) : ∃ p, ruleB x i = some p := by
  unfold ruleB
  split <;> (first | exact ⟨_, rfl⟩ | (unfold allocate_rules_5.f; split <;> (try split) <;> exact ⟨_, rfl⟩) | (unfold allocate_rules_7.f; split <;> exact ⟨_, rfl⟩) | (unfold allocate_rules_10.f; split <;> exact ⟨_, rfl⟩) | (unfold allocate_rules_11.f; split <;> (try split) <;> exact ⟨_, rfl⟩))
theorem ruleC_some (x : S60) (i : Nat) : ∃ p, ruleC x i = some p := by
  unfold ruleC
  split <;> exact ⟨_, rfl⟩
theorem ruleCalls (x : S60) (i : Nat) (hi : i < 9) (p : Bool) (h : ruleB x i = some p) (w : World) : Calls Try.prog (apOf i) #[factsV x] w fun e w' => e = .returned (.bool p) ∧ Below w.heap.size w w' := by
  rcases (by omega : i = 0 ∨ i = 1 ∨ i = 2 ∨ i = 3 ∨ i = 4 ∨ i = 5 ∨ i = 6 ∨ i = 7 ∨ i = 8) with e | e | e | e | e | e | e | e | e <;> subst e
  · exact allocate_rules_3.calls _ _ _ _ _ _ _ _ _ h
  · exact allocate_rules_5.calls _ _ _ _ _ _ _ _ _ h
  · exact allocate_rules_6.calls _ _ _ _ _ _ _ _ _ h
  · exact allocate_rules_7.calls _ _ _ _ _ _ _ _ _ h
  · exact allocate_rules_9.calls _ _ _ _ _ _ _ _ _ h
  · exact allocate_rules_10.calls _ _ _ _ _ _ _ _ _ h
  · exact allocate_rules_11.calls _ _ _ _ _ _ _ _ _ h
  · exact allocate_rules_12.calls _ _ _ _ _ _ _ _ _ h
  · exact allocate_rules_13.calls _ _ _ _ _ _ _ _ _ h
theorem countCalls (x : S60) (i : Nat) (hi : i < 9) (p : Int) (h : ruleC x i = some p) (w : World) : Calls Try.prog (cnOf i) #[factsV x] w fun e w' => e = .returned (.int .i64 p) ∧ Below w.heap.size w w' := by
  rcases (by omega : i = 0 ∨ i = 1 ∨ i = 2 ∨ i = 3 ∨ i = 4 ∨ i = 5 ∨ i = 6 ∨ i = 7 ∨ i = 8) with e | e | e | e | e | e | e | e | e <;> subst e
  · exact allocate_rules_4.calls _ _ _ _ _ _ _ _ _ h
  · exact allocate_rules_1.calls _ _ _ _ _ _ _ _ _ h
  · exact allocate_rules_2.calls _ _ _ _ _ _ _ _ _ h
  · exact allocate_rules_8.calls _ _ _ _ _ _ _ _ _ h
  · exact allocate_rules_2.calls _ _ _ _ _ _ _ _ _ h
  · exact allocate_rules_1.calls _ _ _ _ _ _ _ _ _ h
  · exact allocate_rules_1.calls _ _ _ _ _ _ _ _ _ h
  · exact allocate_rules_1.calls _ _ _ _ _ _ _ _ _ h
  · exact allocate_rules_2.calls _ _ _ _ _ _ _ _ _ h
theorem apOf_func (i : Nat) (hi : i < 9) : ∃ fn, Try.prog.funcs[apOf i]? = some fn ∧ (fn.name == "runtime.NumGoroutine") = false ∧ fn.body.isSome = true := by
  rcases (by omega : i = 0 ∨ i = 1 ∨ i = 2 ∨ i = 3 ∨ i = 4 ∨ i = 5 ∨ i = 6 ∨ i = 7 ∨ i = 8) with e | e | e | e | e | e | e | e | e <;> subst e
  · exact ⟨_, Try.func51, by kernel_rfl, rfl⟩
  · exact ⟨_, Try.func53, by kernel_rfl, rfl⟩
  · exact ⟨_, Try.func54, by kernel_rfl, rfl⟩
  · exact ⟨_, Try.func55, by kernel_rfl, rfl⟩
  · exact ⟨_, Try.func57, by kernel_rfl, rfl⟩
  · exact ⟨_, Try.func58, by kernel_rfl, rfl⟩
  · exact ⟨_, Try.func59, by kernel_rfl, rfl⟩
  · exact ⟨_, Try.func60, by kernel_rfl, rfl⟩
  · exact ⟨_, Try.func61, by kernel_rfl, rfl⟩
theorem cnOf_func (i : Nat) (hi : i < 9) : ∃ fn, Try.prog.funcs[cnOf i]? = some fn ∧ (fn.name == "runtime.NumGoroutine") = false ∧ fn.body.isSome = true := by
  rcases (by omega : i = 0 ∨ i = 1 ∨ i = 2 ∨ i = 3 ∨ i = 4 ∨ i = 5 ∨ i = 6 ∨ i = 7 ∨ i = 8) with e | e | e | e | e | e | e | e | e <;> subst e
  · exact ⟨_, Try.func52, by kernel_rfl, rfl⟩
  · exact ⟨_, Try.func49, by kernel_rfl, rfl⟩
  · exact ⟨_, Try.func50, by kernel_rfl, rfl⟩
  · exact ⟨_, Try.func56, by kernel_rfl, rfl⟩
  · exact ⟨_, Try.func50, by kernel_rfl, rfl⟩
  · exact ⟨_, Try.func49, by kernel_rfl, rfl⟩
  · exact ⟨_, Try.func49, by kernel_rfl, rfl⟩
  · exact ⟨_, Try.func49, by kernel_rfl, rfl⟩
  · exact ⟨_, Try.func50, by kernel_rfl, rfl⟩
/-- What is decided: the first rule that applies. -/
theorem decide_first (x : S60) (j : Nat) (hj : j < 9) (hp : ∀ i, i < j → ruleB x i = some false) (ht : ruleB x j = some true) (c : Int) (hc : ruleC x j = some c) : allocate_decide.f x.f0 x.f1 x.f2 x.f3 x.f4 x.f5 x.f6 = some (kdOf j, c) := by
  have hne : (some false = some true) = False := by simp
  unfold allocate_decide.f
  rcases (by omega : j = 0 ∨ j = 1 ∨ j = 2 ∨ j = 3 ∨ j = 4 ∨ j = 5 ∨ j = 6 ∨ j = 7 ∨ j = 8) with e | e | e | e | e | e | e | e | e <;> subst e <;>
    (first | have h0 := hp 0 (by omega) | skip) <;> (first | have h1 := hp 1 (by omega) | skip) <;> (first | have h2 := hp 2 (by omega) | skip) <;> (first | have h3 := hp 3 (by omega) | skip) <;> (first | have h4 := hp 4 (by omega) | skip) <;> (first | have h5 := hp 5 (by omega) | skip) <;> (first | have h6 := hp 6 (by omega) | skip) <;> (first | have h7 := hp 7 (by omega) | skip) <;>
    simp only [ruleB] at * <;> simp only [ruleC] at hc <;> simp only [*, if_pos, hne, if_false, Option.map_some] <;> (first | rfl | (cases hc; rfl))
theorem found_rule (x : S60) {Inv : Nat → World → Prop} {r : Int} {w' : World} (h : Found 9 (fun i => (ruleB x i).getD false) Inv r w') :
    ∃ (j : Nat) (c : Int), j < 9 ∧ r = (j : Int) ∧ allocate_decide.f x.f0 x.f1 x.f2 x.f3 x.f4 x.f5 x.f6 = some (kdOf j, c) ∧ ruleC x j = some c ∧ Inv (j + 1) w' := by
  obtain ⟨j, _, hp, h⟩ := h
  rcases h with ⟨rfl, _, _⟩ | ⟨hj, hpj, rfl, hi⟩
  · exact absurd (hp 8 (by omega)) (by simp [ruleB, allocate_rules_13.f])
  · obtain ⟨c, hc⟩ := ruleC_some x j
    refine ⟨j, c, hj, rfl, decide_first x j hj (fun i hi => ?_) ?_ c hc, hc, hi⟩
    · obtain ⟨p, e⟩ := ruleB_some x i
      have := hp i hi
      simp only [e, Option.getD_some] at this
      rw [e, this]
    · obtain ⟨p, e⟩ := ruleB_some x j
      simp only [e, Option.getD_some] at hpj
      rw [e, hpj]
set_option maxHeartbeats 8000000 in
set_option maxRecDepth 100000 in
theorem allocate_decide.calls (a0_0 : Int) (a0_1 : Int) (a0_2 : Int) (a0_3 : Int) (a0_4 : Int) (a0_5 : Int) (a0_6 : Bool) (r1 : Int) (r2 : Int) (w : World) (h : allocate_decide.f a0_0 a0_1 a0_2 a0_3 a0_4 a0_5 a0_6 = some (r1, r2)) :
    Calls Try.prog 41 #[.agg #[.int .i64 a0_0, .int .i64 a0_1, .int .i64 a0_2, .int .i64 a0_3, .int .i64 a0_4, .int .i64 a0_5, .bool a0_6]] w fun e w' => e = .returned (.tuple #[.int .i64 r1, .int .i64 r2]) ∧ Below w.heap.size w w' := by
  have hu := Try.underlying60
  have hu2 := Try.underlying69
  have hmf : ∀ (fn : Fn) (first cap : Array Value) (w : World), (Instr.makeFunc fn first cap).run Try.prog w = .ok (.func fn first cap) w := fun _ _ _ _ => rfl
  have hsf : ∀ (a : Addr) (fn : Fn) (first cap : Array Value) (m : Mode) (w : World), (store a (.func fn first cap) m).run Try.prog w = stored Try.prog w a (.func fn first cap) m := fun a fn first cap m w => run_store Try.prog w a _ m rfl
  have H := Aside0.mk h
  clear h
  have hbk : (w.alloc (.cells #[.int .i64 a0_0, .int .i64 a0_1, .int .i64 a0_2, .int .i64 a0_3, .int .i64 a0_4, .int .i64 a0_5, .bool a0_6] 60)).heap[w.heap.size]? = some (factsB ⟨a0_0, a0_1, a0_2, a0_3, a0_4, a0_5, a0_6⟩) := by simpa [factsB] using heap_alloc_new w _
  have BK := Aside0.mk hbk
  clear hbk
  go_enter Try.func41, Try.ntmps41
  go_wp2_with (first
    | (go_at_call 46; refine (rulesCalls _).mono ?_; rintro e w1 ⟨b, rfl, hlt, hblk, hb⟩; have HBK := Aside0.mk hblk; have HB1 : Aside0 (Below w.heap.size w w1) := ⟨below_step (below_alloc (Below.refl _ _) _) hb⟩; have BK1 := Aside0.mk (blk_below BK.out hb); clear hb hblk hlt)
    | (go_at_call 47; refine (indexRule b 48 Try.f48 #[.pointer (some ⟨w.heap.size, 0, none⟩)] (fun i => (ruleB ⟨a0_0, a0_1, a0_2, a0_3, a0_4, a0_5, a0_6⟩ i).getD false) (fun i w' => w'.heap[w.heap.size]? = some (factsB ⟨a0_0, a0_1, a0_2, a0_3, a0_4, a0_5, a0_6⟩) ∧ w'.heap[b]? = some (.cells ruleCells 69 (0, 0)) ∧ Below w.heap.size w w') w1 Try.func48 (by kernel_rfl) rfl ⟨BK1.out, HBK.out, HB1.out⟩ (fun i w' hi => hi.2.1) ?hs).mono ?_; (case hs => intro i w' hi hinv; obtain ⟨p, hp⟩ := ruleB_some ⟨a0_0, a0_1, a0_2, a0_3, a0_4, a0_5, a0_6⟩ i; obtain ⟨fn, h1, h2, h3⟩ := apOf_func i hi; exact (ruleStep (apOf i) fn (kdOf i) (fv (cnOf i)) ⟨a0_0, a0_1, a0_2, a0_3, a0_4, a0_5, a0_6⟩ p w.heap.size w' h1 h2 h3 hinv.1 (ruleCalls ⟨a0_0, a0_1, a0_2, a0_3, a0_4, a0_5, a0_6⟩ i hi p hp)).mono (fun e w'' ⟨he, hb⟩ => ⟨by rw [he, hp]; rfl, blk_below hinv.1 hb, blk_below hinv.2.1 hb, below_step hinv.2.2 hb⟩)); rintro e w2 ⟨r, rfl, hfd⟩; obtain ⟨j, c, hj, rfl, hdf, hc, hi⟩ := found_rule _ hfd; obtain ⟨x0, x1, x2⟩ := ruleCells_at j hj; have p0 : (0 : Int) ≤ (j : Int) := (by omega); have q0 : (j : Int) < 9 := (by omega); have hx0 : w2.cell? ⟨b, j * 3, none⟩ = some (Value.func (.func (apOf j)) #[] #[]) := (blk_cell hi.2.1 (j * 3)).trans x0; have hx1 := (blk_cell hi.2.1 (j * 3 + 1)).trans x1; have hx2 : w2.cell? ⟨b, j * 3 + 2, none⟩ = some (Value.func (.func (cnOf j)) #[] #[]) := (blk_cell hi.2.1 (j * 3 + 2)).trans x2; have hc0 : ∀ o : Obj, (w2.alloc o).cell? ⟨w.heap.size, 0, none⟩ = some (Value.int .i64 a0_0) := fun o => (blk_cell (blk_alloc hi.1 o) 0).trans rfl; have hc1 : ∀ o : Obj, (w2.alloc o).cell? ⟨w.heap.size, 1, none⟩ = some (Value.int .i64 a0_1) := fun o => (blk_cell (blk_alloc hi.1 o) 1).trans rfl; have hc2 : ∀ o : Obj, (w2.alloc o).cell? ⟨w.heap.size, 2, none⟩ = some (Value.int .i64 a0_2) := fun o => (blk_cell (blk_alloc hi.1 o) 2).trans rfl; have hc3 : ∀ o : Obj, (w2.alloc o).cell? ⟨w.heap.size, 3, none⟩ = some (Value.int .i64 a0_3) := fun o => (blk_cell (blk_alloc hi.1 o) 3).trans rfl; have hc4 : ∀ o : Obj, (w2.alloc o).cell? ⟨w.heap.size, 4, none⟩ = some (Value.int .i64 a0_4) := fun o => (blk_cell (blk_alloc hi.1 o) 4).trans rfl; have hc5 : ∀ o : Obj, (w2.alloc o).cell? ⟨w.heap.size, 5, none⟩ = some (Value.int .i64 a0_5) := fun o => (blk_cell (blk_alloc hi.1 o) 5).trans rfl; have hc6 : ∀ o : Obj, (w2.alloc o).cell? ⟨w.heap.size, 6, none⟩ = some (Value.bool a0_6) := fun o => (blk_cell (blk_alloc hi.1 o) 6).trans rfl; have HB2 := Aside0.mk hi.2.2; have HJ := Aside0.mk hj; have HD := Aside0.mk hdf; have HC := Aside0.mk hc; clear hfd hi x0 x1 x2 hdf hc hj))
  have gk0 : (w2.alloc (.cells #[.func (.func (apOf j)) #[] #[], .int .i64 (kdOf j), .func (.func (cnOf j)) #[] #[]] 69 (0, 0))).cell? ⟨w2.heap.size, 0, none⟩ = some (.func (.func (apOf j)) #[] #[]) := (blk_cell (heap_alloc_new w2 _) 0).trans rfl
  have gk1 : (w2.alloc (.cells #[.func (.func (apOf j)) #[] #[], .int .i64 (kdOf j), .func (.func (cnOf j)) #[] #[]] 69 (0, 0))).cell? ⟨w2.heap.size, 1, none⟩ = some (.int .i64 (kdOf j)) := (blk_cell (heap_alloc_new w2 _) 1).trans rfl
  have gk2 : (w2.alloc (.cells #[.func (.func (apOf j)) #[] #[], .int .i64 (kdOf j), .func (.func (cnOf j)) #[] #[]] 69 (0, 0))).cell? ⟨w2.heap.size, 2, none⟩ = some (.func (.func (cnOf j)) #[] #[]) := (blk_cell (heap_alloc_new w2 _) 2).trans rfl
  have gx0 := hc0 (.cells #[.func (.func (apOf j)) #[] #[], .int .i64 (kdOf j), .func (.func (cnOf j)) #[] #[]] 69 (0, 0))
  have gx1 := hc1 (.cells #[.func (.func (apOf j)) #[] #[], .int .i64 (kdOf j), .func (.func (cnOf j)) #[] #[]] 69 (0, 0))
  have gx2 := hc2 (.cells #[.func (.func (apOf j)) #[] #[], .int .i64 (kdOf j), .func (.func (cnOf j)) #[] #[]] 69 (0, 0))
  have gx3 := hc3 (.cells #[.func (.func (apOf j)) #[] #[], .int .i64 (kdOf j), .func (.func (cnOf j)) #[] #[]] 69 (0, 0))
  have gx4 := hc4 (.cells #[.func (.func (apOf j)) #[] #[], .int .i64 (kdOf j), .func (.func (cnOf j)) #[] #[]] 69 (0, 0))
  have gx5 := hc5 (.cells #[.func (.func (apOf j)) #[] #[], .int .i64 (kdOf j), .func (.func (cnOf j)) #[] #[]] 69 (0, 0))
  have gx6 := hc6 (.cells #[.func (.func (apOf j)) #[] #[], .int .i64 (kdOf j), .func (.func (cnOf j)) #[] #[]] 69 (0, 0))
  have HB3 : Aside0 (Below w.heap.size w (w2.alloc (.cells #[.func (.func (apOf j)) #[] #[], .int .i64 (kdOf j), .func (.func (cnOf j)) #[] #[]] 69 (0, 0)))) := ⟨below_alloc HB2.out _⟩
  clear hc0 hc1 hc2 hc3 hc4 hc5 hc6 hx0 hx1 hx2 p0 q0
  generalize (w2.alloc (.cells #[.func (.func (apOf j)) #[] #[], .int .i64 (kdOf j), .func (.func (cnOf j)) #[] #[]] 69 (0, 0))) = w3 at *
  obtain ⟨fn, h1, h2, h3⟩ := cnOf_func j HJ.out
  go_region_law (go_simp; first
    | (rw [enters_ h1 h2 h3, Oper.upon_enter]; refine (countCalls ⟨a0_0, a0_1, a0_2, a0_3, a0_4, a0_5, a0_6⟩ j HJ.out c HC.out _).mono ?_; rintro e w4 ⟨rfl, hb4⟩; have hb5 : Below w3.heap.size w3 w4 := (by refine below_then ?_ ?_ hb4; (repeat (first | exact Below.refl _ _ | apply pw_below_drewN | apply below_drew1)); exact Nat.le_refl _); have HB4 : Aside0 (Below w.heap.size w w4) := ⟨below_step HB3.out hb5⟩; have gk4 := pw_cell_below hb5 gk1; clear hb4))
  all_goals
    go_wp2
    go_ret2
    have hh := HD.out.symm.trans H.out
    simp only [Option.some.injEq, Prod.mk.injEq] at hh
    exact ⟨by rw [← hh.1, ← hh.2]; rfl, (by repeat (first | exact HB4.out | apply below_alloc | apply pw_below_drewN | apply below_drew1))⟩

end Go.Proofs.Ytfbekkmmafkmpaa.PX
