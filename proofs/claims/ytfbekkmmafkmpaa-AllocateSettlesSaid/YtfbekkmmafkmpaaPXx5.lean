-- Written by wip/xprint.py, a program of this claim's own, over the kit's print program. Lean checks it.
import Derived.Test.YtfbekkmmafkmpaaPXx0
import Derived.Test.YtfbekkmmafkmpaaPXx4
namespace Go.Proofs.Ytfbekkmmafkmpaa.PX
open Go.RowKit Go.Proofs.YtfbekkmmafkmpaaW.PrintWords Go.Proofs.YtfbekkmmafkmpaaW.PrintLast Go.Proofs.YtfbekkmmafkmpaaW.PrintMore
attribute [local go_sem] max2_int min2_int max_two min_two max_three min_three max_four min_four   -- for this text's walks alone
set_option linter.unusedVariables false
set_option linter.unusedSimpArgs false

/-! ### allocate_rule: function 47, by hand -/
/-- How a search ends: at the first element that is found, or behind the last. -/
def Found (len : Nat) (pred : Nat → Bool) (Inv : Nat → World → Prop) (r : Int) (w' : World) : Prop :=
  ∃ j : Nat, j ≤ len ∧ (∀ i, i < j → pred i = false) ∧ ((j = len ∧ r = -1 ∧ Inv j w') ∨ (j < len ∧ pred j = true ∧ r = j ∧ Inv (j + 1) w'))
theorem Found.hit {len : Nat} {pred : Nat → Bool} {Inv : Nat → World → Prop} {r : Int} {w' : World} (h : Found len pred Inv r w') (hany : (List.range len).any pred = true) : decide (0 ≤ r) = true := by
  obtain ⟨j, _, hp, h⟩ := h
  rcases h with ⟨rfl, _, _⟩ | ⟨_, _, rfl, _⟩
  · obtain ⟨i, hi, hpi⟩ := List.any_eq_true.1 hany
    rw [hp i (List.mem_range.1 hi)] at hpi
    cases hpi
  · exact decide_eq_true (by omega)
theorem Found.miss {len : Nat} {pred : Nat → Bool} {Inv : Nat → World → Prop} {r : Int} {w' : World} (h : Found len pred Inv r w') (hany : (List.range len).any pred = false) : decide (0 ≤ r) = false ∧ Inv len w' := by
  obtain ⟨j, _, hp, h⟩ := h
  rcases h with ⟨rfl, rfl, hi⟩ | ⟨hj, hpj, rfl, _⟩
  · exact ⟨by decide, hi⟩
  · rw [List.any_eq_false] at hany
    exact absurd hpj (hany j (List.mem_range.2 hj))
/-- Behind a search the invariant holds at some place. -/
theorem Found.inv {len : Nat} {pred : Nat → Bool} {B : Nat → World → Prop} {C : World → Prop} {r : Int} {w' : World} (h : Found len pred (fun i w => B i w ∧ C w) r w') : (∃ i, B i w') ∧ C w' := by
  obtain ⟨j, _, _, h⟩ := h
  rcases h with ⟨_, _, hi⟩ | ⟨_, _, _, hi⟩
  · exact ⟨⟨_, hi.1⟩, hi.2⟩
  · exact ⟨⟨_, hi.1⟩, hi.2⟩
set_option maxHeartbeats 8000000 in
set_option maxRecDepth 100000 in
theorem indexRule (b : Nat) (g : FuncId) (fn : Func) (cap : Array Value) (pred : Nat → Bool) (Inv : Nat → World → Prop) (w : World)
    (hf : Try.prog.funcs[g]? = some fn) (hname : (fn.name == "runtime.NumGoroutine") = false) (hb : fn.body.isSome = true)
    (h0 : Inv 0 w) (hR : ∀ i w', Inv i w' → w'.heap[b]? = some (.cells ruleCells 69 (0, 0)))
    (hstep : ∀ i w', i < 9 → Inv i w' → Calls Try.prog g (#[.agg #[fv (apOf i), .int .i64 (kdOf i), fv (cnOf i)]] ++ cap) w' fun e w'' => e = .returned (.bool (pred i)) ∧ Inv (i + 1) w'') :
    Calls Try.prog 47 #[.slice (some ⟨b, 0, none⟩) 9 9, .func (.func g) #[] cap] w fun e w' => ∃ r : Int, e = .returned (.int .i64 r) ∧ Found 9 pred Inv r w' := by
  have HF := Aside0.mk hf
  have HN := Aside0.mk hname
  have HBd := Aside0.mk hb
  have HI0 := Aside0.mk h0
  have HR := Aside0.mk hR
  have HS := Aside0.mk hstep
  clear hf hname hb h0 hR hstep
  have hu := Try.underlying69
  go_enter Try.func47, Try.ntmps47
  go_wp2
  go_loopg [8] 9 (fun kq v8 w' => ∃ (i : Nat), v8 = .int .i64 (i : Int) ∧ Aside0 (kq + i = 9) ∧ Aside0 (∀ j, j < i → pred j = false) ∧ Aside0 (Inv i w'))
  case atStart => exact ⟨0, by simp, ⟨by simp⟩, ⟨fun j hj => absurd hj (Nat.not_lt_zero _)⟩, HI0⟩
  case round =>
    obtain ⟨i, rfl, HK, HP, HI⟩ := hrel
    by_cases hlt : i < 9
    · have b0 : decide ((i : Int) < 9) = true := decide_eq_true (by omega)
      have b1 : decide (i < 9) = true := decide_eq_true hlt
      have p0 : (0 : Int) ≤ (i : Int) := by omega
      have q0 : (i : Int) < 9 := by omega
      obtain ⟨r0, r1, r2⟩ := ruleCells_at i hlt
      have hx0 := (blk_cell (HR.out i _ HI.out) (i * 3)).trans r0
      have hx1 := (blk_cell (HR.out i _ HI.out) (i * 3 + 1)).trans r1
      have hx2 := (blk_cell (HR.out i _ HI.out) (i * 3 + 2)).trans r2
      clear r0 r1 r2
      have HT := Aside0.mk hlt
      clear hlt
      have wr1 : (i : Int) + 1 = ((i + 1 : Nat) : Int) := by omega
      have WR := Aside0.mk wr1
      clear wr1
      cases hpr : pred i with
      | true =>
        have HPR := Aside0.mk hpr
        clear hpr
        go_wp2_with (first | ((with_reducible refine gate_dst (N := 16) rfl ?_); refine goesV_ (some 16) rfl rfl HF.out HN.out HBd.out #[.agg #[fv (apOf i), .int .i64 (kdOf i), fv (cnOf i)]] rfl rfl (by (try simp only [List.map_toArray, List.map_cons, List.map_nil]); rfl) ?_; refine (HS.out i _ HT.out HI.out).mono ?_; rintro e w1 ⟨rfl, hi1⟩; rw [HPR.out]; refine ⟨_, rfl, ?_⟩; have HI1 := Aside0.mk hi1; clear hi1))
        go_ret
        exact ⟨_, rfl, i, Nat.le_of_lt HT.out, HP.out, .inr ⟨HT.out, HPR.out, rfl, HI1.out⟩⟩
      | false =>
        have HPR := Aside0.mk hpr
        clear hpr
        go_wp2_with (first | ((with_reducible refine gate_dst (N := 16) rfl ?_); refine goesV_ (some 16) rfl rfl HF.out HN.out HBd.out #[.agg #[fv (apOf i), .int .i64 (kdOf i), fv (cnOf i)]] rfl rfl (by (try simp only [List.map_toArray, List.map_cons, List.map_nil]); rfl) ?_; refine (HS.out i _ HT.out HI.out).mono ?_; rintro e w1 ⟨rfl, hi1⟩; rw [HPR.out]; refine ⟨_, rfl, ?_⟩; have HI1 := Aside0.mk hi1; clear hi1))
        go_roundg (gk - 1)
        case measure => have := HK.out; have := HT.out; omega
        case rel => exact ⟨i + 1, congrArg (Value.int .i64) WR.out, ⟨by have := HK.out; have := HT.out; omega⟩, ⟨fun j hj => (Nat.lt_succ_iff_lt_or_eq.1 hj).elim (fun h => HP.out j h) (fun h => h ▸ HPR.out)⟩, HI1⟩
    · have b0 : decide ((i : Int) < 9) = false := decide_eq_false (by omega)
      have b1 : decide (i < 9) = false := decide_eq_false hlt
      have hil : i = 9 := by have := HK.out; omega
      have HE := Aside0.mk hil
      clear hlt hil
      go_wp2
      go_ret
      exact ⟨_, rfl, i, by have := HE.out; omega, HP.out, .inl ⟨HE.out, rfl, HI.out⟩⟩

/-! ### allocate_within: function 39 -/
def allocate_within.f (a0 : Int) (a1 : Int) : Option (Bool) := if a0 ≥ 0 then (some (decide (a0 ≤ a1))) else (some false)
set_option maxHeartbeats 8000000 in
set_option maxRecDepth 100000 in
theorem allocate_within.calls (a0 : Int) (a1 : Int) (r : Bool) (w : World) (h : allocate_within.f a0 a1 = some r) :
    Calls Try.prog 39 #[.int .i64 a0, .int .i64 a1] w fun e w' => e = .returned (.bool r) ∧ Drawn0 w w' := by
  have H : (if a0 ≥ 0 then (some (decide (a0 ≤ a1))) else (some false)) = some r := h
  clear h
  by_cases c3 : a0 ≥ 0
  · rw [if_pos c3] at H
    have c3b0 : decide (0 ≤ a0) = true := decide_eq_true c3
    clear c3
    obtain rfl := Option.some.inj H
    go_enter Try.func39, Try.ntmps39
    go_wp2
    go_ret
    exact ⟨by first | rfl | (simp; done) | (simp [*]; done), by repeat (first | exact Drawn0.refl _ | apply Drawn0.step)⟩
  · rw [if_neg c3] at H
    have c3b0 : decide (0 ≤ a0) = false := decide_eq_false c3
    clear c3
    obtain rfl := Option.some.inj H
    go_enter Try.func39, Try.ntmps39
    go_wp2
    go_ret
    exact ⟨by first | rfl | (simp; done) | (simp [*]; done), by repeat (first | exact Drawn0.refl _ | apply Drawn0.step)⟩

end Go.Proofs.Ytfbekkmmafkmpaa.PX
