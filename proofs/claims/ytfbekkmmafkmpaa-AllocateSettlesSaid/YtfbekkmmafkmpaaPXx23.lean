-- Written by wip/xprint.py, a program of this claim's own, over the kit's print program. Lean checks it.
import Derived.Test.YtfbekkmmafkmpaaPXx0
import Derived.Test.YtfbekkmmafkmpaaPXx5
namespace Go.Proofs.Ytfbekkmmafkmpaa.PX
open Go.RowKit Go.Proofs.YtfbekkmmafkmpaaW.PrintWords Go.Proofs.YtfbekkmmafkmpaaW.PrintLast Go.Proofs.YtfbekkmmafkmpaaW.PrintMore
attribute [local go_sem] max2_int min2_int max_two min_two max_three min_three max_four min_four   -- for this text's walks alone
set_option linter.unusedVariables false
set_option linter.unusedSimpArgs false

/-! ### api_Usage_33: function 33, by hand -/
/-- The value of an element, as a call is handed it. -/
def usageV (x : S39) : Value := .agg #[.int .i64 x.f0.f0, .int .i64 x.f0.f1, .int .i64 x.f0.f2, .bool x.f0.f3, .int .i64 x.f0.f4, .int .i64 x.f0.f5, .int .i64 x.f1, .int .i64 x.f2, .int .i64 x.f3]
set_option maxHeartbeats 8000000 in
set_option maxRecDepth 100000 in
theorem indexUsage (A : Option Addr) (c : Nat) (l : List S39) (g : FuncId) (fn : Func) (cap : Array Value) (pred : Nat → Bool) (Inv : Nat → World → Prop) (w : World)
    (hf : Try.prog.funcs[g]? = some fn) (hname : (fn.name == "runtime.NumGoroutine") = false) (hb : fn.body.isSome = true) (hlen : l.length ≤ 140737488351232)
    (h0 : Inv 0 w) (hR : ∀ i w', Inv i w' → Kd.C k39 w' A l.length l)
    (hstep : ∀ i w', i < l.length → (∀ j, j < i → pred j = false) → Inv i w' → Calls Try.prog g (#[usageV (rd_T39 l i)] ++ cap) w' fun e w'' => e = .returned (.bool (pred i)) ∧ Inv (i + 1) w'') :
    Calls Try.prog 33 #[.slice A l.length c, .func (.func g) #[] cap] w fun e w' => ∃ r : Int, e = .returned (.int .i64 r) ∧ Found l.length pred Inv r w' := by
  have HF := Aside0.mk hf
  have HN := Aside0.mk hname
  have HBd := Aside0.mk hb
  have HI0 := Aside0.mk h0
  have HR := Aside0.mk hR
  have HS := Aside0.mk hstep
  have HL := Aside0.mk hlen
  clear hf hname hb h0 hR hstep hlen
  have hu := Try.underlying39
  have hu2 := Try.underlying37
  go_enter Try.func33, Try.ntmps33
  go_wp2
  go_loopg [8] l.length (fun kq v8 w' => ∃ (i : Nat), v8 = .int .i64 (i : Int) ∧ Aside0 (kq + i = l.length) ∧ Aside0 (∀ j, j < i → pred j = false) ∧ Aside0 (Inv i w'))
  case atStart => exact ⟨0, by simp, ⟨by simp⟩, ⟨fun j hj => absurd hj (Nat.not_lt_zero _)⟩, HI0⟩
  case round =>
    obtain ⟨i, rfl, HK, HP, HI⟩ := hrel
    by_cases hlt : i < l.length
    · have b0 : decide ((i : Int) < (l.length : Int)) = true := decide_eq_true (by omega)
      have b1 : decide (i < l.length) = true := decide_eq_true hlt
      have p0 : (0 : Int) ≤ (i : Int) := by omega
      have q0 : (i : Int) < (l.length : Int) := by omega
      obtain ⟨ad, e, hx0, hx1, hx2, hx3, hx4, hx5, hx6, hx7, hx8⟩ := at_T39 (HR.out i _ HI.out) i p0 q0
      cases e
      simp only [Int.toNat_natCast] at hx0 hx1 hx2 hx3 hx4 hx5 hx6 hx7 hx8
      have HT := Aside0.mk hlt
      clear hlt
      replace p0 := eq_true p0
      replace q0 := eq_true q0
      have wr1 : wrap64 ((i : Int) + 1) = ((i + 1 : Nat) : Int) := by have := HK.out; have := HL.out; unfold wrap64; omega
      have WR := Aside0.mk wr1
      clear wr1
      cases hpr : pred i with
      | true =>
        have HPR := Aside0.mk hpr
        clear hpr
        go_wp2_with (first | ((with_reducible refine gate_dst (N := 16) rfl ?_); refine goesV_ (some 16) rfl rfl HF.out HN.out HBd.out #[usageV (rd_T39 l i)] rfl rfl (by (try simp only [List.map_toArray, List.map_cons, List.map_nil]); rfl) ?_; refine (HS.out i _ HT.out HP.out HI.out).mono ?_; rintro e w1 ⟨rfl, hi1⟩; rw [HPR.out]; refine ⟨_, rfl, ?_⟩; have HI1 := Aside0.mk hi1; clear hi1))
        go_ret
        exact ⟨_, rfl, i, Nat.le_of_lt HT.out, HP.out, .inr ⟨HT.out, HPR.out, rfl, HI1.out⟩⟩
      | false =>
        have HPR := Aside0.mk hpr
        clear hpr
        go_wp2_with (first | ((with_reducible refine gate_dst (N := 16) rfl ?_); refine goesV_ (some 16) rfl rfl HF.out HN.out HBd.out #[usageV (rd_T39 l i)] rfl rfl (by (try simp only [List.map_toArray, List.map_cons, List.map_nil]); rfl) ?_; refine (HS.out i _ HT.out HP.out HI.out).mono ?_; rintro e w1 ⟨rfl, hi1⟩; rw [HPR.out]; refine ⟨_, rfl, ?_⟩; have HI1 := Aside0.mk hi1; clear hi1))
        go_roundg (gk - 1)
        case measure => have := HK.out; have := HT.out; omega
        case rel => exact ⟨i + 1, congrArg (Value.int .i64) WR.out, ⟨by have := HK.out; have := HT.out; omega⟩, ⟨fun j hj => (Nat.lt_succ_iff_lt_or_eq.1 hj).elim (fun h => HP.out j h) (fun h => h ▸ HPR.out)⟩, HI1⟩
    · have b0 : decide ((i : Int) < (l.length : Int)) = false := decide_eq_false (by omega)
      have b1 : decide (i < l.length) = false := decide_eq_false hlt
      have hil : i = l.length := by have := HK.out; omega
      have HE := Aside0.mk hil
      clear hlt hil
      go_wp2
      go_ret
      exact ⟨_, rfl, i, by have := HK.out; omega, HP.out, .inl ⟨HE.out, rfl, HI.out⟩⟩

/-! ### api_Usage_20: function 20, by hand -/
set_option maxHeartbeats 8000000 in
set_option maxRecDepth 100000 in
theorem containsUsage (A : Option Addr) (c : Nat) (l : List S39) (g : FuncId) (fn : Func) (cap : Array Value) (pred : Nat → Bool) (Inv : Nat → World → Prop) (w : World)
    (hf : Try.prog.funcs[g]? = some fn) (hname : (fn.name == "runtime.NumGoroutine") = false) (hb : fn.body.isSome = true) (hlen : l.length ≤ 140737488351232)
    (h0 : Inv 0 w) (hR : ∀ i w', Inv i w' → Kd.C k39 w' A l.length l)
    (hstep : ∀ i w', i < l.length → (∀ j, j < i → pred j = false) → Inv i w' → Calls Try.prog g (#[usageV (rd_T39 l i)] ++ cap) w' fun e w'' => e = .returned (.bool (pred i)) ∧ Inv (i + 1) w'') :
    Calls Try.prog 20 #[.slice A l.length c, .func (.func g) #[] cap] w fun e w' => ∃ r : Int, e = .returned (.bool (decide (0 ≤ r))) ∧ Found l.length pred Inv r w' := by
  have H := Aside0.mk (indexUsage A c l g fn cap pred Inv w hf hname hb hlen h0 hR hstep)
  clear hf hname hb hlen h0 hR hstep
  go_enter Try.func20, Try.ntmps20
  go_wp2_with (go_at_call 33; refine H.out.mono ?_; rintro e w1 ⟨r, rfl, hr⟩; have HR := Aside0.mk hr; clear hr)
  go_ret
  exact ⟨r, rfl, HR.out⟩

-- NOT PRINTED: function 6 (hopmeshlaw29_AllocateWorst)

end Go.Proofs.Ytfbekkmmafkmpaa.PX
