-- Written by wip/xprint.py, a program of this claim's own, over the kit's print program. Lean checks it.
import Derived.Test.YtnjljajopdpjjaaPXx0
namespace Go.Proofs.Ytnjljajopdpjjaa.PX
open Go.RowKit Go.Proofs.YtnjljajopdpjjaaW.PrintWords Go.Proofs.YtnjljajopdpjjaaW.PrintLast Go.Proofs.YtnjljajopdpjjaaW.PrintMore
attribute [local go_sem] max2_int min2_int max_two min_two max_three min_three max_four min_four   -- for this text's walks alone
set_option linter.unusedVariables false
set_option linter.unusedSimpArgs false

/-! ### api_Delivery_38: function 38, by hand -/
/-- The value of an element, as a call is handed it. -/
def deliveryV (x : S34) : Value := .agg #[.int .i64 x.f0, .int .i64 x.f1, .int .i64 x.f2]
/-- How a search ends: at the first element that is found, or behind the last. -/
def Found (len : Nat) (pred : Nat → Bool) (Inv : Nat → World → Prop) (r : Int) (w' : World) : Prop :=
  ∃ j : Nat, j ≤ len ∧ (∀ i, i < j → pred i = false) ∧ ((j = len ∧ r = -1 ∧ Inv j w') ∨ (j < len ∧ pred j = true ∧ r = j ∧ Inv (j + 1) w'))
theorem Found.hit {len : Nat} {pred : Nat → Bool} {Inv : Nat → World → Prop} {r : Int} {w' : World} (h : Found len pred Inv r w') (hany : (List.range len).any pred = true) : decide (0 ≤ r) = true := by
  obtain ⟨j, _, hp, h⟩ := h
  rcases h with ⟨rfl, _, _⟩ | ⟨_, _, rfl, _⟩
  · obtain ⟨i, hi, hpi⟩ := List.any_eq_true.1 hany
    rw [hp i (List.mem_range.1 hi)] at hpi
    cases hpi
  · exact decide_eq_true (by omega)
theorem Found.miss {len : Nat} {pred : Nat → Bool} {Inv : Nat → World → Prop} {r : Int} {w' : World} (h : Found len pred Inv r w') (hany : (List.range len).any pred = false) : decide (0 ≤ r) = false ∧ Inv len w' := by
  obtain ⟨j, _, hp, h⟩ := h
  rcases h with ⟨rfl, rfl, hi⟩ | ⟨hj, hpj, rfl, _⟩
  · exact ⟨by decide, hi⟩
  · rw [List.any_eq_false] at hany
    exact absurd hpj (hany j (List.mem_range.2 hj))
/-- Behind a search the invariant holds at some place. -/
theorem Found.inv {len : Nat} {pred : Nat → Bool} {B : Nat → World → Prop} {C : World → Prop} {r : Int} {w' : World} (h : Found len pred (fun i w => B i w ∧ C w) r w') : (∃ i, B i w') ∧ C w' := by
  obtain ⟨j, _, _, h⟩ := h
  rcases h with ⟨_, _, hi⟩ | ⟨_, _, _, hi⟩
  · exact ⟨⟨_, hi.1⟩, hi.2⟩
  · exact ⟨⟨_, hi.1⟩, hi.2⟩
set_option maxHeartbeats 8000000 in
set_option maxRecDepth 100000 in
theorem indexDelivery (A : Option Addr) (c : Nat) (l : List S34) (g : FuncId) (fn : Func) (cap : Array Value) (pred : Nat → Bool) (Inv : Nat → World → Prop) (w : World)
    (hf : Try.prog.funcs[g]? = some fn) (hname : (fn.name == "runtime.NumGoroutine") = false) (hb : fn.body.isSome = true) (hlen : l.length ≤ 140737488351232)
    (h0 : Inv 0 w) (hR : ∀ i w', Inv i w' → Kd.C k34 w' A l.length l)
    (hstep : ∀ i w', i < l.length → (∀ j, j < i → pred j = false) → Inv i w' → Calls Try.prog g (#[deliveryV (rd_T34 l i)] ++ cap) w' fun e w'' => e = .returned (.bool (pred i)) ∧ Inv (i + 1) w'') :
    Calls Try.prog 38 #[.slice A l.length c, .func (.func g) #[] cap] w fun e w' => ∃ r : Int, e = .returned (.int .i64 r) ∧ Found l.length pred Inv r w' := by
  have HF := Aside0.mk hf
  have HN := Aside0.mk hname
  have HBd := Aside0.mk hb
  have HI0 := Aside0.mk h0
  have HR := Aside0.mk hR
  have HS := Aside0.mk hstep
  have HL := Aside0.mk hlen
  clear hf hname hb h0 hR hstep hlen
  have hu := Try.underlying34
  go_enter Try.func38, Try.ntmps38
  go_wp2
  go_loopg [8] l.length (fun kq v8 w' => ∃ (i : Nat), v8 = .int .i64 (i : Int) ∧ Aside0 (kq + i = l.length) ∧ Aside0 (∀ j, j < i → pred j = false) ∧ Aside0 (Inv i w'))
  case atStart => exact ⟨0, by simp, ⟨by simp⟩, ⟨fun j hj => absurd hj (Nat.not_lt_zero _)⟩, HI0⟩
  case round =>
    obtain ⟨i, rfl, HK, HP, HI⟩ := hrel
    by_cases hlt : i < l.length
    · have b0 : decide ((i : Int) < (l.length : Int)) = true := decide_eq_true (by omega)
      have b1 : decide (i < l.length) = true := decide_eq_true hlt
      have p0 : (0 : Int) ≤ (i : Int) := by omega
      have q0 : (i : Int) < (l.length : Int) := by omega
      obtain ⟨ad, e, hx0, hx1, hx2⟩ := at_T34 (HR.out i _ HI.out) i p0 q0
      cases e
      simp only [Int.toNat_natCast] at hx0 hx1 hx2
      have HT := Aside0.mk hlt
      clear hlt
      replace p0 := eq_true p0
      replace q0 := eq_true q0
      have wr1 : wrap64 ((i : Int) + 1) = ((i + 1 : Nat) : Int) := by have := HK.out; have := HL.out; unfold wrap64; omega
      have WR := Aside0.mk wr1
      clear wr1
      cases hpr : pred i with
      | true =>
        have HPR := Aside0.mk hpr
        clear hpr
        go_wp2_with (first | ((with_reducible refine gate_dst (N := 16) rfl ?_); refine goesV_ (some 16) rfl rfl HF.out HN.out HBd.out #[deliveryV (rd_T34 l i)] rfl rfl (by (try simp only [List.map_toArray, List.map_cons, List.map_nil]); rfl) ?_; refine (HS.out i _ HT.out HP.out HI.out).mono ?_; rintro e w1 ⟨rfl, hi1⟩; rw [HPR.out]; refine ⟨_, rfl, ?_⟩; have HI1 := Aside0.mk hi1; clear hi1))
        go_ret
        exact ⟨_, rfl, i, Nat.le_of_lt HT.out, HP.out, .inr ⟨HT.out, HPR.out, rfl, HI1.out⟩⟩
      | false =>
        have HPR := Aside0.mk hpr
        clear hpr
        go_wp2_with (first | ((with_reducible refine gate_dst (N := 16) rfl ?_); refine goesV_ (some 16) rfl rfl HF.out HN.out HBd.out #[deliveryV (rd_T34 l i)] rfl rfl (by (try simp only [List.map_toArray, List.map_cons, List.map_nil]); rfl) ?_; refine (HS.out i _ HT.out HP.out HI.out).mono ?_; rintro e w1 ⟨rfl, hi1⟩; rw [HPR.out]; refine ⟨_, rfl, ?_⟩; have HI1 := Aside0.mk hi1; clear hi1))
        go_roundg (gk - 1)
        case measure => have := HK.out; have := HT.out; omega
        case rel => exact ⟨i + 1, congrArg (Value.int .i64) WR.out, ⟨by have := HK.out; have := HT.out; omega⟩, ⟨fun j hj => (Nat.lt_succ_iff_lt_or_eq.1 hj).elim (fun h => HP.out j h) (fun h => h ▸ HPR.out)⟩, HI1⟩
    · have b0 : decide ((i : Int) < (l.length : Int)) = false := decide_eq_false (by omega)
      have b1 : decide (i < l.length) = false := decide_eq_false hlt
      have hil : i = l.length := by have := HK.out; omega
      have HE := Aside0.mk hil
      clear hlt hil
      go_wp2
      go_ret
      exact ⟨_, rfl, i, by have := HK.out; omega, HP.out, .inl ⟨HE.out, rfl, HI.out⟩⟩

/-! ### api_Delivery_14: function 14, by hand -/
set_option maxHeartbeats 8000000 in
set_option maxRecDepth 100000 in
theorem containsDelivery (A : Option Addr) (c : Nat) (l : List S34) (g : FuncId) (fn : Func) (cap : Array Value) (pred : Nat → Bool) (Inv : Nat → World → Prop) (w : World)
    (hf : Try.prog.funcs[g]? = some fn) (hname : (fn.name == "runtime.NumGoroutine") = false) (hb : fn.body.isSome = true) (hlen : l.length ≤ 140737488351232)
    (h0 : Inv 0 w) (hR : ∀ i w', Inv i w' → Kd.C k34 w' A l.length l)
    (hstep : ∀ i w', i < l.length → (∀ j, j < i → pred j = false) → Inv i w' → Calls Try.prog g (#[deliveryV (rd_T34 l i)] ++ cap) w' fun e w'' => e = .returned (.bool (pred i)) ∧ Inv (i + 1) w'') :
    Calls Try.prog 14 #[.slice A l.length c, .func (.func g) #[] cap] w fun e w' => ∃ r : Int, e = .returned (.bool (decide (0 ≤ r))) ∧ Found l.length pred Inv r w' := by
  have H := Aside0.mk (indexDelivery A c l g fn cap pred Inv w hf hname hb hlen h0 hR hstep)
  clear hf hname hb hlen h0 hR hstep
  go_enter Try.func14, Try.ntmps14
  go_wp2_with (go_at_call 38; refine H.out.mono ?_; rintro e w1 ⟨r, rfl, hr⟩; have HR := Aside0.mk hr; clear hr)
  go_ret
  exact ⟨r, rfl, HR.out⟩

/-! ### api_Delivery_16: function 16 -/
def api_Delivery_16.f (l0 : List (S34)) : Option ((List (S34))) := if l0.length ≤ 1000000 then some l0 else none
set_option maxHeartbeats 8000000 in
set_option maxRecDepth 100000 in
theorem api_Delivery_16.calls (A0 : Option Addr) (c0 : Nat) (l0 : List (S34)) (r : List (S34)) (w : World) (hr0 : Kd.C k34 w A0 l0.length l0) (hc0 : l0.length ≤ c0) (h : api_Delivery_16.f l0 = some r) :
    Calls Try.prog 16 #[.slice A0 l0.length c0] w fun e w' => ∃ v0_ : Value, e = .returned (v0_) ∧ Kd.R k34 34 w' w.heap.size (fun _ => True) v0_ r ∧ Below w.heap.size w w' := by
  have hlen : l0.length ≤ 1000000 := by
    unfold api_Delivery_16.f at h
    split at h
    · assumption
    · cases h
  unfold api_Delivery_16.f at h
  rw [if_pos hlen] at h
  obtain rfl := Option.some.inj h
  have HR := Aside0.mk hr0
  have HL := Aside0.mk hlen
  have heq : ∀ (W : World) (A : Option Addr) (n c : Nat), (binOp .eql 26 (.slice A n c) (.slice none 0 0)).run Try.prog W = .ok (.bool A.isNone) W := by
    intro W A n c
    cases A <;> rfl
  cases A0 with
  | none =>
    have hnil : l0 = [] := by
      cases hl : l0 with
      | nil => rfl
      | cons x xs =>
        rw [hl] at hr0
        obtain ⟨ad, e, _⟩ := at_T34 hr0 0 (by omega) (by simp)
        cases e
    subst hnil
    clear h hr0 hc0 hlen
    go_enter Try.func16, Try.ntmps16
    go_wp2
    go_ret
    exact ⟨_, rfl, Kd.R_nil _ _ _ _ _, Below.refl _ _⟩
  | some ad =>
    clear h hr0 hc0 hlen
    go_enter Try.func16, Try.ntmps16
    have ho0 : Kd.R k34 34 (w.alloc (.cells #[] 34)) w.heap.size (fun _ => True) (.slice (some ⟨w.heap.size, 0, none⟩) 0 0) [] :=
      ⟨fun _ _ => trivial, [], ⟨by simp, .inr ⟨w.heap.size, 0, #[], rfl, Nat.le_refl _, heap_alloc_new w _, Nat.le_refl _, Nat.zero_le _, by simp, by simp⟩⟩, Reps.none _ _⟩
    have HO0 := Aside0.mk ho0
    have HR1 := Aside0.mk (Kd.C_below HR.out (below_alloc (Below.refl w.heap.size w) (.cells #[] 34)))
    clear ho0
    go_wp2_with ((with_reducible refine gate_builtin (b := .append) (xs := #[.tmp 5, .tmp 6]) rfl ?_); at_builtin; refine Kd.R_append_rows k34 (w0 := w) w.heap.size rfl (.tmp 5) (.tmp 6) 26 34 (.agg #[.int .i64 0, .int .i64 0, .int .i64 0]) 24 rfl Try.underlying26 info34 rfl (by decide) (by omega) (.slice (some ⟨w.heap.size, 0, none⟩) 0 0) [] l0 (some ad) l0.length c0 (fun _ => True) (fun _ => False) rfl rfl HO0.out HR1.out ?aK (fun _ hk => hk.elim) (fun _ _ => trivial) ?aB ?aS ?aL ?_; (case aK => exact fun x cs h => (by obtain rfl := k34_open h; exact k34_mkM _ _ _ x)); (case aB => exact below_alloc (Below.refl _ _) _); (case aS => simp); (case aL => have := HL.out; simp only [List.length_nil]; omega); intro v1 w1 ho hb hg hat; have HO := Aside0.mk ho; have HB := Aside0.mk hb; clear ho hb hg hat)
    go_ret
    exact ⟨_, rfl, by have := HO.out; simpa using this, HB.out⟩

-- NOT PRINTED: function 3 (hopmeshlaw50_LoopEarlier)

end Go.Proofs.Ytnjljajopdpjjaa.PX
