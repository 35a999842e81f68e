-- Written by wip/xprint.py, a program of this claim's own, over the kit's print program. Lean checks it.
import Derived.Test.YtnjljajopdpjjaaPXx0
import Derived.Test.YtnjljajopdpjjaaPXx30
namespace Go.Proofs.Ytnjljajopdpjjaa.PX
open Go.RowKit Go.Proofs.YtnjljajopdpjjaaW.PrintWords Go.Proofs.YtnjljajopdpjjaaW.PrintLast Go.Proofs.YtnjljajopdpjjaaW.PrintMore
attribute [local go_sem] max2_int min2_int max_two min_two max_three min_three max_four min_four   -- for this text's walks alone
set_option linter.unusedVariables false
set_option linter.unusedSimpArgs false

/-! ### hopmeshlaw50_deliver: function 25 -/
/-- The latency that is given for a sample, or the greatest. -/
def latOf (xs : List Int) (i : Nat) (most : Int) : Int := if (i : Int) ≥ (xs.length : Int) then most else 1 + (rd xs (i : Int)) % most
/-- The deliveries of a sample. -/
def pairOf (l : S23) (s : S25) (sense act : List Int) (i : Nat) : List S34 :=
  [⟨2 * l.f0, (i : Int), l.f5 + (i : Int) * l.f4 + latOf sense i s.f0 - 1⟩, ⟨2 * l.f0 + 1, (i : Int) + (l.f5 + s.f0) / l.f4, l.f5 + (i : Int) * l.f4 + s.f0 + latOf act i s.f1 - 1⟩]
/-- The deliveries of so many samples. -/
def deliverOf (l : S23) (s : S25) (sense act : List Int) : Nat → List S34
  | 0 => []
  | n + 1 => deliverOf l s sense act n ++ pairOf l s sense act n
def hopmeshlaw50_deliver.f (a0_0 a0_1 a0_2 a0_3 a0_4 a0_5 a0_6 a1_0 a1_1 a2 : Int) (l3 l4 : List Int) : Option (List S34) :=
  if 0 ≤ a2 ∧ a2 ≤ 100 ∧ 0 ≤ a0_0 ∧ a0_0 ≤ 127 ∧ 1 ≤ a0_4 ∧ a0_4 ≤ 512 ∧ 0 ≤ a0_5 ∧ a0_5 ≤ 512 ∧ 1 ≤ a1_0 ∧ a1_0 ≤ 512 ∧ 1 ≤ a1_1 ∧ a1_1 ≤ 512 ∧ (∀ x ∈ l3, 0 ≤ x ∧ x ≤ 255) ∧ (∀ x ∈ l4, 0 ≤ x ∧ x ≤ 255) then
    some (deliverOf ⟨a0_0, a0_1, a0_2, a0_3, a0_4, a0_5, a0_6⟩ ⟨a1_0, a1_1⟩ l3 l4 a2.toNat) else none
theorem latOf_bd {xs : List Int} (hx : ∀ x ∈ xs, 0 ≤ x ∧ x ≤ 255) (i : Nat) {most : Int} (h : 1 ≤ most) : 1 ≤ latOf xs i most ∧ latOf xs i most ≤ most := by
  unfold latOf
  split
  · omega
  · have := Int.emod_nonneg (rd xs (i : Int)) (b := most) (by omega)
    have := Int.emod_lt_of_pos (rd xs (i : Int)) (b := most) (by omega)
    omega
theorem lat_eq {xs : List Int} (hx : ∀ x ∈ xs, 0 ≤ x ∧ x ≤ 255) (i : Nat) {most : Int} (h : 1 ≤ most) (h2 : most ≤ 512) : hopmeshlaw50_deliver_1.f xs (i : Int) most = some (latOf xs i most) := by
  unfold hopmeshlaw50_deliver_1.f latOf
  by_cases hi : (i : Int) ≥ (xs.length : Int)
  · rw [if_pos hi, if_pos hi]
  · have hb : 0 ≤ rd xs (i : Int) ∧ rd xs (i : Int) ≤ 255 := by
      unfold rd
      rw [Int.toNat_natCast, List.getD_eq_getElem?_getD, List.getElem?_eq_getElem (by omega)]
      exact hx _ (List.getElem_mem _)
    have m0 := Int.emod_nonneg (rd xs (i : Int)) (b := most) (by omega)
    have m1 := Int.emod_lt_of_pos (rd xs (i : Int)) (b := most) (by omega)
    rw [if_neg hi, if_neg hi, if_pos (by omega), if_pos (by omega), if_neg (by omega), show wrap64 (rd xs (i : Int)) = rd xs (i : Int) by unfold wrap64; omega, Int.tmod_eq_emod_of_nonneg hb.1]
    congr 1
    unfold wrap64
    omega
theorem deliverOf_len (l : S23) (s : S25) (sense act : List Int) (n : Nat) : (deliverOf l s sense act n).length = 2 * n := by
  induction n with
  | zero => rfl
  | succ n ih =>
    unfold deliverOf pairOf
    rw [List.length_append, ih]
    rfl
set_option maxHeartbeats 8000000 in
set_option maxRecDepth 100000 in
theorem deliver1_same (A0 : Option Addr) (c0 : Nat) (l0 : List Int) (a1 : Int) (a2 : Int) (r : Int) (w : World) (hr0 : Kd.C (Kd.int .u8) w A0 l0.length l0) (h : hopmeshlaw50_deliver_1.f l0 a1 a2 = some r) :
    Calls Try.prog 49 #[.slice A0 l0.length c0, .int .i64 a1, .int .i64 a2] w fun e w' => e = .returned (.int .i64 r) ∧ w' = w := by
  have HR0 := Aside0.mk hr0
  clear hr0
  unfold hopmeshlaw50_deliver_1.f at h
  have H := h
  clear h
  by_cases c4 : a1 ≥ (l0.length : Int)
  · rw [if_pos c4] at H
    have c4b0 : decide ((l0.length : Int) ≤ a1) = true := decide_eq_true c4
    clear c4
    obtain rfl := Option.some.inj H
    go_enter Try.func49, Try.ntmps49
    go_wp2
    go_ret
    exact ⟨rfl, rfl⟩
  · rw [if_neg c4] at H
    have c4b0 : decide ((l0.length : Int) ≤ a1) = false := decide_eq_false c4
    clear c4
    by_cases c5 : 0 ≤ a1
    · rw [if_pos c5] at H
      have c5b0 : decide (0 ≤ a1) = true := decide_eq_true c5
      clear c5
      by_cases c6 : a1 < (l0.length : Int)
      · rw [if_pos c6] at H
        have c6b0 : decide (a1 < (l0.length : Int)) = true := decide_eq_true c6
        clear c6
        by_cases c7 : a2 = 0
        · rw [if_pos c7] at H
          exact absurd H (by simp)
        · rw [if_neg c7] at H
          have c7b0 : (a2 == 0) = false := beq_eq_false_iff_ne.mpr c7
          have c7b1 : (a2 != 0) = true := bne_iff_ne.mpr c7
          obtain rfl := Option.some.inj H
          have p319 : 0 ≤ (a1 : Int) := of_decide_eq_true (by first | (with_reducible assumption) | assumption)
          have q319 : a1 < (l0.length : Int) := of_decide_eq_true (by first | (with_reducible assumption) | assumption)
          obtain ⟨ad319, e319, hx319_0⟩ := Kd.at_int HR0.out a1 p319 q319
          cases e319
          replace p319 := eq_true p319
          replace q319 := eq_true q319
          go_enter Try.func49, Try.ntmps49
          go_wp2
          go_ret
          exact ⟨rfl, rfl⟩
      · rw [if_neg c6] at H
        exact absurd H (by simp)
    · rw [if_neg c5] at H
      exact absurd H (by simp)
set_option maxHeartbeats 8000000 in
set_option maxRecDepth 100000 in
theorem hopmeshlaw50_deliver.calls (a0_0 : Int) (a0_1 : Int) (a0_2 : Int) (a0_3 : Int) (a0_4 : Int) (a0_5 : Int) (a0_6 : Int) (a1_0 : Int) (a1_1 : Int) (a2 : Int) (A3 : Option Addr) (c3 : Nat) (l3 : List Int) (A4 : Option Addr) (c4 : Nat) (l4 : List Int) (r : List (S34)) (w : World) (hr3 : Kd.C (Kd.int .u8) w A3 l3.length l3) (hc3 : l3.length ≤ c3) (hr4 : Kd.C (Kd.int .u8) w A4 l4.length l4) (hc4 : l4.length ≤ c4) (h : hopmeshlaw50_deliver.f a0_0 a0_1 a0_2 a0_3 a0_4 a0_5 a0_6 a1_0 a1_1 a2 l3 l4 = some r) :
    Calls Try.prog 25 #[.agg #[.int .i64 a0_0, .int .i64 a0_1, .int .i64 a0_2, .int .i64 a0_3, .int .i64 a0_4, .int .i64 a0_5, .int .i64 a0_6], .agg #[.int .i64 a1_0, .int .i64 a1_1], .int .i64 a2, .slice A3 l3.length c3, .slice A4 l4.length c4] w fun e w' => ∃ v0_ : Value, e = .returned (v0_) ∧ Kd.R k34 34 w' w.heap.size (fun _ => True) v0_ r ∧ Below w.heap.size w w' := by
  unfold hopmeshlaw50_deliver.f at h
  by_cases q : 0 ≤ a2 ∧ a2 ≤ 100 ∧ 0 ≤ a0_0 ∧ a0_0 ≤ 127 ∧ 1 ≤ a0_4 ∧ a0_4 ≤ 512 ∧ 0 ≤ a0_5 ∧ a0_5 ≤ 512 ∧ 1 ≤ a1_0 ∧ a1_0 ≤ 512 ∧ 1 ≤ a1_1 ∧ a1_1 ≤ 512 ∧ (∀ x ∈ l3, 0 ≤ x ∧ x ≤ 255) ∧ (∀ x ∈ l4, 0 ≤ x ∧ x ≤ 255)
  rotate_left
  · rw [if_neg q] at h
    cases h
  rw [if_pos q] at h
  obtain ⟨q0, q1, q2, q3, q4, q5, q6, q7, q8, q9, q10, q11, q12, q13⟩ := q
  have H := Aside0.mk (Option.some.inj h)
  have HR3 := Aside0.mk hr3
  have HC3 := Aside0.mk hc3
  have HR4 := Aside0.mk hr4
  have HC4 := Aside0.mk hc4
  have HX3 := Aside0.mk q12
  have HX4 := Aside0.mk q13
  obtain ⟨N, rfl⟩ := Int.eq_ofNat_of_zero_le q0
  have hmf : ∀ (fn : Fn) (first cap : Array Value) (w : World), (Instr.makeFunc fn first cap).run Try.prog w = .ok (.func fn first cap) w := fun _ _ _ _ => rfl
  have hu1 := Try.underlying23
  have hu2 := Try.underlying25
  have hu3 := Try.underlying34
  have hz : (a0_4 == 0) = false := beq_eq_false_iff_ne.mpr (by omega)
  have hz2 : ¬ a0_4 = 0 := by omega
  clear h hr3 hc3 hr4 hc4 q12 q13
  have hl := blk_alloc (heap_alloc_new w (.cells #[.int .i64 a0_0, .int .i64 a0_1, .int .i64 a0_2, .int .i64 a0_3, .int .i64 a0_4, .int .i64 a0_5, .int .i64 a0_6] 23 (0, 0))) (.cells #[.int .i64 a1_0, .int .i64 a1_1] 25 (0, 0))
  have hs := heap_alloc_new (w.alloc (.cells #[.int .i64 a0_0, .int .i64 a0_1, .int .i64 a0_2, .int .i64 a0_3, .int .i64 a0_4, .int .i64 a0_5, .int .i64 a0_6] 23 (0, 0))) (.cells #[.int .i64 a1_0, .int .i64 a1_1] 25 (0, 0))
  simp only [World.alloc, Array.size_push] at hs
  have HL : Aside0 (((w.alloc (.cells #[.int .i64 a0_0, .int .i64 a0_1, .int .i64 a0_2, .int .i64 a0_3, .int .i64 a0_4, .int .i64 a0_5, .int .i64 a0_6] 23 (0, 0))).alloc (.cells #[.int .i64 a1_0, .int .i64 a1_1] 25 (0, 0))).heap[w.heap.size]? = some (.cells #[.int .i64 a0_0, .int .i64 a0_1, .int .i64 a0_2, .int .i64 a0_3, .int .i64 a0_4, .int .i64 a0_5, .int .i64 a0_6] 23 (0, 0))) := ⟨hl⟩
  have HS : Aside0 (((w.alloc (.cells #[.int .i64 a0_0, .int .i64 a0_1, .int .i64 a0_2, .int .i64 a0_3, .int .i64 a0_4, .int .i64 a0_5, .int .i64 a0_6] 23 (0, 0))).alloc (.cells #[.int .i64 a1_0, .int .i64 a1_1] 25 (0, 0))).heap[w.heap.size + 1]? = some (.cells #[.int .i64 a1_0, .int .i64 a1_1] 25 (0, 0))) := ⟨hs⟩
  have HB0 : Aside0 (Below w.heap.size w ((w.alloc (.cells #[.int .i64 a0_0, .int .i64 a0_1, .int .i64 a0_2, .int .i64 a0_3, .int .i64 a0_4, .int .i64 a0_5, .int .i64 a0_6] 23 (0, 0))).alloc (.cells #[.int .i64 a1_0, .int .i64 a1_1] 25 (0, 0)))) := ⟨below_alloc (below_alloc (Below.refl _ _) _) _⟩
  clear hl hs
  go_enter Try.func25, Try.ntmps25
  go_wp2
  generalize ((w.alloc (.cells #[.int .i64 a0_0, .int .i64 a0_1, .int .i64 a0_2, .int .i64 a0_3, .int .i64 a0_4, .int .i64 a0_5, .int .i64 a0_6] 23 (0, 0))).alloc (.cells #[.int .i64 a1_0, .int .i64 a1_1] 25 (0, 0))) = w2 at *
  obtain ⟨fi, HFI⟩ : ∃ fi : Int, Aside0 ((a0_5 + a1_0) / a0_4 = fi) := ⟨_, ⟨rfl⟩⟩
  have hfi : 0 ≤ fi ∧ fi ≤ 1024 := by
    rw [← HFI.out]
    refine ⟨Int.ediv_nonneg (by omega) (by omega), ?_⟩
    have := Int.ediv_le_self (a := a0_5 + a1_0) a0_4 (by omega)
    omega
  rw [HFI.out]
  go_loopg [11, 25] N (fun kq v11 v25 w' => ∃ (i : Nat), v25 = .int .i64 (i : Int) ∧ Aside0 (kq + i = N) ∧ Aside0 (Kd.R k34 34 w' w.heap.size (fun k => w.heap.size + 1 < k) v11 (deliverOf ⟨a0_0, a0_1, a0_2, a0_3, a0_4, a0_5, a0_6⟩ ⟨a1_0, a1_1⟩ l3 l4 i)) ∧
    Aside0 (w'.heap[w.heap.size]? = some (.cells #[.int .i64 a0_0, .int .i64 a0_1, .int .i64 a0_2, .int .i64 a0_3, .int .i64 a0_4, .int .i64 a0_5, .int .i64 a0_6] 23 (0, 0))) ∧ Aside0 (w'.heap[w.heap.size + 1]? = some (.cells #[.int .i64 a1_0, .int .i64 a1_1] 25 (0, 0))) ∧ Aside0 (Below w.heap.size w w'))
  case atStart => exact ⟨0, by simp, ⟨by simp⟩, ⟨Kd.R_nil _ _ _ _ _⟩, HL, HS, HB0⟩
  case round =>
    obtain ⟨i, rfl, HK, HO, HL1, HS1, HB1⟩ := hrel
    by_cases hlt : (i : Int) < (N : Int)
    · have e1 : decide ((i : Int) < (N : Int)) = true := decide_eq_true hlt
      have e2 : decide (i < N) = true := decide_eq_true (by omega)
      obtain ⟨Ao, co, eo⟩ := Kd.R_slice HO.out
      subst eo
      have hi0 : (0 : Int) ≤ (i : Int) := by omega
      have hi1 : (i : Int) ≤ 100 := by omega
      have hq0 : 0 ≤ (i : Int) * a0_4 := Int.mul_nonneg (by omega) (by omega)
      have hq1 : (i : Int) * a0_4 ≤ 100 * 512 := Int.mul_le_mul (by omega) (by omega) (by omega) (by omega)
      have hla := latOf_bd HX3.out i q8
      have hlb := latOf_bd HX4.out i q10
      have ha := lat_eq HX3.out i q8 q9
      have hb := lat_eq HX4.out i q10 q11
      obtain ⟨la, HLA⟩ : ∃ x : Int, Aside0 (latOf l3 i a1_0 = x) := ⟨_, ⟨rfl⟩⟩
      obtain ⟨lb, HLB⟩ : ∃ x : Int, Aside0 (latOf l4 i a1_1 = x) := ⟨_, ⟨rfl⟩⟩
      rw [HLA.out] at hla ha
      rw [HLB.out] at hlb hb
      have HCA := Aside0.mk ha
      have HCB := Aside0.mk hb
      have HT1 : Aside0 (i < N) := ⟨by omega⟩
      have WR : Aside0 ((i : Int) + 1 = ((i + 1 : Nat) : Int)) := ⟨by omega⟩
      obtain ⟨rel, HRL⟩ : ∃ x : Int, Aside0 (a0_5 + (i : Int) * a0_4 = x) := ⟨_, ⟨rfl⟩⟩
      have hrl : 0 ≤ rel ∧ rel ≤ 60000 := by rw [← HRL.out]; omega
      have LM : Aside0 ((deliverOf ⟨a0_0, a0_1, a0_2, a0_3, a0_4, a0_5, a0_6⟩ ⟨a1_0, a1_1⟩ l3 l4 i).length = 2 * i) := ⟨deliverOf_len _ _ _ _ _⟩
      have HN1 : Aside0 (deliverOf ⟨a0_0, a0_1, a0_2, a0_3, a0_4, a0_5, a0_6⟩ ⟨a1_0, a1_1⟩ l3 l4 i ++ [⟨2 * a0_0, (i : Int), rel + la - 1⟩] ++ [⟨2 * a0_0 + 1, (i : Int) + fi, rel + a1_0 + lb - 1⟩] = deliverOf ⟨a0_0, a0_1, a0_2, a0_3, a0_4, a0_5, a0_6⟩ ⟨a1_0, a1_1⟩ l3 l4 (i + 1)) := ⟨by
        show _ = _ ++ pairOf _ _ _ _ _
        unfold pairOf
        simp only [HLA.out, HLB.out, HRL.out, HFI.out, List.append_assoc, List.singleton_append]⟩
      clear hlt ha hb
      generalize deliverOf ⟨a0_0, a0_1, a0_2, a0_3, a0_4, a0_5, a0_6⟩ ⟨a1_0, a1_1⟩ l3 l4 i = xs at *
      have gl0 := (blk_cell HL1.out 0).trans (rfl : _ = some (Value.int .i64 a0_0))
      have gl1 := (blk_cell HL1.out 1).trans (rfl : _ = some (Value.int .i64 a0_1))
      have gl2 := (blk_cell HL1.out 2).trans (rfl : _ = some (Value.int .i64 a0_2))
      have gl3 := (blk_cell HL1.out 3).trans (rfl : _ = some (Value.int .i64 a0_3))
      have gl4 := (blk_cell HL1.out 4).trans (rfl : _ = some (Value.int .i64 a0_4))
      have gl5 := (blk_cell HL1.out 5).trans (rfl : _ = some (Value.int .i64 a0_5))
      have gl6 := (blk_cell HL1.out 6).trans (rfl : _ = some (Value.int .i64 a0_6))
      have gs0 := (blk_cell HS1.out 0).trans (rfl : _ = some (Value.int .i64 a1_0))
      have gs1 := (blk_cell HS1.out 1).trans (rfl : _ = some (Value.int .i64 a1_1))
      go_upto_region 8 with (fail)
      rw [HRL.out]
      have ew1 : IntKind.i64.wrap (2 * a0_0) = 2 * a0_0 := by
        rw [IntKind.wrap_i64]
        omega
      have ew2 : IntKind.i64.wrap (rel + la) = rel + la := by
        rw [IntKind.wrap_i64]
        omega
      have ew3 : IntKind.i64.wrap (rel + la - 1) = rel + la - 1 := by
        rw [IntKind.wrap_i64]
        omega
      have ew4 : IntKind.i64.wrap (2 * a0_0 + 1) = 2 * a0_0 + 1 := by
        rw [IntKind.wrap_i64]
        omega
      have ew5 : IntKind.i64.wrap ((i : Int) + fi) = (i : Int) + fi := by
        rw [IntKind.wrap_i64]
        omega
      have ew6 : IntKind.i64.wrap (rel + a1_0) = rel + a1_0 := by
        rw [IntKind.wrap_i64]
        omega
      have ew7 : IntKind.i64.wrap (rel + a1_0 + lb) = rel + a1_0 + lb := by
        rw [IntKind.wrap_i64]
        omega
      have ew8 : IntKind.i64.wrap (rel + a1_0 + lb - 1) = rel + a1_0 + lb - 1 := by
        rw [IntKind.wrap_i64]
        omega
      go_region_held3 (fun w' => w'.cell? ⟨w.heap.size, 0, none⟩ = some (.int .i64 a0_0) ∧ w'.cell? ⟨w.heap.size + 1, 0, none⟩ = some (.int .i64 a1_0))
        (first | go_keep | exact ⟨(blk_cell HL2.out 0).trans rfl, (blk_cell HS2.out 0).trans rfl⟩)
        (first
          | (go_at_call 49; (with_reducible refine (deliver1_same A3 c3 l3 (i : Int) a1_0 la _ (Kd.C_below HR3.out (by repeat (first | exact HB1.out | apply below_alloc | apply pw_below_drewN | apply below_drew1))) HCA.out).mono ?_); rintro e w4 ⟨rfl, rfl⟩)
          | (refine Kd.R_append_step k34 (w0 := w) (W := wr.drew) w.heap.size (by rfl) (.tmp 35) (.tmp 50) 26 34 (.agg #[.int .i64 0, .int .i64 0, .int .i64 0]) 24 (by rfl) Try.underlying26 info34 rfl (by decide) (by omega) (.slice Ao xs.length co) xs ⟨2 * a0_0, (i : Int), rel + la - 1⟩ [.int .i64 (2 * a0_0), .int .i64 (i : Int), .int .i64 (rel + la - 1)] (fun k => w.heap.size + 1 < k) (fun _ => False) (by rfl) (by rfl) ?aP (fun _ hk => hk.elim) ?aF ?aO ?aB ?aS ?aL ?_; (case aP => exact k34_mkM _ _ _ ⟨2 * a0_0, (i : Int), rel + la - 1⟩); (case aB => repeat (first | exact HB1.out | apply below_alloc | apply pw_below_drewN | apply below_drew1)); (case aS => exact (below_size (by repeat (first | exact HB1.out | apply below_alloc | apply pw_below_drewN | apply below_drew1)))); (case aO => (with_reducible repeat (first | apply Kd.R_drewN | apply Kd.R_drew)); exact HO.out); (case aF => exact (fun k hk => Nat.lt_of_lt_of_le (blk_lt (by (with_reducible repeat (first | refine blk_drewN ?_ _ | refine blk_drew ?_)); exact HS1.out)) hk)); (case aL => have := LM.out; have := HT1.out; omega); intro v1 w8 ho hb hg hat; have HL2 := Aside0.mk (blk_grown (by (with_reducible repeat (first | refine blk_drewN ?_ _ | refine blk_drew ?_)); exact HL1.out) hg (fun e => by have h9 : w.heap.size + 1 < w.heap.size := HO.out.1 _ e.symm; omega)); have HS2 := Aside0.mk (blk_grown (by (with_reducible repeat (first | refine blk_drewN ?_ _ | refine blk_drew ?_)); exact HS1.out) hg (fun e => by have h9 : w.heap.size + 1 < w.heap.size + 1 := HO.out.1 _ e.symm; omega)); have HO2 := Aside0.mk ho; have HB2 := Aside0.mk hb; clear ho hb hg hat))
      obtain ⟨Ap, cp, ep⟩ := Kd.R_slice HO2.out
      subst ep
      have LM2 : Aside0 ((xs ++ [(⟨2 * a0_0, (i : Int), rel + la - 1⟩ : S34)]).length = 2 * i + 1) := ⟨by have := LM.out; simp only [List.length_append, List.length_cons, List.length_nil]; omega⟩
      generalize xs ++ [(⟨2 * a0_0, (i : Int), rel + la - 1⟩ : S34)] = xs2 at *
      have gl0 := (blk_cell HL2.out 0).trans (rfl : _ = some (Value.int .i64 a0_0))
      have gl1 := (blk_cell HL2.out 1).trans (rfl : _ = some (Value.int .i64 a0_1))
      have gl2 := (blk_cell HL2.out 2).trans (rfl : _ = some (Value.int .i64 a0_2))
      have gl3 := (blk_cell HL2.out 3).trans (rfl : _ = some (Value.int .i64 a0_3))
      have gl4 := (blk_cell HL2.out 4).trans (rfl : _ = some (Value.int .i64 a0_4))
      have gl5 := (blk_cell HL2.out 5).trans (rfl : _ = some (Value.int .i64 a0_5))
      have gl6 := (blk_cell HL2.out 6).trans (rfl : _ = some (Value.int .i64 a0_6))
      have gs0 := (blk_cell HS2.out 0).trans (rfl : _ = some (Value.int .i64 a1_0))
      have gs1 := (blk_cell HS2.out 1).trans (rfl : _ = some (Value.int .i64 a1_1))
      go_upto_region 9 with (fail)
      go_region_held3 (fun w' => w'.cell? ⟨w.heap.size, 0, none⟩ = some (.int .i64 a0_0) ∧ w'.cell? ⟨w.heap.size + 1, 0, none⟩ = some (.int .i64 a1_0) ∧ w'.cell? ⟨w.heap.size + 1, 1, none⟩ = some (.int .i64 a1_1))
        (first | go_keep | exact ⟨(blk_cell HL3.out 0).trans rfl, (blk_cell HS3.out 0).trans rfl, (blk_cell HS3.out 1).trans rfl⟩)
        (first
          | (go_at_call 49; (with_reducible refine (deliver1_same A4 c4 l4 (i : Int) a1_1 lb _ (Kd.C_below HR4.out (by repeat (first | exact HB2.out | apply below_alloc | apply pw_below_drewN | apply below_drew1))) HCB.out).mono ?_); rintro e w4 ⟨rfl, rfl⟩)
          | (refine Kd.R_append_step k34 (w0 := w) (W := w8.drew) w.heap.size (by rfl) (.tmp 52) (.tmp 73) 26 34 (.agg #[.int .i64 0, .int .i64 0, .int .i64 0]) 24 (by rfl) Try.underlying26 info34 rfl (by decide) (by omega) (.slice Ap xs2.length cp) xs2 ⟨2 * a0_0 + 1, (i : Int) + fi, rel + a1_0 + lb - 1⟩ [.int .i64 (2 * a0_0 + 1), .int .i64 ((i : Int) + fi), .int .i64 (rel + a1_0 + lb - 1)] (fun k => w.heap.size + 1 < k) (fun _ => False) (by rfl) (by rfl) ?aP (fun _ hk => hk.elim) ?aF ?aO ?aB ?aS ?aL ?_; (case aP => exact k34_mkM _ _ _ ⟨2 * a0_0 + 1, (i : Int) + fi, rel + a1_0 + lb - 1⟩); (case aB => repeat (first | exact HB2.out | apply below_alloc | apply pw_below_drewN | apply below_drew1)); (case aS => exact (below_size (by repeat (first | exact HB2.out | apply below_alloc | apply pw_below_drewN | apply below_drew1)))); (case aO => (with_reducible repeat (first | apply Kd.R_drewN | apply Kd.R_drew)); exact HO2.out); (case aF => exact (fun k hk => Nat.lt_of_lt_of_le (blk_lt (by (with_reducible repeat (first | refine blk_drewN ?_ _ | refine blk_drew ?_)); exact HS2.out)) hk)); (case aL => have := LM2.out; have := HT1.out; omega); intro v2 w9 ho hb hg hat; rw [HN1.out] at ho; have HL3 := Aside0.mk (blk_grown (by (with_reducible repeat (first | refine blk_drewN ?_ _ | refine blk_drew ?_)); exact HL2.out) hg (fun e => by have h9 : w.heap.size + 1 < w.heap.size := HO2.out.1 _ e.symm; omega)); have HS3 := Aside0.mk (blk_grown (by (with_reducible repeat (first | refine blk_drewN ?_ _ | refine blk_drew ?_)); exact HS2.out) hg (fun e => by have h9 : w.heap.size + 1 < w.heap.size + 1 := HO2.out.1 _ e.symm; omega)); have HO3 := Aside0.mk ho; have HB3 := Aside0.mk hb; clear ho hb hg hat))
      go_wp2
      go_roundg (gk - 1)
      case measure => have := HK.out; have := HT1.out; omega
      case rel => exact ⟨i + 1, congrArg (Value.int .i64) WR.out, ⟨by have := HK.out; have := HT1.out; omega⟩, HO3, HL3, HS3, HB3⟩
    · have e1 : decide ((i : Int) < (N : Int)) = false := decide_eq_false hlt
      have e2 : decide (i < N) = false := decide_eq_false (by omega)
      have HE : Aside0 (i = N) := ⟨by have := HK.out; omega⟩
      clear hlt
      go_wp2
      go_ret
      exact ⟨_, rfl, Kd.R_mono (by rw [← H.out, Int.toNat_natCast, ← HE.out]; exact HO.out) (fun _ _ => trivial), HB1.out⟩

end Go.Proofs.Ytnjljajopdpjjaa.PX
