-- Written by wip/xprint.py, a program of this claim's own, over the kit's print program. Lean checks it.
import Derived.Test.YtnjljajopdpjjaaPXx0
import Derived.Test.YtnjljajopdpjjaaPXx3
import Derived.Test.YtnjljajopdpjjaaPXx4
import Derived.Test.YtnjljajopdpjjaaPXx5
import Derived.Test.YtnjljajopdpjjaaPXx6
import Derived.Test.YtnjljajopdpjjaaPXx7
import Derived.Test.YtnjljajopdpjjaaPXx8
namespace Go.Proofs.Ytnjljajopdpjjaa.PX
open Go.RowKit Go.Proofs.YtnjljajopdpjjaaW.PrintWords Go.Proofs.YtnjljajopdpjjaaW.PrintLast Go.Proofs.YtnjljajopdpjjaaW.PrintMore
attribute [local go_sem] max2_int min2_int max_two min_two max_three min_three max_four min_four   -- for this text's walks alone
set_option linter.unusedVariables false
set_option linter.unusedSimpArgs false

/-! ### loop_ages: function 40 -/
theorem foldMax (l : List Int) : ∀ z : Int, (l.foldl max z = z ∨ l.foldl max z ∈ l) ∧ z ≤ l.foldl max z ∧ ∀ x ∈ l, x ≤ l.foldl max z := by
  induction l with
  | nil => intro z; exact ⟨.inl rfl, by simp, fun x hx => by cases hx⟩
  | cons y l ih =>
    intro z
    obtain ⟨h1, h2, h3⟩ := ih (max z y)
    refine ⟨?_, by simp only [List.foldl_cons]; omega, fun x hx => ?_⟩
    · simp only [List.foldl_cons, List.mem_cons]
      rcases h1 with h1 | h1
      · by_cases h : y ≤ z
        · exact .inl (by rw [h1]; omega)
        · exact .inr (.inl (by rw [h1]; omega))
      · exact .inr (.inr h1)
    · rcases List.mem_cons.1 hx with rfl | hx
      · simp only [List.foldl_cons]; omega
      · exact h3 x hx
theorem arr_mem {f : S39} {d : List S34} {k s : Int} (h : arr f d k = some s) : ∃ x ∈ d, x.f1 = k := by
  unfold arr at h
  obtain ⟨x, hx, rfl⟩ := Option.map_eq_some_iff.1 h
  have := List.find?_some hx
  simp only [Bool.and_eq_true, beq_iff_eq] at this
  exact ⟨x, List.mem_of_find?_eq_some hx, this.2⟩
/-- Which sample a frame that is released in slot t carries, or -1. -/
def carryOf (f : S39) (d : List S34) (t : Int) : Int := (d.filterMap (fun x => match arr f d x.f1 with | some s => if s < t then some x.f1 else none | none => none)).foldl max (-1)
theorem carryOf_is (f : S39) (d : List S34) (t : Int) : IsCarry (arr f d) t (carryOf f d t) := by
  obtain ⟨h1, h2, h3⟩ := foldMax (d.filterMap (fun x => match arr f d x.f1 with | some s => if s < t then some x.f1 else none | none => none)) (-1)
  refine ⟨h1.imp id (fun h => ?_), fun k s hk hs => h3 k ?_⟩
  · obtain ⟨x, _, hx⟩ := List.mem_filterMap.1 h
    cases ha : arr f d x.f1 with
    | none => rw [ha] at hx; cases hx
    | some s =>
      rw [ha] at hx
      simp only at hx
      split at hx
      · rename_i hs
        exact ⟨s, by unfold carryOf; rw [← Option.some.inj hx]; exact ha, hs⟩
      · cases hx
  · obtain ⟨x, hx, rfl⟩ := arr_mem hk
    refine List.mem_filterMap.2 ⟨x, hx, ?_⟩
    rw [hk]
    simp only
    rw [if_pos hs]
theorem IsCarry.eq {f : S39} {d : List S34} {t r : Int} (h : IsCarry (arr f d) t r) : r = carryOf f d t := by
  have h' := carryOf_is f d t
  rcases h.1 with e | ⟨s, hs, hst⟩
  · rcases h'.1 with e' | ⟨s', hs', hst'⟩
    · rw [e, e']
    · have := h.2 _ _ hs' hst'
      have := arr_bd hs'
      omega
  · rcases h'.1 with e' | ⟨s', hs', hst'⟩
    · have := h'.2 _ _ hs hst
      have := arr_bd hs
      omega
    · have := h'.2 _ _ hs hst
      have := h.2 _ _ hs' hst'
      omega
theorem carryOf_bd (f : S39) (d : List S34) (t : Int) : -1 ≤ carryOf f d t ∧ carryOf f d t ≤ 1073741824 := by
  rcases (carryOf_is f d t).1 with e | ⟨s, hs, _⟩
  · omega
  · have := arr_bd hs
    omega
/-- The greatest sample that comes into use in a slot, plus 1. -/
def freshOf (a b : S39) (d : List S34) (j : Int) : Int := (d.filterMap (fun x => match arr b d x.f1 with | some s => if s + 1 = j then some (carryOf a d (b.f4 + x.f1 * b.f3) + 1) else none | none => none)).foldl max 0
def IsFresh (m : Int → Option Int) (g : Int → Int) (j r : Int) : Prop := 0 ≤ r ∧ (r = 0 ∨ ∃ k s, m k = some s ∧ s + 1 = j ∧ r = g k) ∧ ∀ k s, m k = some s → s + 1 = j → g k ≤ r
def carryNext (a b : S39) (d : List S34) (k : Int) : Int := carryOf a d (b.f4 + k * b.f3) + 1
theorem freshOf_is (a b : S39) (d : List S34) (j : Int) : IsFresh (arr b d) (carryNext a b d) j (freshOf a b d j) := by
  obtain ⟨h1, h2, h3⟩ := foldMax (d.filterMap (fun x => match arr b d x.f1 with | some s => if s + 1 = j then some (carryOf a d (b.f4 + x.f1 * b.f3) + 1) else none | none => none)) 0
  refine ⟨h2, h1.imp id (fun h => ?_), fun k s hk hs => h3 _ ?_⟩
  · obtain ⟨x, _, hx⟩ := List.mem_filterMap.1 h
    cases ha : arr b d x.f1 with
    | none => rw [ha] at hx; cases hx
    | some s =>
      rw [ha] at hx
      simp only at hx
      split at hx
      · rename_i hs
        exact ⟨x.f1, s, ha, hs, by unfold freshOf carryNext; rw [← Option.some.inj hx]⟩
      · cases hx
  · obtain ⟨x, hx, rfl⟩ := arr_mem hk
    refine List.mem_filterMap.2 ⟨x, hx, ?_⟩
    rw [hk]
    simp only
    rw [if_pos hs]
    rfl
theorem IsFresh.eq {m : Int → Option Int} {g : Int → Int} {j r r' : Int} (hg : ∀ k, 0 ≤ g k) (h : IsFresh m g j r) (h' : IsFresh m g j r') : r = r' := by
  obtain ⟨h0, h1, h2⟩ := h
  obtain ⟨h0', h1', h2'⟩ := h'
  have a1 : r ≤ r' := by
    rcases h1 with e | ⟨k, s, hk, hs, e⟩
    · omega
    · rw [e]; exact h2' k s hk hs
  have a2 : r' ≤ r := by
    rcases h1' with e | ⟨k, s, hk, hs, e⟩
    · omega
    · rw [e]; exact h2 k s hk hs
  omega
theorem MapIs.kept {w w1 : World} {b : Nat} {m : Int → Option Int} (h : MapIs w b m) {row : Option Nat} (hg : w.grownBy w1 row) (hne : row ≠ some b) : MapIs w1 b m := by
  obtain ⟨n, D, h1, h2, h3⟩ := h
  exact ⟨n, D, h1, h2.kept hg (fun e => hne e.symm), h3⟩
theorem grown_setCell (w : World) (b i : Nat) (v : Value) : w.grownBy (w.setCell ⟨b, i, none⟩ v) (some b) := ⟨rfl, rfl, rfl, by simp [World.setCell], fun j hj hne => Below.heap_setCell w ⟨b, i, none⟩ v j (fun e => hne (by rw [e]))⟩
theorem MapIs.lt {w : World} {b : Nat} {m : Int → Option Int} (h : MapIs w b m) : b < w.heap.size := by
  obtain ⟨n, D, h1, h2, h3⟩ := h
  exact h2.lt
/-- What the fresh samples are, while some deliveries are still to come. -/
def PartF (fa fb : S39) (d : List S34) (N : Nat) (left : Lit → Bool) (fr : List Int) : Prop :=
  ∀ j : Nat, j < N → 0 ≤ fr.getD j 0 ∧ fr.getD j 0 ≤ 1073741825 ∧ (fr.getD j 0 = 0 ∨ ∃ k s, arr fb d k = some s ∧ s + 1 = (j : Int) ∧ fr.getD j 0 = carryNext fa fb d k) ∧ ∀ k s, arr fb d k = some s → left (.int .i64 k) = false → s + 1 = (j : Int) → carryNext fa fb d k ≤ fr.getD j 0
/-- Which sample is in use ahead of a slot, plus 1. -/
def usedOf (a b : S39) (d : List S34) : Nat → Int
  | 0 => 0
  | j + 1 => if usedOf a b d j < freshOf a b d j then freshOf a b d j else usedOf a b d j
def ageOf (a b : S39) (d : List S34) (j : Nat) : Int := if usedOf a b d (j + 1) = 0 then -1 else (j : Int) - (a.f4 + (usedOf a b d (j + 1) - 1) * a.f3)
theorem freshOf_bd (a b : S39) (d : List S34) (j : Int) : 0 ≤ freshOf a b d j ∧ freshOf a b d j ≤ 1073741825 := by
  obtain ⟨h0, h1, _⟩ := freshOf_is a b d j
  refine ⟨h0, ?_⟩
  rcases h1 with e | ⟨k, s, _, _, e⟩
  · omega
  · have := carryOf_bd a d (b.f4 + k * b.f3)
    unfold carryNext at e
    omega
theorem usedOf_bd (a b : S39) (d : List S34) (j : Nat) : 0 ≤ usedOf a b d j ∧ usedOf a b d j ≤ 1073741825 := by
  induction j with
  | zero => exact ⟨by unfold usedOf; omega, by unfold usedOf; omega⟩
  | succ j ih =>
    have := freshOf_bd a b d j
    unfold usedOf
    split <;> omega
theorem carryNext_nn (a b : S39) (d : List S34) (k : Int) : 0 ≤ carryNext a b d k := by
  have := carryOf_bd a d (b.f4 + k * b.f3)
  unfold carryNext
  omega
theorem PartF.fresh {fa fb : S39} {d : List S34} {N : Nat} {left : Lit → Bool} {fr : List Int} (h : PartF fa fb d N left fr) (hl : ∀ k, left k = false) (j : Nat) (hj : j < N) : fr.getD j 0 = freshOf fa fb d j := by
  obtain ⟨p1, _, p3, p4⟩ := h j hj
  exact IsFresh.eq (carryNext_nn fa fb d) ⟨p1, p3, fun k s hk hs => p4 k s hk (hl _) hs⟩ (freshOf_is fa fb d j)
/-- The first flow of a loop. -/
def flowA (l : S23) (s : S25) : S39 := ⟨2 * l.f0, l.f1, l.f2, l.f4, l.f5, s.f0⟩
/-- The second flow of a loop. -/
def flowB (l : S23) (s : S25) : S39 := ⟨2 * l.f0 + 1, l.f2, l.f3, l.f4, (l.f5 + s.f0) % l.f4, s.f1⟩
/-- What a loop and a split without a fault are. -/
def rightP (l : S23) (s : S25) : Prop :=
  0 ≤ l.f0 ∧ l.f0 ≤ 127 ∧ (0 ≤ l.f1 ∧ l.f1 < 32) ∧ (0 ≤ l.f2 ∧ l.f2 < 32) ∧ (0 ≤ l.f3 ∧ l.f3 < 32) ∧ 1 ≤ l.f4 ∧ l.f4 ≤ 512 ∧ 0 ≤ l.f5 ∧ l.f5 < l.f4 ∧ 1 ≤ l.f6 ∧ l.f6 ≤ 1024 ∧ l.f1 ≠ l.f2 ∧ l.f3 ≠ l.f2 ∧
    1 ≤ s.f0 ∧ 1 ≤ s.f1 ∧ s.f0 + s.f1 ≤ l.f4 ∧ l.f4 + s.f0 + s.f1 - 1 ≤ l.f6
theorem right_zero {l : S23} {s : S25} (h : loop_right.f l.f0 l.f1 l.f2 l.f3 l.f4 l.f5 l.f6 s.f0 s.f1 = some 0) : rightP l s := by
  unfold loop_right.f loop_fault.f at h
  by_cases c : 0 ≤ l.f0 ∧ l.f0 ≤ 127 ∧ 0 ≤ l.f1 ∧ l.f1 < 32 ∧ 0 ≤ l.f2 ∧ l.f2 < 32 ∧ 0 ≤ l.f3 ∧ l.f3 < 32 ∧ 1 ≤ l.f4 ∧ l.f4 ≤ 512 ∧ 0 ≤ l.f5 ∧ l.f5 < l.f4 ∧ 1 ≤ l.f6 ∧ l.f6 ≤ 1024
  rotate_left
  · rw [if_neg c] at h
    simp at h
  rw [if_pos c] at h
  by_cases d : l.f1 = l.f2 ∨ l.f3 = l.f2
  · rw [if_pos d] at h
    simp at h
  rw [if_neg d, Option.bind_some, if_pos rfl] at h
  unfold loop_fits.f at h
  by_cases d1 : s.f0 ≥ 1
  rotate_left
  · rw [if_neg d1] at h
    simp at h
  by_cases d2 : s.f1 ≥ 1
  rotate_left
  · rw [if_pos d1, if_neg d2] at h
    simp at h
  by_cases d3 : s.f0 ≤ l.f4
  rotate_left
  · rw [if_pos d1, if_pos d2, if_neg d3] at h
    simp at h
  by_cases d4 : s.f1 ≤ l.f4
  rotate_left
  · rw [if_pos d1, if_pos d2, if_pos d3, if_neg d4] at h
    simp at h
  have w1 : wrap64 (s.f0 + s.f1) = s.f0 + s.f1 := by unfold wrap64; omega
  have w2 : wrap64 (l.f4 + s.f0) = l.f4 + s.f0 := by unfold wrap64; omega
  have w3 : wrap64 (l.f4 + s.f0 + s.f1) = l.f4 + s.f0 + s.f1 := by unfold wrap64; omega
  have w4 : wrap64 (l.f4 + s.f0 + s.f1 - 1) = l.f4 + s.f0 + s.f1 - 1 := by unfold wrap64; omega
  rw [if_pos d1, if_pos d2, if_pos d3, if_pos d4, w1] at h
  by_cases d5 : s.f0 + s.f1 ≤ l.f4
  rotate_left
  · rw [if_neg d5] at h
    simp at h
  rw [if_pos d5] at h
  unfold loop_worst.f at h
  rw [w2, w3, w4, Option.bind_some, Option.bind_some] at h
  by_cases d6 : l.f4 + s.f0 + s.f1 - 1 ≤ l.f6
  · unfold rightP
    omega
  · rw [if_neg (by simp [d6])] at h
    simp at h
theorem flows_right {l : S23} {s : S25} (h : rightP l s) : loop_flows.f l.f0 l.f1 l.f2 l.f3 l.f4 l.f5 l.f6 s.f0 s.f1 = some ((flowA l s).f0, (flowA l s).f1, (flowA l s).f2, (flowA l s).f3, (flowA l s).f4, (flowA l s).f5, (flowB l s).f0, (flowB l s).f1, (flowB l s).f2, (flowB l s).f3, (flowB l s).f4, (flowB l s).f5) := by
  unfold rightP at h
  unfold loop_flows.f
  have w1 : wrap64 (2 * l.f0) = 2 * l.f0 := by unfold wrap64; omega
  have w2 : wrap64 (2 * l.f0 + 1) = 2 * l.f0 + 1 := by unfold wrap64; omega
  have w3 : wrap64 (l.f5 + s.f0) = l.f5 + s.f0 := by unfold wrap64; omega
  rw [if_neg (by omega), w1, w2, w3, Int.tmod_eq_emod_of_nonneg (by omega)]
  rfl
theorem alone_zero {f : S39} (h0 : 0 ≤ f.f0 ∧ f.f0 ≤ 255) (h1 : 0 ≤ f.f1 ∧ f.f1 < 32) (h2 : 0 ≤ f.f2 ∧ f.f2 < 32) (h3 : 1 ≤ f.f3 ∧ f.f3 ≤ 512) (h4 : 0 ≤ f.f4 ∧ f.f4 < f.f3) (h5 : 1 ≤ f.f5 ∧ f.f5 ≤ f.f3) (h6 : f.f1 ≠ f.f2) : flowGood f := by
  refine ⟨?_, h3.1, h3.2, h4.1, by omega⟩
  unfold flow_alone.f flow_check.f
  rw [if_neg (by omega), if_neg (by omega), if_neg (by omega), if_neg (by omega), if_neg (by omega), if_neg (by omega), if_neg (by omega), if_neg (by omega), if_neg (by omega), if_neg (by omega), if_neg (by omega)]
  rfl
theorem flowA_good {l : S23} {s : S25} (h : rightP l s) : flowGood (flowA l s) := by
  unfold rightP at h
  unfold flowA
  exact alone_zero (by simp only; omega) (by simp only; omega) (by simp only; omega) (by simp only; omega) (by simp only; omega) (by simp only; omega) (by simp only; omega)
theorem flowB_good {l : S23} {s : S25} (h : rightP l s) : flowGood (flowB l s) := by
  unfold rightP at h
  unfold flowB
  have m0 := Int.emod_nonneg (l.f5 + s.f0) (b := l.f4) (by omega)
  have m1 := Int.emod_lt_of_pos (l.f5 + s.f0) (b := l.f4) (by omega)
  exact alone_zero (by simp only; omega) (by simp only; omega) (by simp only; omega) (by simp only; omega) (by simp only; omega) (by simp only; omega) (by simp only; omega)
/-- The ages in the first slots. -/
def agesOf (l : S23) (s : S25) (d : List S34) (n : Nat) : List Int := (List.range n).map (ageOf (flowA l s) (flowB l s) d)
def loop_ages.f (a0_0 a0_1 a0_2 a0_3 a0_4 a0_5 a0_6 a1_0 a1_1 : Int) (l2 : List S34) (a3 : Int) : Option (List Int) :=
  if l2.length ≤ 1024 ∧ 0 ≤ a3 ∧ a3 ≤ 4096 ∧ loop_right.f a0_0 a0_1 a0_2 a0_3 a0_4 a0_5 a0_6 a1_0 a1_1 = some 0 then some (agesOf ⟨a0_0, a0_1, a0_2, a0_3, a0_4, a0_5, a0_6⟩ ⟨a1_0, a1_1⟩ l2 a3.toNat) else none
set_option maxHeartbeats 8000000 in
set_option maxRecDepth 100000 in
theorem agesCalls (l : S23) (s : S25) (d : List S34) (fa fb : S39) (N : Nat) (A : Option Addr) (c : Nat) (w : World) (hN : N ≤ 4096) (hd : d.length ≤ 1024) (hfa : flowGood fa) (hfb : flowGood fb)
    (hfl : loop_flows.f l.f0 l.f1 l.f2 l.f3 l.f4 l.f5 l.f6 s.f0 s.f1 = some (fa.f0, fa.f1, fa.f2, fa.f3, fa.f4, fa.f5, fb.f0, fb.f1, fb.f2, fb.f3, fb.f4, fb.f5)) (hr : Kd.C k34 w A d.length d) :
    Calls Try.prog 40 #[.agg #[.int .i64 l.f0, .int .i64 l.f1, .int .i64 l.f2, .int .i64 l.f3, .int .i64 l.f4, .int .i64 l.f5, .int .i64 l.f6], .agg #[.int .i64 s.f0, .int .i64 s.f1], .slice A d.length c, .int .i64 (N : Int)] w fun e w' => ∃ v, e = .returned v ∧ Kd.R (Kd.int .i64) 3 w' w.heap.size (fun _ => True) v ((List.range N).map (ageOf fa fb d)) ∧ Below w.heap.size w w' := by
  obtain ⟨M, HMN⟩ : ∃ M : Nat, Aside0 (M = N + 1) := ⟨_, ⟨rfl⟩⟩
  have hmk : ∀ W : World, (Instr.makeSlice 40 (.int .i64 ((N : Int) + 1)) (.int .i64 ((N : Int) + 1))).run Try.prog W = .ok (.slice (some ⟨W.heap.size, 0, none⟩) M M) (W.alloc (.cells (madeCells #[.int .i64 0] M) 3)) := by
    intro W
    have := print_make_int (P := Try.prog) 40 3 (.int .i64 0) 8 Try.underlying40 info3 rfl (by decide) ((N : Int) + 1) (by omega) (by omega) W
    rw [show ((N : Int) + 1).toNat = M by have := HMN.out; omega] at this
    exact this
  have HR := Aside0.mk hr
  have HA := Aside0.mk hfa
  have HBb := Aside0.mk hfb
  have HFL := Aside0.mk hfl
  have HD := Aside0.mk hd
  clear hr hfa hfb hfl hd
  have hN2 : (N : Int) ≤ 4096 := by omega
  have HB0 := Aside0.mk (Below.refl w.heap.size w)
  go_enter Try.func40, Try.ntmps40
  have HMC : Aside0 (madeCells #[Value.int .i64 0] M = ((List.replicate M (0 : Int)).map (Value.int .i64)).toArray) := ⟨by
    apply Array.toList_inj.1
    apply List.ext_getElem
    · simp [madeCells]
    · intro i h1 h2
      simp [madeCells, Nat.mod_one]⟩
  go_upto_region 4 with (first
    | (go_at_call 37; (with_reducible refine (loop_flows.calls l.f0 l.f1 l.f2 l.f3 l.f4 l.f5 l.f6 s.f0 s.f1 _ _ _ _ _ _ _ _ _ _ _ _ _ HFL.out).mono ?_); rintro e w1 ⟨rfl, hb⟩; have HB1 := Aside0.mk (below_step (by repeat (first | exact HB0.out | apply below_alloc)) hb); clear hb)
    | (go_at_call 42; (with_reducible refine (arrivedCalls fa d A c _ HD.out HA.out (Kd.C_below HR.out (by repeat (first | exact HB1.out | apply below_alloc)))).mono ?_); rintro e w2 ⟨b1, rfl, hm1, hlt1, hb⟩; have HM1 := Aside0.mk hm1; have HL1 := Aside0.mk hm1.lt; have HB2 := Aside0.mk (below_step (by repeat (first | exact HB1.out | apply below_alloc)) hb); have HBA2 := Aside0.mk (blk_below (blk_alloc (heap_alloc_new w1 (.cells #[.int .i64 fa.f0, .int .i64 fa.f1, .int .i64 fa.f2, .int .i64 fa.f3, .int .i64 fa.f4, .int .i64 fa.f5] 39 (0, 0))) _) hb); have hbx2 := blk_below (heap_alloc_new (w1.alloc _) (.cells #[.int .i64 fb.f0, .int .i64 fb.f1, .int .i64 fb.f2, .int .i64 fb.f3, .int .i64 fb.f4, .int .i64 fb.f5] 39 (0, 0))) hb; simp only [World.alloc, Array.size_push] at hbx2; have HBB2 := Aside0.mk hbx2; clear hbx2; clear hb hm1 hlt1))
  have hfresh0 : (w2.alloc (.cells (madeCells #[.int .i64 0] M) 3 (0, 0))).heap[w2.heap.size]? = some (.cells ((List.replicate M (0 : Int)).map (Value.int .i64)).toArray 3 (0, 0)) := by
    rw [HMC.out]
    exact heap_alloc_new _ _
  have HFR := Aside0.mk hfresh0
  have HB3 : Aside0 (Below w.heap.size w (w2.alloc (.cells (madeCells #[.int .i64 0] M) 3 (0, 0)))) := ⟨below_alloc HB2.out _⟩
  have HM3 := Aside0.mk (HM1.out.below (below_alloc (Below.refl w2.heap.size w2) (.cells (madeCells #[.int .i64 0] M) 3 (0, 0))))
  have hba3 := blk_alloc HBA2.out (.cells (madeCells #[.int .i64 0] M) 3 (0, 0))
  have hbb3 := blk_alloc HBB2.out (.cells (madeCells #[.int .i64 0] M) 3 (0, 0))
  have HBA3 := Aside0.mk hba3
  have HBB3 := Aside0.mk hbb3
  have hS3 : Aside0 (w2.heap.size < (w2.alloc (.cells (madeCells #[.int .i64 0] M) 3 (0, 0))).heap.size) := ⟨by simp⟩
  clear hfresh0 hba3 hbb3 HM1 HBA2
  generalize w2.alloc (.cells (madeCells #[.int .i64 0] M) 3 (0, 0)) = w3 at *
  have gb0 := (blk_cell HBB3.out 0).trans (rfl : _ = some (Value.int .i64 fb.f0))
  have gb1 := (blk_cell HBB3.out 1).trans (rfl : _ = some (Value.int .i64 fb.f1))
  have gb2 := (blk_cell HBB3.out 2).trans (rfl : _ = some (Value.int .i64 fb.f2))
  have gb3 := (blk_cell HBB3.out 3).trans (rfl : _ = some (Value.int .i64 fb.f3))
  have gb4 := (blk_cell HBB3.out 4).trans (rfl : _ = some (Value.int .i64 fb.f4))
  have gb5 := (blk_cell HBB3.out 5).trans (rfl : _ = some (Value.int .i64 fb.f5))
  go_wp2_with (first
    | (go_at_call 42; (with_reducible refine (arrivedCalls fb d A c _ HD.out HBb.out (Kd.C_below HR.out HB3.out)).mono ?_); rintro e w4 ⟨b2, rfl, hm2, hlt2, hb4⟩; obtain ⟨n, D, hn, hown, hhas, hatk, hbd⟩ := hm2; have HF := Aside0.mk (And.intro hhas (And.intro hatk hbd)); have HB4 := Aside0.mk hb4; have HLT2 := Aside0.mk hlt2; clear hhas hatk hbd hb4 hlt2 gb0 gb1 gb2 gb3 gb4 gb5)
    | (at_range; refine wpList_range_own _ rfl _ 72 rfl 3 3 mapLaw Try.underlying72 _ b2 n _ rfl hown ?_; intro w0 hrg0 hg0 hs0))
  go_frame
  have HS2 := Aside0.mk hS3.out
  have HS4 : Aside0 (w3.heap.size ≤ w4.heap.size) := ⟨HB4.out.size⟩
  have HSb : Aside0 (w1.heap.size + 1 < w2.heap.size) := ⟨Nat.lt_of_lt_of_le (blk_lt HBB2.out) (Nat.le_refl _)⟩
  go_loopw [13] (fun _ wr => ∃ (left : Lit → Bool) (cnt : Nat) (fr : List Int), wr.ranges Try.prog 3 (plainElem Try.prog 3) b2 w4.heap.size n D left cnt ∧ Aside0 (fr.length = M) ∧
      Aside0 (wr.heap[w2.heap.size]? = some (.cells (fr.map (Value.int .i64)).toArray 3 (0, 0))) ∧ Aside0 (PartF fa fb d N left fr) ∧ Aside0 (MapIs wr b1 (arr fa d)) ∧
      Aside0 (wr.heap[w1.heap.size]? = some (.cells #[.int .i64 fa.f0, .int .i64 fa.f1, .int .i64 fa.f2, .int .i64 fa.f3, .int .i64 fa.f4, .int .i64 fa.f5] 39 (0, 0))) ∧
      Aside0 (wr.heap[w1.heap.size + 1]? = some (.cells #[.int .i64 fb.f0, .int .i64 fb.f1, .int .i64 fb.f2, .int .i64 fb.f3, .int .i64 fb.f4, .int .i64 fb.f5] 39 (0, 0))) ∧ Aside0 (Below w.heap.size w wr))
    (fun _ wr => wr.rangeLeft b2 w4.heap.size)
  case atStart =>
    refine ⟨_, _, List.replicate M 0, hrg0, ⟨by simp⟩, ⟨blk_grown (blk_below HFR.out HB4.out) hg0 (by simp)⟩, ⟨fun j hj => ?_⟩, ⟨(HM3.out.below HB4.out).kept hg0 (by simp)⟩, ⟨blk_grown (blk_below HBA3.out HB4.out) hg0 (by simp)⟩, ⟨blk_grown (blk_below HBB3.out HB4.out) hg0 (by simp)⟩, ⟨pw_below_grown (below_step HB3.out HB4.out) _ (below_step HB3.out HB4.out).size hg0 (fun k hk => by cases hk)⟩⟩
    have h0 : (List.replicate M (0 : Int)).getD j 0 = 0 := by
      rw [List.getD_eq_getElem?_getD, List.getElem?_replicate]
      split <;> rfl
    rw [h0]
    refine ⟨by omega, by omega, .inl rfl, fun k s hk hl _ => ?_⟩
    rw [HF.out.1 k, hk] at hl
    cases hl
  case round =>
    obtain ⟨left, cnt, fr, hrg, HLN, HFB, HPF, HMB, HBA, HBB, HBW⟩ := hrel
    go_wp2_with (first
      | (at_next; refine wpList_next_ranges_ii _ rfl _ rfl 3 3 .i64 .i64 mapLaw Try.underlying3 Try.underlying3 b2 w4.heap.size n _ _ _ rfl hrg ?_ ?_))
    · intro hc0 hl0
      have HFS := Aside0.mk (fun (j : Nat) (hj : j < N) => HPF.out.fresh (fun k => hl0 _) j hj)
      go_wp2
      go_loopg [15, 16, 60] N (fun kq v11 v12 v13 w' => ∃ (i : Nat), v13 = .int .i64 (i : Int) ∧ v12 = .int .i64 (usedOf fa fb d i) ∧ Aside0 (kq + i = N) ∧ Aside0 (Kd.R (Kd.int .i64) 3 w' w.heap.size (fun k => w2.heap.size < k) v11 ((List.range i).map (ageOf fa fb d))) ∧
        Aside0 (w'.heap[w2.heap.size]? = some (.cells (fr.map (Value.int .i64)).toArray 3 (0, 0))) ∧
        Aside0 (w'.heap[w1.heap.size]? = some (.cells #[.int .i64 fa.f0, .int .i64 fa.f1, .int .i64 fa.f2, .int .i64 fa.f3, .int .i64 fa.f4, .int .i64 fa.f5] 39 (0, 0))) ∧ Aside0 (Below w.heap.size w w'))
      case atStart => exact ⟨0, by simp, rfl, ⟨by simp⟩, ⟨Kd.R_nil _ _ _ _ _⟩, HFB, HBA, HBW⟩
      case round =>
        obtain ⟨i, rfl, rfl, HK, HO, HFB1, HBA1, HBW1⟩ := hrel
        by_cases hlt : (i : Int) < (N : Int)
        · have e1 : decide ((i : Int) < (N : Int)) = true := decide_eq_true hlt
          have e2 : decide (i < N) = true := decide_eq_true (by omega)
          obtain ⟨Ao, co, eo⟩ := Kd.R_slice HO.out
          subst eo
          have hi0 : (0 : Int) ≤ (i : Int) := by omega
          have hu1 := usedOf_bd fa fb d i
          have hf1 := freshOf_bd fa fb d i
          have hu2 := usedOf_bd fa fb d (i + 1)
          obtain ⟨f, HF1⟩ : ∃ f : Int, Aside0 (freshOf fa fb d i = f) := ⟨_, ⟨rfl⟩⟩
          obtain ⟨u, HU⟩ : ∃ u : Int, Aside0 (usedOf fa fb d i = u) := ⟨_, ⟨rfl⟩⟩
          have HU1 : Aside0 (usedOf fa fb d (i + 1) = if u < f then f else u) := ⟨by rw [show usedOf fa fb d (i + 1) = if usedOf fa fb d i < freshOf fa fb d i then freshOf fa fb d i else usedOf fa fb d i from rfl, HU.out, HF1.out]⟩
          rw [HF1.out] at hf1
          rw [HU.out] at hu1 ⊢
          rw [HU1.out] at hu2
          have gf : ((fr.map (Value.int .i64)).toArray)[i]? = some (Value.int .i64 f) := by
            have := HFS.out i (by omega)
            rw [HF1.out] at this
            rw [List.getElem?_toArray, List.getElem?_map]
            have hl := HLN.out
            have hMN := HMN.out
            rw [List.getD_eq_getElem?_getD, List.getElem?_eq_getElem (by omega), Option.getD_some] at this
            rw [List.getElem?_eq_getElem (by omega), this]
            rfl
          have gF := (blk_cell HFB1.out i).trans gf
          clear gf
          have q0 : (i : Int) < (M : Int) := by have := HMN.out; omega
          have hiN : (i : Int) ≤ 4096 := by omega
          have HT1 : Aside0 (i < N) := ⟨by omega⟩
          have WR : Aside0 ((i : Int) + 1 = ((i + 1 : Nat) : Int)) := ⟨by omega⟩
          have HN1 : Aside0 ((List.range i).map (ageOf fa fb d) ++ [ageOf fa fb d i] = (List.range (i + 1)).map (ageOf fa fb d)) := ⟨by rw [List.range_succ, List.map_append]; rfl⟩
          have LM : Aside0 (((List.range i).map (ageOf fa fb d)).length = i) := ⟨by rw [List.length_map, List.length_range]⟩
          clear hlt
          generalize (List.range i).map (ageOf fa fb d) = xs at *
          go_upto_region 15 with (fail)
          obtain ⟨m, HM⟩ : ∃ m : Int, Aside0 (m = if u < f then f else u) := ⟨_, ⟨rfl⟩⟩
          rw [← HM.out] at hu2 ⊢
          by_cases hm0 : m = 0
          · have e3 : (m == 0) = true := beq_iff_eq.2 hm0
            have HV : Aside0 (ageOf fa fb d i = -1) := ⟨by unfold ageOf; rw [HU1.out, ← HM.out, if_pos hm0]⟩
            rw [HV.out] at HN1
            go_wp2_with ((with_reducible refine gate_builtin (b := .append) (xs := #[.tmp 71, .tmp 72]) rfl ?_); at_builtin; refine Kd.R_append (Kd.int .i64) (w0 := w) w.heap.size rfl (.tmp 71) (.tmp 72) 40 3 (.int .i64 0) 8 rfl Try.underlying40 info3 rfl (by decide) (by omega) (.slice Ao xs.length co) xs (-1) [.int .i64 (-1)] (fun k => w2.heap.size < k) (fun _ => False) rfl rfl ?aP (fun _ hk => hk.elim) ?aF ?aO ?aB ?aS ?aL ?_; (case aP => exact rfl); (case aB => exact HBW1.out); (case aF => exact (fun k hk => Nat.lt_of_lt_of_le (blk_lt HFB1.out) hk)); (case aO => exact HO.out); (case aS => exact (HBW1.out).size); (case aL => have := LM.out; omega); intro v1 w8 ho hb hg hat; rw [HN1.out] at ho; have HFB2 := Aside0.mk (blk_grown HFB1.out hg (fun e => Nat.lt_irrefl _ (show w2.heap.size < w2.heap.size from HO.out.1 _ e.symm))); have HBA2 := Aside0.mk (blk_grown HBA1.out hg (fun e => by have h9 : w2.heap.size < w1.heap.size := HO.out.1 _ e.symm; have := HSb.out; omega)); have HO2 := Aside0.mk ho; have HBW2 := Aside0.mk hb; clear ho hb hg hat)
            go_roundg (gk - 1)
            case measure => have := HK.out; have := HT1.out; omega
            case rel => exact ⟨i + 1, congrArg (Value.int .i64) WR.out, by rw [HU1.out, ← HM.out] <;> (try rw [hm0]), ⟨by have := HK.out; have := HT1.out; omega⟩, HO2, HFB2, HBA2, HBW2⟩
          · have e3 : (m == 0) = false := beq_eq_false_iff_ne.2 hm0
            obtain ⟨X, HX⟩ : ∃ X : Int, Aside0 (fa.f4 + (m - 1) * fa.f3 = X) := ⟨_, ⟨rfl⟩⟩
            have hX : 0 ≤ X ∧ X ≤ 1099511627776 := by
              obtain ⟨_, h2, h3, h4, h5⟩ := HA.out
              have hm : 0 ≤ (m - 1) * fa.f3 ∧ (m - 1) * fa.f3 ≤ 1073741824 * 512 := ⟨Int.mul_nonneg (by omega) (by omega), Int.mul_le_mul (by omega) h3 (by omega) (by omega)⟩
              have := HX.out
              omega
            have HV : Aside0 (ageOf fa fb d i = (i : Int) - X) := ⟨by unfold ageOf; rw [HU1.out, ← HM.out, if_neg hm0, HX.out]⟩
            rw [HV.out] at HN1
            have hrel := release_good HA.out (n := m - 1) (by omega) (by omega)
            rw [HX.out] at hrel
            have HREL := Aside0.mk hrel
            clear hrel
            have ga0 := (blk_cell HBA1.out 0).trans (rfl : _ = some (Value.int .i64 fa.f0))
            have ga1 := (blk_cell HBA1.out 1).trans (rfl : _ = some (Value.int .i64 fa.f1))
            have ga2 := (blk_cell HBA1.out 2).trans (rfl : _ = some (Value.int .i64 fa.f2))
            have ga3 := (blk_cell HBA1.out 3).trans (rfl : _ = some (Value.int .i64 fa.f3))
            have ga4 := (blk_cell HBA1.out 4).trans (rfl : _ = some (Value.int .i64 fa.f4))
            have ga5 := (blk_cell HBA1.out 5).trans (rfl : _ = some (Value.int .i64 fa.f5))
            have ew : IntKind.i64.wrap (m - 1) = m - 1 := by
              rw [IntKind.wrap_i64]
              omega
            have ec : IntKind.i64.wrap ((i : Int) - X) = (i : Int) - X := by
              rw [IntKind.wrap_i64]
              omega
            go_wp2_with (first | (go_at_call 43; (with_reducible refine (loop_release.calls _ _ _ _ _ _ (m - 1) _ _ HREL.out).mono ?_); rintro e w6 ⟨rfl, hb6⟩; have HBW6 := Aside0.mk (below_step HBW1.out hb6); have HFB6 := Aside0.mk (blk_below HFB1.out hb6); have HBA6 := Aside0.mk (blk_below HBA1.out hb6); have HO6 := Aside0.mk (Kd.R_below HO.out hb6); clear hb6) | ((with_reducible refine gate_builtin (b := .append) (xs := #[.tmp 74, .tmp 81]) rfl ?_); at_builtin; refine Kd.R_append (Kd.int .i64) (w0 := w) w.heap.size rfl (.tmp 74) (.tmp 81) 40 3 (.int .i64 0) 8 rfl Try.underlying40 info3 rfl (by decide) (by omega) (.slice Ao xs.length co) xs ((i : Int) - X) [.int .i64 ((i : Int) - X)] (fun k => w2.heap.size < k) (fun _ => False) rfl rfl ?aP (fun _ hk => hk.elim) ?aF ?aO ?aB ?aS ?aL ?_; (case aP => exact rfl); (case aB => exact HBW6.out); (case aF => exact (fun k hk => Nat.lt_of_lt_of_le (blk_lt HFB6.out) hk)); (case aO => exact HO6.out); (case aS => exact (HBW6.out).size); (case aL => have := LM.out; omega); intro v1 w8 ho hb hg hat; rw [HN1.out] at ho; have HFB2 := Aside0.mk (blk_grown HFB6.out hg (fun e => Nat.lt_irrefl _ (show w2.heap.size < w2.heap.size from HO.out.1 _ e.symm))); have HBA2 := Aside0.mk (blk_grown HBA6.out hg (fun e => by have h9 : w2.heap.size < w1.heap.size := HO.out.1 _ e.symm; have := HSb.out; omega)); have HO2 := Aside0.mk ho; have HBW2 := Aside0.mk hb; clear ho hb hg hat))
            go_roundg (gk - 1)
            case measure => have := HK.out; have := HT1.out; omega
            case rel => exact ⟨i + 1, congrArg (Value.int .i64) WR.out, by rw [HU1.out, ← HM.out] <;> (try rw [hm0]), ⟨by have := HK.out; have := HT1.out; omega⟩, HO2, HFB2, HBA2, HBW2⟩
        · have e1 : decide ((i : Int) < (N : Int)) = false := decide_eq_false hlt
          have e2 : decide (i < N) = false := decide_eq_false (by omega)
          have HE : Aside0 (i = N) := ⟨by have := HK.out; omega⟩
          clear hlt
          go_wp2
          go_ret
          exact ⟨_, rfl, Kd.R_mono (by rw [← HE.out]; exact HO.out) (fun _ _ => trivial), HBW1.out⟩
    · intro x c w5 cnt1 hwx hwc hlx hat hrg1 hlt hg1 hs1 hen
      have hmx : arr fb d x = some c := by
        have hh := HF.out.1 x
        cases hmx : arr fb d x with
        | some s =>
          have := (hat (.lit (.int .i64 0))).symm.trans (HF.out.2.1 x s hmx (.lit (.int .i64 0)))
          injection this with this
          injection this with _ this
          rw [this]
        | none =>
          rw [hmx] at hh
          exact absurd ((Maps.atKey_of_not_has hh (.lit (.int .i64 (c + 1)))).symm.trans (hat _)) (fun h => by injection h with h; injection h with _ h; omega)
      have hbx := arr_bd hmx
      have hstr : ∀ k, (left (.int .i64 k) && !(Lit.int .i64 k).sameKey (.int .i64 x)) = false → k = x ∨ left (.int .i64 k) = false := fun k h => by
        by_cases hkx : k = x
        · exact .inl hkx
        · rw [Maps.sameKey_ne (fun e => hkx (by injection e))] at h
          exact .inr (by simpa using h)
      have HX := Aside0.mk (And.intro hmx hstr)
      have HFB5 := Aside0.mk (blk_grown HFB.out hg1 (by have := HS2.out; have := HS4.out; simp; omega))
      have HMB5 := Aside0.mk (HMB.out.kept hg1 (by have := HS2.out; have := HS4.out; have := HL1.out; simp; omega))
      have HBA5 := Aside0.mk (blk_grown HBA.out hg1 (by have := HS2.out; have := HS4.out; have := HSb.out; simp; omega))
      have HBB5 := Aside0.mk (blk_grown HBB.out hg1 (by have := HS2.out; have := HS4.out; have := HSb.out; simp; omega))
      have HBW5 : Aside0 (Below w.heap.size w w5) := ⟨pw_below_grown HBW.out _ HBW.out.size hg1 (fun k hk => by injection hk with hk; have := (below_step HB3.out HB4.out).size; omega)⟩
      clear hmx hstr
      obtain ⟨cn, rfl⟩ := Int.eq_ofNat_of_zero_le hbx.2.2.1
      by_cases hca : (cn : Int) + 1 < (N : Int)
      · go_upto_region 8 with (fail)
        obtain ⟨cc, HCC⟩ : ∃ cc : Int, Aside0 (carryOf fa d (fb.f4 + x * fb.f3) = cc) := ⟨_, ⟨rfl⟩⟩
        have hccb := carryOf_bd fa d (fb.f4 + x * fb.f3)
        rw [HCC.out] at hccb
        obtain ⟨v, HV⟩ : ∃ v : Int, Aside0 (fr.getD (cn + 1) 0 = v) := ⟨_, ⟨rfl⟩⟩
        have hv : 0 ≤ v ∧ v ≤ 1073741825 := by
          have := HPF.out (cn + 1) (by omega)
          rw [HV.out] at this
          exact ⟨this.1, this.2.1⟩
        have hrel := release_good HBb.out (n := x) (by omega) (by omega)
        have q0 : (cn : Int) + 1 < (M : Int) := by have := HMN.out; omega
        have p0 : (0 : Int) ≤ (cn : Int) + 1 := by omega
        have e1 : ((cn : Int) + 1).toNat = cn + 1 := by omega
        have ew : IntKind.i64.wrap ((cn : Int) + 1) = (cn : Int) + 1 := by
          rw [IntKind.wrap_i64]
          omega
        have ec : IntKind.i64.wrap (cc + 1) = cc + 1 := by
          rw [IntKind.wrap_i64]
          omega
        have gF : w5.cell? ⟨w2.heap.size, cn + 1, none⟩ = some (.int .i64 v) := by
          rw [blk_cell HFB5.out, List.getElem?_toArray, List.getElem?_map]
          have hl := HLN.out
          have := HV.out
          rw [List.getD_eq_getElem?_getD, List.getElem?_eq_getElem (by omega), Option.getD_some] at this
          rw [List.getElem?_eq_getElem (by omega), this]
          rfl
        have gb0 := (blk_cell HBB5.out 0).trans (rfl : _ = some (Value.int .i64 fb.f0))
        have gb1 := (blk_cell HBB5.out 1).trans (rfl : _ = some (Value.int .i64 fb.f1))
        have gb2 := (blk_cell HBB5.out 2).trans (rfl : _ = some (Value.int .i64 fb.f2))
        have gb3 := (blk_cell HBB5.out 3).trans (rfl : _ = some (Value.int .i64 fb.f3))
        have gb4 := (blk_cell HBB5.out 4).trans (rfl : _ = some (Value.int .i64 fb.f4))
        have gb5 := (blk_cell HBB5.out 5).trans (rfl : _ = some (Value.int .i64 fb.f5))
        go_region_law (go_simp; first
          | (go_at_call 43; (with_reducible refine (loop_release.calls _ _ _ _ _ _ x _ _ hrel).mono ?_); rintro e w6 ⟨rfl, hb⟩; have hb6 : Below w5.heap.size w5 w6 := (by refine below_then ?_ ?_ hb; (repeat (first | exact Below.refl _ _ | apply pw_below_drewN | apply below_drew1)); exact Nat.le_refl _); clear hb; have gz6 := blk_frozen (blk_below HFB5.out hb6) (cn + 1); have gF6 := pw_cell_below hb6 gF; have gg0 := pw_cell_below hb6 gb0)
          | (go_at_call 41; (with_reducible refine (carriesCalls (arr fa d) b1 _ _ (HMB5.out.below (by repeat (first | exact hb6 | apply pw_below_drewN | apply below_drew1)))).mono ?_); rintro e w7 ⟨rc, rfl, hic, hb⟩; obtain rfl : rc = cc := hic.eq.trans HCC.out; have hb7 : Below w5.heap.size w5 w7 := (below_step (by repeat (first | exact hb6 | apply pw_below_drewN | apply below_drew1)) hb); clear hb; have gz7 := blk_frozen (blk_below HFB5.out hb7) (cn + 1); have gF7 := pw_cell_below hb7 gF))
        all_goals
          obtain ⟨m, HMm⟩ : ∃ m : Int, Aside0 (m = (if v < rc + 1 then rc + 1 else v)) := ⟨_, ⟨rfl⟩⟩
          rw [← HMm.out]
          have hset := blk_set (blk_below HFB5.out hb7) (cn + 1) (.int .i64 m)
          rw [show ((fr.map (Value.int .i64)).toArray.setIfInBounds (cn + 1) (.int .i64 m)) = ((fr.set (cn + 1) m).map (Value.int .i64)).toArray by simp] at hset
          have HFB8 := Aside0.mk hset
          have hg8 := grown_setCell w7 w2.heap.size (cn + 1) (.int .i64 m)
          have HR8 := Aside0.mk ((hrg1.kept (grown_of_below hb7 none) (by simp) (by simp)).kept hg8 (by have := HS2.out; have := HLT2.out; simp; omega) (by have := HS2.out; have := HS4.out; simp; omega))
          have HMB8 := Aside0.mk ((HMB5.out.below hb7).kept hg8 (by have := HL1.out; simp; omega))
          have HBA8 := Aside0.mk (blk_far (blk_below HBA5.out hb7) (p := ⟨w2.heap.size, cn + 1, none⟩) (by have := HSb.out; simp; omega) (.int .i64 m))
          have HBB8 := Aside0.mk (blk_far (blk_below HBB5.out hb7) (p := ⟨w2.heap.size, cn + 1, none⟩) (by have := HSb.out; simp; omega) (.int .i64 m))
          have HBW8 := Aside0.mk (Below.setCell (p := ⟨w2.heap.size, cn + 1, none⟩) (below_step HBW5.out hb7) HB2.out.size (.int .i64 m))
          clear hset hg8 gF gF6 gF7 gz6 gz7 gb0 gb1 gb2 gb3 gb4 gb5 gg0
          generalize w7.setCell ⟨w2.heap.size, cn + 1, none⟩ (.int .i64 m) = w8 at *
          go_wp2
          go_roundw
          case measure => rw [HR8.out.left_eq, hrg.left_eq]; exact hlt
          case rel =>
            refine ⟨_, cnt1, fr.set (cn + 1) m, HR8.out, ⟨by rw [List.length_set]; exact HLN.out⟩, HFB8, ⟨fun j hj => ?_⟩, HMB8, HBA8, HBB8, HBW8⟩
            obtain ⟨p1, p2, p3, p4⟩ := HPF.out j hj
            have hm := HMm.out
            have hlen := HLN.out
            have hMN := HMN.out
            have hcn : carryNext fa fb d x = rc + 1 := by unfold carryNext; rw [HCC.out]
            by_cases hjc : j = cn + 1
            · subst hjc
              have hget : (fr.set (cn + 1) m).getD (cn + 1) 0 = m := by
                rw [List.getD_eq_getElem?_getD, List.getElem?_set_self (by omega)]
                rfl
              rw [hget]
              rw [HV.out] at p3 p4
              refine ⟨by rw [hm]; split <;> omega, by rw [hm]; split <;> omega, ?_, fun k s hk hl hs => (HX.out.2 k hl).elim (fun h => by subst h; rw [hcn, hm]; split <;> omega) (fun h => by have := p4 k s hk h hs; rw [hm]; split <;> omega)⟩
              by_cases hvr : v < rc + 1
              · rw [if_pos hvr] at hm
                exact .inr ⟨x, cn, HX.out.1, by omega, by rw [hm, hcn]⟩
              · rw [if_neg hvr] at hm
                rw [hm]
                exact p3
            · have hget : (fr.set (cn + 1) m).getD j 0 = fr.getD j 0 := by
                rw [List.getD_eq_getElem?_getD, List.getElem?_set_ne (by omega), ← List.getD_eq_getElem?_getD]
              rw [hget]
              refine ⟨p1, p2, p3, fun k s hk hl hs => (HX.out.2 k hl).elim (fun h => ?_) (fun h => p4 k s hk h hs)⟩
              subst h
              rw [HX.out.1] at hk
              injection hk with hk
              omega
      · go_wp2
        go_roundw
        case rel =>
          refine ⟨_, cnt1, fr, hrg1, HLN, HFB5, ⟨fun j hj => ?_⟩, HMB5, HBA5, HBB5, HBW5⟩
          obtain ⟨p1, p2, p3, p4⟩ := HPF.out j hj
          refine ⟨p1, p2, p3, fun k s hk hl hs => (HX.out.2 k hl).elim (fun h => ?_) (fun h => p4 k s hk h hs)⟩
          subst h
          rw [HX.out.1] at hk
          injection hk with hk
          omega
        case measure => rw [hrg1.left_eq, hrg.left_eq]; exact hlt
set_option maxHeartbeats 8000000 in
set_option maxRecDepth 100000 in
theorem loop_ages.calls (a0_0 : Int) (a0_1 : Int) (a0_2 : Int) (a0_3 : Int) (a0_4 : Int) (a0_5 : Int) (a0_6 : Int) (a1_0 : Int) (a1_1 : Int) (A2 : Option Addr) (c2 : Nat) (l2 : List (S34)) (a3 : Int) (r : List Int) (w : World) (hr2 : Kd.C k34 w A2 l2.length l2) (hc2 : l2.length ≤ c2) (h : loop_ages.f a0_0 a0_1 a0_2 a0_3 a0_4 a0_5 a0_6 a1_0 a1_1 l2 a3 = some r) :
    Calls Try.prog 40 #[.agg #[.int .i64 a0_0, .int .i64 a0_1, .int .i64 a0_2, .int .i64 a0_3, .int .i64 a0_4, .int .i64 a0_5, .int .i64 a0_6], .agg #[.int .i64 a1_0, .int .i64 a1_1], .slice A2 l2.length c2, .int .i64 a3] w fun e w' => ∃ v0_ : Value, e = .returned (v0_) ∧ Kd.R (Kd.int .i64) 3 w' w.heap.size (fun _ => True) v0_ r ∧ Below w.heap.size w w' := by
  unfold loop_ages.f at h
  by_cases q : l2.length ≤ 1024 ∧ 0 ≤ a3 ∧ a3 ≤ 4096 ∧ loop_right.f a0_0 a0_1 a0_2 a0_3 a0_4 a0_5 a0_6 a1_0 a1_1 = some 0
  · rw [if_pos q] at h
    obtain ⟨q1, q2, q3, q4⟩ := q
    have h := Option.some.inj h
    have hR := right_zero (l := ⟨a0_0, a0_1, a0_2, a0_3, a0_4, a0_5, a0_6⟩) (s := ⟨a1_0, a1_1⟩) q4
    have e3 : ((a3.toNat : Nat) : Int) = a3 := by omega
    have := agesCalls ⟨a0_0, a0_1, a0_2, a0_3, a0_4, a0_5, a0_6⟩ ⟨a1_0, a1_1⟩ l2 (flowA ⟨a0_0, a0_1, a0_2, a0_3, a0_4, a0_5, a0_6⟩ ⟨a1_0, a1_1⟩) (flowB ⟨a0_0, a0_1, a0_2, a0_3, a0_4, a0_5, a0_6⟩ ⟨a1_0, a1_1⟩) a3.toNat A2 c2 w (by omega) q1 (flowA_good hR) (flowB_good hR) (flows_right hR) hr2
    rw [e3] at this
    refine this.mono fun e w' hh => ?_
    obtain ⟨v, he, hv, hb⟩ := hh
    exact ⟨v, he, by rw [← h]; exact hv, hb⟩
  · rw [if_neg q] at h
    cases h

end Go.Proofs.Ytnjljajopdpjjaa.PX
