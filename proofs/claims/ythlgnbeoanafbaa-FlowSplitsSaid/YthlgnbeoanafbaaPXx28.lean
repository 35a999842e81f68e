-- Written by wip/xprint.py, a program of this claim's own, over the kit's print program. Lean checks it.
import Derived.Test.YthlgnbeoanafbaaPXx0
import Derived.Test.YthlgnbeoanafbaaPXx3
import Derived.Test.YthlgnbeoanafbaaPXx5
import Derived.Test.YthlgnbeoanafbaaPXx13
namespace Go.Proofs.Ythlgnbeoanafbaa.PX
open Go.RowKit Go.Proofs.YthlgnbeoanafbaaW.PrintWords Go.Proofs.YthlgnbeoanafbaaW.PrintLast Go.Proofs.YthlgnbeoanafbaaW.PrintMore
attribute [local go_sem] max2_int min2_int max_two min_two max_three min_three max_four min_four   -- for this text's walks alone
set_option linter.unusedVariables false
set_option linter.unusedSimpArgs false

/-! ### flow_Frames: function 24 -/
def flow_Frames.f (a0_0 : Int) (a0_1 : Int) (a0_2 : Int) (a0_3 : Int) (a0_4 : Int) (a0_5 : Int) (a1 : Int) (a2 : Int) : Option (List Int × Int) := (flow_alone.f a0_0 a0_1 a0_2 a0_3 a0_4 a0_5).bind fun t => if t = 0 then (if a1 < 0 then some ([], 2) else if a1 > a2 then some ([], 2) else if a2 > 1099511627776 then some ([], 2) else if aheadOf a0_4 a0_3 a2 - aheadOf a0_4 a0_3 a1 > 1024 then some ([], 8) else some ((List.range (aheadOf a0_4 a0_3 a2 - aheadOf a0_4 a0_3 a1).toNat).map (fun i : Nat => aheadOf a0_4 a0_3 a1 + (i : Int)), 0)) else some ([], 1)
theorem flow_alone_zero {x0 x1 x2 x3 x4 x5 : Int} (h : flow_alone.f x0 x1 x2 x3 x4 x5 = some 0) : flowOk ⟨x0, x1, x2, x3, x4, x5⟩ := by
  unfold flow_alone.f at h
  obtain ⟨t, ht, h⟩ := Option.bind_eq_some_iff.mp h
  obtain rfl := Option.some.inj h
  exact flow_check_zero (x := ⟨x0, x1, x2, x3, x4, x5⟩) ht
theorem aheadOf_le {phase period a b : Int} (h4 : 1 ≤ period) (h : a ≤ b) : aheadOf phase period a ≤ aheadOf phase period b := by
  unfold aheadOf
  refine Int.ediv_le_ediv (by omega) ?_
  split <;> split <;> omega
set_option maxHeartbeats 8000000 in
set_option maxRecDepth 100000 in
theorem flow_Frames.calls (a0_0 : Int) (a0_1 : Int) (a0_2 : Int) (a0_3 : Int) (a0_4 : Int) (a0_5 : Int) (a1 : Int) (a2 : Int) (r1 : List Int) (r2 : Int) (w : World) (h : flow_Frames.f a0_0 a0_1 a0_2 a0_3 a0_4 a0_5 a1 a2 = some (r1, r2)) :
    Calls Try.prog 24 #[.agg #[.int .i64 a0_0, .int .i64 a0_1, .int .i64 a0_2, .int .i64 a0_3, .int .i64 a0_4, .int .i64 a0_5], .int .i64 a1, .int .i64 a2] w fun e w' => ∃ v0_ : Value, e = .returned (.tuple #[v0_, .int .i64 r2]) ∧ Kd.R (Kd.int .i64) 3 w' w.heap.size (fun _ => True) v0_ r1 ∧ Below w.heap.size w w' := by
  obtain ⟨t, ht, h⟩ := Option.bind_eq_some_iff.mp h
  have HT := Aside0.mk ht
  have hu := Try.underlying23
  have hmf : ∀ (fn : Fn) (first cap : Array Value) (w : World), (Instr.makeFunc fn first cap).run Try.prog w = .ok (.func fn first cap) w := fun _ _ _ _ => rfl
  have hbk : (w.alloc (.cells #[.int .i64 a0_0, .int .i64 a0_1, .int .i64 a0_2, .int .i64 a0_3, .int .i64 a0_4, .int .i64 a0_5] 23)).heap[w.heap.size]? = some (.cells #[.int .i64 a0_0, .int .i64 a0_1, .int .i64 a0_2, .int .i64 a0_3, .int .i64 a0_4, .int .i64 a0_5] 23 (0, 0)) := by simpa using heap_alloc_new w _
  have BK := Aside0.mk hbk
  clear hbk
  by_cases h2 : t = 0
  · subst h2
    rw [if_pos rfl] at h
    have hok := flow_alone_zero ht
    unfold flowOk at hok
    obtain ⟨-, -, -, -, -, -, k1, k2, k3, k4, -, -, -⟩ := hok
    simp only at k1 k2 k3 k4
    clear ht
    by_cases c1 : a1 < 0
    · rw [if_pos c1] at h
      simp only [Option.some.injEq, Prod.mk.injEq] at h
      obtain ⟨rfl, rfl⟩ := h
      have b1 : decide (a1 < 0) = true := decide_eq_true c1
      clear c1
      go_enter Try.func24, Try.ntmps24
      go_wp2_with (go_at_call 32; (with_reducible refine (flow_alone.calls a0_0 a0_1 a0_2 a0_3 a0_4 a0_5 0 _ HT.out).mono ?_); rintro e w1 ⟨rfl, hb⟩; have HB := Aside0.mk (below_step (below_alloc (Below.refl _ _) _) hb); clear hb)
      go_ret2
      exact ⟨_, rfl, Kd.R_nil _ _ _ _ _, HB.out⟩
    · rw [if_neg c1] at h
      have b1 : decide (a1 < 0) = false := decide_eq_false c1
      by_cases c2 : a1 > a2
      · rw [if_pos c2] at h
        simp only [Option.some.injEq, Prod.mk.injEq] at h
        obtain ⟨rfl, rfl⟩ := h
        have b2 : decide (a2 < a1) = true := decide_eq_true c2
        clear c1 c2
        go_enter Try.func24, Try.ntmps24
        go_wp2_with (go_at_call 32; (with_reducible refine (flow_alone.calls a0_0 a0_1 a0_2 a0_3 a0_4 a0_5 0 _ HT.out).mono ?_); rintro e w1 ⟨rfl, hb⟩; have HB := Aside0.mk (below_step (below_alloc (Below.refl _ _) _) hb); clear hb)
        go_ret2
        exact ⟨_, rfl, Kd.R_nil _ _ _ _ _, HB.out⟩
      · rw [if_neg c2] at h
        have b2 : decide (a2 < a1) = false := decide_eq_false c2
        by_cases c3 : a2 > 1099511627776
        · rw [if_pos c3] at h
          simp only [Option.some.injEq, Prod.mk.injEq] at h
          obtain ⟨rfl, rfl⟩ := h
          have b3 : decide (1099511627776 < a2) = true := decide_eq_true c3
          clear c1 c2 c3
          go_enter Try.func24, Try.ntmps24
          go_wp2_with (go_at_call 32; (with_reducible refine (flow_alone.calls a0_0 a0_1 a0_2 a0_3 a0_4 a0_5 0 _ HT.out).mono ?_); rintro e w1 ⟨rfl, hb⟩; have HB := Aside0.mk (below_step (below_alloc (Below.refl _ _) _) hb); clear hb)
          go_ret2
          exact ⟨_, rfl, Kd.R_nil _ _ _ _ _, HB.out⟩
        · rw [if_neg c3] at h
          have b3 : decide (1099511627776 < a2) = false := decide_eq_false c3
          have AH := fun (slot : Int) (h0 : 0 ≤ slot) (h1 : slot ≤ 1099511627776) (W : World) (hb : W.heap[w.heap.size]? = some (.cells #[.int .i64 a0_0, .int .i64 a0_1, .int .i64 a0_2, .int .i64 a0_3, .int .i64 a0_4, .int .i64 a0_5] 23 (0, 0))) => framesAhead ⟨a0_0, a0_1, a0_2, a0_3, a0_4, a0_5⟩ slot w.heap.size W h0 h1 k3 (by simp only; omega) k1 k2 hb
          have AH1 := Aside0.mk (AH a1 (by omega) (by omega))
          have AH2 := Aside0.mk (AH a2 (by omega) (by omega))
          clear AH
          simp only at AH1 AH2
          have d1 := aheadOf_bd (phase := a0_4) (period := a0_3) (slot := a1) (by omega) (by omega) k3 (by omega) k1 k2
          have d2 := aheadOf_bd (phase := a0_4) (period := a0_3) (slot := a2) (by omega) (by omega) k3 (by omega) k1 k2
          have d3 := aheadOf_le (phase := a0_4) (period := a0_3) (a := a1) (b := a2) k1 (by omega)
          clear c1 c2 c3 k1 k2 k3 k4
          generalize aheadOf a0_4 a0_3 a1 = p at *
          generalize aheadOf a0_4 a0_3 a2 = q at *
          obtain ⟨d1, d1'⟩ := d1
          obtain ⟨d2, d2'⟩ := d2
          by_cases c4 : q - p > 1024
          · rw [if_pos c4] at h
            simp only [Option.some.injEq, Prod.mk.injEq] at h
            obtain ⟨rfl, rfl⟩ := h
            have b4 : decide (1024 < q - p) = true := decide_eq_true c4
            clear c4
            go_enter Try.func24, Try.ntmps24
            go_wp2_with (first | (go_at_call 32; (with_reducible refine (flow_alone.calls a0_0 a0_1 a0_2 a0_3 a0_4 a0_5 0 _ HT.out).mono ?_); rintro e w1 ⟨rfl, hb⟩; have HB := Aside0.mk (below_step (below_alloc (Below.refl _ _) _) hb); have BK1 := Aside0.mk (blk_below BK.out hb); clear hb) | (go_at_call 40; (with_reducible refine (AH1.out _ BK1.out).mono ?_); rintro e w' ⟨rfl, rfl⟩) | (go_at_call 40; (with_reducible refine (AH2.out _ BK1.out).mono ?_); rintro e w' ⟨rfl, rfl⟩))
            go_ret2
            exact ⟨_, rfl, Kd.R_nil _ _ _ _ _, HB.out⟩
          · rw [if_neg c4] at h
            simp only [Option.some.injEq, Prod.mk.injEq] at h
            obtain ⟨hr1, rfl⟩ := h
            have H1 := Aside0.mk hr1
            clear hr1
            have b4 : decide (1024 < q - p) = false := decide_eq_false c4
            go_enter Try.func24, Try.ntmps24
            go_wp2_with (first | (go_at_call 32; (with_reducible refine (flow_alone.calls a0_0 a0_1 a0_2 a0_3 a0_4 a0_5 0 _ HT.out).mono ?_); rintro e w1 ⟨rfl, hb⟩; have HB := Aside0.mk (below_step (below_alloc (Below.refl _ _) _) hb); have BK1 := Aside0.mk (blk_below BK.out hb); clear hb) | (go_at_call 40; (with_reducible refine (AH1.out _ BK1.out).mono ?_); rintro e w' ⟨rfl, rfl⟩) | (go_at_call 40; (with_reducible refine (AH2.out _ BK1.out).mono ?_); rintro e w' ⟨rfl, rfl⟩))
            go_loopg [11, 39] (q - p).toNat (fun kq v11 v39 w' => ∃ (i : Nat), v39 = .int .i64 (i : Int) ∧ Aside0 (kq + i = (q - p).toNat) ∧ Aside0 (Kd.R (Kd.int .i64) 3 w' w.heap.size (fun _ => True) v11 ((List.range i).map (fun i : Nat => p + (i : Int)))) ∧ Aside0 (Below w.heap.size w w'))
            case atStart => exact ⟨0, by simp, ⟨by simp⟩, ⟨Kd.R_nil _ _ _ _ _⟩, HB⟩
            case round =>
              obtain ⟨i, rfl, HK, HO, HB⟩ := hrel
              by_cases hlt : (i : Int) < q - p
              · have e1 : decide ((i : Int) < q - p) = true := decide_eq_true hlt
                obtain ⟨Ao, co, eo⟩ := Kd.R_slice HO.out
                subst eo
                have hi0 : (0 : Int) ≤ (i : Int) := by omega
                have LM : Aside0 (((List.range i).map (fun i : Nat => p + (i : Int))).length + 1 ≤ 2000) := ⟨by rw [List.length_map, List.length_range]; omega⟩
                have HN : Aside0 ((List.range i).map (fun i : Nat => p + (i : Int)) ++ [p + (i : Int)] = (List.range (i + 1)).map (fun i : Nat => p + (i : Int))) := ⟨by rw [List.range_succ, List.map_append]; rfl⟩
                have WR : Aside0 ((i : Int) + 1 = ((i + 1 : Nat) : Int)) := ⟨by omega⟩
                have HT1 : Aside0 (i < (q - p).toNat) := ⟨by omega⟩
                clear hlt
                generalize (List.range i).map (fun i : Nat => p + (i : Int)) = xs at *
                have hi1 : (i : Int) ≤ 1024 := by have := HT1.out; omega
                go_wp2_with ((with_reducible refine gate_builtin (b := .append) (xs := #[.tmp 42, .tmp 46]) rfl ?_); at_builtin; refine Kd.R_append (Kd.int .i64) (w0 := w) w.heap.size rfl (.tmp 42) (.tmp 46) 43 3 (.int .i64 0) 8 rfl Try.underlying43 info3 rfl (by decide) (by omega) (.slice Ao xs.length co) xs (p + (i : Int)) [.int .i64 (p + (i : Int))] (fun _ => True) (fun _ => False) rfl rfl ?aP (fun _ hk => hk.elim) ?aF ?aO ?aB ?aS ?aL ?_; (case aP => exact rfl); (case aB => exact HB.out); (case aF => exact (fun _ _ => trivial)); (case aO => exact HO.out); (case aS => exact HB.out.size); (case aL => have := LM.out; omega); intro v1 w3 ho hb hg hat; rw [HN.out] at ho; have HO2 := Aside0.mk ho; have HB2 := Aside0.mk hb; clear ho hb hg hat)
                go_roundg (gk - 1)
                case measure => have := HK.out; have := HT1.out; omega
                case rel => exact ⟨i + 1, congrArg (Value.int .i64) WR.out, ⟨by have := HK.out; have := HT1.out; omega⟩, HO2, HB2⟩
              · have e1 : decide ((i : Int) < q - p) = false := decide_eq_false hlt
                have HE : Aside0 (i = (q - p).toNat) := ⟨by have := HK.out; omega⟩
                clear hlt
                go_wp2
                go_ret2
                exact ⟨_, rfl, by rw [← H1.out, ← HE.out]; exact HO.out, HB.out⟩
  · rw [if_neg h2] at h
    simp only [Option.some.injEq, Prod.mk.injEq] at h
    obtain ⟨rfl, rfl⟩ := h
    have b1 : (t == 0) = false := beq_eq_false_iff_ne.mpr h2
    have b2 : (t != 0) = true := bne_iff_ne.mpr h2
    clear ht h2
    go_enter Try.func24, Try.ntmps24
    go_wp2_with (go_at_call 32; (with_reducible refine (flow_alone.calls a0_0 a0_1 a0_2 a0_3 a0_4 a0_5 t _ HT.out).mono ?_); rintro e w1 ⟨rfl, hb⟩; have HB := Aside0.mk (below_step (below_alloc (Below.refl _ _) _) hb); clear hb)
    go_ret2
    exact ⟨_, rfl, Kd.R_nil _ _ _ _ _, HB.out⟩

end Go.Proofs.Ythlgnbeoanafbaa.PX
