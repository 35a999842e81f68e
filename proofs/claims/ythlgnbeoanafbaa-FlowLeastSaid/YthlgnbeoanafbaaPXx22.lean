-- Written by wip/xprint.py, a program of this claim's own, over the kit's print program. Lean checks it.
import Derived.Test.YthlgnbeoanafbaaPXx0
import Derived.Test.YthlgnbeoanafbaaPXx3
import Derived.Test.YthlgnbeoanafbaaPXx10
import Derived.Test.YthlgnbeoanafbaaPXx11
import Derived.Test.YthlgnbeoanafbaaPXx13
import Derived.Test.YthlgnbeoanafbaaPXx14
namespace Go.Proofs.Ythlgnbeoanafbaa.PX
open Go.RowKit Go.Proofs.YthlgnbeoanafbaaW.PrintWords Go.Proofs.YthlgnbeoanafbaaW.PrintLast Go.Proofs.YthlgnbeoanafbaaW.PrintMore
attribute [local go_sem] max2_int min2_int max_two min_two max_three min_three max_four min_four   -- for this text's walks alone
set_option linter.unusedVariables false
set_option linter.unusedSimpArgs false

/-! ### hopmeshlaw32_FlowLeast: function 5 -/
def hopmeshlaw32_FlowLeast.f (k : Nat) (l0 : List (S23)) (a1 : Int) : Option (Bool) := (hopmeshlaw32_awake.f k).bind fun t => if t = true then (if l0.length = 0 then some true else if 16 < l0.length then some true else (flow_Hyper.f k l0).bind fun h => (flow_Hyper.f k (l0.take (l0.length - 1))).bind fun g => if h.2 ≠ 0 then some true else if g.2 = 0 ∧ 1 ≤ g.1 ∧ 1 ≤ h.1 ∧ h.1 ≤ 512 ∧ h.1 % g.1 = 0 ∧ 0 ≤ a1 ∧ a1 ≤ 65535 ∧ (∀ j : Nat, j < l0.length → 1 ≤ (rd_T23 l0 j).f3 ∧ (rd_T23 l0 j).f3 ≤ 512) then (if a1 % h.1 = 0 then some true else if (List.range l0.length).any (fun i : Nat => a1 % h.1 % (rd_T23 l0 (i : Int)).f3 != 0) = true then some true else none) else none) else none
theorem hopmeshlaw32_FlowLeast.mono : ∀ a0 a1 k, LeO (hopmeshlaw32_FlowLeast.f k a0 a1) (hopmeshlaw32_FlowLeast.f (k + 1) a0 a1) := by
  intro a0 a1 k
  unfold hopmeshlaw32_FlowLeast.f
  refine LeO.bind (hopmeshlaw32_awake.mono k) (fun t => LeO.ite ?_ (LeO.refl _))
  refine LeO.ite (LeO.refl _) (LeO.ite (LeO.refl _) ?_)
  exact LeO.bind (flow_Hyper.mono _ _) (fun _ => LeO.bind (flow_Hyper.mono _ _) (fun _ => LeO.refl _))
set_option maxHeartbeats 8000000 in
set_option maxRecDepth 100000 in
theorem hopmeshlaw32_FlowLeast.calls (k : Nat) (A0 : Option Addr) (c0 : Nat) (l0 : List (S23)) (a1 : Int) (r : Bool) (w : World) (hr0 : Kd.C k23 w A0 l0.length l0) (hc0 : l0.length ≤ c0) (h : hopmeshlaw32_FlowLeast.f k l0 a1 = some r) :
    Calls Try.prog 5 #[.slice A0 l0.length c0, .int .u16 a1] w fun e w' => e = .returned (.bool r) ∧ Below w.heap.size w w' := by
  obtain ⟨t, ht, h⟩ := Option.bind_eq_some_iff.mp h
  have HA := Aside0.mk ht
  have HR0 := Aside0.mk hr0
  have HC0 := Aside0.mk hc0
  cases t with
  | false => simp at h
  | true =>
    rw [if_pos rfl] at h
    by_cases c1 : l0.length = 0
    · rw [if_pos c1] at h
      obtain rfl := Option.some.inj h
      have b1 : ((l0.length : Int) == 0) = true := beq_iff_eq.2 (by omega)
      have b2 : l0 = [] := List.eq_nil_of_length_eq_zero c1
      clear ht hr0 hc0 h c1
      subst b2
      go_enter Try.func5, Try.ntmps5
      go_wp2_with (go_at_call 10; (with_reducible refine (hopmeshlaw32_awake.calls k true _ HA.out).mono ?_); rintro e w1 ⟨rfl, hb⟩; have HB := Aside0.mk hb; clear hb)
      go_ret
      exact ⟨rfl, HB.out⟩
    · rw [if_neg c1] at h
      have b1 : ((l0.length : Int) == 0) = false := beq_eq_false_iff_ne.2 (by omega)
      have b1' : ¬ l0 = [] := fun e => c1 (by rw [e]; rfl)
      by_cases c2 : 16 < l0.length
      · rw [if_pos c2] at h
        obtain rfl := Option.some.inj h
        have b2 : decide ((16 : Int) < (l0.length : Int)) = true := decide_eq_true (by omega)
        have b3 : decide (16 < l0.length) = true := decide_eq_true c2
        clear ht hr0 hc0 h c1 c2
        go_enter Try.func5, Try.ntmps5
        go_wp2_with (go_at_call 10; (with_reducible refine (hopmeshlaw32_awake.calls k true _ HA.out).mono ?_); rintro e w1 ⟨rfl, hb⟩; have HB := Aside0.mk hb; clear hb)
        go_ret
        exact ⟨rfl, HB.out⟩
      · rw [if_neg c2] at h
        have b2 : decide ((16 : Int) < (l0.length : Int)) = false := decide_eq_false (by omega)
        have b3 : decide (16 < l0.length) = false := decide_eq_false c2
        obtain ⟨⟨h1, h2⟩, eh, h⟩ := Option.bind_eq_some_iff.mp h
        obtain ⟨⟨g1, g2⟩, eg, h⟩ := Option.bind_eq_some_iff.mp h
        have EH := Aside0.mk eh
        have EG := Aside0.mk eg
        simp only at h
        obtain ⟨l1, hl1⟩ : ∃ l1, l1 = l0.take (l0.length - 1) := ⟨_, rfl⟩
        obtain ⟨i35, hi35, hsz35⟩ := Option.map_eq_some_iff.1 info23
        have hcut : ∀ W : World, (Instr.slice 35 (.slice A0 l0.length c0) none (some (.int .i64 ((l0.length : Int) - 1))) none).run Try.prog W = .ok (.slice A0 l1.length c0) W := by
          intro W
          have := cut_to (P := Try.prog) 35 23 .i64 Try.underlying35 hi35 A0 l0.length c0 ((l0.length : Int) - 1) (by omega) (by omega) hc0 W
          rw [this, hl1, List.length_take, show min (l0.length - 1) l0.length = ((l0.length : Int) - 1).toNat by omega]
        have HT := Aside0.mk (show Kd.C k23 w A0 l1.length l1 by rw [hl1]; exact Kd.C_take hr0 (show l0.length - 1 ≤ l0.length by omega))
        have HTC : Aside0 (l1.length ≤ c0) := ⟨by rw [hl1, List.length_take]; omega⟩
        rw [← hl1] at EG
        have q1 : (1 : Int) ≤ (l0.length : Int) := by omega
        have q2 : (l0.length : Int) ≤ 16 := by omega
        clear eh eg ht hr0 hc0 c1 c2 hi35 hsz35 hl1
        by_cases c3 : h2 ≠ 0
        · rw [if_pos c3] at h
          obtain rfl := Option.some.inj h
          have b4 : (h2 == 0) = false := beq_eq_false_iff_ne.2 c3
          have b5 : (h2 != 0) = true := bne_iff_ne.2 c3
          clear c3 h
          go_enter Try.func5, Try.ntmps5
          go_wp2_with (first | (go_at_call 10; (with_reducible refine (hopmeshlaw32_awake.calls k true _ HA.out).mono ?_); rintro e w1 ⟨rfl, hb⟩; have HB := Aside0.mk hb; clear hb) | (go_at_call 16; (with_reducible refine (flow_Hyper.calls k A0 c0 l0 h1 h2 _ (Kd.C_below HR0.out HB.out) HC0.out EH.out).mono ?_); rintro e w2 ⟨rfl, hb⟩; have HB2 := Aside0.mk (below_step HB.out hb); clear hb) | (go_at_call 16; (with_reducible refine (flow_Hyper.calls k A0 c0 l1 g1 g2 _ (Kd.C_below HT.out HB2.out) HTC.out EG.out).mono ?_); rintro e w3 ⟨rfl, hb⟩; have HB3 := Aside0.mk (below_step HB2.out hb); clear hb))
          go_ret
          exact ⟨rfl, HB3.out⟩
        · rw [if_neg c3] at h
          obtain rfl : h2 = 0 := Decidable.not_not.1 c3
          clear c3
          by_cases c4 : g2 = 0 ∧ 1 ≤ g1 ∧ 1 ≤ h1 ∧ h1 ≤ 512 ∧ h1 % g1 = 0 ∧ 0 ≤ a1 ∧ a1 ≤ 65535 ∧ (∀ j : Nat, j < l0.length → 1 ≤ (rd_T23 l0 j).f3 ∧ (rd_T23 l0 j).f3 ≤ 512)
          · rw [if_pos c4] at h
            obtain ⟨rfl, k1, k2, k3, k4, k5, k6, k7⟩ := c4
            have K7 := Aside0.mk k7
            have z1 : (h1 % g1 == 0) = true := beq_iff_eq.2 k4
            have z2 : (h1 % g1 != 0) = false := bne_eq_false_iff_eq.2 k4
            have z3 : ¬ g1 = 0 := by omega
            have z4 : ¬ h1 = 0 := by omega
            have z3' : (g1 == 0) = false := beq_eq_false_iff_ne.2 z3
            have z4' : (h1 == 0) = false := beq_eq_false_iff_ne.2 z4
            have z5 : decide (g1 < 1) = false := decide_eq_false (by omega)
            have m0 : 0 ≤ a1 % h1 := Int.emod_nonneg _ z4
            have m1 : a1 % h1 ≤ a1 := by rw [Int.emod_def]; have : 0 ≤ h1 * (a1 / h1) := Int.mul_nonneg (by omega) (Int.ediv_nonneg (by omega) (by omega)); omega
            have hmf : ∀ (fn : Fn) (first cap : Array Value) (w : World), (Instr.makeFunc fn first cap).run Try.prog w = .ok (.func fn first cap) w := fun _ _ _ _ => rfl
            have HCN := Aside0.mk (fun (w3 : World) (hb : Below w.heap.size w w3) => containsFlow A0 c0 l0 18 Try.f18 #[.pointer (some ⟨w3.heap.size, 0, none⟩)] (fun i => a1 % h1 % (rd_T23 l0 i).f3 != 0)
              (fun i w' => w'.heap[w3.heap.size]? = some (.cells #[.int .i64 (a1 % h1)] 3 (0, 0)) ∧ Below w.heap.size w w') (w3.alloc (.cells #[.int .i64 (a1 % h1)] 3)) Try.func18 (by kernel_rfl) rfl (by omega)
              ⟨by simpa using heap_alloc_new w3 _, below_alloc hb _⟩ (fun i w' hi => Kd.C_below HR0.out hi.2)
              (fun i w' hi hp hinv => (leastStep (rd_T23 l0 i) (a1 % h1) w3.heap.size w' m0 (by omega) (K7.out i hi).1 (K7.out i hi).2 hinv.1).mono fun e w'' ⟨he, hb'⟩ => ⟨he, blk_below hinv.1 hb', below_step hinv.2 hb'⟩))
            clear k4 k7
            by_cases c5 : a1 % h1 = 0
            · rw [if_pos c5] at h
              obtain rfl := Option.some.inj h
              have z6 : (a1 % h1 == 0) = true := beq_iff_eq.2 c5
              clear c5 h HCN
              go_enter Try.func5, Try.ntmps5
              go_wp2_with (first | (go_at_call 10; (with_reducible refine (hopmeshlaw32_awake.calls k true _ HA.out).mono ?_); rintro e w1 ⟨rfl, hb⟩; have HB := Aside0.mk hb; clear hb) | (go_at_call 16; (with_reducible refine (flow_Hyper.calls k A0 c0 l0 h1 0 _ (Kd.C_below HR0.out HB.out) HC0.out EH.out).mono ?_); rintro e w2 ⟨rfl, hb⟩; have HB2 := Aside0.mk (below_step HB.out hb); clear hb) | (go_at_call 16; (with_reducible refine (flow_Hyper.calls k A0 c0 l1 g1 0 _ (Kd.C_below HT.out HB2.out) HTC.out EG.out).mono ?_); rintro e w3 ⟨rfl, hb⟩; have HB3 := Aside0.mk (below_step HB2.out hb); clear hb))
              go_ret
              exact ⟨by simp, below_alloc HB3.out _⟩
            · rw [if_neg c5] at h
              have z6 : (a1 % h1 == 0) = false := beq_eq_false_iff_ne.2 c5
              clear c5
              by_cases c6 : (List.range l0.length).any (fun i : Nat => a1 % h1 % (rd_T23 l0 (i : Int)).f3 != 0) = true
              · rw [if_pos c6] at h
                obtain rfl := Option.some.inj h
                have HANY := Aside0.mk c6
                clear c6 h
                go_enter Try.func5, Try.ntmps5
                go_wp2_with (first | (go_at_call 10; (with_reducible refine (hopmeshlaw32_awake.calls k true _ HA.out).mono ?_); rintro e w1 ⟨rfl, hb⟩; have HB := Aside0.mk hb; clear hb) | (go_at_call 16; (with_reducible refine (flow_Hyper.calls k A0 c0 l0 h1 0 _ (Kd.C_below HR0.out HB.out) HC0.out EH.out).mono ?_); rintro e w2 ⟨rfl, hb⟩; have HB2 := Aside0.mk (below_step HB.out hb); clear hb) | (go_at_call 16; (with_reducible refine (flow_Hyper.calls k A0 c0 l1 g1 0 _ (Kd.C_below HT.out HB2.out) HTC.out EG.out).mono ?_); rintro e w3 ⟨rfl, hb⟩; have HB3 := Aside0.mk (below_step HB2.out hb); have HCM := Aside0.mk (HCN.out w3 HB3.out); clear hb) | (go_at_call 17; refine HCM.out.mono ?_; rintro e w4 ⟨r, rfl, hf⟩; have hr := Found.hit hf HANY.out; rw [hr]; have HB4 := Aside0.mk (Found.inv hf).2; clear hf hr))
                go_ret
                exact ⟨by simp, HB4.out⟩
              · rw [if_neg c6] at h
                cases h
          · rw [if_neg c4] at h
            cases h

end Go.Proofs.Ythlgnbeoanafbaa.PX
