-- Written by wip/xprint.py, a program of this claim's own, over the kit's print program. Lean checks it.
import Derived.Test.YtfbekkmmafkmpaaPXx0
import Derived.Test.YtfbekkmmafkmpaaPXx6
namespace Go.Proofs.Ytfbekkmmafkmpaa.PX
open Go.RowKit Go.Proofs.YtfbekkmmafkmpaaW.PrintWords Go.Proofs.YtfbekkmmafkmpaaW.PrintLast Go.Proofs.YtfbekkmmafkmpaaW.PrintMore
attribute [local go_sem] max2_int min2_int max_two min_two max_three min_three max_four min_four   -- for this text's walks alone
set_option linter.unusedVariables false
set_option linter.unusedSimpArgs false

/-! ### hopmeshref29_Check: function 32 -/
def hopmeshref29_Check.f (l0 : List S39) : Option Int := some (if l0.length > 64 then 8 else checkTo l0 l0.length)
set_option maxHeartbeats 8000000 in
set_option maxRecDepth 100000 in
theorem hopmeshref29_Check.calls (A0 : Option Addr) (c0 : Nat) (l0 : List (S39)) (r : Int) (w : World) (hr0 : Kd.C k39 w A0 l0.length l0) (hc0 : l0.length ≤ c0) (h : hopmeshref29_Check.f l0 = some r) :
    Calls Try.prog 32 #[.slice A0 l0.length c0] w fun e w' => e = .returned (.int .i64 r) ∧ Below w.heap.size w w' := by
  have HR0 := Aside0.mk hr0
  have HC0 := Aside0.mk hc0
  clear hr0 hc0
  have hr := Option.some.inj h
  clear h
  have hu1 := Try.underlying39
  have hu2 := Try.underlying37
  by_cases c2 : l0.length > 64
  · rw [if_pos c2] at hr
    subst hr
    have c2b0 : decide (64 < (l0.length : Int)) = true := decide_eq_true (by omega)
    have c2b1 : decide (64 < l0.length) = true := decide_eq_true c2
    clear c2
    go_enter Try.func32, Try.ntmps32
    go_wp2
    go_ret
    exact ⟨rfl, Below.refl _ _⟩
  rw [if_neg c2] at hr
  have c2b0 : decide (64 < (l0.length : Int)) = false := decide_eq_false (by omega)
  have c2b1 : decide (64 < l0.length) = false := decide_eq_false c2
  have HLE : Aside0 (l0.length ≤ 64) := ⟨by omega⟩
  have HR := Aside0.mk hr
  clear c2 hr
  go_enter Try.func32, Try.ntmps32
  go_wp2
  go_loopg [3] l0.length (fun kq v11 w' => ∃ i : Nat, v11 = .int .i64 (i : Int) ∧ Aside0 (kq + i = l0.length) ∧ Aside0 (checkTo l0 i = 0) ∧ Aside0 (Below w.heap.size w w'))
  case atStart => exact ⟨0, rfl, ⟨by simp⟩, ⟨rfl⟩, ⟨Below.refl _ _⟩⟩
  case round =>
    clear c2b0 c2b1
    obtain ⟨i, rfl, HK, HI, HB⟩ := hrel
    by_cases hlt : i < l0.length
    rotate_left
    · have b0 : decide ((i : Int) < (l0.length : Int)) = false := decide_eq_false (by omega)
      have b1 : decide (i < l0.length) = false := decide_eq_false hlt
      have hr : r = 0 := by rw [← HR.out, show l0.length = i by have := HK.out; omega]; exact HI.out
      subst hr
      clear hlt
      go_wp2
      go_ret
      exact ⟨rfl, HB.out⟩
    have b0 : decide ((i : Int) < (l0.length : Int)) = true := decide_eq_true (by omega)
    have b1 : decide (i < l0.length) = true := decide_eq_true hlt
    have p0 : (0 : Int) ≤ (i : Int) := by omega
    have q0 : (i : Int) < (l0.length : Int) := by omega
    have HT : Aside0 (i < l0.length) := ⟨hlt⟩
    have HRr := Kd.C_below HR0.out HB.out
    obtain ⟨ad, e, h0, h1, h2, h3, h4, h5, h6, h7, h8⟩ := at_T39 HRr (i : Int) p0 q0
    cases e
    obtain ⟨ad', e', k0, k1, k2, k3, k4, k5, k6, k7, k8⟩ := at_T39 HRr 0 (by omega) (by omega)
    obtain rfl : ad = ad' := by injection e'
    clear e' k0 k1 k2 k3 k5 k6 k7 k8
    rw [show ((0 : Int)).toNat = 0 from rfl, show 0 * 9 = 0 from rfl, Addr.add_zero'] at k4
    have hy : 0 < i → wr.cell? (ad.add ((i - 1) * 9)) = some (.int .i64 (rd_T39 l0 ((i : Int) - 1)).f0.f0) := by
      intro hi
      obtain ⟨ad', e', k0, -⟩ := at_T39 HRr ((i : Int) - 1) (by omega) (by omega)
      obtain rfl : ad = ad' := by injection e'
      rw [show ((i : Int) - 1).toNat = i - 1 by omega] at k0
      exact k0
    have HY := Aside0.mk hy
    clear hy HRr
    obtain ⟨bv, HBV⟩ : ∃ bv, Aside0 (badAt l0 i = bv) := ⟨_, ⟨rfl⟩⟩
    have hbv := HBV.out
    unfold badAt at hbv
    obtain ⟨x0, hx0⟩ : ∃ x, (rd_T39 l0 (i : Int)).f0.f0 = x := ⟨_, rfl⟩
    obtain ⟨x1, hx1⟩ : ∃ x, (rd_T39 l0 (i : Int)).f0.f1 = x := ⟨_, rfl⟩
    obtain ⟨x2, hx2⟩ : ∃ x, (rd_T39 l0 (i : Int)).f0.f2 = x := ⟨_, rfl⟩
    obtain ⟨x3, hx3⟩ : ∃ x, (rd_T39 l0 (i : Int)).f0.f3 = x := ⟨_, rfl⟩
    obtain ⟨x4, hx4⟩ : ∃ x, (rd_T39 l0 (i : Int)).f0.f4 = x := ⟨_, rfl⟩
    obtain ⟨x5, hx5⟩ : ∃ x, (rd_T39 l0 (i : Int)).f0.f5 = x := ⟨_, rfl⟩
    obtain ⟨x6, hx6⟩ : ∃ x, (rd_T39 l0 (i : Int)).f1 = x := ⟨_, rfl⟩
    obtain ⟨x7, hx7⟩ : ∃ x, (rd_T39 l0 (i : Int)).f2 = x := ⟨_, rfl⟩
    obtain ⟨x8, hx8⟩ : ∃ x, (rd_T39 l0 (i : Int)).f3 = x := ⟨_, rfl⟩
    obtain ⟨p4, hp4⟩ : ∃ x, (rd_T39 l0 0).f0.f4 = x := ⟨_, rfl⟩
    obtain ⟨y0, hy0⟩ : ∃ x, (rd_T39 l0 ((i : Int) - 1)).f0.f0 = x := ⟨_, rfl⟩
    rw [hy0, hp4, hx0, hx1, hx2, hx3, hx4, hx5, hx6, hx7, hx8] at hbv
    rw [hx0] at h0
    rw [hx1] at h1
    rw [hx2] at h2
    rw [hx3] at h3
    rw [hx4] at h4
    rw [hx5] at h5
    rw [hx6] at h6
    rw [hx7] at h7
    rw [hx8] at h8
    rw [hp4] at k4
    rw [hy0] at HY
    have HV := Aside0.mk hbv
    clear hbv hy0 hp4 hx0 hx1 hx2 hx3 hx4 hx5 hx6 hx7 hx8
    simp only [Int.toNat_natCast] at h0 h1 h2 h3 h4 h5 h6 h7 h8
    clear hlt
    replace p0 := eq_true p0
    replace q0 := eq_true q0
    go_upto_region 7 with (fail)
    have hbk2 := heap_alloc_new wr (.cells #[.int .i64 x0, .int .i64 x1, .int .i64 x2, .bool x3, .int .i64 x4, .int .i64 x5] 37 (0, 0))
    have HK2 : Aside0 ((wr.alloc (.cells #[.int .i64 x0, .int .i64 x1, .int .i64 x2, .bool x3, .int .i64 x4, .int .i64 x5] 37 (0, 0))).heap[wr.heap.size]? = some (.cells #[.int .i64 x0, .int .i64 x1, .int .i64 x2, .bool x3, .int .i64 x4, .int .i64 x5] 37 (0, 0))) := ⟨hbk2⟩
    have HB2 : Aside0 (Below w.heap.size w (wr.alloc (.cells #[.int .i64 x0, .int .i64 x1, .int .i64 x2, .bool x3, .int .i64 x4, .int .i64 x5] 37 (0, 0)))) := ⟨below_alloc HB.out _⟩
    have hold : Below wr.heap.size wr (wr.alloc (.cells #[.int .i64 x0, .int .i64 x1, .int .i64 x2, .bool x3, .int .i64 x4, .int .i64 x5] 37 (0, 0))) := below_alloc (Below.refl _ _) _
    replace k4 := pw_cell_below hold k4
    replace h6 := pw_cell_below hold h6
    replace h7 := pw_cell_below hold h7
    replace h8 := pw_cell_below hold h8
    have HY2 : Aside0 (0 < i → (wr.alloc (.cells #[.int .i64 x0, .int .i64 x1, .int .i64 x2, .bool x3, .int .i64 x4, .int .i64 x5] 37 (0, 0))).cell? (ad.add ((i - 1) * 9)) = some (.int .i64 y0)) := ⟨fun hi => pw_cell_below hold (HY.out hi)⟩
    clear hbk2 hold HY h0 h1 h2 h3 h4 h5
    generalize (wr.alloc (.cells #[.int .i64 x0, .int .i64 x1, .int .i64 x2, .bool x3, .int .i64 x4, .int .i64 x5] 37 (0, 0))) = w2 at *
    have c0 := (blk_cell HK2.out 0).trans (rfl : _ = some (Value.int .i64 x0))
    have c1 := (blk_cell HK2.out 1).trans (rfl : _ = some (Value.int .i64 x1))
    have c2 := (blk_cell HK2.out 2).trans (rfl : _ = some (Value.int .i64 x2))
    have c3 := (blk_cell HK2.out 3).trans (rfl : _ = some (Value.bool x3))
    have c4 := (blk_cell HK2.out 4).trans (rfl : _ = some (Value.int .i64 x4))
    have c5 := (blk_cell HK2.out 5).trans (rfl : _ = some (Value.int .i64 x5))
    have z0 : decide (0 < l0.length) = true := decide_eq_true (by have := HT.out; omega)
    have z1 : decide ((0 : Int) < (l0.length : Int)) = true := decide_eq_true (by have := HT.out; omega)
    have z2 : (0 < l0.length) = True := eq_true (by have := HT.out; omega)
    by_cases q2 : x2 = 2
    rotate_left
    · have e1 : (x2 == 2) = false := beq_eq_false_iff_ne.mpr q2
      have e2 : (x2 != 2) = true := bne_iff_ne.mpr q2
      have hbv : bv = 1 := by
        rw [← HV.out]
        unfold badV
        exact if_neg (fun h => by obtain ⟨h1, h2, h3, h4, h5, h6⟩ := h; first | omega | cases h2)
      obtain rfl : r = 1 := checkTo_bad l0 HT.out HI.out (HBV.out.trans hbv) (by decide) HR.out
      clear hbv
      clear q2
      go_quiet (fail)
      go_wp2
      go_ret
      exact ⟨rfl, (by repeat (first | exact HB2.out | apply below_alloc | apply pw_below_drewN | apply below_drew1))⟩
    have e1 : (x2 == 2) = true := beq_iff_eq.mpr q2
    have e2 : (x2 != 2) = false := bne_eq_false_iff_eq.mpr q2
    have Q2 := Aside0.mk q2
    clear q2
    cases x3 with
    | false =>
      have hbv : bv = 1 := by
        rw [← HV.out]
        unfold badV
        exact if_neg (fun h => by obtain ⟨h1, h2, h3, h4, h5, h6⟩ := h; first | omega | cases h2)
      obtain rfl : r = 1 := checkTo_bad l0 HT.out HI.out (HBV.out.trans hbv) (by decide) HR.out
      clear hbv
      go_quiet (fail)
      go_wp2
      go_ret
      exact ⟨rfl, (by repeat (first | exact HB2.out | apply below_alloc | apply pw_below_drewN | apply below_drew1))⟩
    | true =>
      by_cases q5 : x5 = -1
      rotate_left
      · have e5 : (x5 == -1) = false := beq_eq_false_iff_ne.mpr q5
        have e6 : (x5 != -1) = true := bne_iff_ne.mpr q5
        have hbv : bv = 1 := by
          rw [← HV.out]
          unfold badV
          exact if_neg (fun h => by obtain ⟨h1, h2, h3, h4, h5, h6⟩ := h; first | omega | cases h2)
        obtain rfl : r = 1 := checkTo_bad l0 HT.out HI.out (HBV.out.trans hbv) (by decide) HR.out
        clear hbv
        clear q5
        go_quiet (fail)
        go_wp2
        go_ret
        exact ⟨rfl, (by repeat (first | exact HB2.out | apply below_alloc | apply pw_below_drewN | apply below_drew1))⟩
      have e5 : (x5 == -1) = true := beq_iff_eq.mpr q5
      have e6 : (x5 != -1) = false := bne_eq_false_iff_eq.mpr q5
      have Q5 := Aside0.mk q5
      clear q5
      by_cases q : x4 < 0
      · have ta : decide (x4 < 0) = true := decide_eq_true (by omega)
        have hbv : bv = 1 := by
          rw [← HV.out]
          unfold badV
          exact if_neg (fun h => by obtain ⟨h1, h2, h3, h4, h5, h6⟩ := h; first | omega | cases h2)
        obtain rfl : r = 1 := checkTo_bad l0 HT.out HI.out (HBV.out.trans hbv) (by decide) HR.out
        clear hbv
        clear q
        go_quiet (fail)
        go_wp2
        go_ret
        exact ⟨rfl, (by repeat (first | exact HB2.out | apply below_alloc | apply pw_below_drewN | apply below_drew1))⟩
      have ta : decide (x4 < 0) = false := decide_eq_false (by omega)
      have Qa := Aside0.mk q
      clear q
      by_cases q : 32 ≤ x4
      · have tb : decide (32 ≤ x4) = true := decide_eq_true (by omega)
        have hbv : bv = 1 := by
          rw [← HV.out]
          unfold badV
          exact if_neg (fun h => by obtain ⟨h1, h2, h3, h4, h5, h6⟩ := h; first | omega | cases h2)
        obtain rfl : r = 1 := checkTo_bad l0 HT.out HI.out (HBV.out.trans hbv) (by decide) HR.out
        clear hbv
        clear q
        go_quiet (fail)
        go_wp2
        go_ret
        exact ⟨rfl, (by repeat (first | exact HB2.out | apply below_alloc | apply pw_below_drewN | apply below_drew1))⟩
      have tb : decide (32 ≤ x4) = false := decide_eq_false (by omega)
      have Qb := Aside0.mk q
      clear q
      by_cases q4p : x4 = p4
      rotate_left
      · have e7 : (x4 == p4) = false := beq_eq_false_iff_ne.mpr q4p
        have e8 : (x4 != p4) = true := bne_iff_ne.mpr q4p
        have hbv : bv = 1 := by
          rw [← HV.out]
          unfold badV
          exact if_neg (fun h => by obtain ⟨h1, h2, h3, h4, h5, h6⟩ := h; first | omega | cases h2)
        obtain rfl : r = 1 := checkTo_bad l0 HT.out HI.out (HBV.out.trans hbv) (by decide) HR.out
        clear hbv
        clear q4p
        go_quiet (fail)
        go_wp2
        go_ret
        exact ⟨rfl, (by repeat (first | exact HB2.out | apply below_alloc | apply pw_below_drewN | apply below_drew1))⟩
      have e7 : (x4 == p4) = true := beq_iff_eq.mpr q4p
      have e8 : (x4 != p4) = false := bne_eq_false_iff_eq.mpr q4p
      have Q4P := Aside0.mk q4p
      clear q4p
      have HA : Aside0 (x2 = 2 ∧ x5 = -1 ∧ 0 ≤ x4 ∧ x4 ≤ 31 ∧ x4 = p4) := ⟨⟨Q2.out, Q5.out, by have := Qa.out; omega, by have := Qb.out; omega, Q4P.out⟩⟩
      go_quiet (fail)
      go_upto_region 9 with (fail)
      by_cases q : x0 < 0
      · have tc : decide (x0 < 0) = true := decide_eq_true (by omega)
        have hbv : bv = 2 := by
          rw [← HV.out]
          rw [badV_in HA.out]
          exact if_neg (fun h => by omega)
        obtain rfl : r = 2 := checkTo_bad l0 HT.out HI.out (HBV.out.trans hbv) (by decide) HR.out
        clear hbv
        clear q
        go_quiet (fail)
        go_wp2
        go_ret
        exact ⟨rfl, (by repeat (first | exact HB2.out | apply below_alloc | apply pw_below_drewN | apply below_drew1))⟩
      have tc : decide (x0 < 0) = false := decide_eq_false (by omega)
      have Qc := Aside0.mk q
      clear q
      by_cases q : 512 ≤ x0
      · have td : decide (512 ≤ x0) = true := decide_eq_true (by omega)
        have hbv : bv = 2 := by
          rw [← HV.out]
          rw [badV_in HA.out]
          exact if_neg (fun h => by omega)
        obtain rfl : r = 2 := checkTo_bad l0 HT.out HI.out (HBV.out.trans hbv) (by decide) HR.out
        clear hbv
        clear q
        go_quiet (fail)
        go_wp2
        go_ret
        exact ⟨rfl, (by repeat (first | exact HB2.out | apply below_alloc | apply pw_below_drewN | apply below_drew1))⟩
      have td : decide (512 ≤ x0) = false := decide_eq_false (by omega)
      have Qd := Aside0.mk q
      clear q
      by_cases q : x1 < 0
      · have te : decide (x1 < 0) = true := decide_eq_true (by omega)
        have hbv : bv = 2 := by
          rw [← HV.out]
          rw [badV_in HA.out]
          exact if_neg (fun h => by omega)
        obtain rfl : r = 2 := checkTo_bad l0 HT.out HI.out (HBV.out.trans hbv) (by decide) HR.out
        clear hbv
        clear q
        go_quiet (fail)
        go_wp2
        go_ret
        exact ⟨rfl, (by repeat (first | exact HB2.out | apply below_alloc | apply pw_below_drewN | apply below_drew1))⟩
      have te : decide (x1 < 0) = false := decide_eq_false (by omega)
      have Qe := Aside0.mk q
      clear q
      by_cases q : 16 ≤ x1
      · have tf : decide (16 ≤ x1) = true := decide_eq_true (by omega)
        have hbv : bv = 2 := by
          rw [← HV.out]
          rw [badV_in HA.out]
          exact if_neg (fun h => by omega)
        obtain rfl : r = 2 := checkTo_bad l0 HT.out HI.out (HBV.out.trans hbv) (by decide) HR.out
        clear hbv
        clear q
        go_quiet (fail)
        go_wp2
        go_ret
        exact ⟨rfl, (by repeat (first | exact HB2.out | apply below_alloc | apply pw_below_drewN | apply below_drew1))⟩
      have tf : decide (16 ≤ x1) = false := decide_eq_false (by omega)
      have Qf := Aside0.mk q
      clear q
      by_cases q : x8 < 0
      · have tg : decide (x8 < 0) = true := decide_eq_true (by omega)
        have hbv : bv = 2 := by
          rw [← HV.out]
          rw [badV_in HA.out]
          exact if_neg (fun h => by omega)
        obtain rfl : r = 2 := checkTo_bad l0 HT.out HI.out (HBV.out.trans hbv) (by decide) HR.out
        clear hbv
        clear q
        go_quiet (fail)
        go_wp2
        go_ret
        exact ⟨rfl, (by repeat (first | exact HB2.out | apply below_alloc | apply pw_below_drewN | apply below_drew1))⟩
      have tg : decide (x8 < 0) = false := decide_eq_false (by omega)
      have Qg := Aside0.mk q
      clear q
      by_cases q : x7 < x8
      · have th : decide (x7 < x8) = true := decide_eq_true (by omega)
        have hbv : bv = 2 := by
          rw [← HV.out]
          rw [badV_in HA.out]
          exact if_neg (fun h => by omega)
        obtain rfl : r = 2 := checkTo_bad l0 HT.out HI.out (HBV.out.trans hbv) (by decide) HR.out
        clear hbv
        clear q
        go_quiet (fail)
        go_wp2
        go_ret
        exact ⟨rfl, (by repeat (first | exact HB2.out | apply below_alloc | apply pw_below_drewN | apply below_drew1))⟩
      have th : decide (x7 < x8) = false := decide_eq_false (by omega)
      have Qh := Aside0.mk q
      clear q
      by_cases q : x6 < x7
      · have ti : decide (x6 < x7) = true := decide_eq_true (by omega)
        have hbv : bv = 2 := by
          rw [← HV.out]
          rw [badV_in HA.out]
          exact if_neg (fun h => by omega)
        obtain rfl : r = 2 := checkTo_bad l0 HT.out HI.out (HBV.out.trans hbv) (by decide) HR.out
        clear hbv
        clear q
        go_quiet (fail)
        go_wp2
        go_ret
        exact ⟨rfl, (by repeat (first | exact HB2.out | apply below_alloc | apply pw_below_drewN | apply below_drew1))⟩
      have ti : decide (x6 < x7) = false := decide_eq_false (by omega)
      have Qi := Aside0.mk q
      clear q
      by_cases q : 64 < x6
      · have tj : decide (64 < x6) = true := decide_eq_true (by omega)
        have hbv : bv = 2 := by
          rw [← HV.out]
          rw [badV_in HA.out]
          exact if_neg (fun h => by omega)
        obtain rfl : r = 2 := checkTo_bad l0 HT.out HI.out (HBV.out.trans hbv) (by decide) HR.out
        clear hbv
        clear q
        go_quiet (fail)
        go_wp2
        go_ret
        exact ⟨rfl, (by repeat (first | exact HB2.out | apply below_alloc | apply pw_below_drewN | apply below_drew1))⟩
      have tj : decide (64 < x6) = false := decide_eq_false (by omega)
      have Qj := Aside0.mk q
      clear q
      have HRG : Aside0 (0 ≤ x0 ∧ x0 ≤ 511 ∧ 0 ≤ x1 ∧ x1 ≤ 15 ∧ 0 ≤ x6 ∧ x6 ≤ 64 ∧ 0 ≤ x7 ∧ x7 ≤ x6 ∧ 0 ≤ x8 ∧ x8 ≤ x7) := ⟨by have := Qc.out; have := Qd.out; have := Qe.out; have := Qf.out; have := Qg.out; have := Qh.out; have := Qi.out; have := Qj.out; omega⟩
      go_quiet (fail)
      go_upto_region 11 with (fail)
      have p64 : (i : Int) ≤ 64 := by have := HT.out; have := HLE.out; omega
      have WR : Aside0 ((i : Int) + 1 = ((i + 1 : Nat) : Int)) := ⟨by omega⟩
      by_cases q : 0 < i
      rotate_left
      · have f0 : decide ((0 : Int) < (i : Int)) = false := decide_eq_false (by omega)
        have f1 : decide (0 < i) = false := decide_eq_false q
        have hbv : bv = 0 := by
          rw [← HV.out]
          rw [badV_in HA.out, if_pos HRG.out]
          exact if_neg (fun h => q h.1)
        have HGD := Aside0.mk (checkTo_good l0 HI.out (HBV.out.trans hbv))
        clear hbv
        clear q
        go_quiet (fail)
        go_wp2
        go_roundg (gk - 1)
        case measure => have := HK.out; have := HT.out; omega
        case rel => exact ⟨i + 1, congrArg (Value.int .i64) WR.out, ⟨by have := HK.out; have := HT.out; omega⟩, HGD, ⟨by repeat (first | exact HB2.out | apply below_alloc | apply pw_below_drewN | apply below_drew1)⟩⟩
      have f0 : decide ((0 : Int) < (i : Int)) = true := decide_eq_true (by omega)
      have f1 : decide (0 < i) = true := decide_eq_true q
      have hy := HY2.out q
      have ey : ((i : Int) - 1).toNat = i - 1 := by omega
      have ew : IntKind.i64.wrap ((i : Int) - 1) = (i : Int) - 1 := by rw [IntKind.wrap_i64]; omega
      have r0 : ((0 : Int) ≤ (i : Int) - 1) = True := eq_true (by omega)
      have r1 : ((1 : Int) ≤ (i : Int)) = True := eq_true (by omega)
      have r2 : ((i : Int) - 1 < (l0.length : Int)) = True := eq_true (by have := HT.out; omega)
      have Q0 := Aside0.mk q
      clear q
      by_cases q : x0 ≤ y0
      · have s0 : decide (x0 ≤ y0) = true := decide_eq_true q
        have hbv : bv = 5 := by
          rw [← HV.out]
          rw [badV_in HA.out, if_pos HRG.out]
          exact if_pos ⟨Q0.out, q⟩
        obtain rfl : r = 5 := checkTo_bad l0 HT.out HI.out (HBV.out.trans hbv) (by decide) HR.out
        clear hbv
        clear q
        go_quiet (fail)
        go_wp2
        go_ret
        exact ⟨rfl, (by repeat (first | exact HB2.out | apply below_alloc | apply pw_below_drewN | apply below_drew1))⟩
      · have s0 : decide (x0 ≤ y0) = false := decide_eq_false q
        have hbv : bv = 0 := by
          rw [← HV.out]
          rw [badV_in HA.out, if_pos HRG.out]
          exact if_neg (fun h => q h.2)
        have HGD := Aside0.mk (checkTo_good l0 HI.out (HBV.out.trans hbv))
        clear hbv
        clear q
        go_quiet (fail)
        go_wp2
        go_roundg (gk - 1)
        case measure => have := HK.out; have := HT.out; omega
        case rel => exact ⟨i + 1, congrArg (Value.int .i64) WR.out, ⟨by have := HK.out; have := HT.out; omega⟩, HGD, ⟨by repeat (first | exact HB2.out | apply below_alloc | apply pw_below_drewN | apply below_drew1)⟩⟩

end Go.Proofs.Ytfbekkmmafkmpaa.PX
