/- FlowCounts: in each stretch of as many slots as the hyperperiod, behind the Phase, each flow releases as many frames as its Period is contained in it. -/
import Derived.Test.YthlgnbeoanafbaaQFlowCounts
import Derived.Test.YthlgnbeoanafbaaV
import Derived.Test.YthlgnbeoanafbaaU0
namespace Go.Proofs.Ythlgnbeoanafbaa.Pure
open Go.RowKit Go.Proofs.Ythlgnbeoanafbaa.PX Go.Proofs.Ythlgnbeoanafbaa.S Go.Proofs.YthlgnbeoanafbaaW.PrintWords

theorem counts_inner {x0 x1 x2 p ph x5 h a from' : Int} {l : List S23} {q r : Int} {R : Bool} (hf : fault 32 x0 x1 x2 p ph x5 = 0) (hfr : 0 ≤ from') (hfr2 : from' ≤ 65535) (hh : 1 ≤ h) (hh2 : h ≤ 512) (n : Nat) (hn : n ≤ 1024) (A1 : Int) (hA : 0 ≤ A1)
    (hlow : ∀ j : Nat, j < n → ph + from' ≤ ph + (A1 + (j : Int)) * p) (hup : ∀ j : Nat, j < n → ph + (A1 + (j : Int)) * p < ph + from' + h)
    (hout : Ev (fun k => hopmeshlaw32_FlowCounts.l0 k a h l q (wrap64 (r + 1))) R) : ∀ d i : Nat, i + d = n →
    Ev (fun k => hopmeshlaw32_FlowCounts.l1 k a h (ph + from') l q r (run A1 n) (n : Int) (i : Int) x0 x1 x2 p ph x5) R := by
  have hg := fault_zero hf
  unfold S.Good at hg
  intro d
  induction d with
  | zero =>
    intro i hi
    refine Ev.step (fun k => ?_) hout
    simp only [hopmeshlaw32_FlowCounts.l1]
    rw [if_neg (by omega)]
  | succ d ih =>
    intro i hi
    refine Ev.step (fun k => ?_) (ih (i + 1) (by omega))
    have h1 := hlow i (by omega)
    have h2 := hup i (by omega)
    have hrd : rd (run A1 n) (i : Int) = A1 + (i : Int) := by
      unfold rd
      rw [Int.toNat_natCast, run_get A1 n i (by omega)]
    have hmul : (A1 + (i : Int)) * 1 ≤ (A1 + (i : Int)) * p := Int.mul_le_mul_of_nonneg_left (by omega) (by omega)
    have hr : InR p ph (A1 + (i : Int)) := by unfold S.InR; omega
    simp only [hopmeshlaw32_FlowCounts.l1, window_eq, Option.bind_some]
    rw [if_pos (by omega), if_pos (by omega), run_length, if_pos (by omega), hrd]
    unfold S.win
    rw [if_pos hf, if_pos hr]
    simp only [if_true]
    rw [if_neg (by omega), w64 (n := ph + from' + h) (by omega), if_neg (by omega), w64 (by omega)]
    rfl

theorem FlowCounts : hopmeshlaw32_FlowCounts.Pure := by
  intro l a _ _ ha
  have ha := wf_u16 ha
  refine Ev.rounds ?_
  unfold hopmeshlaw32_FlowCounts.f
  refine Ev.bind ev_awake ?_
  simp only [if_true]
  by_cases hl : (l.length : Int) > 16
  · simp only [if_pos hl]
    exact Ev.now true
  simp only [if_neg hl]
  rcases hyper_any l with hok | hbad
  · refine Ev.bind (hyper_ok hok) ?_
    unfold hyp
    have hpos := hyper_pos (ok_per hok) l.length (Nat.le_refl _)
    have hall := (hyper_iff (ok_per hok) (hyperAt l l.length) l.length (Nat.le_refl _)).1 (Int.dvd_refl _)
    by_cases ho : 512 < hyperAt l l.length
    · simp only [if_pos ho]
      exact Ev.now true
    · simp only [if_neg ho, if_true]
      generalize hH : hyperAt l l.length = H at *
      refine Ev.step (f := fun k => hopmeshlaw32_FlowCounts.l0 k a H l (l.length : Int) ((0 : Nat) : Int)) (fun k => ?_) ?_
      · rw [if_neg (by omega)]
        simp only [hopmeshlaw32_FlowCounts.j0]
        rw [if_neg (by simp; omega)]
        rfl
      · have key : ∀ d i : Nat, i + d = l.length → Ev (fun k => hopmeshlaw32_FlowCounts.l0 k a H l (l.length : Int) (i : Int)) true := by
          intro d
          induction d with
          | zero =>
            intro i hi
            refine ev1 fun k => ?_
            simp only [hopmeshlaw32_FlowCounts.l0]
            rw [if_neg (by omega)]
          | succ d ih =>
            intro i hi
            have hnext := ih (i + 1) (by omega)
            have hf : faultAt l i = 0 := hok.2.1 i (by omega)
            have hg := ok_good hok (j := i) (by omega)
            have hdv := hall i (by omega)
            unfold faultAt at hf
            unfold per at hdv
            unfold S.Good at hg
            obtain ⟨x, hx⟩ : ∃ x, rd_T23 l (i : Int) = x := ⟨_, rfl⟩
            obtain ⟨x0, x1, x2, p, ph, x5⟩ := x
            rw [hx] at hf hg hdv
            simp only at hf hg hdv
            obtain ⟨q, hq⟩ := hdv
            have hq0 : 1 ≤ q := by
              rcases Int.lt_or_le q 1 with h | h
              · have : p * q ≤ p * 0 := Int.mul_le_mul_of_nonneg_left (by omega) (by omega)
                omega
              · exact h
            have hqle : q ≤ 512 := by
              have : 1 * q ≤ p * q := Int.mul_le_mul_of_nonneg_right (by omega) (by omega)
              omega
            have hdiv : Int.tdiv H p = q := by rw [hq, Int.mul_comm]; exact Int.mul_tdiv_cancel _ (by omega)
            have hmod : Int.tmod H p = 0 := Int.dvd_iff_tmod_eq_zero.1 ⟨q, hq⟩
            have d1 := aheadOf_bd (phase := ph) (period := p) (slot := ph + a) (by omega) (by omega) (by omega) (by omega) (by omega) (by omega)
            have hA : aheadOf ph p (ph + a + H) = aheadOf ph p (ph + a) + q := by
              unfold aheadOf
              rw [if_neg (by omega), if_neg (by omega)]
              rw [show ph + a + H - ph + p - 1 = (ph + a - ph + p - 1) + q * p by rw [hq, Int.mul_comm]; omega, Int.add_mul_ediv_right _ _ (by omega)]
            have hfrm : frm x0 x1 x2 p ph x5 (ph + a) (ph + a + H) = (run (aheadOf ph p (ph + a)) q.toNat, 0) := by
              unfold frm
              rw [if_pos hf, if_neg (by omega), hA, if_neg (by omega), show aheadOf ph p (ph + a) + q - aheadOf ph p (ph + a) = q by omega]
            have hlow : ∀ j : Nat, j < q.toNat → ph + a ≤ ph + (aheadOf ph p (ph + a) + (j : Int)) * p := by
              intro j hj
              have := lt_ahead (phase := ph) (p := p) (n := aheadOf ph p (ph + a) + (j : Int)) (b := ph + a) (by omega) (by omega)
              rcases Int.lt_or_le (ph + (aheadOf ph p (ph + a) + (j : Int)) * p) (ph + a) with h | h
              · have := this.1 h; omega
              · exact h
            have hup : ∀ j : Nat, j < q.toNat → ph + (aheadOf ph p (ph + a) + (j : Int)) * p < ph + a + H := by
              intro j hj
              refine (lt_ahead (phase := ph) (p := p) (n := aheadOf ph p (ph + a) + (j : Int)) (b := ph + a + H) (by omega) (by omega)).2 ?_
              rw [hA]
              omega
            have hin := counts_inner (a := a) (l := l) (q := (l.length : Int)) (r := (i : Int)) (R := true) hf ha.1 ha.2 hpos (by omega) q.toNat (by omega) (aheadOf ph p (ph + a)) d1.1 hlow hup (by rw [w64 (by omega)]; exact hnext) q.toNat 0 (by omega)
            refine Ev.step (f := fun k => hopmeshlaw32_FlowCounts.j2 k a H (ph + a) (run (aheadOf ph p (ph + a)) q.toNat) l (l.length : Int) (i : Int) false x0 x1 x2 p ph x5) (fun k => ?_) (Ev.step (fun k => ?_) hin)
            · simp only [hopmeshlaw32_FlowCounts.l0]
              rw [if_pos (by omega), if_pos (by omega), if_pos (by omega), hx]
              simp only [frames_eq, Option.bind_some]
              rw [w64 (n := a) (by omega), w64 (n := ph + a) (by omega), w64 (n := ph + a + H) (by omega), hfrm, hmod, hdiv, if_neg (by omega : ¬ p = 0), if_pos rfl, w64 (n := q) (by omega)]
              simp only [if_true, run_length]
              have : ((q.toNat : Int) != q) = false := by rw [bne_eq_false_iff_eq]; omega
              rw [this]
            · simp only [hopmeshlaw32_FlowCounts.j2]
              rw [if_neg (by decide), run_length]
              rfl
        exact key l.length 0 (by omega)
  · refine Ev.bind hbad ?_
    simp only [if_true]
    exact Ev.now true

end Go.Proofs.Ythlgnbeoanafbaa.Pure
