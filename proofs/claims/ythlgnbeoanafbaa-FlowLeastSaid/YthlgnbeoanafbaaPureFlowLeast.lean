/- FlowLeast: no number less than the hyperperiod is a multiple of all Periods; with one more flow it is a multiple of the one before. -/
import Derived.Test.YthlgnbeoanafbaaQFlowLeast
import Derived.Test.YthlgnbeoanafbaaV
namespace Go.Proofs.Ythlgnbeoanafbaa.Pure
open Go.RowKit Go.Proofs.Ythlgnbeoanafbaa.PX Go.Proofs.Ythlgnbeoanafbaa.S Go.Proofs.YthlgnbeoanafbaaW.PrintWords

theorem rd_take (l : List S23) (m j : Nat) (hj : j < m) : rd_T23 (l.take m) (j : Int) = rd_T23 l (j : Int) := by
  unfold rd_T23
  rw [Int.toNat_natCast, List.getD_eq_getElem?_getD, List.getD_eq_getElem?_getD, List.getElem?_take, if_pos hj]
theorem ok_take {l : List S23} (h : OkList l) (m : Nat) : OkList (l.take m) := by
  obtain ⟨h1, h2, h3⟩ := h
  refine ⟨by rw [List.length_take]; omega, fun j hj => ?_, fun j hj0 hj => ?_⟩
  · rw [List.length_take] at hj
    have := h2 j (by omega)
    unfold faultAt at this ⊢
    rw [rd_take l m j (by omega)]
    exact this
  · rw [List.length_take] at hj
    rw [rd_take l m j (by omega), rd_take l m (j - 1) (by omega)]
    exact h3 j hj0 (by omega)
theorem hyper_take (l : List S23) (m : Nat) : ∀ i, i ≤ m → hyperAt (l.take m) i = hyperAt l i := by
  intro i
  induction i with
  | zero => intro _; rfl
  | succ i ih =>
    intro hi
    simp only [hyperAt]
    rw [ih (by omega), rd_take l m i (by omega)]

theorem FlowLeast : hopmeshlaw32_FlowLeast.Pure := by
  intro l a _ _ ha
  have ha := wf_u16 ha
  refine Ev.rounds ?_
  unfold hopmeshlaw32_FlowLeast.f
  refine Ev.bind ev_awake ?_
  simp only [if_true]
  by_cases h0 : l.length = 0
  · simp only [if_pos h0]
    exact Ev.now true
  simp only [if_neg h0]
  by_cases h16 : 16 < l.length
  · simp only [if_pos h16]
    exact Ev.now true
  simp only [if_neg h16]
  rcases hyper_any l with hok | hbad
  · refine Ev.bind (hyper_ok hok) (Ev.bind (hyper_ok (ok_take hok (l.length - 1))) ?_)
    have hpos := hyper_pos (ok_per hok) l.length (Nat.le_refl _)
    have hposp := hyper_pos (ok_per hok) (l.length - 1) (by omega)
    have hall := (hyper_iff (ok_per hok) (hyperAt l l.length) l.length (Nat.le_refl _)).1 (Int.dvd_refl _)
    have hdv : hyperAt l (l.length - 1) ∣ hyperAt l l.length := (hyper_iff (ok_per hok) _ (l.length - 1) (by omega)).2 (fun j hj => hall j (by omega))
    have hle := hyper_mono (ok_per hok) (i := l.length - 1) (by omega)
    have hlt : (l.take (l.length - 1)).length = l.length - 1 := by rw [List.length_take]; omega
    unfold hyp
    rw [hlt, hyper_take l (l.length - 1) (l.length - 1) (Nat.le_refl _)]
    by_cases ho : 512 < hyperAt l l.length
    · simp only [if_pos ho]
      exact Ev.now true
    · rw [if_neg ho, if_neg (show ¬ 512 < hyperAt l (l.length - 1) by omega)]
      refine Ev.of (fun _ => LeO.refl _) (k := 0) ?_
      rw [if_neg (show ¬ ((hyperAt l l.length, (0 : Int)).2 ≠ 0) from fun h => h rfl)]
      have hper : ∀ j : Nat, j < l.length → 1 ≤ (rd_T23 l j).f3 ∧ (rd_T23 l j).f3 ≤ 512 := fun j hj => by
        have := ok_good hok hj
        unfold S.Good at this
        omega
      rw [if_pos ⟨rfl, hposp, hpos, by omega, Int.emod_eq_zero_of_dvd hdv, ha.1, ha.2, hper⟩]
      by_cases hz : a % hyperAt l l.length = 0
      · rw [if_pos hz]
      · rw [if_neg hz, if_pos]
        rw [List.any_eq_true]
        refine Classical.byContradiction fun hno => ?_
        have hd : hyperAt l l.length ∣ a % hyperAt l l.length := by
          refine (hyper_iff (ok_per hok) _ l.length (Nat.le_refl _)).2 (fun j hj => ?_)
          refine Classical.byContradiction fun hnd => hno ⟨j, List.mem_range.2 hj, ?_⟩
          rw [bne_iff_ne]
          exact fun h => hnd (Int.dvd_of_emod_eq_zero h)
        have h1 : 0 ≤ a % hyperAt l l.length := Int.emod_nonneg _ (by omega)
        have h2 : a % hyperAt l l.length < hyperAt l l.length := Int.emod_lt_of_pos _ (by omega)
        have := Int.le_of_dvd (by omega) hd
        omega
  · obtain ⟨g, eg⟩ : ∃ g, Ev (fun k => flow_Hyper.f k (l.take (l.length - 1))) g := (hyper_any (l.take (l.length - 1))).elim (fun h => ⟨_, hyper_ok h⟩) (fun h => ⟨_, h⟩)
    refine Ev.bind hbad (Ev.bind eg ?_)
    simp only [ne_eq]
    exact Ev.now true

end Go.Proofs.Ythlgnbeoanafbaa.Pure
