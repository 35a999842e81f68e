/- Plain lemmas of the laws of chapter 32: right lists, and the hyperperiod of a right list. -/
import Derived.Test.YthlgnbeoanafbaaT0
namespace Go.Proofs.Ythlgnbeoanafbaa.S
open Go.RowKit Go.Proofs.Ythlgnbeoanafbaa Go.Proofs.Ythlgnbeoanafbaa.PX Go.Proofs.YthlgnbeoanafbaaW.PrintWords

def faultAt (l : List S23) (j : Nat) : Int := fault 32 (rd_T23 l j).f0 (rd_T23 l j).f1 (rd_T23 l j).f2 (rd_T23 l j).f3 (rd_T23 l j).f4 (rd_T23 l j).f5
def OkList (l : List S23) : Prop := l.length ≤ 16 ∧ (∀ j, j < l.length → faultAt l j = 0) ∧ ∀ j, 0 < j → j < l.length → (rd_T23 l (j - 1 : Nat)).f0 < (rd_T23 l j).f0
theorem check_down (l : List S23) (hl : l.length ≤ 16) (c : Int) : ∀ (k i : Nat), flow_Check.l0 k 32 l l (l.length : Int) (i : Int) = some (c, 0) → ∀ j : Nat, i ≤ j → j < l.length → faultAt l j = 0 ∧ (0 < j → (rd_T23 l (j - 1 : Nat)).f0 < (rd_T23 l j).f0) := by
  intro k
  induction k with
  | zero => intro i h; simp [flow_Check.l0] at h
  | succ k ih =>
    intro i h j hij hj
    simp only [flow_Check.l0] at h
    rw [if_pos (by omega), if_pos (by omega), if_pos (by omega), check_eq, Option.bind_some] at h
    have hw : wrap64 ((i : Int) + 1) = ((i + 1 : Nat) : Int) := by unfold wrap64; omega
    have hm : wrap64 ((i : Int) - 1) = (i : Int) - 1 := by unfold wrap64; omega
    rw [hw, hm] at h
    by_cases hf : fault 32 (rd_T23 l i).f0 (rd_T23 l i).f1 (rd_T23 l i).f2 (rd_T23 l i).f3 (rd_T23 l i).f4 (rd_T23 l i).f5 = 0
    · rw [if_pos hf] at h
      have hnext : flow_Check.l0 k 32 l l (l.length : Int) ((i + 1 : Nat) : Int) = some (c, 0) ∧ (0 < i → (rd_T23 l (i - 1 : Nat)).f0 < (rd_T23 l i).f0) := by
        by_cases hi0 : (i : Int) > 0
        · rw [if_pos hi0, if_pos (by omega), if_pos (by omega)] at h
          by_cases hc : (rd_T23 l i).f0 ≤ (rd_T23 l ((i : Int) - 1)).f0
          · rw [if_pos hc] at h
            simp at h
          · rw [if_neg hc] at h
            refine ⟨h, fun _ => ?_⟩
            rw [show (((i - 1 : Nat)) : Int) = (i : Int) - 1 by omega]
            omega
        · rw [if_neg hi0] at h
          exact ⟨h, fun h0 => by omega⟩
      by_cases hji : j = i
      · subst hji
        exact ⟨hf, hnext.2⟩
      · exact ih (i + 1) hnext.1 j (by omega) hj
    · rw [if_neg hf] at h
      simp only [Option.some.injEq, Prod.mk.injEq] at h
      exact absurd h.2 hf
theorem check_ok {l : List S23} {k : Nat} {c : Int × Int} (h : flow_Check.f k 32 l = some c) (h0 : c.2 = 0) : OkList l := by
  obtain ⟨c1, c2⟩ := c
  obtain rfl : c2 = 0 := h0
  unfold flow_Check.f at h
  rw [if_neg (by omega)] at h
  cases k with
  | zero => simp [flow_Check.j0] at h
  | succ k =>
    simp only [flow_Check.j0] at h
    rw [if_neg (by simp)] at h
    by_cases h16 : (l.length : Int) > 16
    · rw [if_pos h16] at h
      simp at h
    · rw [if_neg h16] at h
      have hd := check_down l (by omega) c1 k 0 h
      exact ⟨by omega, fun j hj => (hd j (Nat.zero_le _) hj).1, fun j h1 hj => (hd j (Nat.zero_le _) hj).2 h1⟩
theorem check_up {l : List S23} (h : OkList l) : ∀ d i : Nat, i + d = l.length → Ev (fun k => flow_Check.l0 k 32 l l (l.length : Int) (i : Int)) (-1, 0) := by
  obtain ⟨hl, hf, ho⟩ := h
  intro d
  induction d with
  | zero =>
    intro i hi
    refine ev1 fun k => ?_
    simp only [flow_Check.l0]
    rw [if_neg (by omega)]
  | succ d ih =>
    intro i hi
    refine Ev.step (fun k => ?_) (ih (i + 1) (by omega))
    have hw : wrap64 ((i : Int) + 1) = ((i + 1 : Nat) : Int) := by unfold wrap64; omega
    have hm : wrap64 ((i : Int) - 1) = (i : Int) - 1 := by unfold wrap64; omega
    simp only [flow_Check.l0]
    rw [if_pos (by omega), if_pos (by omega), if_pos (by omega), check_eq, Option.bind_some, hw, hm, if_pos (show fault 32 (rd_T23 l i).f0 (rd_T23 l i).f1 (rd_T23 l i).f2 (rd_T23 l i).f3 (rd_T23 l i).f4 (rd_T23 l i).f5 = 0 from hf i (by omega))]
    by_cases hi0 : (i : Int) > 0
    · have := ho i (by omega) (by omega)
      rw [show (((i - 1 : Nat)) : Int) = (i : Int) - 1 by omega] at this
      rw [if_pos hi0, if_pos (by omega), if_pos (by omega), if_neg (by omega)]
    · rw [if_neg hi0]
theorem check_ev {l : List S23} (h : OkList l) : Ev (fun k => flow_Check.f k 32 l) (-1, 0) := by
  unfold flow_Check.f
  refine Ev.step (fun k => ?_) (check_up h l.length 0 (by omega))
  rw [if_neg (by omega)]
  simp only [flow_Check.j0]
  rw [if_neg (by simp), if_neg (by have := h.1; omega)]
  rfl
theorem ok_good {l : List S23} (h : OkList l) {j : Nat} (hj : j < l.length) : S.Good 32 (rd_T23 l j).f0 (rd_T23 l j).f1 (rd_T23 l j).f2 (rd_T23 l j).f3 (rd_T23 l j).f4 (rd_T23 l j).f5 := fault_zero (h.2.1 j hj)
theorem ok_per {l : List S23} (h : OkList l) : ∀ j, j < l.length → 1 ≤ per l j := fun j hj => by
  have := ok_good h hj
  unfold S.Good at this
  exact this.2.2.2.2.2.2.1
theorem hyper_ok {l : List S23} (h : OkList l) : Ev (fun k => flow_Hyper.f k l) (hyp l) := by
  unfold flow_Hyper.f
  refine Ev.bind (check_ev h) ?_
  simp only [if_true]
  unfold hyp
  by_cases ho : hyperOver l = true
  · rw [if_pos ho, if_pos ((hyper_over (ok_per h)).1 ho)]
    exact Ev.now _
  · rw [if_neg ho, if_neg (fun h' => ho ((hyper_over (ok_per h)).2 h'))]
    exact Ev.now _
theorem check_loop_any (l : List S23) (hl : l.length ≤ 16) : ∀ d i : Nat, i + d = l.length → ∃ r, Ev (fun k => flow_Check.l0 k 32 l l (l.length : Int) (i : Int)) r := by
  intro d
  induction d with
  | zero =>
    intro i hi
    refine ⟨(-1, 0), ev1 fun k => ?_⟩
    simp only [flow_Check.l0]
    rw [if_neg (by omega)]
  | succ d ih =>
    intro i hi
    obtain ⟨r, e1⟩ := ih (i + 1) (by omega)
    have hw : wrap64 ((i : Int) + 1) = ((i + 1 : Nat) : Int) := by unfold wrap64; omega
    have hm : wrap64 ((i : Int) - 1) = (i : Int) - 1 := by unfold wrap64; omega
    by_cases hf : fault 32 (rd_T23 l i).f0 (rd_T23 l i).f1 (rd_T23 l i).f2 (rd_T23 l i).f3 (rd_T23 l i).f4 (rd_T23 l i).f5 = 0
    · by_cases hi0 : (i : Int) > 0
      · by_cases hc : (rd_T23 l i).f0 ≤ (rd_T23 l ((i : Int) - 1)).f0
        · refine ⟨(i, 5), ev1 fun k => ?_⟩
          simp only [flow_Check.l0]
          rw [if_pos (by omega), if_pos (by omega), if_pos (by omega), check_eq, Option.bind_some, if_pos hf, if_pos hi0, hm, if_pos (by omega), if_pos (by omega), if_pos hc]
        · refine ⟨r, Ev.step (fun k => ?_) e1⟩
          simp only [flow_Check.l0]
          rw [if_pos (by omega), if_pos (by omega), if_pos (by omega), check_eq, Option.bind_some, if_pos hf, if_pos hi0, hm, if_pos (by omega), if_pos (by omega), if_neg hc, hw]
      · refine ⟨r, Ev.step (fun k => ?_) e1⟩
        simp only [flow_Check.l0]
        rw [if_pos (by omega), if_pos (by omega), if_pos (by omega), check_eq, Option.bind_some, if_pos hf, if_neg hi0, hw]
    · refine ⟨(i, fault 32 (rd_T23 l i).f0 (rd_T23 l i).f1 (rd_T23 l i).f2 (rd_T23 l i).f3 (rd_T23 l i).f4 (rd_T23 l i).f5), ev1 fun k => ?_⟩
      simp only [flow_Check.l0]
      rw [if_pos (by omega), if_pos (by omega), if_pos (by omega), check_eq, Option.bind_some, if_neg hf]
theorem check_any (l : List S23) : ∃ r, Ev (fun k => flow_Check.f k 32 l) r := by
  unfold flow_Check.f
  by_cases hl : (l.length : Int) > 16
  · refine ⟨(-1, 8), ev1 fun k => ?_⟩
    rw [if_neg (by omega)]
    simp only [flow_Check.j0]
    rw [if_neg (by simp), if_pos hl]
  · obtain ⟨r, e1⟩ := check_loop_any l (by omega) l.length 0 (by omega)
    refine ⟨r, Ev.step (fun k => ?_) e1⟩
    rw [if_neg (by omega)]
    simp only [flow_Check.j0]
    rw [if_neg (by simp), if_neg hl]
    rfl
theorem hyper_any (l : List S23) : OkList l ∨ Ev (fun k => flow_Hyper.f k l) (0, 1) := by
  obtain ⟨c, e1⟩ := check_any l
  by_cases hc : c.2 = 0
  · obtain ⟨k, hk⟩ := e1.rounds
    exact .inl (check_ok hk hc)
  · refine .inr ?_
    unfold flow_Hyper.f
    refine Ev.bind e1 ?_
    simp only [if_neg hc]
    exact Ev.now _
end Go.Proofs.Ythlgnbeoanafbaa.S
