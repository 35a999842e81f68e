/- AllocateNoSwing: for a steady demand the number of cells goes one way only, and comes to where it settles. -/
import Derived.Test.YtfbekkmmafkmpaaPXx32
import Derived.Test.YtfbekkmmafkmpaaB
namespace Go.Proofs.Ytfbekkmmafkmpaa.Pure
open Go.RowKit Go.Proofs.Ytfbekkmmafkmpaa.PX Go.Proofs.Ytfbekkmmafkmpaa.S Go.Proofs.YtfbekkmmafkmpaaW.PrintWords Go.Proofs.YtfbekkmmafkmpaaW.PrintMore
set_option linter.unusedVariables false

theorem wfu8 {n : Int} (h : (Lit.int .u8 n).wf = true) : 0 ≤ n ∧ n ≤ 255 := by
  simp only [Lit.wf, Bool.and_eq_true, decide_eq_true_eq] at h
  exact h
theorem ev_down {α : Type} {g f : Nat → Option α} {r : α} (h : ∀ k, g (k + 1) = f k) (k : Ev g r) : Ev f r := by
  obtain ⟨K, hK⟩ := k
  exact ⟨K, fun n hn => by rw [← h n]; exact hK (n + 1) (by omega)⟩
theorem ev_same {α : Type} {g : Nat → Option α} {r s : α} (h : Ev g r) (k : Ev g s) : r = s := by
  obtain ⟨K, hK⟩ := h
  obtain ⟨L, hL⟩ := k
  have h1 := hK (K + L) (by omega)
  rw [hL (K + L) (by omega)] at h1
  exact (Option.some.inj h1).symm
/-- How many rounds are left at most, if the last step was this. -/
def leftOf (last at_ : Int) : Int := if last = 1 then 64 - at_ else if last = 2 then at_ else 65
theorem swing_loop {n0 D L M N r : Int} (hD : 0 ≤ D) (hD2 : D ≤ 79) (hL : 0 ≤ L) (hLM : L ≤ M) (hM : M ≤ 64) (hN0 : 0 ≤ N) (hN1 : N ≤ 64) (hn0 : Int.tmod (wrap64 n0) 65 = N) (hr : Ev (fun k => allocate_Settle.l0 k N D L M) (r, 0)) :
    ∀ (m : Nat) (a last j : Int), 0 ≤ a → a ≤ 64 → Ev (fun k => allocate_Settle.l0 k a D L M) (r, 0) → (last = 0 ∨ last = 1 ∧ (stepOf D L M a).1 ≠ 2 ∨ last = 2 ∧ (stepOf D L M a).1 ≠ 1) → leftOf last a ≤ m → 0 ≤ j → j + m ≤ 69 →
      Ev (fun k => hopmeshlaw29_AllocateNoSwing.l0 k n0 M L a D last j) true := by
  intro m
  induction m with
  | zero =>
    intro a last j a0 a1 he hl hm j0 j1
    obtain ⟨R, rfl⟩ := Int.eq_ofNat_of_zero_le a0
    obtain ⟨K1, h1⟩ := cells_is R D (by omega)
    obtain ⟨K2, h2⟩ := Decide_cells hD hL hLM hM R (by omega)
    have hs : (stepOf D L M (R : Int)).1 = 0 := by
      rcases step_any D L M (R : Int) with h | h | h
      · exact h
      · have := step_up hD (by omega) hLM h
        unfold leftOf at hm
        rcases hl with e | ⟨e, q⟩ | ⟨e, q⟩
        · rw [if_neg (by omega), if_neg (by omega)] at hm; omega
        · rw [if_pos e] at hm; omega
        · exact absurd h q
      · have := step_down hD (by omega) h
        unfold leftOf at hm
        rcases hl with e | ⟨e, q⟩ | ⟨e, q⟩
        · rw [if_neg (by omega), if_neg (by omega)] at hm; omega
        · exact absurd h q
        · rw [if_neg (by omega), if_pos e] at hm; omega
    have hrR := ev_same he (settle_stop hD hL hLM hM (by omega) a1 hs)
    obtain ⟨K3, h3⟩ := Settle_is hD hL hLM hM (by omega) hN0 hN1 hr
    refine ⟨K1 + K2 + K3 + 2, fun k hk => ?_⟩
    obtain ⟨k, rfl⟩ : ∃ m, k = m + 2 := ⟨k - 2, by omega⟩
    have g1 : hopmeshlaw29_cells.f (k + 1) (R : Int) D = some (cellsOf R D) := h1 (k + 1) (by omega)
    have g2 : allocate_Decide.f (k + 1) (cellsOf R D) 0 L M = some ((stepOf D L M (R : Int)).1, (stepOf D L M (R : Int)).2, 0) := h2 (k + 1) (by omega)
    have g3 : allocate_Settle.f k N D L M = some (r, 0) := h3 k (by omega)
    simp only [hopmeshlaw29_AllocateNoSwing.l0]
    rw [if_pos (by omega), g1, Option.bind_some, g2, Option.bind_some, if_pos rfl, hs, if_neg (by omega)]
    simp only [hopmeshlaw29_AllocateNoSwing.j1]
    rw [if_pos (by rfl), hn0, g3, Option.bind_some, if_pos rfl, (Prod.mk.inj hrR).1]
    simp
  | succ m ih =>
    intro a last j a0 a1 he hl hm j0 j1
    obtain ⟨R, rfl⟩ := Int.eq_ofNat_of_zero_le a0
    obtain ⟨K1, h1⟩ := cells_is R D (by omega)
    obtain ⟨K2, h2⟩ := Decide_cells hD hL hLM hM R (by omega)
    have wj : wrap64 (j + 1) = j + 1 := by unfold wrap64; omega
    rcases step_any D L M (R : Int) with hs | hs | hs
    · have hrR := ev_same he (settle_stop hD hL hLM hM (by omega) a1 hs)
      obtain ⟨K3, h3⟩ := Settle_is hD hL hLM hM (by omega) hN0 hN1 hr
      refine ⟨K1 + K2 + K3 + 2, fun k hk => ?_⟩
      obtain ⟨k, rfl⟩ : ∃ m, k = m + 2 := ⟨k - 2, by omega⟩
      have g1 : hopmeshlaw29_cells.f (k + 1) (R : Int) D = some (cellsOf R D) := h1 (k + 1) (by omega)
      have g2 : allocate_Decide.f (k + 1) (cellsOf R D) 0 L M = some ((stepOf D L M (R : Int)).1, (stepOf D L M (R : Int)).2, 0) := h2 (k + 1) (by omega)
      have g3 : allocate_Settle.f k N D L M = some (r, 0) := h3 k (by omega)
      simp only [hopmeshlaw29_AllocateNoSwing.l0]
      rw [if_pos (by omega), g1, Option.bind_some, g2, Option.bind_some, if_pos rfl, hs, if_neg (by omega)]
      simp only [hopmeshlaw29_AllocateNoSwing.j1]
      rw [if_pos (by rfl), hn0, g3, Option.bind_some, if_pos rfl, (Prod.mk.inj hrR).1]
      simp
    · obtain ⟨u1, u2, u3, u4⟩ := step_up hD (by omega) hLM hs
      have he2 : Ev (fun k => allocate_Settle.l0 k ((R : Int) + (stepOf D L M (R : Int)).2) D L M) (r, 0) := ev_down (fun k => by rw [settle_step hD hL hLM hM k (by omega) a1, if_pos hs]) he
      have hlast : last = 0 ∨ last = 1 := by
        rcases hl with e | ⟨e, q⟩ | ⟨e, q⟩
        · exact .inl e
        · exact .inr e
        · exact absurd hs q
      obtain ⟨K, hK⟩ := ih ((R : Int) + (stepOf D L M (R : Int)).2) 1 (j + 1) (by omega) (by omega) he2 (.inr (.inl ⟨rfl, u4⟩)) (by
        unfold leftOf at hm ⊢
        rw [if_pos rfl]
        rcases hlast with e | e
        · rw [if_neg (by omega), if_neg (by omega)] at hm; omega
        · rw [if_pos e] at hm; omega) (by omega) (by omega)
      refine ⟨K + K1 + K2 + 3, fun k hk => ?_⟩
      obtain ⟨k, rfl⟩ : ∃ m, k = m + 3 := ⟨k - 3, by omega⟩
      have g1 : hopmeshlaw29_cells.f (k + 2) (R : Int) D = some (cellsOf R D) := h1 (k + 2) (by omega)
      have g2 : allocate_Decide.f (k + 2) (cellsOf R D) 0 L M = some ((stepOf D L M (R : Int)).1, (stepOf D L M (R : Int)).2, 0) := h2 (k + 2) (by omega)
      have g4 := hK k (by omega)
      have wa : wrap64 ((R : Int) + (stepOf D L M (R : Int)).2) = (R : Int) + (stepOf D L M (R : Int)).2 := by unfold wrap64; omega
      have hcond : (if last = 0 then hopmeshlaw29_AllocateNoSwing.j2 (k + 1) n0 M L (R : Int) D 1 (stepOf D L M (R : Int)).2 j false else hopmeshlaw29_AllocateNoSwing.j2 (k + 1) n0 M L (R : Int) D 1 (stepOf D L M (R : Int)).2 j (last != 1)) = hopmeshlaw29_AllocateNoSwing.j2 (k + 1) n0 M L (R : Int) D 1 (stepOf D L M (R : Int)).2 j false := by
        rcases hlast with e | e
        · rw [if_pos e]
        · rw [if_neg (by omega), e]; rfl
      simp only [hopmeshlaw29_AllocateNoSwing.l0]
      rw [if_pos (by omega), g1, Option.bind_some, g2, Option.bind_some, if_pos rfl, if_pos hs, hs]
      simp only [hopmeshlaw29_AllocateNoSwing.j1]
      rw [if_neg (by simp), if_neg (by omega), if_neg (by omega), hcond]
      simp only [hopmeshlaw29_AllocateNoSwing.j2]
      rw [if_neg (by simp), if_pos trivial, wa, if_neg (by omega), if_neg (by omega), wj]
      exact g4
    · obtain ⟨u1, u2, u3, u4⟩ := step_down hD (by omega) hs
      have he2 : Ev (fun k => allocate_Settle.l0 k ((R : Int) - 1) D L M) (r, 0) := ev_down (fun k => by rw [settle_step hD hL hLM hM k (by omega) a1, if_neg (by omega), if_pos hs, u1]) he
      have hlast : last = 0 ∨ last = 2 := by
        rcases hl with e | ⟨e, q⟩ | ⟨e, q⟩
        · exact .inl e
        · exact absurd hs q
        · exact .inr e
      obtain ⟨K, hK⟩ := ih ((R : Int) - 1) 2 (j + 1) (by omega) (by omega) he2 (.inr (.inr ⟨rfl, u4⟩)) (by
        unfold leftOf at hm ⊢
        rw [if_neg (by omega), if_pos rfl]
        rcases hlast with e | e
        · rw [if_neg (by omega), if_neg (by omega)] at hm; omega
        · rw [if_neg (by omega), if_pos e] at hm; omega) (by omega) (by omega)
      refine ⟨K + K1 + K2 + 3, fun k hk => ?_⟩
      obtain ⟨k, rfl⟩ : ∃ m, k = m + 3 := ⟨k - 3, by omega⟩
      have g1 : hopmeshlaw29_cells.f (k + 2) (R : Int) D = some (cellsOf R D) := h1 (k + 2) (by omega)
      have g2 : allocate_Decide.f (k + 2) (cellsOf R D) 0 L M = some ((stepOf D L M (R : Int)).1, (stepOf D L M (R : Int)).2, 0) := h2 (k + 2) (by omega)
      have g4 := hK k (by omega)
      have wa : wrap64 ((R : Int) - 1) = (R : Int) - 1 := by unfold wrap64; omega
      have hcond : (if last = 0 then hopmeshlaw29_AllocateNoSwing.j2 (k + 1) n0 M L (R : Int) D 2 1 j false else hopmeshlaw29_AllocateNoSwing.j2 (k + 1) n0 M L (R : Int) D 2 1 j (last != 2)) = hopmeshlaw29_AllocateNoSwing.j2 (k + 1) n0 M L (R : Int) D 2 1 j false := by
        rcases hlast with e | e
        · rw [if_pos e]
        · rw [if_neg (by omega), e]; rfl
      simp only [hopmeshlaw29_AllocateNoSwing.l0]
      rw [if_pos (by omega), g1, Option.bind_some, g2, Option.bind_some, if_pos rfl, if_neg (by omega), hs, u1]
      simp only [hopmeshlaw29_AllocateNoSwing.j1]
      rw [if_neg (by decide), if_neg (by omega), if_neg (by omega), hcond]
      simp only [hopmeshlaw29_AllocateNoSwing.j2]
      rw [if_neg (by simp), if_neg (by omega), wa, if_neg (by omega), if_neg (by omega), wj]
      exact g4
theorem AllocateNoSwing : hopmeshlaw29_AllocateNoSwing.Pure := by
  intro n d le mo hn hd hle hmo
  have hn := wfu8 hn
  have hd := wfu8 hd
  have hle := wfu8 hle
  have hmo := wfu8 hmo
  refine Ev.rounds ?_
  unfold hopmeshlaw29_AllocateNoSwing.f
  refine Ev.bind ev_awake ?_
  simp only [if_true]
  have w0 : ∀ x : Int, 0 ≤ x → x ≤ 255 → wrap64 x = x := fun x h1 h2 => by unfold wrap64; omega
  have hn0 : Int.tmod (wrap64 n) 65 = n % 65 := by rw [w0 n hn.1 hn.2, Int.tmod_eq_emod_of_nonneg hn.1]
  rw [hn0, w0 d hd.1 hd.2, w0 le hle.1 hle.2, w0 mo hmo.1 hmo.2, Int.tmod_eq_emod_of_nonneg hd.1, Int.tmod_eq_emod_of_nonneg hmo.1, Int.tmod_eq_emod_of_nonneg hle.1, w0 (mo % 65 + 1) (by omega) (by omega)]
  have hl0 := Int.emod_nonneg le (b := mo % 65 + 1) (by omega)
  have hl1 := Int.emod_lt_of_pos le (b := mo % 65 + 1) (by omega)
  obtain ⟨M, hM⟩ : ∃ M, mo % 65 = M := ⟨_, rfl⟩
  have M0 : 0 ≤ M ∧ M ≤ 64 := by omega
  rw [hM] at hl0 hl1 ⊢
  obtain ⟨L, hL⟩ : ∃ L, le % (M + 1) = L := ⟨_, rfl⟩
  rw [hL] at hl0 hl1 ⊢
  obtain ⟨N, hN⟩ : ∃ N, n % 65 = N := ⟨_, rfl⟩
  have N0 : 0 ≤ N ∧ N ≤ 64 := by omega
  rw [hN] at hn0 ⊢
  obtain ⟨D, hD⟩ : ∃ D, d % 80 = D := ⟨_, rfl⟩
  have D0 : 0 ≤ D ∧ D ≤ 79 := by omega
  rw [hD]
  clear hn hd hle hmo w0 hM hL hN hD
  simp only [if_neg (show ¬ M + 1 = 0 by omega)]
  obtain ⟨r, e1, -⟩ := settle_any D0.1 hl0 (show L ≤ M by omega) M0.2 N0.1 N0.2
  exact swing_loop D0.1 D0.2 hl0 (show L ≤ M by omega) M0.2 N0.1 N0.2 hn0 e1 65 N 0 0 N0.1 N0.2 e1 (.inl rfl) (by unfold leftOf; rw [if_neg (by omega), if_neg (by omega)]; omega) (by omega) (by omega)
end Go.Proofs.Ytfbekkmmafkmpaa.Pure
