/- Plain lemmas of the laws of chapter 32: checks of lists, the hyperperiod, searches. -/
import Derived.Test.YthlgnbeoanafbaaPXx5
import Derived.Test.YthlgnbeoanafbaaS
namespace Go.Proofs.Ythlgnbeoanafbaa.S
open Go.RowKit Go.Proofs.Ythlgnbeoanafbaa Go.Proofs.Ythlgnbeoanafbaa.PX Go.Proofs.YthlgnbeoanafbaaW.PrintWords

theorem check_loop (n : Int) (h0 : 2 ≤ n) (h1 : n ≤ 32) (l : List S23) (hl : l.length ≤ 16) : ∀ d i : Nat, i + d = l.length → ∃ r, Ev (fun k => flow_Check.l0 k n l l (l.length : Int) (i : Int)) r ∧ Ev (fun k => hopmeshref32_Check.l0 k n l (i : Int)) r := by
  intro d
  induction d with
  | zero =>
    intro i hi
    refine ⟨(-1, 0), ev1 fun k => ?_, ev1 fun k => ?_⟩
    · simp only [flow_Check.l0]
      rw [if_neg (by omega)]
    · simp only [hopmeshref32_Check.l0]
      rw [if_neg (by omega)]
  | succ d ih =>
    intro i hi
    obtain ⟨r, e1, e2⟩ := ih (i + 1) (by omega)
    have hw : wrap64 ((i : Int) + 1) = ((i + 1 : Nat) : Int) := by unfold wrap64; omega
    have hm : wrap64 ((i : Int) - 1) = (i : Int) - 1 := by unfold wrap64; omega
    by_cases hf : fault n (rd_T23 l i).f0 (rd_T23 l i).f1 (rd_T23 l i).f2 (rd_T23 l i).f3 (rd_T23 l i).f4 (rd_T23 l i).f5 = 0
    · by_cases hi0 : (i : Int) > 0
      · by_cases hc : (rd_T23 l i).f0 ≤ (rd_T23 l ((i : Int) - 1)).f0
        · refine ⟨(i, 5), ev1 fun k => ?_, ?_⟩
          · simp only [flow_Check.l0]
            rw [if_pos (by omega), if_pos (by omega), if_pos (by omega), check_eq, Option.bind_some, if_pos hf, if_pos hi0, hm, if_pos (by omega), if_pos (by omega), if_pos hc]
          · refine ⟨2, fun k hk => ?_⟩
            obtain ⟨k, rfl⟩ : ∃ m, k = m + 2 := ⟨k - 2, by omega⟩
            simp only [hopmeshref32_Check.l0]
            rw [if_pos (by omega), if_pos (by omega), fault_eq k _ _ _ _ _ _ _ h0 h1, Option.bind_some, if_pos hf, if_pos hi0, hm, if_pos (by omega), if_pos (by omega), if_pos hc]
        · refine ⟨r, Ev.step (fun k => ?_) e1, ?_⟩
          · simp only [flow_Check.l0]
            rw [if_pos (by omega), if_pos (by omega), if_pos (by omega), check_eq, Option.bind_some, if_pos hf, if_pos hi0, hm, if_pos (by omega), if_pos (by omega), if_neg hc, hw]
          · refine Ev.step (f := fun k => (hopmeshref32_Fault.f k n (rd_T23 l i).f0 (rd_T23 l i).f1 (rd_T23 l i).f2 (rd_T23 l i).f3 (rd_T23 l i).f4 (rd_T23 l i).f5).bind fun t => if t = 0 then hopmeshref32_Check.l0 k n l ((i + 1 : Nat) : Int) else some ((i : Int), t)) (fun k => ?_) (Ev.bind (ev_fault n _ _ _ _ _ _ h0 h1) ?_)
            · simp only [hopmeshref32_Check.l0]
              rw [if_pos (by omega), if_pos (by omega), if_pos hi0, hm, if_pos (by omega), if_pos (by omega), if_neg hc, hw]
            · simp only [if_pos hf]
              exact e2
      · refine ⟨r, Ev.step (fun k => ?_) e1, ?_⟩
        · simp only [flow_Check.l0]
          rw [if_pos (by omega), if_pos (by omega), if_pos (by omega), check_eq, Option.bind_some, if_pos hf, if_neg hi0, hw]
        · refine Ev.step (f := fun k => (hopmeshref32_Fault.f k n (rd_T23 l i).f0 (rd_T23 l i).f1 (rd_T23 l i).f2 (rd_T23 l i).f3 (rd_T23 l i).f4 (rd_T23 l i).f5).bind fun t => if t = 0 then hopmeshref32_Check.l0 k n l ((i + 1 : Nat) : Int) else some ((i : Int), t)) (fun k => ?_) (Ev.bind (ev_fault n _ _ _ _ _ _ h0 h1) ?_)
          · simp only [hopmeshref32_Check.l0]
            rw [if_pos (by omega), if_pos (by omega), if_neg hi0, hw]
          · simp only [if_pos hf]
            exact e2
    · refine ⟨(i, fault n (rd_T23 l i).f0 (rd_T23 l i).f1 (rd_T23 l i).f2 (rd_T23 l i).f3 (rd_T23 l i).f4 (rd_T23 l i).f5), ev1 fun k => ?_, ?_⟩
      · simp only [flow_Check.l0]
        rw [if_pos (by omega), if_pos (by omega), if_pos (by omega), check_eq, Option.bind_some, if_neg hf]
      · refine ⟨2, fun k hk => ?_⟩
        obtain ⟨k, rfl⟩ : ∃ m, k = m + 2 := ⟨k - 2, by omega⟩
        simp only [hopmeshref32_Check.l0]
        rw [if_pos (by omega), if_pos (by omega), fault_eq k _ _ _ _ _ _ _ h0 h1, Option.bind_some, if_neg hf]

theorem check_both (n : Int) (l : List S23) : ∃ r, Ev (fun k => flow_Check.f k n l) r ∧ Ev (fun k => hopmeshref32_Check.f k n l) r := by
  unfold flow_Check.f hopmeshref32_Check.f
  simp only [in_eq, Option.bind_some, decide_eq_true_eq]
  by_cases hn : 2 ≤ n ∧ n ≤ 32
  · by_cases hl : (l.length : Int) > 16
    · refine ⟨(-1, 8), ev1 fun k => ?_, ?_⟩
      · rw [if_neg (by omega)]
        simp only [flow_Check.j0]
        rw [if_neg (by simp; omega), if_pos hl]
      · simp only [if_pos hn, if_pos hl]
        exact Ev.now _
    · obtain ⟨r, e1, e2⟩ := check_loop n hn.1 hn.2 l (by omega) l.length 0 (by omega)
      refine ⟨r, Ev.step (fun k => ?_) e1, ?_⟩
      · rw [if_neg (by omega)]
        simp only [flow_Check.j0]
        rw [if_neg (by simp; omega), if_neg hl]
        rfl
      · simp only [if_pos hn, if_neg hl]
        exact e2
  · refine ⟨(-1, 2), ?_, ?_⟩
    · refine ev1 fun k => ?_
      split
      · simp only [flow_Check.j0, if_true]
      · simp only [flow_Check.j0]
        rw [if_pos (by simp; omega)]
    · simp only [if_neg hn]
      exact Ev.now _

/-! the hyperperiod -/
def per (l : List S23) (j : Nat) : Int := (rd_T23 l j).f3
theorem lcm_iff {x p n : Int} (hx : 1 ≤ x) (hp : 1 ≤ p) : x / (Int.gcd x p : Int) * p ∣ n ↔ x ∣ n ∧ p ∣ n := by
  obtain ⟨a, rfl⟩ := Int.eq_ofNat_of_zero_le (show 0 ≤ x by omega)
  obtain ⟨b, rfl⟩ := Int.eq_ofNat_of_zero_le (show 0 ≤ p by omega)
  have e : ((a : Int) / (Int.gcd (a : Int) (b : Int) : Int) * (b : Int)) = ((Nat.lcm a b : Nat) : Int) := by
    rw [Int.gcd_natCast_natCast, ← Int.natCast_ediv, ← Int.natCast_mul]
    congr 1
    unfold Nat.lcm
    rw [Nat.div_mul_right_comm (Nat.gcd_dvd_left a b)]
  rw [e]
  have h1 : ∀ m : Nat, ((m : Int) ∣ n ↔ m ∣ n.natAbs) := fun m => Int.ofNat_dvd_left
  rw [h1, h1, h1]
  exact ⟨fun h => ⟨Nat.dvd_trans (Nat.dvd_lcm_left a b) h, Nat.dvd_trans (Nat.dvd_lcm_right a b) h⟩, fun h => Nat.lcm_dvd h.1 h.2⟩
theorem hyper_pos {l : List S23} (hl : ∀ j, j < l.length → 1 ≤ per l j) : ∀ i, i ≤ l.length → 1 ≤ hyperAt l i := by
  intro i
  induction i with
  | zero => intro _; simp [hyperAt]
  | succ i ih =>
    intro hi
    have h1 := ih (by omega)
    have h2 := hl i (by omega)
    have hg : 0 < Int.gcd (hyperAt l i) (per l i) := Int.gcd_pos_of_ne_zero_left _ (by omega)
    have hle : (Int.gcd (hyperAt l i) (per l i) : Int) ≤ hyperAt l i := Int.le_of_dvd (by omega) (Int.gcd_dvd_left ..)
    have h3 : 1 ≤ hyperAt l i / (Int.gcd (hyperAt l i) (per l i) : Int) := by
      have : 0 < hyperAt l i / (Int.gcd (hyperAt l i) (per l i) : Int) := Int.ediv_pos_of_pos_of_dvd (by omega) (by omega) (Int.gcd_dvd_left ..)
      omega
    have h4 : 1 * 1 ≤ hyperAt l i / (Int.gcd (hyperAt l i) (per l i) : Int) * per l i := Int.mul_le_mul h3 h2 (by omega) (by omega)
    simpa [hyperAt, per] using h4
theorem hyper_iff {l : List S23} (hl : ∀ j, j < l.length → 1 ≤ per l j) (n : Int) : ∀ i, i ≤ l.length → (hyperAt l i ∣ n ↔ ∀ j, j < i → per l j ∣ n) := by
  intro i
  induction i with
  | zero => intro _; simp [hyperAt]
  | succ i ih =>
    intro hi
    have h1 := ih (by omega)
    have e : hyperAt l (i + 1) = hyperAt l i / (Int.gcd (hyperAt l i) (per l i) : Int) * per l i := rfl
    rw [e, lcm_iff (hyper_pos hl i (by omega)) (hl i (by omega)), h1]
    constructor
    · intro ⟨a, b⟩ j hj
      rcases Nat.lt_succ_iff_lt_or_eq.1 hj with h | rfl
      · exact a j h
      · exact b
    · intro h
      exact ⟨fun j hj => h j (by omega), h i (by omega)⟩
theorem hyper_mono {l : List S23} (hl : ∀ j, j < l.length → 1 ≤ per l j) {i : Nat} (hi : i ≤ l.length) : hyperAt l i ≤ hyperAt l l.length := by
  refine Int.le_of_dvd (by have := hyper_pos hl l.length (Nat.le_refl _); omega) ?_
  rw [hyper_iff hl _ i hi]
  intro j hj
  have h := (hyper_iff hl (hyperAt l l.length) l.length (Nat.le_refl _)).1 (Int.dvd_refl _)
  exact h j (by omega)
theorem hyper_over {l : List S23} (hl : ∀ j, j < l.length → 1 ≤ per l j) : hyperOver l = true ↔ 512 < hyperAt l l.length := by
  unfold hyperOver
  rw [List.any_eq_true]
  constructor
  · rintro ⟨i, hi, h⟩
    have hi := List.mem_range.1 hi
    have h := of_decide_eq_true h
    have := hyper_mono hl (i := i + 1) (by omega)
    omega
  · intro h
    cases hn : l.length with
    | zero => rw [hn] at h; simp [hyperAt] at h
    | succ m => exact ⟨m, List.mem_range.2 (by omega), decide_eq_true (by rw [← hn]; exact h)⟩

/-- The hyperperiod, or the error. -/
def hyp (l : List S23) : Int × Int := if 512 < hyperAt l l.length then (0, 21) else (hyperAt l l.length, 0)
theorem ref_inner {l : List S23} (hlen : l.length ≤ 16) (hl : ∀ j, j < l.length → 1 ≤ per l j) (n : Int) (hn0 : 1 ≤ n) (hn1 : n ≤ 512) (r : Int × Int) : ∀ d i : Nat, i + d = l.length → ∀ all : Bool,
    ((all = true ∧ ∀ j, i ≤ j → j < l.length → per l j ∣ n) → r = (n, 0)) → (¬ (all = true ∧ ∀ j, i ≤ j → j < l.length → per l j ∣ n) → Ev (fun k => hopmeshref32_Hyper.l0 k l (n + 1)) r) → Ev (fun k => hopmeshref32_Hyper.l1 k l n all (i : Int)) r := by
  intro d
  induction d with
  | zero =>
    intro i hi all hy hno
    cases all with
    | true =>
      obtain rfl := hy ⟨rfl, fun j h1 h2 => by omega⟩
      refine ev1 fun k => ?_
      simp only [hopmeshref32_Hyper.l1]
      rw [if_neg (by omega), if_pos trivial]
    | false =>
      refine Ev.step (fun k => ?_) (hno (by simp))
      simp only [hopmeshref32_Hyper.l1]
      rw [if_neg (by omega), if_neg (by simp), show wrap64 (n + 1) = n + 1 by unfold wrap64; omega]
  | succ d ih =>
    intro i hi all hy hno
    have hw : wrap64 ((i : Int) + 1) = ((i + 1 : Nat) : Int) := by unfold wrap64; omega
    have hpi := hl i (by omega)
    cases all with
    | true =>
      have hdv : (Int.tmod n (per l i) == 0) = true ↔ per l i ∣ n := by rw [beq_iff_eq, Int.dvd_iff_tmod_eq_zero]
      refine Ev.step (fun k => ?_) (ih (i + 1) (by omega) (Int.tmod n (per l i) == 0) (fun h => hy ⟨rfl, fun j h1 h2 => ?_⟩) (fun h => hno (fun h3 => h ⟨hdv.2 (h3.2 i (Nat.le_refl _) (by omega)), fun j h1 h2 => h3.2 j (by omega) h2⟩)))
      · simp only [hopmeshref32_Hyper.l1]
        rw [if_pos (by omega), if_pos trivial, if_pos (by omega), if_neg (by have : 1 ≤ (rd_T23 l i).f3 := hpi; omega), hw]
        rfl
      · by_cases hji : j = i
        · subst hji
          exact hdv.1 h.1
        · exact h.2 j (by omega) h2
    | false =>
      refine Ev.step (fun k => ?_) (ih (i + 1) (by omega) false (fun h => by cases h.1) (fun _ => hno (by simp)))
      simp only [hopmeshref32_Hyper.l1]
      rw [if_pos (by omega), if_neg (by simp), hw]
theorem ref_outer {l : List S23} (hlen : l.length ≤ 16) (hl : ∀ j, j < l.length → 1 ≤ per l j) : ∀ (d : Nat) (n : Int), 1 ≤ n → n + d = 513 → (∀ m, 1 ≤ m → m < n → ¬ ∀ j, j < l.length → per l j ∣ m) → Ev (fun k => hopmeshref32_Hyper.l0 k l n) (hyp l) := by
  have hp := hyper_pos hl l.length (Nat.le_refl _)
  have hall := (hyper_iff hl (hyperAt l l.length) l.length (Nat.le_refl _)).1 (Int.dvd_refl _)
  intro d
  induction d with
  | zero =>
    intro n h1 h2 h3
    have hb : 512 < hyperAt l l.length := by
      rcases Int.lt_or_le 512 (hyperAt l l.length) with h | h
      · exact h
      · exact absurd hall (h3 _ hp (by omega))
    refine ev1 fun k => ?_
    simp only [hopmeshref32_Hyper.l0]
    rw [if_neg (by omega)]
    unfold hyp
    rw [if_pos hb]
  | succ d ih =>
    intro n h1 h2 h3
    refine Ev.step (fun k => ?_) (ref_inner hlen hl n h1 (by omega) (hyp l) l.length 0 (by omega) true ?_ ?_)
    · simp only [hopmeshref32_Hyper.l0]
      rw [if_pos (by omega)]
      rfl
    · intro ⟨_, h⟩
      have hd : hyperAt l l.length ∣ n := (hyper_iff hl n l.length (Nat.le_refl _)).2 (fun j hj => h j (Nat.zero_le _) hj)
      have hle := Int.le_of_dvd (by omega) hd
      have he : hyperAt l l.length = n := by
        rcases Int.lt_or_le (hyperAt l l.length) n with h4 | h4
        · exact absurd hall (h3 _ hp h4)
        · omega
      unfold hyp
      rw [if_neg (by omega), he]
    · intro h
      refine ih (n + 1) (by omega) (by omega) (fun m hm1 hm2 hall' => ?_)
      by_cases hmn : m = n
      · subst hmn
        exact h ⟨rfl, fun j _ hj => hall' j hj⟩
      · exact h3 m hm1 (by omega) hall'

theorem hyper_both (l : List S23) : ∃ r, Ev (fun k => flow_Hyper.f k l) r ∧ Ev (fun k => hopmeshref32_Hyper.f k l) r := by
  obtain ⟨c, e1, e2⟩ := check_both 32 l
  unfold flow_Hyper.f hopmeshref32_Hyper.f
  by_cases hc : c.2 = 0
  · obtain ⟨k, hk⟩ := e1.rounds
    obtain ⟨hlen, hok⟩ := flow_Check_good (l := l) (k := k) (c := c.1) (by rw [← hc]; exact hk)
    have hl : ∀ j, j < l.length → 1 ≤ per l j := fun j hj => by have := hok j hj; unfold flowOk at this; exact this.2.2.2.2.2.2.1
    refine ⟨hyp l, Ev.bind e1 ?_, Ev.bind e2 ?_⟩
    · simp only [if_pos hc]
      unfold hyp
      by_cases ho : hyperOver l = true
      · rw [if_pos ho, if_pos ((hyper_over hl).1 ho)]
        exact Ev.now _
      · rw [if_neg ho, if_neg (fun h => ho ((hyper_over hl).2 h))]
        exact Ev.now _
    · simp only [if_pos hc]
      exact ref_outer hlen hl 512 1 (by omega) (by omega) (fun m h1 h2 => by omega)
  · refine ⟨(0, 1), Ev.bind e1 ?_, Ev.bind e2 ?_⟩
    · simp only [if_neg hc]
      exact Ev.now _
    · simp only [if_neg hc]
      exact Ev.now _

theorem ref_find_loop (l : List S23) (hlen : l.length ≤ 1000) (id : Int) (r : Int) (hr : r = (match (List.range l.length).find? (fun i : Nat => (rd_T23 l (i : Int)).f0 == id) with | some j => (j : Int) | none => -1)) :
    ∀ d i : Nat, i + d = l.length → (∀ j, j < i → ((rd_T23 l (j : Int)).f0 == id) = false) → Ev (fun k => hopmeshref32_Find.l0 k l id (i : Int)) r := by
  intro d
  induction d with
  | zero =>
    intro i hi hp
    have hn : (List.range l.length).find? (fun i : Nat => (rd_T23 l (i : Int)).f0 == id) = none := by
      rw [List.find?_eq_none]
      intro j hj
      rw [hp j (by have := List.mem_range.1 hj; omega)]
      simp
    rw [hn] at hr
    subst hr
    refine ev1 fun k => ?_
    simp only [hopmeshref32_Find.l0]
    rw [if_neg (by omega)]
  | succ d ih =>
    intro i hi hp
    by_cases he : (rd_T23 l (i : Int)).f0 = id
    · have hn : (List.range l.length).find? (fun i : Nat => (rd_T23 l (i : Int)).f0 == id) = some i := by
        rw [List.find?_range_eq_some]
        exact ⟨beq_iff_eq.2 he, List.mem_range.2 (by omega), fun j hj => by rw [hp j hj]; rfl⟩
      rw [hn] at hr
      subst hr
      refine ev1 fun k => ?_
      simp only [hopmeshref32_Find.l0]
      rw [if_pos (by omega), if_pos (by omega), if_pos he]
    · refine Ev.step (fun k => ?_) (ih (i + 1) (by omega) (fun j hj => ?_))
      · simp only [hopmeshref32_Find.l0]
        rw [if_pos (by omega), if_pos (by omega), if_neg he, show wrap64 ((i : Int) + 1) = ((i + 1 : Nat) : Int) by unfold wrap64; omega]
      · rcases Nat.lt_succ_iff_lt_or_eq.1 hj with h | rfl
        · exact hp j h
        · exact beq_eq_false_iff_ne.2 he
theorem find_both (l : List S23) (hlen : l.length ≤ 1000) (id : Int) : ∃ r, flow_Find.f l id = some r ∧ Ev (fun k => hopmeshref32_Find.f k l id) r := by
  refine ⟨_, by unfold flow_Find.f; rw [if_pos (by omega)], ?_⟩
  unfold hopmeshref32_Find.f
  exact ref_find_loop l hlen id _ rfl l.length 0 (by omega) (fun j hj => by omega)
end Go.Proofs.Ythlgnbeoanafbaa.S
