-- Written by wip/xprint.py, a program of this claim's own, over the kit's print program. Lean checks it.
import Derived.Test.YthlgnbeoanafbaaPXx0
import Derived.Test.YthlgnbeoanafbaaPXx1
import Derived.Test.YthlgnbeoanafbaaPXx2
import Derived.Test.YthlgnbeoanafbaaPXx4
import Derived.Test.YthlgnbeoanafbaaPXx10
import Derived.Test.YthlgnbeoanafbaaPXx11
import Derived.Test.YthlgnbeoanafbaaPXx12
namespace Go.Proofs.Ythlgnbeoanafbaa.PX
open Go.RowKit Go.Proofs.YthlgnbeoanafbaaW.PrintWords Go.Proofs.YthlgnbeoanafbaaW.PrintLast Go.Proofs.YthlgnbeoanafbaaW.PrintMore
attribute [local go_sem] max2_int min2_int max_two min_two max_three min_three max_four min_four   -- for this text's walks alone
set_option linter.unusedVariables false
set_option linter.unusedSimpArgs false

/-! ### flow_Hyper: function 16 -/
/-- The least common multiple of the first i Periods. -/
def hyperAt (l : List S23) : Nat → Int
  | 0 => 1
  | i + 1 => hyperAt l i / (Int.gcd (hyperAt l i) (rd_T23 l i).f3 : Int) * (rd_T23 l i).f3
def hyperOver (l : List S23) : Bool := (List.range l.length).any (fun i => decide (512 < hyperAt l (i + 1)))
def flow_Hyper.f (k : Nat) (l0 : List S23) : Option (Int × Int) :=
  (flow_Check.f k 32 l0).bind fun c => if c.2 = 0 then (if hyperOver l0 = true then some (0, 21) else some (hyperAt l0 l0.length, 0)) else some (0, 1)
theorem divisor_gcd (n : Nat) : ∀ (a b : Int), 0 ≤ a → 0 ≤ b → b.toNat ≤ n → ∃ k, flow_divisor.f k a b = some (Int.gcd a b : Int) := by
  induction n with
  | zero =>
    intro a b ha hb hn
    obtain rfl : b = 0 := by omega
    refine ⟨1, ?_⟩
    unfold flow_divisor.f flow_divisor.l0
    rw [if_neg (by omega), Int.gcd_zero_right]
    exact congrArg some (by omega)
  | succ n ih =>
    intro a b ha hb hn
    by_cases h0 : b = 0
    · subst h0
      refine ⟨1, ?_⟩
      unfold flow_divisor.f flow_divisor.l0
      rw [if_neg (by omega), Int.gcd_zero_right]
      exact congrArg some (by omega)
    · have h1 : 0 ≤ Int.tmod a b := by rw [Int.tmod_eq_emod_of_nonneg ha]; exact Int.emod_nonneg _ h0
      have h2 : Int.tmod a b < b := by rw [Int.tmod_eq_emod_of_nonneg ha]; exact Int.emod_lt_of_pos _ (by omega)
      obtain ⟨k, hk⟩ := ih b (Int.tmod a b) hb h1 (by omega)
      refine ⟨k + 1, ?_⟩
      unfold flow_divisor.f flow_divisor.l0
      rw [if_pos (by omega), if_neg h0]
      unfold flow_divisor.f at hk
      rw [hk, Int.tmod_eq_emod_of_nonneg ha]
      obtain ⟨m, rfl⟩ := Int.eq_ofNat_of_zero_le ha
      obtain ⟨n2, rfl⟩ := Int.eq_ofNat_of_zero_le hb
      rw [← Int.natCast_emod, Int.gcd_natCast_natCast, Int.gcd_natCast_natCast, Nat.gcd_comm, ← Nat.gcd_rec, Nat.gcd_comm]
/-- What a right flow is. -/
def flowOk (x : S23) : Prop := 0 ≤ x.f0 ∧ x.f0 ≤ 255 ∧ 0 ≤ x.f1 ∧ x.f1 < 32 ∧ 0 ≤ x.f2 ∧ x.f2 < 32 ∧ 1 ≤ x.f3 ∧ x.f3 ≤ 512 ∧ 0 ≤ x.f4 ∧ x.f4 < x.f3 ∧ 1 ≤ x.f5 ∧ x.f5 ≤ x.f3 ∧ x.f1 ≠ x.f2
theorem flow_check_zero {x : S23} (h : flow_check.f 32 x.f0 x.f1 x.f2 x.f3 x.f4 x.f5 = some 0) : flowOk x := by
  unfold flow_check.f at h
  unfold flowOk
  repeat' split at h
  all_goals first | exact absurd (Option.some.inj h) (by decide) | omega
theorem flow_Check_loop (l : List S23) (hl : l.length ≤ 16) (c : Int) : ∀ (k : Nat) (i : Int), 0 ≤ i → flow_Check.l0 k 32 l l (l.length : Int) i = some (c, 0) → ∀ j : Nat, i ≤ j → j < l.length → flowOk (rd_T23 l j) := by
  intro k
  induction k with
  | zero => intro i _ h; simp [flow_Check.l0] at h
  | succ k ih =>
    intro i hi h j hij hj
    unfold flow_Check.l0 at h
    rw [if_pos (by omega), if_pos hi, if_pos (by omega)] at h
    obtain ⟨t, ht, h⟩ := Option.bind_eq_some_iff.mp h
    by_cases ht0 : t = 0
    · rw [if_pos ht0] at h
      subst ht0
      by_cases hij2 : i = j
      · subst hij2
        exact flow_check_zero ht
      · have hw : wrap64 (i + 1) = i + 1 := by unfold wrap64; omega
        have hnext : flow_Check.l0 k 32 l l (l.length : Int) (i + 1) = some (c, 0) := by
          rw [hw] at h
          by_cases hp : i > 0
          · rw [if_pos hp] at h
            by_cases h3 : 0 ≤ wrap64 (i - 1)
            · rw [if_pos h3] at h
              by_cases h4 : wrap64 (i - 1) < (l.length : Int)
              · rw [if_pos h4] at h
                by_cases h5 : (rd_T23 l i).f0 ≤ (rd_T23 l (wrap64 (i - 1))).f0
                · rw [if_pos h5] at h
                  simp at h
                · rw [if_neg h5] at h
                  exact h
              · rw [if_neg h4] at h
                simp at h
            · rw [if_neg h3] at h
              simp at h
          · rw [if_neg hp] at h
            exact h
        exact ih (i + 1) (by omega) hnext j (by omega) hj
    · rw [if_neg ht0] at h
      simp only [Option.some.injEq, Prod.mk.injEq] at h
      exact absurd h.2 ht0
theorem flow_Check_good {l : List S23} {k : Nat} {c : Int} (h : flow_Check.f k 32 l = some (c, 0)) : l.length ≤ 16 ∧ ∀ j : Nat, j < l.length → flowOk (rd_T23 l j) := by
  unfold flow_Check.f at h
  rw [if_neg (by omega)] at h
  cases k with
  | zero => simp [flow_Check.j0] at h
  | succ k =>
    simp only [flow_Check.j0] at h
    rw [if_neg (by simp)] at h
    by_cases h16 : (l.length : Int) > 16
    · rw [if_pos h16] at h
      simp at h
    · rw [if_neg h16] at h
      exact ⟨by omega, fun j hj => flow_Check_loop l (by omega) c k 0 (by omega) h j (by omega) hj⟩
theorem hyper_step_bd {x p : Int} (hx : 1 ≤ x) (hx2 : x ≤ 512) (hp : 1 ≤ p) (hp2 : p ≤ 512) : 1 ≤ (Int.gcd x p : Int) ∧ 1 ≤ x / (Int.gcd x p : Int) * p ∧ x / (Int.gcd x p : Int) * p ≤ 262144 := by
  have hg : 0 < Int.gcd x p := Int.gcd_pos_of_ne_zero_left _ (by omega)
  have hd : (Int.gcd x p : Int) ∣ x := Int.gcd_dvd_left ..
  obtain ⟨q, hq⟩ := hd
  have hg1 : (1 : Int) ≤ (Int.gcd x p : Int) := by omega
  have hdiv : x / (Int.gcd x p : Int) = q := by
    have : (Int.gcd x p : Int) * q / (Int.gcd x p : Int) = q := Int.mul_ediv_cancel_left _ (by omega)
    rw [← hq] at this
    exact this
  rw [hdiv]
  generalize (Int.gcd x p : Int) = g at *
  have hq1 : 1 ≤ q := by
    rcases Int.lt_or_le q 1 with h | h
    · have : g * q ≤ g * 0 := Int.mul_le_mul_of_nonneg_left (by omega) (by omega)
      omega
    · exact h
  have hq2 : q ≤ 512 := by
    have : 1 * q ≤ g * q := Int.mul_le_mul_of_nonneg_right hg1 (by omega)
    omega
  refine ⟨hg1, ?_, ?_⟩
  · have : 1 * 1 ≤ q * p := Int.mul_le_mul hq1 hp (by omega) (by omega)
    omega
  · have : q * p ≤ 512 * 512 := Int.mul_le_mul hq2 hp2 (by omega) (by omega)
    omega
theorem hyper_bd {l : List S23} (hl : ∀ j : Nat, j < l.length → flowOk (rd_T23 l j)) : ∀ i, i ≤ l.length → (∀ j, j < i → decide (512 < hyperAt l (j + 1)) = false) → 1 ≤ hyperAt l i ∧ hyperAt l i ≤ 512 := by
  intro i
  induction i with
  | zero => intro _ _; exact ⟨by simp [hyperAt], by simp [hyperAt]⟩
  | succ i ih =>
    intro hi hp
    have h1 := ih (by omega) (fun j hj => hp j (by omega))
    have h2 := hl i (by omega)
    unfold flowOk at h2
    have h3 := hyper_step_bd (p := (rd_T23 l i).f3) h1.1 h1.2 (by omega) (by omega)
    have h4 := hp i (by omega)
    have h5 : ¬ 512 < hyperAt l (i + 1) := of_decide_eq_false h4
    exact ⟨h3.2.1, by omega⟩
theorem flow_Hyper.mono : ∀ a0 k, LeO (flow_Hyper.f k a0) (flow_Hyper.f (k + 1) a0) := by
  intro a0 k
  unfold flow_Hyper.f
  exact LeO.bind (flow_Check.mono _ _ _) (fun _ => LeO.refl _)
set_option maxHeartbeats 8000000 in
set_option maxRecDepth 100000 in
theorem flow_Hyper.calls (k : Nat) (A0 : Option Addr) (c0 : Nat) (l0 : List (S23)) (r1 : Int) (r2 : Int) (w : World) (hr0 : Kd.C k23 w A0 l0.length l0) (hc0 : l0.length ≤ c0) (h : flow_Hyper.f k l0 = some (r1, r2)) :
    Calls Try.prog 16 #[.slice A0 l0.length c0] w fun e w' => e = .returned (.tuple #[.int .i64 r1, .int .i64 r2]) ∧ Below w.heap.size w w' := by
  obtain ⟨⟨c1, c2⟩, hc, h⟩ := Option.bind_eq_some_iff.mp h
  have HC := Aside0.mk hc
  have HR0 := Aside0.mk hr0
  have HC0 := Aside0.mk hc0
  by_cases h2 : c2 = 0
  · subst h2
    rw [if_pos rfl] at h
    obtain ⟨hlen, hgood⟩ := flow_Check_good hc
    clear hc hr0 hc0
    have hmf : ∀ (fn : Fn) (first cap : Array Value) (w : World), (Instr.makeFunc fn first cap).run Try.prog w = .ok (.func fn first cap) w := fun _ _ _ _ => rfl
    have HCON := fun (w1 : World) (hb : Below w.heap.size w w1) => containsFlow A0 c0 l0 33 Try.f33 #[.pointer (some ⟨w1.heap.size, 0, none⟩)] (fun i => decide (512 < hyperAt l0 (i + 1)))
      (fun i w' => w'.heap[w1.heap.size]? = some (.cells #[.int .i64 (hyperAt l0 i)] 3 (0, 0)) ∧ Below w1.heap.size w1 w') (w1.alloc (.cells #[.int .i64 1] 3)) Try.func33 (by kernel_rfl) rfl (by omega)
      ⟨by simpa [hyperAt] using heap_alloc_new w1 _, below_alloc (Below.refl _ _) _⟩
      (fun i w' hi => Kd.C_below HR0.out (below_step hb hi.2))
      (fun i w' hi hp hinv => by
        obtain ⟨k1, hk1⟩ := divisor_gcd _ (hyperAt l0 i) (rd_T23 l0 i).f3 (by have := (hyper_bd hgood i (by omega) hp).1; omega) (by have := hgood i hi; unfold flowOk at this; omega) (Nat.le_refl _)
        have hb1 := hyper_bd hgood i (by omega) hp
        have hb2 := hgood i hi
        unfold flowOk at hb2
        have hb3 := hyper_step_bd (p := (rd_T23 l0 i).f3) hb1.1 hb1.2 (by omega) (by omega)
        exact (hyperStep (rd_T23 l0 i) (hyperAt l0 i) (Int.gcd (hyperAt l0 i) (rd_T23 l0 i).f3) k1 w1.heap.size w' hb1.1 hb1.2 (by omega) (by omega) hb3.1 hk1 hb3.2.2 hinv.1).mono
          fun e w'' ⟨he, hblk, hbel⟩ => ⟨he, hblk, hinv.2.trans (hbel w1.heap.size (Nat.le_refl _) hinv.2.size)⟩)
    have HCN := Aside0.mk HCON
    clear HCON
    by_cases hov : hyperOver l0 = true
    · rw [if_pos hov] at h
      simp only [Option.some.injEq, Prod.mk.injEq] at h
      obtain ⟨rfl, rfl⟩ := h
      have HOV := Aside0.mk hov
      clear hov
      go_enter Try.func16, Try.ntmps16
      go_wp2_with (first | (go_at_call 19; (with_reducible refine (flow_Check.calls k 32 A0 c0 l0 c1 0 _ HR0.out HC0.out HC.out).mono ?_); rintro e w1 ⟨rfl, hb⟩; have HB := Aside0.mk hb; have HCM := Aside0.mk (HCN.out w1 hb); clear hb) | (go_at_call 17; refine HCM.out.mono ?_; rintro e w2 ⟨r, rfl, hf⟩; have hr := Found.hit hf HOV.out; rw [hr]; have HB2 := Aside0.mk (below_step HB.out (Found.inv hf).2); clear hf hr))
      go_ret2
      exact ⟨rfl, HB2.out⟩
    · rw [if_neg hov] at h
      simp only [Option.some.injEq, Prod.mk.injEq] at h
      obtain ⟨rfl, rfl⟩ := h
      have HOV := Aside0.mk (Bool.eq_false_iff.mpr hov)
      clear hov
      go_enter Try.func16, Try.ntmps16
      go_wp2_with (first | (go_at_call 19; (with_reducible refine (flow_Check.calls k 32 A0 c0 l0 c1 0 _ HR0.out HC0.out HC.out).mono ?_); rintro e w1 ⟨rfl, hb⟩; have HB := Aside0.mk hb; have HCM := Aside0.mk (HCN.out w1 hb); clear hb) | (go_at_call 17; refine HCM.out.mono ?_; rintro e w2 ⟨r, rfl, hf⟩; obtain ⟨hr, hm1, hm2⟩ := Found.miss hf HOV.out; rw [hr]; have HB2 := Aside0.mk (below_step HB.out hm2); have hc6 := (blk_cell hm1 0).trans rfl; clear hf hr hm1 hm2))
      go_ret2
      exact ⟨rfl, HB2.out⟩
  · rw [if_neg h2] at h
    simp only [Option.some.injEq, Prod.mk.injEq] at h
    obtain ⟨rfl, rfl⟩ := h
    have b1 : (c2 == 0) = false := beq_eq_false_iff_ne.mpr h2
    have b2 : (c2 != 0) = true := bne_iff_ne.mpr h2
    clear hc hr0 hc0 h2
    go_enter Try.func16, Try.ntmps16
    go_wp2_with (go_at_call 19; (with_reducible refine (flow_Check.calls k 32 A0 c0 l0 c1 c2 _ HR0.out HC0.out HC.out).mono ?_); rintro e w1 ⟨rfl, hb⟩; have HB := Aside0.mk hb; clear hb)
    go_ret2
    exact ⟨rfl, HB.out⟩

end Go.Proofs.Ythlgnbeoanafbaa.PX
