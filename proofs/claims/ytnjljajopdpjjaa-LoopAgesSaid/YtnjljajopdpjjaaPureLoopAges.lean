/- LoopAges: Carries, Ages and Late answer as the reference does, for any loop, split and deliveries. -/
import Derived.Test.YtnjljajopdpjjaaQLoopAges
import Derived.Test.YtnjljajopdpjjaaPXx24
import Derived.Test.YtnjljajopdpjjaaPXx27
import Derived.Test.YtnjljajopdpjjaaPXx26
import Derived.Test.YtnjljajopdpjjaaPXx16
import Derived.Test.YtnjljajopdpjjaaF
namespace Go.Proofs.Ytnjljajopdpjjaa.Pure
open Go.RowKit Go.Proofs.Ytnjljajopdpjjaa.PX Go.Proofs.Ytnjljajopdpjjaa.S Go.Proofs.YtnjljajopdpjjaaW.PrintWords
set_option linter.unusedVariables false

section
variable (l : S23) (s : S25) (d : List S34) (n : Int)
/-- What Ages answers. -/
def agesRes (e : Int) : List Int × Int := if e = 0 then (if n < 0 ∨ n > 4096 then ([], 2) else (agesOf l s d n.toNat, 0)) else ([], e)
/-- The slots of so many in which a sample is too old. -/
def lateTo (xs : List Int) (most : Int) : Nat → List Int
  | 0 => []
  | j + 1 => if rd xs (j : Int) > most then lateTo xs most j ++ [(j : Int)] else lateTo xs most j
def lateRes (r : List Int × Int) : List Int × Int := if r.2 = 0 then (lateTo r.1 l.f6 r.1.length, 0) else ([], r.2)
end
theorem late_len (xs : List Int) (most : Int) (j : Nat) : (lateTo xs most j).length ≤ j := by
  induction j with
  | zero => simp [lateTo]
  | succ j ih =>
    unfold lateTo
    split
    · rw [List.length_append]
      simp only [List.length_cons, List.length_nil]
      omega
    · omega
theorem check_is {l : S23} {s : S25} {d : List S34} {e n : Int} (he : loop_right.f l.f0 l.f1 l.f2 l.f3 l.f4 l.f5 l.f6 s.f0 s.f1 = some e) (hd : d.length ≤ 1024) (k : Nat) :
    loop_check.f (k + 1) l.f0 l.f1 l.f2 l.f3 l.f4 l.f5 l.f6 s.f0 s.f1 d n = some (if e = 0 then (if n < 0 ∨ n > 4096 then 2 else 0) else e) := by
  unfold loop_check.f
  rw [he, Option.bind_some]
  by_cases h0 : e = 0
  · rw [if_pos h0, if_pos h0]
    by_cases h1 : n < 0
    · rw [if_pos h1, if_pos (.inl h1)]
      simp only [loop_check.j0, if_true]
    · rw [if_neg h1]
      by_cases h2 : n > 4096
      · rw [decide_eq_true h2, if_pos (.inr h2)]
        simp only [loop_check.j0, if_true]
      · rw [decide_eq_false h2, if_neg (by omega)]
        simp only [loop_check.j0]
        rw [if_neg (by simp), if_neg (by omega)]
  · rw [if_neg h0, if_neg h0]
theorem ages0_is {l : S23} {s : S25} {d : List S34} {n : Int} (he : loop_right.f l.f0 l.f1 l.f2 l.f3 l.f4 l.f5 l.f6 s.f0 s.f1 = some 0) (hd : d.length ≤ 1024) (h0 : 0 ≤ n) (h1 : n ≤ 4096) :
    loop_ages.f l.f0 l.f1 l.f2 l.f3 l.f4 l.f5 l.f6 s.f0 s.f1 d n = some (agesOf l s d n.toNat) := by
  unfold loop_ages.f
  rw [if_pos ⟨hd, h0, h1, he⟩]
theorem loopAges_is {l : S23} {s : S25} {d : List S34} {e n : Int} (he : loop_right.f l.f0 l.f1 l.f2 l.f3 l.f4 l.f5 l.f6 s.f0 s.f1 = some e) (hd : d.length ≤ 1024) :
    Ev (fun k => loop_Ages.f k l.f0 l.f1 l.f2 l.f3 l.f4 l.f5 l.f6 s.f0 s.f1 d n) (agesRes l s d n e) := by
  refine ev1 fun k => ?_
  unfold loop_Ages.f agesRes
  rw [check_is he hd k, Option.bind_some]
  by_cases h0 : e = 0
  · rw [if_pos h0, if_pos h0]
    by_cases h1 : n < 0 ∨ n > 4096
    · rw [if_pos h1, if_pos h1, if_neg (by decide)]
    · rw [if_neg h1, if_neg h1, if_pos rfl, ages0_is (by rw [← h0]; exact he) hd (by omega) (by omega), Option.bind_some]
  · rw [if_neg h0, if_neg h0, if_neg h0]
theorem refAges_is {l : S23} {s : S25} {d : List S34} {e n : Int} (he : loop_right.f l.f0 l.f1 l.f2 l.f3 l.f4 l.f5 l.f6 s.f0 s.f1 = some e) (hd : d.length ≤ 1024) :
    Ev (fun k => hopmeshref50_Ages.f k l.f0 l.f1 l.f2 l.f3 l.f4 l.f5 l.f6 s.f0 s.f1 d n) (agesRes l s d n e) := by
  unfold agesRes
  by_cases h0 : e = 0
  · subst h0
    rw [if_pos rfl]
    by_cases h1 : n < 0 ∨ n > 4096
    · refine ⟨2, fun k hk => ?_⟩
      obtain ⟨k, rfl⟩ : ∃ m, k = m + 2 := ⟨k - 2, by omega⟩
      rw [if_pos h1]
      unfold hopmeshref50_Ages.f
      dsimp only
      rw [right_eq, he, Option.bind_some, if_pos rfl]
      by_cases h2 : n < 0
      · rw [if_pos h2]
        simp only [hopmeshref50_Ages.j0, if_true]
      · rw [if_neg h2, decide_eq_true (show n > 4096 by omega)]
        simp only [hopmeshref50_Ages.j0, if_true]
    · have hR := right_zero he
      obtain ⟨N, rfl⟩ := Int.eq_ofNat_of_zero_le (show 0 ≤ n by omega)
      obtain ⟨K, hK⟩ := refages0 hR hd (show N ≤ 4096 by omega) N 0 (by omega)
      refine ⟨K + 2, fun k hk => ?_⟩
      obtain ⟨k, rfl⟩ : ∃ m, k = m + 2 := ⟨k - 2, by omega⟩
      have g := hK (k + 1) (by omega)
      rw [if_neg h1]
      unfold hopmeshref50_Ages.f
      dsimp only
      rw [right_eq, he, Option.bind_some, if_pos rfl, if_neg (by omega), decide_eq_false (show ¬ (N : Int) > 4096 by omega)]
      simp only [hopmeshref50_Ages.j0]
      rw [if_neg (by simp), if_neg (by omega), refflows_is hR, Option.bind_some, if_pos (by omega), if_pos (by rw [Int.toNat_natCast]; omega), Int.toNat_natCast]
      have h : listAt (flowA l s) (flowB l s) d N 0 = List.replicate N 0 := by
        unfold listAt
        simp
      rw [h] at g
      exact g
  · refine ⟨2, fun k hk => ?_⟩
    obtain ⟨k, rfl⟩ : ∃ m, k = m + 2 := ⟨k - 2, by omega⟩
    rw [if_neg h0]
    unfold hopmeshref50_Ages.f
    dsimp only
    rw [right_eq, he, Option.bind_some, if_neg h0]
theorem looplate_loop (l : S23) {xs : List Int} (hx : xs.length ≤ 4096) : ∀ m j : Nat, j + m = xs.length →
    Ev (fun k => loop_Late.l0 k (lateTo xs l.f6 j) xs (xs.length : Int) (j : Int) l.f0 l.f1 l.f2 l.f3 l.f4 l.f5 l.f6) (lateTo xs l.f6 xs.length, 0) := by
  intro m
  induction m with
  | zero =>
    intro j hj
    obtain rfl : j = xs.length := by omega
    refine ev1 fun k => ?_
    simp only [loop_Late.l0]
    rw [if_neg (by omega)]
  | succ m ih =>
    intro j hj
    have hw : wrap64 ((j : Int) + 1) = ((j + 1 : Nat) : Int) := by unfold wrap64; omega
    have hl := late_len xs l.f6 j
    refine Ev.step (fun k => ?_) (ih (j + 1) (by omega))
    simp only [loop_Late.l0, lateTo]
    rw [if_pos (by omega), if_pos (by omega), if_pos (by omega), hw]
    by_cases h : rd xs (j : Int) > l.f6
    · rw [if_pos h, if_pos h, if_pos (by omega)]
    · rw [if_neg h, if_neg h]
theorem reflate_loop (l : S23) {xs : List Int} (hx : xs.length ≤ 4096) : ∀ m j : Nat, j + m = xs.length →
    Ev (fun k => hopmeshref50_Late.l0 k xs (lateTo xs l.f6 j) (j : Int) l.f0 l.f1 l.f2 l.f3 l.f4 l.f5 l.f6) (lateTo xs l.f6 xs.length, 0) := by
  intro m
  induction m with
  | zero =>
    intro j hj
    obtain rfl : j = xs.length := by omega
    refine ev1 fun k => ?_
    simp only [hopmeshref50_Late.l0]
    rw [if_neg (by omega)]
  | succ m ih =>
    intro j hj
    have hw : wrap64 ((j : Int) + 1) = ((j + 1 : Nat) : Int) := by unfold wrap64; omega
    have hl := late_len xs l.f6 j
    refine Ev.step (fun k => ?_) (ih (j + 1) (by omega))
    simp only [hopmeshref50_Late.l0, lateTo]
    rw [if_pos (by omega), if_pos (by omega), hw]
    by_cases h : rd xs (j : Int) > l.f6
    · rw [if_pos h, if_pos h, if_pos (by omega)]
    · rw [if_neg h, if_neg h]
theorem agesRes_len {l : S23} {s : S25} {d : List S34} {n e : Int} : (agesRes l s d n e).1.length ≤ 4096 := by
  unfold agesRes
  split
  · split
    · simp
    · rw [ages_len]
      omega
  · simp
theorem loopLate_is {l : S23} {s : S25} {d : List S34} {e n : Int} (he : loop_right.f l.f0 l.f1 l.f2 l.f3 l.f4 l.f5 l.f6 s.f0 s.f1 = some e) (hd : d.length ≤ 1024) :
    Ev (fun k => loop_Late.f k l.f0 l.f1 l.f2 l.f3 l.f4 l.f5 l.f6 s.f0 s.f1 d n) (lateRes l (agesRes l s d n e)) := by
  obtain ⟨K, hK⟩ := looplate_loop l (agesRes_len (l := l) (s := s) (d := d) (n := n) (e := e)) _ 0 (Nat.zero_add _)
  refine ⟨K + 1, fun k hk => ?_⟩
  obtain ⟨k, rfl⟩ : ∃ m, k = m + 1 := ⟨k - 1, by omega⟩
  have g := hK (k + 1) (by omega)
  unfold loop_Late.f lateRes
  dsimp only
  rw [check_is he hd k, Option.bind_some]
  unfold agesRes at g ⊢
  by_cases h0 : e = 0
  · rw [if_pos h0] at g
    rw [if_pos h0, if_pos h0]
    by_cases h1 : n < 0 ∨ n > 4096
    · rw [if_pos h1, if_pos h1, if_neg (by decide), if_neg (by decide)]
    · rw [if_neg h1] at g
      rw [if_neg h1, if_neg h1, if_pos rfl, ages0_is (by rw [← h0]; exact he) hd (by omega) (by omega), Option.bind_some, if_pos rfl]
      exact g
  · rw [if_neg h0, if_neg h0, if_neg h0, if_neg h0]
theorem refLate_is {l : S23} {s : S25} {d : List S34} {e n : Int} (he : loop_right.f l.f0 l.f1 l.f2 l.f3 l.f4 l.f5 l.f6 s.f0 s.f1 = some e) (hd : d.length ≤ 1024) :
    Ev (fun k => hopmeshref50_Late.f k l.f0 l.f1 l.f2 l.f3 l.f4 l.f5 l.f6 s.f0 s.f1 d n) (lateRes l (agesRes l s d n e)) := by
  obtain ⟨K, hK⟩ := reflate_loop l (agesRes_len (l := l) (s := s) (d := d) (n := n) (e := e)) _ 0 (Nat.zero_add _)
  obtain ⟨L, hL⟩ := refAges_is (n := n) he hd
  refine ⟨K + L, fun k hk => ?_⟩
  have g := hK k (by omega)
  have g2 := hL k (by omega)
  unfold hopmeshref50_Late.f lateRes
  dsimp only at g2 ⊢
  rw [g2, Option.bind_some]
  split
  · exact g
  · rfl
theorem carries_both {l : S23} {s : S25} {d : List S34} {e n : Int} (he : loop_right.f l.f0 l.f1 l.f2 l.f3 l.f4 l.f5 l.f6 s.f0 s.f1 = some e) (hd : d.length ≤ 1024) :
    ∃ r, loop_Carries.f l.f0 l.f1 l.f2 l.f3 l.f4 l.f5 l.f6 s.f0 s.f1 d n = some r ∧ Ev (fun k => hopmeshref50_Carries.f k l.f0 l.f1 l.f2 l.f3 l.f4 l.f5 l.f6 s.f0 s.f1 d n) r := by
  unfold loop_Carries.f
  rw [if_pos hd, he, Option.bind_some]
  by_cases h0 : e = 0
  · subst h0
    rw [if_pos rfl]
    by_cases h1 : n < 0 ∨ 4096 < n
    · rw [if_pos h1]
      refine ⟨_, rfl, 2, fun k hk => ?_⟩
      obtain ⟨k, rfl⟩ : ∃ m, k = m + 2 := ⟨k - 2, by omega⟩
      unfold hopmeshref50_Carries.f
      dsimp only
      rw [right_eq, he, Option.bind_some, if_pos rfl]
      by_cases h2 : n < 0
      · rw [if_pos h2]
        simp only [hopmeshref50_Carries.j0, if_true]
      · rw [if_neg h2, decide_eq_true (show n > 4096 by omega)]
        simp only [hopmeshref50_Carries.j0, if_true]
    · rw [if_neg h1]
      refine ⟨_, rfl, ?_⟩
      have hR := right_zero he
      have hR' := hR
      unfold rightP at hR'
      have hm0 := Int.emod_nonneg (l.f5 + s.f0) (b := l.f4) (by omega)
      have hm1 := Int.emod_lt_of_pos (l.f5 + s.f0) (b := l.f4) (by omega)
      obtain ⟨K, hK⟩ := carries_is (a := flowA l s) (b := flowB l s) (show 0 ≤ l.f4 ∧ l.f4 ≤ 512 by omega) (show 0 ≤ l.f5 ∧ l.f5 ≤ 512 by omega) (show 0 ≤ l.f4 ∧ l.f4 ≤ 512 by omega) (show 0 ≤ (l.f5 + s.f0) % l.f4 ∧ (l.f5 + s.f0) % l.f4 ≤ 512 by omega) hd (show 0 ≤ n by omega) (show n ≤ 1073741824 by omega)
      refine ⟨K + 2, fun k hk => ?_⟩
      obtain ⟨k, rfl⟩ : ∃ m, k = m + 2 := ⟨k - 2, by omega⟩
      have g := hK (k + 1) (by omega)
      unfold hopmeshref50_Carries.f
      dsimp only at g ⊢
      rw [right_eq, he, Option.bind_some, if_pos rfl, if_neg (by omega), decide_eq_false (show ¬ n > 4096 by omega)]
      simp only [hopmeshref50_Carries.j0]
      rw [if_neg (by simp), refflows_is hR, Option.bind_some, g, Option.bind_some]
      show _ = some (mx (carryOf (flowA l s) d ((flowB l s).f4 + n * (flowB l s).f3)) 0, decide (0 ≤ carryOf (flowA l s) d ((flowB l s).f4 + n * (flowB l s).f3)), 0)
      generalize carryOf (flowA l s) d ((flowB l s).f4 + n * (flowB l s).f3) = c
      by_cases hc : c < 0
      · rw [if_pos hc, decide_eq_false (by omega), show mx c 0 = 0 by unfold mx; split <;> omega]
      · rw [if_neg hc, decide_eq_true (by omega), show mx c 0 = c by unfold mx; split <;> omega]
  · rw [if_neg h0]
    refine ⟨_, rfl, 2, fun k hk => ?_⟩
    obtain ⟨k, rfl⟩ : ∃ m, k = m + 2 := ⟨k - 2, by omega⟩
    unfold hopmeshref50_Carries.f
    dsimp only
    rw [right_eq, he, Option.bind_some, if_neg h0]
theorem equal_is {xs : List Int} (hx : xs.length ≤ 4096) : Ev (fun k => slices_Equal_int_int.f k xs xs) true := by
  have hh : ∀ m i : Nat, i + m = xs.length → Ev (fun k => slices_Equal_int_int.l0 k xs xs (xs.length : Int) (i : Int)) true := by
    intro m
    induction m with
    | zero =>
      intro i hi
      refine ev1 fun k => ?_
      simp only [slices_Equal_int_int.l0]
      rw [if_neg (by omega)]
    | succ m ih =>
      intro i hi
      have hw : wrap64 ((i : Int) + 1) = ((i + 1 : Nat) : Int) := by unfold wrap64; omega
      refine Ev.step (fun k => ?_) (ih (i + 1) (by omega))
      simp only [slices_Equal_int_int.l0]
      rw [if_pos (by omega), if_pos (by omega), if_pos (by omega), if_pos (by omega), if_pos trivial, hw]
  unfold slices_Equal_int_int.f
  simp only [if_true]
  exact hh xs.length 0 (by omega)
theorem lateRes_len {l : S23} {r : List Int × Int} (h : r.1.length ≤ 4096) : (lateRes l r).1.length ≤ 4096 := by
  unfold lateRes
  split
  · have := late_len r.1 l.f6 r.1.length
    dsimp only
    omega
  · simp
theorem LoopAges : hopmeshlaw50_LoopAges.Pure := by
  intro l s d fr n _ _ _ _ _ _
  refine Ev.rounds ?_
  unfold hopmeshlaw50_LoopAges.f
  refine Ev.bind ev_awake ?_
  simp only [if_true]
  by_cases hd : d.length > 24
  · simp only [if_pos hd]
    exact ⟨0, fun _ _ => rfl⟩
  simp only [if_neg hd]
  by_cases hs : n > 120 ∧ n ≤ 4096
  · simp only [if_pos hs]
    exact ⟨0, fun _ _ => rfl⟩
  simp only [if_neg hs]
  obtain ⟨e, he⟩ := right_some l.f0 l.f1 l.f2 l.f3 l.f4 l.f5 l.f6 s.f0 s.f1
  obtain ⟨r, hr, hr2⟩ := carries_both (n := fr) he (show d.length ≤ 1024 by omega)
  obtain ⟨K1, k1⟩ := hr2
  obtain ⟨K2, k2⟩ := loopAges_is (n := n) he (show d.length ≤ 1024 by omega)
  obtain ⟨K3, k3⟩ := refAges_is (n := n) he (show d.length ≤ 1024 by omega)
  obtain ⟨K4, k4⟩ := loopLate_is (n := n) he (show d.length ≤ 1024 by omega)
  obtain ⟨K5, k5⟩ := refLate_is (n := n) he (show d.length ≤ 1024 by omega)
  obtain ⟨K6, k6⟩ := equal_is (agesRes_len (l := l) (s := s) (d := d) (n := n) (e := e))
  obtain ⟨K7, k7⟩ := equal_is (lateRes_len (l := l) (agesRes_len (l := l) (s := s) (d := d) (n := n) (e := e)))
  refine ⟨K1 + K2 + K3 + K4 + K5 + K6 + K7, fun k hk => ?_⟩
  have g1 := k1 k (by omega)
  have g2 := k2 k (by omega)
  have g3 := k3 k (by omega)
  have g4 := k4 k (by omega)
  have g5 := k5 k (by omega)
  have g6 := k6 k (by omega)
  have g7 := k7 k (by omega)
  dsimp only at g1 g2 g3 g4 g5 g6 g7
  dsimp only
  rw [hr, Option.bind_some, g1, Option.bind_some, g2, Option.bind_some, g3, Option.bind_some, g4, Option.bind_some, g5, Option.bind_some]
  exact if_pos ⟨rfl, rfl, rfl, g6, g7⟩
end Go.Proofs.Ytnjljajopdpjjaa.Pure
