-- Written by wip/xprint.py, a program of this claim's own, over the kit's print program. Lean checks it.
import Derived.Test.YthlgnbeoanafbaaPXx0
import Derived.Test.YthlgnbeoanafbaaPXx34
namespace Go.Proofs.Ythlgnbeoanafbaa.PX
open Go.RowKit Go.Proofs.YthlgnbeoanafbaaW.PrintWords Go.Proofs.YthlgnbeoanafbaaW.PrintLast Go.Proofs.YthlgnbeoanafbaaW.PrintMore
attribute [local go_sem] max2_int min2_int max_two min_two max_three min_three max_four min_four   -- for this text's walks alone
set_option linter.unusedVariables false
set_option linter.unusedSimpArgs false

/-! ### slices_Concat_int_int: function 28 -/
def slices_Concat_int_int.f (l0 : List (List Int)) : Option (List Int) := if l0.length ≤ 10 ∧ (∀ x ∈ l0, x.length ≤ 1000000) then some l0.flatten else none
/-- How many elements the first i lists have. -/
def sumLen (l : List (List Int)) (i : Nat) : Int := ((l.take i).flatten.length : Int)
theorem flatten_take_succ {l : List (List Int)} {i : Nat} (h : i < l.length) : (l.take (i + 1)).flatten = (l.take i).flatten ++ l.getD i [] := by
  rw [List.take_succ_eq_append_getElem h, List.flatten_append, List.getD_eq_getElem?_getD, List.getElem?_eq_getElem h]
  simp
theorem sumLen_succ {l : List (List Int)} {i : Nat} (h : i < l.length) : sumLen l (i + 1) = sumLen l i + ((l.getD i []).length : Int) := by
  unfold sumLen
  rw [flatten_take_succ h, List.length_append]
  omega
theorem sumLen_bd {l : List (List Int)} (hl : ∀ x ∈ l, x.length ≤ 1000000) : ∀ i, i ≤ l.length → 0 ≤ sumLen l i ∧ sumLen l i ≤ 1000000 * (i : Int) := by
  intro i
  induction i with
  | zero => intro _; simp [sumLen]
  | succ i ih =>
    intro hi
    have h1 := ih (by omega)
    have h2 : (l.getD i []).length ≤ 1000000 := by
      rw [List.getD_eq_getElem?_getD, List.getElem?_eq_getElem (by omega)]
      exact hl _ (List.getElem_mem _)
    rw [sumLen_succ (by omega)]
    omega
set_option maxHeartbeats 8000000 in
set_option maxRecDepth 100000 in
theorem slices_Concat_int_int.calls (A0 : Option Addr) (c0 : Nat) (l0 : List (List Int)) (r : List Int) (w : World) (hr0 : Kd.C (Kd.slice 3 (Kd.int .i64)) w A0 l0.length l0) (hc0 : l0.length ≤ c0) (h : slices_Concat_int_int.f l0 = some r) :
    Calls Try.prog 28 #[.slice A0 l0.length c0] w fun e w' => ∃ v0_ : Value, e = .returned (v0_) ∧ Kd.R (Kd.int .i64) 3 w' w.heap.size (fun _ => True) v0_ r ∧ Below w.heap.size w w' := by
  have hcond : l0.length ≤ 10 ∧ (∀ x ∈ l0, x.length ≤ 1000000) := by
    unfold slices_Concat_int_int.f at h
    split at h
    · assumption
    · cases h
  unfold slices_Concat_int_int.f at h
  rw [if_pos hcond] at h
  obtain rfl := Option.some.inj h
  obtain ⟨hl, hx⟩ := hcond
  have HX := Aside0.mk (sumLen_bd hx)
  have HXX := Aside0.mk hx
  have HR0 := Aside0.mk hr0
  have HC0 := Aside0.mk hc0
  have hl2 : (l0.length : Int) ≤ 10 := by omega
  clear h hx hr0 hc0
  go_enter Try.func28, Try.ntmps28
  go_wp2
  go_loopg [3, 11] l0.length (fun kq v3 v11 w' => ∃ (i : Nat), v11 = .int .i64 (i : Int) ∧ v3 = .int .i64 (sumLen l0 i) ∧ Aside0 (kq + i = l0.length) ∧ Aside0 (w = w'))
  case atStart => exact ⟨0, by simp, by simp [sumLen], ⟨by simp⟩, ⟨rfl⟩⟩
  case round =>
    obtain ⟨i, rfl, rfl, HK, ⟨rfl⟩⟩ := hrel
    by_cases hlt : i < l0.length
    · have b0 : decide ((i : Int) < (l0.length : Int)) = true := decide_eq_true (by omega)
      have b1 : decide (i < l0.length) = true := decide_eq_true hlt
      have p0 : (0 : Int) ≤ (i : Int) := by omega
      have q0 : (i : Int) < (l0.length : Int) := by omega
      obtain ⟨ad, Ai, ci, e, hx0, hci, hRi⟩ := at_L5 HR0.out i p0 q0
      cases e
      have hget : rd_L5 l0 (i : Int) = l0.getD i [] := by unfold rd_L5; rw [Int.toNat_natCast]
      rw [hget] at hx0
      simp only [Int.toNat_natCast] at hx0
      have hs1 := HX.out i (by omega)
      have hs2 := HX.out (i + 1) (by omega)
      have HS := Aside0.mk (sumLen_succ hlt)
      have hs3 : sumLen l0 i + ((l0.getD i []).length : Int) ≤ 10000000 := by rw [← HS.out]; omega
      have hs4 : 0 ≤ sumLen l0 i + ((l0.getD i []).length : Int) := by omega
      have b2 : decide (sumLen l0 i + ((l0.getD i []).length : Int) < 0) = false := decide_eq_false (by omega)
      have hs5 : 0 ≤ sumLen l0 i := hs1.1
      have hs6 : sumLen l0 i ≤ 10000000 := by omega
      have WR : Aside0 ((i : Int) + 1 = ((i + 1 : Nat) : Int)) := ⟨by omega⟩
      have HT := Aside0.mk hlt
      clear hs1 hs2 hget hci hRi hlt
      generalize sumLen l0 i = s at *
      generalize l0.getD i [] = xi at *
      go_wp2
      go_roundg (gk - 1)
      case measure => have := HK.out; have := HT.out; omega
      case rel => exact ⟨i + 1, congrArg (Value.int .i64) WR.out, congrArg (Value.int .i64) HS.out.symm, ⟨by have := HK.out; have := HT.out; omega⟩, ⟨rfl⟩⟩
    · have b0 : decide ((i : Int) < (l0.length : Int)) = false := decide_eq_false (by omega)
      have b1 : decide (i < l0.length) = false := decide_eq_false hlt
      obtain rfl : i = l0.length := by have := HK.out; omega
      have hs := HX.out l0.length (Nat.le_refl _)
      have HG := Aside0.mk (growNil (sumLen l0 l0.length) w hs.1 (by omega))
      clear hlt hs
      generalize sumLen l0 l0.length = total at *
      go_wp2_with (go_at_call 41; refine HG.out.mono ?_; rintro e w1 ⟨v1, rfl, ho, hb⟩; have HO := Aside0.mk ho; have HB := Aside0.mk hb; clear ho hb)
      go_loopg [6, 27] l0.length (fun kq v6 v27 w' => ∃ (i : Nat), v27 = .int .i64 (i : Int) ∧ Aside0 (kq + i = l0.length) ∧ Aside0 (Kd.R (Kd.int .i64) 3 w' w.heap.size (fun _ => True) v6 (l0.take i).flatten) ∧ Aside0 (Below w.heap.size w w'))
      case atStart => exact ⟨0, by simp, ⟨by simp⟩, ⟨by simpa using HO.out⟩, HB⟩
      case round =>
        obtain ⟨i, rfl, HK2, HO2, HB2⟩ := hrel
        by_cases hlt : i < l0.length
        · have c0 : decide ((i : Int) < (l0.length : Int)) = true := decide_eq_true (by omega)
          have c1 : decide (i < l0.length) = true := decide_eq_true hlt
          have p0 : (0 : Int) ≤ (i : Int) := by omega
          have q0 : (i : Int) < (l0.length : Int) := by omega
          obtain ⟨ad, Ai, ci, e, hx0, hci, hRi⟩ := at_L5 (Kd.C_below HR0.out HB2.out) i p0 q0
          cases e
          have hget : rd_L5 l0 (i : Int) = l0.getD i [] := by unfold rd_L5; rw [Int.toNat_natCast]
          rw [hget] at hx0 hRi
          simp only [Int.toNat_natCast] at hx0
          have hs1 := HX.out i (by omega)
          have hs2 : (l0.getD i []).length ≤ 1000000 := by
            rw [List.getD_eq_getElem?_getD, List.getElem?_eq_getElem hlt]
            exact HXX.out _ (List.getElem_mem _)
          have LM : Aside0 ((l0.take i).flatten.length + (l0.getD i []).length ≤ 20000000) := ⟨by unfold sumLen at hs1; omega⟩
          have HS := Aside0.mk (flatten_take_succ hlt)
          have WR : Aside0 ((i : Int) + 1 = ((i + 1 : Nat) : Int)) := ⟨by omega⟩
          have HT := Aside0.mk hlt
          have HRI := Aside0.mk hRi
          obtain ⟨Ao, co, eo⟩ := Kd.R_slice HO2.out
          subst eo
          clear hs1 hs2 hget hci hRi hlt
          generalize (l0.take i).flatten = xs at *
          generalize l0.getD i [] = xi at *
          go_wp2_with ((with_reducible refine gate_builtin (b := .append) (xs := #[.tmp 31, .tmp 32]) rfl ?_); at_builtin; refine Kd.R_append_row (Value.int .i64) (0 : Int) (w0 := w) w.heap.size rfl (.tmp 31) (.tmp 32) 43 3 (.int .i64 0) 8 rfl Try.underlying43 info3 rfl (by decide) (.slice Ao xs.length co) xs xi Ai xi.length ci (fun _ => True) rfl rfl (fun _ _ => trivial) HO2.out HRI.out HB2.out HB2.out.size ?aL ?_; (case aL => have := LM.out; omega); intro v1 w1 ho hb hg hat; rw [← HS.out] at ho; have HO3 := Aside0.mk ho; have HB3 := Aside0.mk hb; clear ho hb hg hat)
          go_roundg (gk - 1)
          case measure => have := HK2.out; have := HT.out; omega
          case rel => exact ⟨i + 1, congrArg (Value.int .i64) WR.out, ⟨by have := HK2.out; have := HT.out; omega⟩, HO3, HB3⟩
        · have c0 : decide ((i : Int) < (l0.length : Int)) = false := decide_eq_false (by omega)
          have c1 : decide (i < l0.length) = false := decide_eq_false hlt
          have hil : i = l0.length := by have := HK2.out; omega
          have HE : Aside0 ((l0.take i).flatten = l0.flatten) := ⟨by rw [hil, List.take_length]⟩
          clear hlt hil
          go_wp2
          go_ret
          exact ⟨_, rfl, by rw [← HE.out]; exact HO2.out, HB2.out⟩

end Go.Proofs.Ythlgnbeoanafbaa.PX
