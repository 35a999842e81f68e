-- Written by wip/xprint.py, a program of this claim's own, over the kit's print program. Lean checks it.
import Derived.Test.YtnjljajopdpjjaaPXx0
import Derived.Test.YtnjljajopdpjjaaPXx3
namespace Go.Proofs.Ytnjljajopdpjjaa.PX
open Go.RowKit Go.Proofs.YtnjljajopdpjjaaW.PrintWords Go.Proofs.YtnjljajopdpjjaaW.PrintLast Go.Proofs.YtnjljajopdpjjaaW.PrintMore
attribute [local go_sem] max2_int min2_int max_two min_two max_three min_three max_four min_four   -- for this text's walks alone
set_option linter.unusedVariables false
set_option linter.unusedSimpArgs false

/-! ### loop_arrived: function 42, by hand -/
open Go.Maps in
theorem mapLaw : Keyed Try.prog 3 := int_keyed Try.underlying3
theorem mapZero (w : World) : (zeroValue 3).run Try.prog w = .ok (.int .i64 0) w := by kernel_rfl
/-- Block b is a map that holds just what m says. -/
def MapIs (w : World) (b : Nat) (m : Int → Option Int) : Prop :=
  ∃ (n : Nat) (D : DataW Unit), n ≤ 2000 ∧ w.ownsMap Try.prog 3 (plainElem Try.prog 3) b n D ∧ (∀ k, Maps.has D (.int .i64 k) = (m k).isSome) ∧ (∀ k s, m k = some s → ∀ z, D.atKey (.int .i64 k) z = .lit (.int .i64 s)) ∧
    (∀ k s, m k = some s → 0 ≤ k ∧ k ≤ 1073741824 ∧ 0 ≤ s ∧ s ≤ 1073741824)
theorem wf64 {n : Int} (h : -9223372036854775808 ≤ n ∧ n ≤ 9223372036854775807) : (Lit.int .i64 n).wf = true := by
  simp only [Lit.wf, Bool.and_eq_true, decide_eq_true_eq]
  exact h
/-- Does a delivery count for a flow. -/
def usableB (f : S39) (x : S34) : Bool := decide (x.f0 = f.f0) && decide (0 ≤ x.f1) && decide (x.f1 ≤ 1073741824) && decide (0 ≤ x.f2) && decide (x.f2 ≤ 1073741824) && decide (f.f4 + x.f1 * f.f3 ≤ x.f2)
/-- When each frame of a flow was delivered. -/
def arr (f : S39) (d : List S34) (k : Int) : Option Int := (d.find? (fun x => usableB f x && x.f1 == k)).map (·.f2)
theorem arr_snoc (f : S39) (d : List S34) (x : S34) (k : Int) : arr f (d ++ [x]) k = if (arr f d k).isSome then arr f d k else if usableB f x = true ∧ x.f1 = k then some x.f2 else none := by
  unfold arr
  rw [List.find?_append]
  cases hd : d.find? (fun x => usableB f x && x.f1 == k) with
  | some y => simp
  | none =>
    simp only [Option.none_or, Option.map_none, Option.isSome_none, Bool.false_eq_true, if_false]
    by_cases h : usableB f x = true ∧ x.f1 = k
    · rw [if_pos h, List.find?_cons_of_pos (by simp [h.1, h.2])]
      rfl
    · rw [if_neg h, List.find?_cons_of_neg (by simpa using h)]
      rfl
theorem arr_bd {f : S39} {d : List S34} {k s : Int} (h : arr f d k = some s) : 0 ≤ k ∧ k ≤ 1073741824 ∧ 0 ≤ s ∧ s ≤ 1073741824 := by
  unfold arr at h
  obtain ⟨x, hx, rfl⟩ := Option.map_eq_some_iff.1 h
  have := List.find?_some hx
  simp only [usableB, Bool.and_eq_true, decide_eq_true_eq, beq_iff_eq] at this
  omega
theorem MapIs.below {w w1 : World} {b : Nat} {m : Int → Option Int} (h : MapIs w b m) (hb : Below w.heap.size w w1) : MapIs w1 b m := by
  obtain ⟨n, D, h1, h2, h3⟩ := h
  exact ⟨n, D, h1, h2.kept (grown_of_below hb none) (by simp), h3⟩
def flowGood (f : S39) : Prop := (flow_alone.f f.f0 f.f1 f.f2 f.f3 f.f4 f.f5 = some 0) ∧ 1 ≤ f.f3 ∧ f.f3 ≤ 512 ∧ 0 ≤ f.f4 ∧ f.f4 ≤ 512
theorem release_good {f : S39} (h : flowGood f) {n : Int} (h0 : 0 ≤ n) (h1 : n ≤ 1073741824) : loop_release.f f.f0 f.f1 f.f2 f.f3 f.f4 f.f5 n = some (f.f4 + n * f.f3) := by
  obtain ⟨ha, h2, h3, h4, h5⟩ := h
  have hm : 0 ≤ n * f.f3 ∧ n * f.f3 ≤ 1073741824 * 512 := ⟨Int.mul_nonneg h0 (by omega), Int.mul_le_mul h1 h3 (by omega) (by omega)⟩
  unfold loop_release.f flow_Window.f flow_release.f
  rw [ha, Option.bind_some, if_pos rfl, if_neg (by omega), if_neg (by omega)]
  have w1 : wrap64 (n * f.f3) = n * f.f3 := by unfold wrap64; omega
  have w2 : wrap64 (f.f4 + n * f.f3) = f.f4 + n * f.f3 := by unfold wrap64; omega
  rw [w1, w2, if_neg (by omega)]
  rfl
/-- The same, with a bound on the entries. -/
def MapR (w : World) (b n : Nat) (m : Int → Option Int) : Prop :=
  ∃ (D : DataW Unit), w.ownsMap Try.prog 3 (plainElem Try.prog 3) b n D ∧ (∀ k, Maps.has D (.int .i64 k) = (m k).isSome) ∧ (∀ k s, m k = some s → ∀ z, D.atKey (.int .i64 k) z = .lit (.int .i64 s))
theorem MapR.below {w w1 : World} {b n : Nat} {m : Int → Option Int} (h : MapR w b n m) (hb : Below w.heap.size w w1) : MapR w1 b n m := by
  obtain ⟨D, h2, h3⟩ := h
  exact ⟨D, h2.kept (grown_of_below hb none) (by simp), h3⟩
theorem MapR.mono {w : World} {b n n' : Nat} {m : Int → Option Int} (h : MapR w b n m) (hn : n ≤ n') : MapR w b n' m := by
  obtain ⟨D, h2, h3⟩ := h
  exact ⟨D, h2.mono hn, h3⟩
theorem MapR.made (w : World) (f : S39) : MapR (w.alloc (.map #[] 0)) w.heap.size 0 (arr f []) := ⟨.map [], World.ownsMap_made _ _ _ _, fun k => rfl, fun k s h => by cases h⟩
theorem MapR.is {w : World} {b n : Nat} {f : S39} {d : List S34} (h : MapR w b n (arr f d)) (hn : n ≤ 2000) : MapIs w b (arr f d) := by
  obtain ⟨D, h2, h3, h4⟩ := h
  exact ⟨n, D, hn, h2, h3, h4, fun k s hk => arr_bd hk⟩
theorem MapR.put {w w1 : World} {b n : Nat} {m m' : Int → Option Int} {x s : Int} {D : DataW Unit} (h3 : ∀ k, Maps.has D (.int .i64 k) = (m k).isSome) (h4 : ∀ k s, m k = some s → ∀ z, D.atKey (.int .i64 k) z = .lit (.int .i64 s))
    (h0 : w.ownsMap Try.prog 3 (plainElem Try.prog 3) b n D) (h : w1.ownsMap Try.prog 3 (plainElem Try.prog 3) b (n + 1) (D.put (.int .i64 x) (.lit (.int .i64 s)))) (hm : ∀ k, m' k = if k = x then some s else m k) : MapR w1 b (n + 1) m' := by
  refine ⟨_, h, fun k => ?_, fun k s' hk z => ?_⟩
  · rw [hm]
    by_cases hkx : k = x
    · subst hkx
      rw [if_pos rfl, Maps.has_put_same h0.isMap (show WideAt.IsKeyLit (Lit.int .i64 _) from trivial)]
      rfl
    · rw [if_neg hkx, Maps.has_put_other (fun e => hkx (by injection e))]
      exact h3 k
  · rw [hm] at hk
    by_cases hkx : k = x
    · subst hkx
      rw [if_pos rfl] at hk
      rw [Maps.atKey_put_same h0.isMap (show WideAt.IsKeyLit (Lit.int .i64 _) from trivial), Option.some.inj hk]
    · rw [if_neg hkx] at hk
      rw [Maps.atKey_put_other (fun e => hkx (by injection e))]
      exact h4 k s' hk z
theorem take_rd {d : List S34} {i : Nat} (h : i < d.length) : d.take (i + 1) = d.take i ++ [rd_T34 d i] := by
  rw [List.take_succ_eq_append_getElem h]
  unfold rd_T34
  rw [Int.toNat_natCast, List.getD_eq_getElem?_getD, List.getElem?_eq_getElem h]
  rfl
theorem arr_skip {f : S39} {d : List S34} {i : Nat} (h : i < d.length) (hu : usableB f (rd_T34 d i) = false) : arr f (d.take (i + 1)) = arr f (d.take i) := by
  funext k
  rw [take_rd h, arr_snoc, hu]
  cases hk : arr f (d.take i) k <;> simp
theorem arr_old {f : S39} {d : List S34} {i : Nat} (h : i < d.length) (ho : (arr f (d.take i) (rd_T34 d i).f1).isSome = true) : arr f (d.take (i + 1)) = arr f (d.take i) := by
  funext k
  rw [take_rd h, arr_snoc]
  by_cases hk : (arr f (d.take i) k).isSome = true
  · rw [if_pos hk]
  · rw [if_neg hk, if_neg (fun hh => hk (by rw [← hh.2]; exact ho))]
    exact (by simpa using hk : arr f (d.take i) k = none).symm
theorem arr_new {f : S39} {d : List S34} {i : Nat} (h : i < d.length) (hu : usableB f (rd_T34 d i) = true) (ho : (arr f (d.take i) (rd_T34 d i).f1).isSome = false) (k : Int) :
    arr f (d.take (i + 1)) k = if k = (rd_T34 d i).f1 then some (rd_T34 d i).f2 else arr f (d.take i) k := by
  rw [take_rd h, arr_snoc]
  by_cases hk : k = (rd_T34 d i).f1
  · subst hk
    rw [if_neg (by rw [ho]; decide), if_pos ⟨hu, rfl⟩, if_pos rfl]
  · rw [if_neg hk]
    by_cases hs : (arr f (d.take i) k).isSome = true
    · rw [if_pos hs]
    · rw [if_neg hs, if_neg (fun hh => hk hh.2.symm)]
      exact (by simpa using hs : arr f (d.take i) k = none).symm
set_option maxHeartbeats 8000000 in
set_option maxRecDepth 100000 in
theorem arrivedCalls (f : S39) (d : List S34) (A : Option Addr) (c : Nat) (w : World) (hd : d.length ≤ 1024) (hf : flowGood f) (hr : Kd.C k34 w A d.length d) :
    Calls Try.prog 42 #[.agg #[.int .i64 f.f0, .int .i64 f.f1, .int .i64 f.f2, .int .i64 f.f3, .int .i64 f.f4, .int .i64 f.f5], .slice A d.length c] w fun e w' => ∃ b, e = .returned (.map (some b)) ∧ MapIs w' b (arr f d) ∧ w.heap.size ≤ b ∧ Below w.heap.size w w' := by
  have hmm := @run_makeMap Try.prog
  have hu := Try.underlying39
  have hu2 := Try.underlying34
  have HR := Aside0.mk hr
  have HF := Aside0.mk hf
  have hd2 : (d.length : Int) ≤ 1024 := by omega
  clear hr hf hd
  go_enter Try.func42, Try.ntmps42
  go_wp2
  go_loopg [13] d.length (fun kq v13 w' => ∃ (i : Nat), v13 = .int .i64 (i : Int) ∧ Aside0 (kq + i = d.length) ∧ Aside0 (MapR w' (w.heap.size + 1) i (arr f (d.take i))) ∧
    Aside0 (w'.heap[w.heap.size]? = some (.cells #[.int .i64 f.f0, .int .i64 f.f1, .int .i64 f.f2, .int .i64 f.f3, .int .i64 f.f4, .int .i64 f.f5] 39 (0, 0))) ∧ Aside0 (Below w.heap.size w w'))
  case atStart =>
    refine ⟨0, by simp, ⟨by simp⟩, ⟨?_⟩, ⟨?_⟩, ⟨?_⟩⟩
    · have := MapR.made (w.alloc (.cells #[.int .i64 f.f0, .int .i64 f.f1, .int .i64 f.f2, .int .i64 f.f3, .int .i64 f.f4, .int .i64 f.f5] 39)) f
      simpa using this
    · exact blk_alloc (by simpa using heap_alloc_new w _) _
    · exact below_alloc (below_alloc (Below.refl _ _) _) _
  case round =>
    obtain ⟨i, rfl, HK, HM, HBF, HB⟩ := hrel
    by_cases hlt : i < d.length
    · have b0 : decide ((i : Int) < (d.length : Int)) = true := decide_eq_true (by omega)
      have b1 : decide (i < d.length) = true := decide_eq_true hlt
      have p0 : (0 : Int) ≤ (i : Int) := by omega
      have q0 : (i : Int) < (d.length : Int) := by omega
      obtain ⟨ad, e, hx0, hx1, hx2⟩ := at_T34 (Kd.C_below HR.out HB.out) i p0 q0
      cases e
      simp only [Int.toNat_natCast] at hx0 hx1 hx2
      have HT := Aside0.mk hlt
      have WR : Aside0 ((i : Int) + 1 = ((i + 1 : Nat) : Int)) := ⟨by omega⟩
      have HSK := Aside0.mk (arr_skip (f := f) hlt)
      have HOLD := Aside0.mk (arr_old (f := f) hlt)
      have HNEW := Aside0.mk (arr_new (f := f) hlt)
      clear hlt
      generalize rd_T34 d i = x at *
      obtain ⟨x0, x1, x2⟩ := x
      simp only at hx0 hx1 hx2 HSK HOLD HNEW
      have HS0 : w.heap.size + 1 < wr.heap.size := by
        obtain ⟨D, h1, -⟩ := HM.out
        exact h1.lt
      go_upto_region 5 with (fail)
      have hbx : (wr.alloc (.cells #[.int .i64 x0, .int .i64 x1, .int .i64 x2] 34 (0, 0))).heap[wr.heap.size]? = some (.cells #[.int .i64 x0, .int .i64 x1, .int .i64 x2] 34 (0, 0)) := heap_alloc_new _ _
      have HBW : Aside0 (Below w.heap.size w (wr.alloc (.cells #[.int .i64 x0, .int .i64 x1, .int .i64 x2] 34 (0, 0)))) := ⟨below_alloc HB.out _⟩
      have HMW : Aside0 (MapR (wr.alloc (.cells #[.int .i64 x0, .int .i64 x1, .int .i64 x2] 34 (0, 0))) (w.heap.size + 1) i (arr f (d.take i))) := ⟨HM.out.below (below_alloc (Below.refl _ _) _)⟩
      have hbf := blk_alloc HBF.out (.cells #[.int .i64 x0, .int .i64 x1, .int .i64 x2] 34 (0, 0))
      have HBF2 := Aside0.mk hbf
      have gx0 := (blk_cell hbx 0).trans (rfl : _ = some (Value.int .i64 x0))
      have gx1 := (blk_cell hbx 1).trans (rfl : _ = some (Value.int .i64 x1))
      have gx2 := (blk_cell hbx 2).trans (rfl : _ = some (Value.int .i64 x2))
      have gf0 := (blk_cell hbf 0).trans (rfl : _ = some (Value.int .i64 f.f0))
      have gf1 := (blk_cell hbf 1).trans (rfl : _ = some (Value.int .i64 f.f1))
      have gf2 := (blk_cell hbf 2).trans (rfl : _ = some (Value.int .i64 f.f2))
      have gf3 := (blk_cell hbf 3).trans (rfl : _ = some (Value.int .i64 f.f3))
      have gf4 := (blk_cell hbf 4).trans (rfl : _ = some (Value.int .i64 f.f4))
      have gf5 := (blk_cell hbf 5).trans (rfl : _ = some (Value.int .i64 f.f5))
      clear hbx hbf HM HBF HB hx0 hx1 hx2
      generalize wr.alloc (.cells #[.int .i64 x0, .int .i64 x1, .int .i64 x2] 34 (0, 0)) = W at *
      have HSKIP : ∀ W' : World, Below w.heap.size w W' → Below W.heap.size W W' → usableB f ⟨x0, x1, x2⟩ = false → ∃ i1 : Nat, Value.int .i64 ((i : Int) + 1) = .int .i64 (i1 : Int) ∧ Aside0 (gk - 1 + i1 = d.length) ∧ Aside0 (MapR W' (w.heap.size + 1) i1 (arr f (d.take i1))) ∧
          Aside0 (W'.heap[w.heap.size]? = some (.cells #[.int .i64 f.f0, .int .i64 f.f1, .int .i64 f.f2, .int .i64 f.f3, .int .i64 f.f4, .int .i64 f.f5] 39 (0, 0))) ∧ Aside0 (Below w.heap.size w W') := fun W' h1 h2 hu => by
        refine ⟨i + 1, by rw [WR.out], ⟨by have := HK.out; have := HT.out; omega⟩, ⟨?_⟩, ⟨blk_below HBF2.out h2⟩, ⟨h1⟩⟩
        rw [HSK.out hu]
        exact (HMW.out.below h2).mono (by omega)
      by_cases c0 : x0 = f.f0
      · have d0 : (x0 == f.f0) = true := beq_iff_eq.mpr c0
        by_cases c1 : x1 < 0
        · go_quiet (fail)
          go_wp2
          go_roundg (gk - 1)
          case measure => have := HK.out; have := HT.out; omega
          case rel => exact HSKIP _ (pw_below_drewN HBW.out _) (pw_below_drewN (Below.refl _ _) _) (by simp [usableB]; omega)
        by_cases c2 : x1 > 1073741824
        · go_quiet (fail)
          go_wp2
          go_roundg (gk - 1)
          case measure => have := HK.out; have := HT.out; omega
          case rel => exact HSKIP _ (pw_below_drewN HBW.out _) (pw_below_drewN (Below.refl _ _) _) (by simp [usableB]; omega)
        by_cases c3 : x2 < 0
        · go_quiet (fail)
          go_wp2
          go_roundg (gk - 1)
          case measure => have := HK.out; have := HT.out; omega
          case rel => exact HSKIP _ (pw_below_drewN HBW.out _) (pw_below_drewN (Below.refl _ _) _) (by simp [usableB]; omega)
        by_cases c4 : x2 > 1073741824
        · go_quiet (fail)
          go_wp2
          go_roundg (gk - 1)
          case measure => have := HK.out; have := HT.out; omega
          case rel => exact HSKIP _ (pw_below_drewN HBW.out _) (pw_below_drewN (Below.refl _ _) _) (by simp [usableB]; omega)
        have HSZ : Aside0 (w.heap.size ≤ W.heap.size) := ⟨HBW.out.size⟩
        have hrel := release_good HF.out (n := x1) (by omega) (by omega)
        go_region_law (go_simp; go_at_call 43; (with_reducible refine (loop_release.calls _ _ _ _ _ _ x1 _ _ hrel).mono ?_); rintro e w' ⟨rfl, hb⟩; have gy0 := pw_cell_below hb gx0; have gy1 := pw_cell_below hb gx1; have gy2 := pw_cell_below hb gx2; have hz := pw_cell_below hb gf0)
        all_goals
          have hb0 : Below W.heap.size W w' := by
            refine below_then ?_ ?_ hb
            · repeat (first | exact Below.refl _ _ | apply pw_below_drewN | apply below_drew1)
            · exact Nat.le_refl _
          have HB9 : Aside0 (Below w.heap.size w w') := ⟨below_then HBW.out HSZ.out hb0⟩
          have HSZ9 : Aside0 (w.heap.size ≤ w'.heap.size) := ⟨HB9.out.size⟩
          have HM9 := Aside0.mk (HMW.out.below hb0)
          have HBF9 := Aside0.mk (blk_below HBF2.out hb0)
          have HSK9 := Aside0.mk (HSKIP w' HB9.out hb0)
          clear hb hb0 gx0 gx1 gx2 gf0 gf1 gf2 gf3 gf4 gf5 HSKIP HMW HBF2 HBW hrel
          by_cases c5 : x2 < f.f4 + x1 * f.f3
          · go_wp2
            go_roundg (gk - 1)
            case measure => have := HK.out; have := HT.out; omega
            case rel => exact HSK9.out (by simp [usableB]; omega)
          · have HU : Aside0 (usableB f ⟨x0, x1, x2⟩ = true) := ⟨by simp [usableB]; omega⟩
            obtain ⟨D, hown, h3, h4⟩ := HM9.out
            have H34 := Aside0.mk (And.intro h3 h4)
            have hhas := h3 x1
            have hkey := Maps.keyOf_int_mk (P := Try.prog) Try.underlying3 (a := x1) (wf64 (by omega))
            have hw2 : (Lit.int .i64 x2).wf = true := wf64 (by omega)
            have hi2 : i < maxLen := by have := HT.out; unfold maxLen; omega
            clear h3 h4 HM9
            cases ho : (arr f (d.take i) x1).isSome with
            | true =>
              have HO := Aside0.mk ho
              rw [ho] at hhas
              clear ho
              go_wp2_with (at_lookup; refine wpList_lookup_own_ok_int _ rfl _ _ 72 rfl 3 3 .i64 mapLaw Try.underlying72 Try.underlying3 (mapZero _) (w.heap.size + 1) i D rfl hown _ _ rfl hkey ?_; intro cL hat hwc; rw [hhas])
              go_roundg (gk - 1)
              case measure => have := HK.out; have := HT.out; omega
              case rel => exact ⟨i + 1, by rw [WR.out], ⟨by have := HK.out; have := HT.out; omega⟩, ⟨by rw [HOLD.out HO.out]; exact MapR.mono ⟨D, hown, H34.out⟩ (by omega)⟩, HBF9, HB9⟩
            | false =>
              have HO := Aside0.mk ho
              rw [ho] at hhas
              clear ho
              go_wp2_with (first
                | (at_lookup; refine wpList_lookup_own_ok_int _ rfl _ _ 72 rfl 3 3 .i64 mapLaw Try.underlying72 Try.underlying3 (mapZero _) (w.heap.size + 1) i D rfl hown _ _ rfl hkey ?_; intro cL hat hwc; rw [hhas])
                | (at_mapUpdate; refine wpList_mapUpdate_own _ rfl _ _ _ 72 rfl 3 3 mapLaw Try.underlying72 _ (w.heap.size + 1) i _ rfl hown hi2 _ _ _ rfl rfl hkey _ [] (plainElem_int Try.underlying3 hw2) ?_; intro w1 hown1 hgrow1))
              go_roundg (gk - 1)
              case measure => have := HK.out; have := HT.out; omega
              case rel => exact ⟨i + 1, by rw [WR.out], ⟨by have := HK.out; have := HT.out; omega⟩, ⟨MapR.put H34.out.1 H34.out.2 hown hown1 (HNEW.out HU.out HO.out)⟩, ⟨blk_grown HBF9.out hgrow1 (by simp)⟩, ⟨pw_below_grown HB9.out _ HSZ9.out hgrow1 (fun k hk => by injection hk with hk; omega)⟩⟩
      · have d0 : (x0 == f.f0) = false := beq_eq_false_iff_ne.mpr c0
        go_quiet (fail)
        go_wp2
        go_roundg (gk - 1)
        case measure => have := HK.out; have := HT.out; omega
        case rel => exact HSKIP _ (pw_below_drewN HBW.out _) (pw_below_drewN (Below.refl _ _) _) (by simp [usableB]; omega)
    · have b0 : decide ((i : Int) < (d.length : Int)) = false := decide_eq_false (by omega)
      have b1 : decide (i < d.length) = false := decide_eq_false hlt
      have HE : Aside0 (d.take i = d) := ⟨by rw [List.take_of_length_le (by omega)]⟩
      have hi : i ≤ 2000 := by have := HK.out; omega
      clear hlt
      go_wp2
      go_ret
      exact ⟨_, rfl, by have := HM.out.is hi; rw [HE.out] at this; exact this, by omega, HB.out⟩

end Go.Proofs.Ytnjljajopdpjjaa.PX
