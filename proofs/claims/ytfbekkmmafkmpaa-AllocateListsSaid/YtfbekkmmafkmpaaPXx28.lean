-- Written by wip/xprint.py, a program of this claim's own, over the kit's print program. Lean checks it.
import Derived.Test.YtfbekkmmafkmpaaPXx0
import Derived.BigRegion
import Derived.Test.YtfbekkmmafkmpaaPXx5
import Derived.Test.YtfbekkmmafkmpaaPXx6
import Derived.Test.YtfbekkmmafkmpaaPXx23
import Derived.Test.YtfbekkmmafkmpaaPXx27
namespace Go.Proofs.Ytfbekkmmafkmpaa.PX
open Go.RowKit Go.Proofs.YtfbekkmmafkmpaaW.PrintWords Go.Proofs.YtfbekkmmafkmpaaW.PrintLast Go.Proofs.YtfbekkmmafkmpaaW.PrintMore
attribute [local go_sem] max2_int min2_int max_two min_two max_three min_three max_four min_four   -- for this text's walks alone
set_option linter.unusedVariables false
set_option linter.unusedSimpArgs false

/-! ### allocate_Pass: function 28 -/
def hasSlot (slot : Int) (x : S39) : Bool := x.f0.f0 == slot
def bumpI (b : Bool) : Int := if b then 1 else 0
/-- A usage behind a pass. -/
def passU (x : S39) (u k : Bool) : S39 := ⟨x.f0, (if x.f1 = 64 then 32 else x.f1) + 1, (if x.f1 = 64 then x.f2 / 2 else x.f2) + bumpI u, (if x.f1 = 64 then x.f3 / 2 else x.f3) + bumpI k⟩
/-- The list behind a pass, or the error. -/
def passOf (l : List S39) (slot : Int) (u k : Bool) : List S39 × Int :=
  if (if l.length > 64 then 8 else checkTo l l.length) = 0 then
    match (List.range l.length).find? (fun i : Nat => hasSlot slot (rd_T39 l (i : Int))) with
    | none => ([], 7)
    | some i => if k = true ∧ u = false then ([], 12) else (l.set i (passU (rd_T39 l (i : Int)) u k), 0)
  else ([], 1)
def allocate_Pass.f (l0 : List S39) (a1 : Int) (a2 a3 : Bool) : Option (List S39 × Int) := some (passOf l0 a1 a2 a3)
theorem Found.nothing {len : Nat} {pred : Nat → Bool} {Inv : Nat → World → Prop} {r : Int} {w' : World} (h : Found len pred Inv r w') (hn : (List.range len).find? pred = none) : r = -1 := by
  rw [List.find?_range_eq_none] at hn
  obtain ⟨j, _, _, h⟩ := h
  rcases h with ⟨_, e, _⟩ | ⟨hj, hp, _, _⟩
  · exact e
  · have := hn j hj
    rw [hp] at this
    cases this
theorem Found.place {len i : Nat} {pred : Nat → Bool} {Inv : Nat → World → Prop} {r : Int} {w' : World} (h : Found len pred Inv r w') (hs : (List.range len).find? pred = some i) : r = (i : Int) := by
  rw [List.find?_range_eq_some] at hs
  obtain ⟨h1, h2, h3⟩ := hs
  rw [List.mem_range] at h2
  obtain ⟨j, _, hb, h⟩ := h
  rcases h with ⟨e, _, _⟩ | ⟨hj, hp, e, _⟩
  · have := hb i (by omega)
    rw [h1] at this
    cases this
  · have h4 : ¬ i < j := fun hlt => by have := hb i hlt; rw [h1] at this; cases this
    have h5 : ¬ j < i := fun hlt => by have := h3 j hlt; rw [hp] at this; cases this
    omega
set_option maxHeartbeats 8000000 in
set_option maxRecDepth 100000 in
theorem pass_one (x : S39) (slot : Int) (b : Nat) (w : World) (hblk : w.heap[b]? = some (.cells #[.int .i64 slot] 3 (0, 0))) :
    Calls Try.prog 44 #[usageV x, .pointer (some ⟨b, 0, none⟩)] w fun e w' => e = .returned (.bool (hasSlot slot x)) ∧ Below w.heap.size w w' := by
  obtain ⟨⟨x0, x1, x2, x3, x4, x5⟩, x6, x7, x8⟩ := x
  have hu := Try.underlying39
  have hu2 := Try.underlying37
  have hs0 : ∀ o : Obj, (w.alloc o).cell? ⟨b, 0, none⟩ = some (.int .i64 slot) := fun o => (blk_cell (blk_alloc hblk o) 0).trans rfl
  have g0 := hs0 (.cells #[.int .i64 x0, .int .i64 x1, .int .i64 x2, .bool x3, .int .i64 x4, .int .i64 x5, .int .i64 x6, .int .i64 x7, .int .i64 x8] 39 (0, 0))
  have hx0 := (blk_cell (heap_alloc_new w (.cells #[.int .i64 x0, .int .i64 x1, .int .i64 x2, .bool x3, .int .i64 x4, .int .i64 x5, .int .i64 x6, .int .i64 x7, .int .i64 x8] 39 (0, 0))) 0).trans (rfl : _ = some (Value.int .i64 x0))
  clear hs0 hblk
  unfold usageV hasSlot
  by_cases c0 : x0 = slot
  · have e1 : (x0 == slot) = true := beq_iff_eq.mpr c0
    dsimp only
    rw [e1]
    clear c0
    go_enter Try.func44, Try.ntmps44
    go_wp2
    go_ret
    exact ⟨rfl, below_alloc (Below.refl _ _) _⟩
  · have e1 : (x0 == slot) = false := beq_eq_false_iff_ne.mpr c0
    dsimp only
    rw [e1]
    clear c0
    go_enter Try.func44, Try.ntmps44
    go_wp2
    go_ret
    exact ⟨rfl, below_alloc (Below.refl _ _) _⟩
/-- The cells of an element of a row of one's own. -/
theorem usage_row {w : World} {base g cap n : Nat} {ok : Nat → Prop} {l : List S39} (h : Kd.R k39 39 w base ok (.slice (some ⟨g, 0, none⟩) n cap) l) {i : Nat} (hi : i < n) (x : S39) (hx : rd_T39 l (i : Int) = x) :
    w.cell? ⟨g, i * 9, none⟩ = some (.int .i64 x.f0.f0) ∧ w.cell? ⟨g, i * 9 + 1, none⟩ = some (.int .i64 x.f0.f1) ∧ w.cell? ⟨g, i * 9 + 2, none⟩ = some (.int .i64 x.f0.f2) ∧ w.cell? ⟨g, i * 9 + 3, none⟩ = some (.bool x.f0.f3) ∧ w.cell? ⟨g, i * 9 + 4, none⟩ = some (.int .i64 x.f0.f4) ∧ w.cell? ⟨g, i * 9 + 5, none⟩ = some (.int .i64 x.f0.f5) ∧ w.cell? ⟨g, i * 9 + 6, none⟩ = some (.int .i64 x.f1) ∧ w.cell? ⟨g, i * 9 + 7, none⟩ = some (.int .i64 x.f2) ∧ w.cell? ⟨g, i * 9 + 8, none⟩ = some (.int .i64 x.f3) := by
  obtain ⟨ad, e, h0, h1, h2, h3, h4, h5, h6, h7, h8⟩ := at_T39 (Kd.R_reads' h).2.2 (i : Int) (by omega) (by have := (Kd.R_reads' h).1; omega)
  injection e with e
  subst e
  subst hx
  simp only [Int.toNat_natCast] at h0 h1 h2 h3 h4 h5 h6 h7 h8
  have hz : ∀ k, (⟨g, 0, none⟩ : Addr).add k = ⟨g, k, none⟩ := fun k => by
    simp [Addr.add]
    omega
  rw [hz] at h0 h1 h2 h3 h4 h5 h6 h7 h8
  exact ⟨h0, h1, h2, h3, h4, h5, h6, h7, h8⟩
theorem nine_at {w : World} {g o : Nat} {v0 v1 v2 v3 v4 v5 v6 v7 v8 : Value} (h0 : w.cell? ⟨g, o, none⟩ = some v0) (h1 : w.cell? ⟨g, o + 1, none⟩ = some v1) (h2 : w.cell? ⟨g, o + 2, none⟩ = some v2) (h3 : w.cell? ⟨g, o + 3, none⟩ = some v3) (h4 : w.cell? ⟨g, o + 4, none⟩ = some v4) (h5 : w.cell? ⟨g, o + 5, none⟩ = some v5) (h6 : w.cell? ⟨g, o + 6, none⟩ = some v6) (h7 : w.cell? ⟨g, o + 7, none⟩ = some v7) (h8 : w.cell? ⟨g, o + 8, none⟩ = some v8) :
    ∀ j u, [v0, v1, v2, v3, v4, v5, v6, v7, v8][j]? = some u → w.cell? ⟨g, o + j, none⟩ = some u := by
  intro j u hj
  match j, hj with
  | 0, hj => cases hj; exact h0
  | 1, hj => cases hj; exact h1
  | 2, hj => cases hj; exact h2
  | 3, hj => cases hj; exact h3
  | 4, hj => cases hj; exact h4
  | 5, hj => cases hj; exact h5
  | 6, hj => cases hj; exact h6
  | 7, hj => cases hj; exact h7
  | 8, hj => cases hj; exact h8
  | n + 9, hj => simp at hj
theorem rd_set {l : List S39} {i : Nat} (h : i < l.length) (y : S39) : rd_T39 (l.set i y) (i : Int) = y := by
  unfold rd_T39
  rw [Int.toNat_natCast, List.getD_eq_getElem?_getD, List.getElem?_set_self h]
  rfl
/-- Some cells of an element of a row of one's own are written. -/
theorem usage_seg {w : World} {base g cap n : Nat} {l : List S39} (h : Kd.R k39 39 w base (fun _ => True) (.slice (some ⟨g, 0, none⟩) n cap) l) {i : Nat} (hi : i < n) (x x' : S39) (hx : rd_T39 l (i : Int) = x) (j : Nat) (seg : List Value) (hj : j + seg.length ≤ 9)
    (hM : ([.int .i64 x.f0.f0, .int .i64 x.f0.f1, .int .i64 x.f0.f2, .bool x.f0.f3, .int .i64 x.f0.f4, .int .i64 x.f0.f5, .int .i64 x.f1, .int .i64 x.f2, .int .i64 x.f3].take j ++ seg ++ [.int .i64 x.f0.f0, .int .i64 x.f0.f1, .int .i64 x.f0.f2, .bool x.f0.f3, .int .i64 x.f0.f4, .int .i64 x.f0.f5, .int .i64 x.f1, .int .i64 x.f2, .int .i64 x.f3].drop (j + seg.length)) = [.int .i64 x'.f0.f0, .int .i64 x'.f0.f1, .int .i64 x'.f0.f2, .bool x'.f0.f3, .int .i64 x'.f0.f4, .int .i64 x'.f0.f5, .int .i64 x'.f1, .int .i64 x'.f2, .int .i64 x'.f3]) :
    Kd.R k39 39 (w.setCells g (i * 9 + j) seg) base (fun _ => True) (.slice (some ⟨g, 0, none⟩) n cap) (l.set i x') ∧ w.grownBy (w.setCells g (i * 9 + j) seg) (some g) := by
  obtain ⟨c0, c1, c2, c3, c4, c5, c6, c7, c8⟩ := usage_row h hi x hx
  have hcc := nine_at c0 c1 c2 c3 c4 c5 c6 c7 c8
  have := Kd.R_seg (okp := fun _ => False) (x' := x') h (i : Int) (by omega) (by omega) (c := [.int .i64 x.f0.f0, .int .i64 x.f0.f1, .int .i64 x.f0.f2, .bool x.f0.f3, .int .i64 x.f0.f4, .int .i64 x.f0.f5, .int .i64 x.f1, .int .i64 x.f2, .int .i64 x.f3]) (seg := seg) (j := j) rfl (by rw [Int.toNat_natCast]; exact hcc) hj (by rw [hM]; exact k39_mkM _ _ _ x') (fun _ hk => hk.elim)
  rw [Int.toNat_natCast] at this
  exact this
set_option maxHeartbeats 8000000 in
set_option maxRecDepth 100000 in
theorem allocate_Pass.calls (A0 : Option Addr) (c0 : Nat) (l0 : List (S39)) (a1 : Int) (a2 : Bool) (a3 : Bool) (r1 : List (S39)) (r2 : Int) (w : World) (hr0 : Kd.C k39 w A0 l0.length l0) (hc0 : l0.length ≤ c0) (h : allocate_Pass.f l0 a1 a2 a3 = some (r1, r2)) :
    Calls Try.prog 28 #[.slice A0 l0.length c0, .int .i64 a1, .bool a2, .bool a3] w fun e w' => ∃ v0_ : Value, e = .returned (.tuple #[v0_, .int .i64 r2]) ∧ Kd.R k39 39 w' w.heap.size (fun _ => True) v0_ r1 ∧ Below w.heap.size w w' := by
  have HR0 := Aside0.mk hr0
  have HC0 := Aside0.mk hc0
  clear hr0 hc0
  have hr := Option.some.inj h
  clear h
  have hu1 := Try.underlying39
  have hu2 := Try.underlying37
  have hmf : ∀ (fn : Fn) (first cap : Array Value) (w : World), (Instr.makeFunc fn first cap).run Try.prog w = .ok (.func fn first cap) w := fun _ _ _ _ => rfl
  obtain ⟨ce, hce⟩ : ∃ e, allocate_Check.f l0 = some e := ⟨_, rfl⟩
  have HCE := Aside0.mk hce
  have hcv := Option.some.inj hce
  clear hce
  have HS2 : Aside0 ((w.alloc (.cells #[.int .i64 a1] 3 (0, 0))).heap[w.heap.size]? = some (.cells #[.int .i64 a1] 3 (0, 0))) := ⟨heap_alloc_new w (.cells #[.int .i64 a1] 3 (0, 0))⟩
  have HB2 : Aside0 (Below w.heap.size w (w.alloc (.cells #[.int .i64 a1] 3 (0, 0)))) := ⟨below_alloc (Below.refl _ _) _⟩
  have HR2 : Aside0 (Kd.C k39 (w.alloc (.cells #[.int .i64 a1] 3 (0, 0))) A0 l0.length l0) := ⟨Kd.C_below HR0.out HB2.out⟩
  unfold passOf at hr
  rw [hcv] at hr
  by_cases c0 : ce = 0
  rotate_left
  · rw [if_neg c0] at hr
    obtain ⟨rfl, rfl⟩ : [] = r1 ∧ 1 = r2 := by
      rw [Prod.mk.injEq] at hr
      exact hr
    have b0 : (ce == 0) = false := beq_eq_false_iff_ne.mpr c0
    have b1 : (ce != 0) = true := bne_iff_ne.mpr c0
    clear hcv hr c0
    go_enter Try.func28, Try.ntmps28
    go_upto_region 1 with (fail)
    generalize (w.alloc (.cells #[.int .i64 a1] 3 (0, 0))) = w2 at *
    go_wp2_with ((go_at_call 18; (with_reducible refine (allocate_Check.calls A0 c0 l0 ce _ HR2.out HC0.out HCE.out).mono ?_); rintro e w3 ⟨rfl, hb⟩; have HS3 : Aside0 (w3.heap[w.heap.size]? = some (.cells #[.int .i64 a1] 3 (0, 0))) := ⟨blk_below HS2.out hb⟩; have HB3 : Aside0 (Below w.heap.size w w3) := ⟨below_step HB2.out hb⟩; have HR3 : Aside0 (Kd.C k39 w3 A0 l0.length l0) := ⟨Kd.C_below HR2.out hb⟩; clear hb))
    go_ret2
    exact ⟨_, rfl, Kd.R_nil _ _ _ _ _, HB3.out⟩
  subst c0
  rw [if_pos rfl] at hr
  have h64 : l0.length ≤ 64 := by
    split at hcv
    · cases hcv
    · omega
  have HLE := Aside0.mk h64
  have HOK : Aside0 (checkTo l0 l0.length = 0) := ⟨by rw [if_neg (by omega)] at hcv; exact hcv⟩
  clear hcv h64
  go_enter Try.func28, Try.ntmps28
  go_upto_region 1 with (fail)
  generalize (w.alloc (.cells #[.int .i64 a1] 3 (0, 0))) = w2 at *
  cases hf : (List.range l0.length).find? (fun j : Nat => hasSlot a1 (rd_T39 l0 (j : Int))) with
  | none =>
    rw [hf] at hr
    obtain ⟨rfl, rfl⟩ : [] = r1 ∧ 7 = r2 := by
      rw [Prod.mk.injEq] at hr
      exact hr
    have HF := Aside0.mk hf
    clear hf hr
    go_wp2_with (first | (go_at_call 18; (with_reducible refine (allocate_Check.calls A0 c0 l0 0 _ HR2.out HC0.out HCE.out).mono ?_); rintro e w3 ⟨rfl, hb⟩; have HS3 : Aside0 (w3.heap[w.heap.size]? = some (.cells #[.int .i64 a1] 3 (0, 0))) := ⟨blk_below HS2.out hb⟩; have HB3 : Aside0 (Below w.heap.size w w3) := ⟨below_step HB2.out hb⟩; have HR3 : Aside0 (Kd.C k39 w3 A0 l0.length l0) := ⟨Kd.C_below HR2.out hb⟩; clear hb) | (go_at_call 33; refine (indexUsage A0 c0 l0 44 Try.f44 #[.pointer (some ⟨w.heap.size, 0, none⟩)] (fun j : Nat => hasSlot a1 (rd_T39 l0 (j : Int))) (fun j w_ => True ∧ Below w3.heap.size w3 w_) w3 Try.func44 (by kernel_rfl) rfl (by have := HLE.out; omega) ⟨trivial, Below.refl _ _⟩ (fun j w_ hi => Kd.C_below HR3.out hi.2) ?hs).mono ?_; (case hs => intro j w_ hj _ hi; exact (pass_one (rd_T39 l0 (j : Int)) a1 w.heap.size w_ (blk_below HS3.out hi.2)).mono (fun e w__ ⟨he, hb⟩ => ⟨he, trivial, below_step hi.2 hb⟩)); rintro e w4 ⟨ri, rfl, hfd⟩; have hb := (Found.inv hfd).2; obtain rfl : ri = -1 := Found.nothing hfd HF.out; have HB4 : Aside0 (Below w.heap.size w w4) := ⟨below_step HB3.out hb⟩; have HR4 : Aside0 (Kd.C k39 w4 A0 l0.length l0) := ⟨Kd.C_below HR3.out hb⟩; clear hb hfd))
    go_ret2
    exact ⟨_, rfl, Kd.R_nil _ _ _ _ _, HB4.out⟩
  | some i =>
  rw [hf] at hr
  have HF := Aside0.mk hf
  have hil : i < l0.length := List.mem_range.1 (List.find?_range_eq_some.1 hf).2.1
  have HI := Aside0.mk hil
  dsimp only at hr
  clear hf
  have i0 : (0 : Int) ≤ (i : Int) := by omega
  have n0 : decide ((i : Int) < 0) = false := decide_eq_false (by omega)
  by_cases c12 : a3 = true ∧ a2 = false
  · rw [if_pos c12] at hr
    obtain ⟨rfl, rfl⟩ : [] = r1 ∧ 12 = r2 := by
      rw [Prod.mk.injEq] at hr
      exact hr
    obtain ⟨rfl, rfl⟩ := c12
    clear hr hil
    go_wp2_with (first | (go_at_call 18; (with_reducible refine (allocate_Check.calls A0 c0 l0 0 _ HR2.out HC0.out HCE.out).mono ?_); rintro e w3 ⟨rfl, hb⟩; have HS3 : Aside0 (w3.heap[w.heap.size]? = some (.cells #[.int .i64 a1] 3 (0, 0))) := ⟨blk_below HS2.out hb⟩; have HB3 : Aside0 (Below w.heap.size w w3) := ⟨below_step HB2.out hb⟩; have HR3 : Aside0 (Kd.C k39 w3 A0 l0.length l0) := ⟨Kd.C_below HR2.out hb⟩; clear hb) | (go_at_call 33; refine (indexUsage A0 c0 l0 44 Try.f44 #[.pointer (some ⟨w.heap.size, 0, none⟩)] (fun j : Nat => hasSlot a1 (rd_T39 l0 (j : Int))) (fun j w_ => True ∧ Below w3.heap.size w3 w_) w3 Try.func44 (by kernel_rfl) rfl (by have := HLE.out; omega) ⟨trivial, Below.refl _ _⟩ (fun j w_ hi => Kd.C_below HR3.out hi.2) ?hs).mono ?_; (case hs => intro j w_ hj _ hi; exact (pass_one (rd_T39 l0 (j : Int)) a1 w.heap.size w_ (blk_below HS3.out hi.2)).mono (fun e w__ ⟨he, hb⟩ => ⟨he, trivial, below_step hi.2 hb⟩)); rintro e w4 ⟨ri, rfl, hfd⟩; have hb := (Found.inv hfd).2; obtain rfl : ri = (i : Int) := Found.place hfd HF.out; have HB4 : Aside0 (Below w.heap.size w w4) := ⟨below_step HB3.out hb⟩; have HR4 : Aside0 (Kd.C k39 w4 A0 l0.length l0) := ⟨Kd.C_below HR3.out hb⟩; clear hb hfd))
    go_ret2
    exact ⟨_, rfl, Kd.R_nil _ _ _ _ _, HB4.out⟩
  rw [if_neg c12] at hr
  obtain ⟨x, hx⟩ : ∃ x, rd_T39 l0 (i : Int) = x := ⟨_, rfl⟩
  rw [hx] at hr
  have HX := Aside0.mk hx
  obtain ⟨h1, rfl⟩ : l0.set i (passU x a2 a3) = r1 ∧ 0 = r2 := by
    rw [Prod.mk.injEq] at hr
    exact hr
  have HRES := Aside0.mk h1
  have hbd := badAt_bd (checkTo_all HOK.out i hil)
  rw [hx] at hbd
  obtain ⟨xc, p, us, wk⟩ := x
  dsimp only at hbd
  obtain ⟨hb0, hb1, hb2, hb3⟩ := hbd
  have QC : Aside0 (api_Usage_45.f l0 = some l0) := ⟨if_pos (by have := HLE.out; omega)⟩
  have HL0 : Aside0 (0 < l0.length) := ⟨by omega⟩
  have q0 : (i : Int) < (l0.length : Int) := by omega
  clear hr hil hx h1
  replace i0 := eq_true i0
  replace q0 := eq_true q0
  cases a2 with
  | false =>
    cases a3 with
    | true => exact absurd ⟨rfl, rfl⟩ c12
    | false =>
      go_upto_region 10 with (first | (go_at_call 18; (with_reducible refine (allocate_Check.calls A0 c0 l0 0 _ HR2.out HC0.out HCE.out).mono ?_); rintro e w3 ⟨rfl, hb⟩; have HS3 : Aside0 (w3.heap[w.heap.size]? = some (.cells #[.int .i64 a1] 3 (0, 0))) := ⟨blk_below HS2.out hb⟩; have HB3 : Aside0 (Below w.heap.size w w3) := ⟨below_step HB2.out hb⟩; have HR3 : Aside0 (Kd.C k39 w3 A0 l0.length l0) := ⟨Kd.C_below HR2.out hb⟩; clear hb) | (go_at_call 33; refine (indexUsage A0 c0 l0 44 Try.f44 #[.pointer (some ⟨w.heap.size, 0, none⟩)] (fun j : Nat => hasSlot a1 (rd_T39 l0 (j : Int))) (fun j w_ => True ∧ Below w3.heap.size w3 w_) w3 Try.func44 (by kernel_rfl) rfl (by have := HLE.out; omega) ⟨trivial, Below.refl _ _⟩ (fun j w_ hi => Kd.C_below HR3.out hi.2) ?hs).mono ?_; (case hs => intro j w_ hj _ hi; exact (pass_one (rd_T39 l0 (j : Int)) a1 w.heap.size w_ (blk_below HS3.out hi.2)).mono (fun e w__ ⟨he, hb⟩ => ⟨he, trivial, below_step hi.2 hb⟩)); rintro e w4 ⟨ri, rfl, hfd⟩; have hb := (Found.inv hfd).2; obtain rfl : ri = (i : Int) := Found.place hfd HF.out; have HB4 : Aside0 (Below w.heap.size w w4) := ⟨below_step HB3.out hb⟩; have HR4 : Aside0 (Kd.C k39 w4 A0 l0.length l0) := ⟨Kd.C_below HR3.out hb⟩; clear hb hfd) | (go_at_call 45; (with_reducible refine (api_Usage_45.calls A0 c0 l0 l0 _ HR4.out HC0.out QC.out).mono ?_); rintro e w5 ⟨vk, rfl, ho, hb⟩; obtain ⟨g, cap, ek, hgb, hgl, cells, hcells⟩ := Kd.R_form ho HL0.out; subst ek; have HO5 : Aside0 (Kd.R k39 39 w5 w.heap.size (fun _ => True) (.slice (some ⟨g, 0, none⟩) l0.length cap) l0) := ⟨Kd.R_lower ho (below_size HB4.out)⟩; have HB5 : Aside0 (Below w.heap.size w w5) := ⟨below_step HB4.out hb⟩; have HCL := Aside0.mk hcells; have HGB : Aside0 (w.heap.size ≤ g) := ⟨Nat.le_trans (below_size HB4.out) hgb⟩; clear hb ho hgb hgl hcells))
      obtain ⟨g0, g1, g2, g3, g4, g5, g6, g7, g8⟩ := usage_row HO5.out HI.out _ HX.out
      dsimp only at g6 g7 g8
      have fz : ∀ o, w5.frozen? ⟨g, o, none⟩ = false := fun o => blk_frozen HCL.out o
      clear g0 g1 g2 g3 g4 g5
      by_cases c64 : p = 64
      · subst c64
        go_upto_region 11 with (fail)
        go_region
        go_wp2
        go_ret2
        have hs1 := usage_seg HO5.out HI.out ⟨xc, 64, us, wk⟩ ⟨xc, 32, us / 2, wk / 2⟩ HX.out 6 [.int .i64 32, .int .i64 (us / 2), .int .i64 (wk / 2)] (by simp) (by simp)
        have hs2 := usage_seg hs1.1 HI.out ⟨xc, 32, us / 2, wk / 2⟩ (passU ⟨xc, 64, us, wk⟩ false false) (rd_set HI.out _) 6 [.int .i64 (33)] (by simp) (by simp [passU, bumpI])
        exact ⟨_, rfl, by rw [← HRES.out]; refine Kd.R_drew ?_; have h_ := hs2.1; rw [List.set_set] at h_; simp only [World.setCells, Nat.add_assoc, Nat.reduceAdd] at h_; exact h_, by repeat (with_reducible first | exact HB5.out | refine below_set ?_ HGB.out | apply below_drew1)⟩
      · have e64 : (p == 64) = false := beq_eq_false_iff_ne.mpr c64
        have C64 := Aside0.mk c64
        clear c64
        go_wp2
        go_ret2
        have hseg := usage_seg HO5.out HI.out ⟨xc, p, us, wk⟩ (passU ⟨xc, p, us, wk⟩ false false) HX.out 6 [.int .i64 (p + 1)] (by simp) (by simp [passU, bumpI, C64.out])
        exact ⟨_, rfl, by rw [← HRES.out]; exact hseg.1, by repeat (first | exact HB5.out | refine below_set ?_ HGB.out | apply below_drew1)⟩
  | true =>
    cases a3 with
    | true =>
      go_upto_region 10 with (first | (go_at_call 18; (with_reducible refine (allocate_Check.calls A0 c0 l0 0 _ HR2.out HC0.out HCE.out).mono ?_); rintro e w3 ⟨rfl, hb⟩; have HS3 : Aside0 (w3.heap[w.heap.size]? = some (.cells #[.int .i64 a1] 3 (0, 0))) := ⟨blk_below HS2.out hb⟩; have HB3 : Aside0 (Below w.heap.size w w3) := ⟨below_step HB2.out hb⟩; have HR3 : Aside0 (Kd.C k39 w3 A0 l0.length l0) := ⟨Kd.C_below HR2.out hb⟩; clear hb) | (go_at_call 33; refine (indexUsage A0 c0 l0 44 Try.f44 #[.pointer (some ⟨w.heap.size, 0, none⟩)] (fun j : Nat => hasSlot a1 (rd_T39 l0 (j : Int))) (fun j w_ => True ∧ Below w3.heap.size w3 w_) w3 Try.func44 (by kernel_rfl) rfl (by have := HLE.out; omega) ⟨trivial, Below.refl _ _⟩ (fun j w_ hi => Kd.C_below HR3.out hi.2) ?hs).mono ?_; (case hs => intro j w_ hj _ hi; exact (pass_one (rd_T39 l0 (j : Int)) a1 w.heap.size w_ (blk_below HS3.out hi.2)).mono (fun e w__ ⟨he, hb⟩ => ⟨he, trivial, below_step hi.2 hb⟩)); rintro e w4 ⟨ri, rfl, hfd⟩; have hb := (Found.inv hfd).2; obtain rfl : ri = (i : Int) := Found.place hfd HF.out; have HB4 : Aside0 (Below w.heap.size w w4) := ⟨below_step HB3.out hb⟩; have HR4 : Aside0 (Kd.C k39 w4 A0 l0.length l0) := ⟨Kd.C_below HR3.out hb⟩; clear hb hfd) | (go_at_call 45; (with_reducible refine (api_Usage_45.calls A0 c0 l0 l0 _ HR4.out HC0.out QC.out).mono ?_); rintro e w5 ⟨vk, rfl, ho, hb⟩; obtain ⟨g, cap, ek, hgb, hgl, cells, hcells⟩ := Kd.R_form ho HL0.out; subst ek; have HO5 : Aside0 (Kd.R k39 39 w5 w.heap.size (fun _ => True) (.slice (some ⟨g, 0, none⟩) l0.length cap) l0) := ⟨Kd.R_lower ho (below_size HB4.out)⟩; have HB5 : Aside0 (Below w.heap.size w w5) := ⟨below_step HB4.out hb⟩; have HCL := Aside0.mk hcells; have HGB : Aside0 (w.heap.size ≤ g) := ⟨Nat.le_trans (below_size HB4.out) hgb⟩; clear hb ho hgb hgl hcells))
      obtain ⟨g0, g1, g2, g3, g4, g5, g6, g7, g8⟩ := usage_row HO5.out HI.out _ HX.out
      dsimp only at g6 g7 g8
      have fz : ∀ o, w5.frozen? ⟨g, o, none⟩ = false := fun o => blk_frozen HCL.out o
      clear g0 g1 g2 g3 g4 g5
      by_cases c64 : p = 64
      · subst c64
        go_upto_region 11 with (fail)
        go_region
        go_wp2
        go_ret2
        have hs1 := usage_seg HO5.out HI.out ⟨xc, 64, us, wk⟩ ⟨xc, 32, us / 2, wk / 2⟩ HX.out 6 [.int .i64 32, .int .i64 (us / 2), .int .i64 (wk / 2)] (by simp) (by simp)
        have hs2 := usage_seg hs1.1 HI.out ⟨xc, 32, us / 2, wk / 2⟩ (passU ⟨xc, 64, us, wk⟩ true true) (rd_set HI.out _) 6 [.int .i64 (33), .int .i64 (us / 2 + 1), .int .i64 (wk / 2 + 1)] (by simp) (by simp [passU, bumpI])
        exact ⟨_, rfl, by rw [← HRES.out]; refine Kd.R_drew ?_; have h_ := hs2.1; rw [List.set_set] at h_; simp only [World.setCells, Nat.add_assoc, Nat.reduceAdd] at h_; exact h_, by repeat (with_reducible first | exact HB5.out | refine below_set ?_ HGB.out | apply below_drew1)⟩
      · have e64 : (p == 64) = false := beq_eq_false_iff_ne.mpr c64
        have C64 := Aside0.mk c64
        clear c64
        go_wp2
        go_ret2
        have hseg := usage_seg HO5.out HI.out ⟨xc, p, us, wk⟩ (passU ⟨xc, p, us, wk⟩ true true) HX.out 6 [.int .i64 (p + 1), .int .i64 (us + 1), .int .i64 (wk + 1)] (by simp) (by simp [passU, bumpI, C64.out])
        exact ⟨_, rfl, by rw [← HRES.out]; exact hseg.1, by repeat (first | exact HB5.out | refine below_set ?_ HGB.out | apply below_drew1)⟩
    | false =>
      go_upto_region 10 with (first | (go_at_call 18; (with_reducible refine (allocate_Check.calls A0 c0 l0 0 _ HR2.out HC0.out HCE.out).mono ?_); rintro e w3 ⟨rfl, hb⟩; have HS3 : Aside0 (w3.heap[w.heap.size]? = some (.cells #[.int .i64 a1] 3 (0, 0))) := ⟨blk_below HS2.out hb⟩; have HB3 : Aside0 (Below w.heap.size w w3) := ⟨below_step HB2.out hb⟩; have HR3 : Aside0 (Kd.C k39 w3 A0 l0.length l0) := ⟨Kd.C_below HR2.out hb⟩; clear hb) | (go_at_call 33; refine (indexUsage A0 c0 l0 44 Try.f44 #[.pointer (some ⟨w.heap.size, 0, none⟩)] (fun j : Nat => hasSlot a1 (rd_T39 l0 (j : Int))) (fun j w_ => True ∧ Below w3.heap.size w3 w_) w3 Try.func44 (by kernel_rfl) rfl (by have := HLE.out; omega) ⟨trivial, Below.refl _ _⟩ (fun j w_ hi => Kd.C_below HR3.out hi.2) ?hs).mono ?_; (case hs => intro j w_ hj _ hi; exact (pass_one (rd_T39 l0 (j : Int)) a1 w.heap.size w_ (blk_below HS3.out hi.2)).mono (fun e w__ ⟨he, hb⟩ => ⟨he, trivial, below_step hi.2 hb⟩)); rintro e w4 ⟨ri, rfl, hfd⟩; have hb := (Found.inv hfd).2; obtain rfl : ri = (i : Int) := Found.place hfd HF.out; have HB4 : Aside0 (Below w.heap.size w w4) := ⟨below_step HB3.out hb⟩; have HR4 : Aside0 (Kd.C k39 w4 A0 l0.length l0) := ⟨Kd.C_below HR3.out hb⟩; clear hb hfd) | (go_at_call 45; (with_reducible refine (api_Usage_45.calls A0 c0 l0 l0 _ HR4.out HC0.out QC.out).mono ?_); rintro e w5 ⟨vk, rfl, ho, hb⟩; obtain ⟨g, cap, ek, hgb, hgl, cells, hcells⟩ := Kd.R_form ho HL0.out; subst ek; have HO5 : Aside0 (Kd.R k39 39 w5 w.heap.size (fun _ => True) (.slice (some ⟨g, 0, none⟩) l0.length cap) l0) := ⟨Kd.R_lower ho (below_size HB4.out)⟩; have HB5 : Aside0 (Below w.heap.size w w5) := ⟨below_step HB4.out hb⟩; have HCL := Aside0.mk hcells; have HGB : Aside0 (w.heap.size ≤ g) := ⟨Nat.le_trans (below_size HB4.out) hgb⟩; clear hb ho hgb hgl hcells))
      obtain ⟨g0, g1, g2, g3, g4, g5, g6, g7, g8⟩ := usage_row HO5.out HI.out _ HX.out
      dsimp only at g6 g7 g8
      have fz : ∀ o, w5.frozen? ⟨g, o, none⟩ = false := fun o => blk_frozen HCL.out o
      clear g0 g1 g2 g3 g4 g5
      by_cases c64 : p = 64
      · subst c64
        go_upto_region 11 with (fail)
        go_region
        go_wp2
        go_ret2
        have hs1 := usage_seg HO5.out HI.out ⟨xc, 64, us, wk⟩ ⟨xc, 32, us / 2, wk / 2⟩ HX.out 6 [.int .i64 32, .int .i64 (us / 2), .int .i64 (wk / 2)] (by simp) (by simp)
        have hs2 := usage_seg hs1.1 HI.out ⟨xc, 32, us / 2, wk / 2⟩ (passU ⟨xc, 64, us, wk⟩ true false) (rd_set HI.out _) 6 [.int .i64 (33), .int .i64 (us / 2 + 1)] (by simp) (by simp [passU, bumpI])
        exact ⟨_, rfl, by rw [← HRES.out]; refine Kd.R_drew ?_; have h_ := hs2.1; rw [List.set_set] at h_; simp only [World.setCells, Nat.add_assoc, Nat.reduceAdd] at h_; exact h_, by repeat (with_reducible first | exact HB5.out | refine below_set ?_ HGB.out | apply below_drew1)⟩
      · have e64 : (p == 64) = false := beq_eq_false_iff_ne.mpr c64
        have C64 := Aside0.mk c64
        clear c64
        go_wp2
        go_ret2
        have hseg := usage_seg HO5.out HI.out ⟨xc, p, us, wk⟩ (passU ⟨xc, p, us, wk⟩ true false) HX.out 6 [.int .i64 (p + 1), .int .i64 (us + 1)] (by simp) (by simp [passU, bumpI, C64.out])
        exact ⟨_, rfl, by rw [← HRES.out]; exact hseg.1, by repeat (first | exact HB5.out | refine below_set ?_ HGB.out | apply below_drew1)⟩

end Go.Proofs.Ytfbekkmmafkmpaa.PX
