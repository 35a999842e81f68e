-- Written by wip/xprint.py, a program of this claim's own, over the kit's print program. Lean checks it.
import Derived.Test.YtfbekkmmafkmpaaPXx0
import Derived.Test.YtfbekkmmafkmpaaPXx1
import Derived.Test.YtfbekkmmafkmpaaPXx5
import Derived.Test.YtfbekkmmafkmpaaPXx6
import Derived.Test.YtfbekkmmafkmpaaPXx23
namespace Go.Proofs.Ytfbekkmmafkmpaa.PX
open Go.RowKit Go.Proofs.YtfbekkmmafkmpaaW.PrintWords Go.Proofs.YtfbekkmmafkmpaaW.PrintLast Go.Proofs.YtfbekkmmafkmpaaW.PrintMore
attribute [local go_sem] max2_int min2_int max_two min_two max_three min_three max_four min_four   -- for this text's walks alone
set_option linter.unusedVariables false
set_option linter.unusedSimpArgs false

/-! ### allocate_Join: function 25 -/
def sameCell (c d : S37) : Bool := c.f0 == d.f0 && (c.f1 == d.f1 && (c.f2 == d.f2 && (c.f3 == d.f3 && (c.f4 == d.f4 && c.f5 == d.f5))))
/-- The first usages, one for each cell. -/
def freshTo (cs : List S37) : Nat → List S39
  | 0 => []
  | i + 1 => freshTo cs i ++ [⟨rd_T37 cs (i : Int), 0, 0, 0⟩]
/-- One place of the joined list. -/
def joinStep (l out : List S39) (i : Nat) : List S39 :=
  match (List.range l.length).find? (fun k : Nat => sameCell (rd_T39 l (k : Int)).f0 (rd_T39 out (i : Int)).f0) with
  | none => out
  | some k => out.set i (rd_T39 l (k : Int))
def joinTo (l out : List S39) : Nat → List S39
  | 0 => out
  | i + 1 => joinStep l (joinTo l out i) i
/-- The usages for the cells, or the error. -/
def joinOf (l : List S39) (cs : List S37) : List S39 × Int :=
  if (if l.length > 64 then 8 else checkTo l l.length) = 0 then
    (if (if (freshTo cs cs.length).length > 64 then 8 else checkTo (freshTo cs cs.length) (freshTo cs cs.length).length) = 0 then (joinTo l (freshTo cs cs.length) (freshTo cs cs.length).length, 0)
      else ([], if (freshTo cs cs.length).length > 64 then 8 else checkTo (freshTo cs cs.length) (freshTo cs cs.length).length))
  else ([], 1)
def allocate_Join.f (l0 : List S39) (l1 : List S37) : Option (List S39 × Int) := if l1.length ≤ 70 then some (joinOf l0 l1) else none
attribute [local go_sem high] eqA37
theorem freshTo_len (cs : List S37) : ∀ i, (freshTo cs i).length = i
  | 0 => rfl
  | i + 1 => by unfold freshTo; rw [List.length_append, freshTo_len cs i]; rfl
theorem joinStep_len (l out : List S39) (i : Nat) : (joinStep l out i).length = out.length := by
  unfold joinStep
  split
  · rfl
  · rw [List.length_set]
theorem joinTo_len (l out : List S39) : ∀ i, (joinTo l out i).length = out.length
  | 0 => rfl
  | i + 1 => by unfold joinTo; rw [joinStep_len, joinTo_len l out i]
theorem Found.nothingJ {len : Nat} {pred : Nat → Bool} {Inv : Nat → World → Prop} {r : Int} {w' : World} (h : Found len pred Inv r w') (hn : (List.range len).find? pred = none) : r = -1 := by
  rw [List.find?_range_eq_none] at hn
  obtain ⟨j, _, _, h⟩ := h
  rcases h with ⟨_, e, _⟩ | ⟨hj, hp, _, _⟩
  · exact e
  · have := hn j hj
    rw [hp] at this
    cases this
theorem Found.placeJ {len i : Nat} {pred : Nat → Bool} {Inv : Nat → World → Prop} {r : Int} {w' : World} (h : Found len pred Inv r w') (hs : (List.range len).find? pred = some i) : r = (i : Int) := by
  rw [List.find?_range_eq_some] at hs
  obtain ⟨h1, h2, h3⟩ := hs
  rw [List.mem_range] at h2
  obtain ⟨j, _, hb, h⟩ := h
  rcases h with ⟨e, _, _⟩ | ⟨hj, hp, e, _⟩
  · have := hb i (by omega)
    rw [h1] at this
    cases this
  · have h4 : ¬ i < j := fun hlt => by have := hb i hlt; rw [h1] at this; cases this
    have h5 : ¬ j < i := fun hlt => by have := h3 j hlt; rw [hp] at this; cases this
    omega
set_option maxHeartbeats 8000000 in
set_option maxRecDepth 100000 in
theorem join_one (x u : S39) (b : Nat) (w : World) (hblk : w.heap[b]? = some (.cells #[.int .i64 u.f0.f0, .int .i64 u.f0.f1, .int .i64 u.f0.f2, .bool u.f0.f3, .int .i64 u.f0.f4, .int .i64 u.f0.f5, .int .i64 u.f1, .int .i64 u.f2, .int .i64 u.f3] 39 (0, 0))) :
    Calls Try.prog 43 #[usageV x, .pointer (some ⟨b, 0, none⟩)] w fun e w' => e = .returned (.bool (sameCell x.f0 u.f0)) ∧ Below w.heap.size w w' := by
  obtain ⟨⟨x0, x1, x2, x3, x4, x5⟩, x6, x7, x8⟩ := x
  obtain ⟨⟨u0, u1, u2, u3, u4, u5⟩, u6, u7, u8⟩ := u
  have hu := Try.underlying39
  have hu2 := Try.underlying37
  have hu0_ : ∀ o : Obj, (w.alloc o).cell? ⟨b, 0, none⟩ = some (.int .i64 u0) := fun o => (blk_cell (blk_alloc hblk o) 0).trans rfl
  have gu0 := hu0_ (.cells #[.int .i64 x0, .int .i64 x1, .int .i64 x2, .bool x3, .int .i64 x4, .int .i64 x5, .int .i64 x6, .int .i64 x7, .int .i64 x8] 39 (0, 0))
  clear hu0_
  have hu1_ : ∀ o : Obj, (w.alloc o).cell? ⟨b, 1, none⟩ = some (.int .i64 u1) := fun o => (blk_cell (blk_alloc hblk o) 1).trans rfl
  have gu1 := hu1_ (.cells #[.int .i64 x0, .int .i64 x1, .int .i64 x2, .bool x3, .int .i64 x4, .int .i64 x5, .int .i64 x6, .int .i64 x7, .int .i64 x8] 39 (0, 0))
  clear hu1_
  have hu2_ : ∀ o : Obj, (w.alloc o).cell? ⟨b, 2, none⟩ = some (.int .i64 u2) := fun o => (blk_cell (blk_alloc hblk o) 2).trans rfl
  have gu2 := hu2_ (.cells #[.int .i64 x0, .int .i64 x1, .int .i64 x2, .bool x3, .int .i64 x4, .int .i64 x5, .int .i64 x6, .int .i64 x7, .int .i64 x8] 39 (0, 0))
  clear hu2_
  have hu3_ : ∀ o : Obj, (w.alloc o).cell? ⟨b, 3, none⟩ = some (.bool u3) := fun o => (blk_cell (blk_alloc hblk o) 3).trans rfl
  have gu3 := hu3_ (.cells #[.int .i64 x0, .int .i64 x1, .int .i64 x2, .bool x3, .int .i64 x4, .int .i64 x5, .int .i64 x6, .int .i64 x7, .int .i64 x8] 39 (0, 0))
  clear hu3_
  have hu4_ : ∀ o : Obj, (w.alloc o).cell? ⟨b, 4, none⟩ = some (.int .i64 u4) := fun o => (blk_cell (blk_alloc hblk o) 4).trans rfl
  have gu4 := hu4_ (.cells #[.int .i64 x0, .int .i64 x1, .int .i64 x2, .bool x3, .int .i64 x4, .int .i64 x5, .int .i64 x6, .int .i64 x7, .int .i64 x8] 39 (0, 0))
  clear hu4_
  have hu5_ : ∀ o : Obj, (w.alloc o).cell? ⟨b, 5, none⟩ = some (.int .i64 u5) := fun o => (blk_cell (blk_alloc hblk o) 5).trans rfl
  have gu5 := hu5_ (.cells #[.int .i64 x0, .int .i64 x1, .int .i64 x2, .bool x3, .int .i64 x4, .int .i64 x5, .int .i64 x6, .int .i64 x7, .int .i64 x8] 39 (0, 0))
  clear hu5_
  have gx0 := (blk_cell (heap_alloc_new w (.cells #[.int .i64 x0, .int .i64 x1, .int .i64 x2, .bool x3, .int .i64 x4, .int .i64 x5, .int .i64 x6, .int .i64 x7, .int .i64 x8] 39 (0, 0))) 0).trans (rfl : _ = some (Value.int .i64 x0))
  have gx1 := (blk_cell (heap_alloc_new w (.cells #[.int .i64 x0, .int .i64 x1, .int .i64 x2, .bool x3, .int .i64 x4, .int .i64 x5, .int .i64 x6, .int .i64 x7, .int .i64 x8] 39 (0, 0))) 1).trans (rfl : _ = some (Value.int .i64 x1))
  have gx2 := (blk_cell (heap_alloc_new w (.cells #[.int .i64 x0, .int .i64 x1, .int .i64 x2, .bool x3, .int .i64 x4, .int .i64 x5, .int .i64 x6, .int .i64 x7, .int .i64 x8] 39 (0, 0))) 2).trans (rfl : _ = some (Value.int .i64 x2))
  have gx3 := (blk_cell (heap_alloc_new w (.cells #[.int .i64 x0, .int .i64 x1, .int .i64 x2, .bool x3, .int .i64 x4, .int .i64 x5, .int .i64 x6, .int .i64 x7, .int .i64 x8] 39 (0, 0))) 3).trans (rfl : _ = some (Value.bool x3))
  have gx4 := (blk_cell (heap_alloc_new w (.cells #[.int .i64 x0, .int .i64 x1, .int .i64 x2, .bool x3, .int .i64 x4, .int .i64 x5, .int .i64 x6, .int .i64 x7, .int .i64 x8] 39 (0, 0))) 4).trans (rfl : _ = some (Value.int .i64 x4))
  have gx5 := (blk_cell (heap_alloc_new w (.cells #[.int .i64 x0, .int .i64 x1, .int .i64 x2, .bool x3, .int .i64 x4, .int .i64 x5, .int .i64 x6, .int .i64 x7, .int .i64 x8] 39 (0, 0))) 5).trans (rfl : _ = some (Value.int .i64 x5))
  clear hblk
  unfold usageV sameCell
  dsimp only at *
  go_enter Try.func43, Try.ntmps43
  go_wp2
  go_ret
  exact ⟨by first | rfl | (simp; done), below_alloc (Below.refl _ _) _⟩
theorem usage_rowJ {w : World} {base g cap n : Nat} {ok : Nat → Prop} {l : List S39} (h : Kd.R k39 39 w base ok (.slice (some ⟨g, 0, none⟩) n cap) l) {i : Nat} (hi : i < n) (x : S39) (hx : rd_T39 l (i : Int) = x) :
    w.cell? ⟨g, i * 9, none⟩ = some (.int .i64 x.f0.f0) ∧ w.cell? ⟨g, i * 9 + 1, none⟩ = some (.int .i64 x.f0.f1) ∧ w.cell? ⟨g, i * 9 + 2, none⟩ = some (.int .i64 x.f0.f2) ∧ w.cell? ⟨g, i * 9 + 3, none⟩ = some (.bool x.f0.f3) ∧ w.cell? ⟨g, i * 9 + 4, none⟩ = some (.int .i64 x.f0.f4) ∧ w.cell? ⟨g, i * 9 + 5, none⟩ = some (.int .i64 x.f0.f5) ∧ w.cell? ⟨g, i * 9 + 6, none⟩ = some (.int .i64 x.f1) ∧ w.cell? ⟨g, i * 9 + 7, none⟩ = some (.int .i64 x.f2) ∧ w.cell? ⟨g, i * 9 + 8, none⟩ = some (.int .i64 x.f3) := by
  obtain ⟨ad, e, h0, h1, h2, h3, h4, h5, h6, h7, h8⟩ := at_T39 (Kd.R_reads' h).2.2 (i : Int) (by omega) (by have := (Kd.R_reads' h).1; omega)
  injection e with e
  subst e
  subst hx
  simp only [Int.toNat_natCast] at h0 h1 h2 h3 h4 h5 h6 h7 h8
  have hz : ∀ k, (⟨g, 0, none⟩ : Addr).add k = ⟨g, k, none⟩ := fun k => by
    simp [Addr.add]
    omega
  rw [hz] at h0 h1 h2 h3 h4 h5 h6 h7 h8
  exact ⟨h0, h1, h2, h3, h4, h5, h6, h7, h8⟩
theorem nine_atJ {w : World} {g o : Nat} {v0 v1 v2 v3 v4 v5 v6 v7 v8 : Value} (h0 : w.cell? ⟨g, o, none⟩ = some v0) (h1 : w.cell? ⟨g, o + 1, none⟩ = some v1) (h2 : w.cell? ⟨g, o + 2, none⟩ = some v2) (h3 : w.cell? ⟨g, o + 3, none⟩ = some v3) (h4 : w.cell? ⟨g, o + 4, none⟩ = some v4) (h5 : w.cell? ⟨g, o + 5, none⟩ = some v5) (h6 : w.cell? ⟨g, o + 6, none⟩ = some v6) (h7 : w.cell? ⟨g, o + 7, none⟩ = some v7) (h8 : w.cell? ⟨g, o + 8, none⟩ = some v8) :
    ∀ j u, [v0, v1, v2, v3, v4, v5, v6, v7, v8][j]? = some u → w.cell? ⟨g, o + j, none⟩ = some u := by
  intro j u hj
  match j, hj with
  | 0, hj => cases hj; exact h0
  | 1, hj => cases hj; exact h1
  | 2, hj => cases hj; exact h2
  | 3, hj => cases hj; exact h3
  | 4, hj => cases hj; exact h4
  | 5, hj => cases hj; exact h5
  | 6, hj => cases hj; exact h6
  | 7, hj => cases hj; exact h7
  | 8, hj => cases hj; exact h8
  | n + 9, hj => simp at hj
/-- An element of a row of one's own is written. -/
theorem usage_putJ {w : World} {base g cap n : Nat} {l : List S39} (h : Kd.R k39 39 w base (fun _ => True) (.slice (some ⟨g, 0, none⟩) n cap) l) {i : Nat} (hi : i < n) (x' : S39) :
    Kd.R k39 39 (w.setCells g (i * 9) [.int .i64 x'.f0.f0, .int .i64 x'.f0.f1, .int .i64 x'.f0.f2, .bool x'.f0.f3, .int .i64 x'.f0.f4, .int .i64 x'.f0.f5, .int .i64 x'.f1, .int .i64 x'.f2, .int .i64 x'.f3]) base (fun _ => True) (.slice (some ⟨g, 0, none⟩) n cap) (l.set i x') := by
  obtain ⟨x, hx⟩ : ∃ x, rd_T39 l (i : Int) = x := ⟨_, rfl⟩
  obtain ⟨c0, c1, c2, c3, c4, c5, c6, c7, c8⟩ := usage_rowJ h hi x hx
  have hcc := nine_atJ c0 c1 c2 c3 c4 c5 c6 c7 c8
  have := Kd.R_seg (okp := fun _ => False) (x' := x') h (i : Int) (by omega) (by omega) (c := [.int .i64 x.f0.f0, .int .i64 x.f0.f1, .int .i64 x.f0.f2, .bool x.f0.f3, .int .i64 x.f0.f4, .int .i64 x.f0.f5, .int .i64 x.f1, .int .i64 x.f2, .int .i64 x.f3]) (seg := [.int .i64 x'.f0.f0, .int .i64 x'.f0.f1, .int .i64 x'.f0.f2, .bool x'.f0.f3, .int .i64 x'.f0.f4, .int .i64 x'.f0.f5, .int .i64 x'.f1, .int .i64 x'.f2, .int .i64 x'.f3]) (j := 0) rfl (by rw [Int.toNat_natCast]; exact hcc) (show 0 + 9 ≤ 9 by omega) (by simp only [List.take_zero, List.nil_append, List.length_cons, List.length_nil]; exact k39_mkM _ _ _ x') (fun _ hk => hk.elim)
  rw [Int.toNat_natCast, Nat.add_zero] at this
  exact this.1
set_option maxHeartbeats 8000000 in
set_option maxRecDepth 100000 in
theorem allocate_Join.calls (A0 : Option Addr) (c0 : Nat) (l0 : List (S39)) (A1 : Option Addr) (c1 : Nat) (l1 : List (S37)) (r1 : List (S39)) (r2 : Int) (w : World) (hr0 : Kd.C k39 w A0 l0.length l0) (hc0 : l0.length ≤ c0) (hr1 : Kd.C k37 w A1 l1.length l1) (hc1 : l1.length ≤ c1) (h : allocate_Join.f l0 l1 = some (r1, r2)) :
    Calls Try.prog 25 #[.slice A0 l0.length c0, .slice A1 l1.length c1] w fun e w' => ∃ v0_ : Value, e = .returned (.tuple #[v0_, .int .i64 r2]) ∧ Kd.R k39 39 w' w.heap.size (fun _ => True) v0_ r1 ∧ Below w.heap.size w w' := by
  have HR0 := Aside0.mk hr0
  have HC0 := Aside0.mk hc0
  have HR1 := Aside0.mk hr1
  have HC1 := Aside0.mk hc1
  clear hr0 hc0 hr1 hc1
  unfold allocate_Join.f at h
  split at h
  rotate_left
  · cases h
  rename_i hlen
  have hr := Option.some.inj h
  clear h
  have HL1 := Aside0.mk hlen
  clear hlen
  have hu1 := Try.underlying39
  have hu2 := Try.underlying37
  have hmf : ∀ (fn : Fn) (first cap : Array Value) (w : World), (Instr.makeFunc fn first cap).run Try.prog w = .ok (.func fn first cap) w := fun _ _ _ _ => rfl
  obtain ⟨ce, hce⟩ : ∃ e, allocate_Check.f l0 = some e := ⟨_, rfl⟩
  have HCE := Aside0.mk hce
  have hcv := Option.some.inj hce
  clear hce
  unfold joinOf at hr
  rw [hcv] at hr
  by_cases c0 : ce = 0
  rotate_left
  · rw [if_neg c0] at hr
    obtain ⟨rfl, rfl⟩ : [] = r1 ∧ 1 = r2 := by
      rw [Prod.mk.injEq] at hr
      exact hr
    have b0 : (ce == 0) = false := beq_eq_false_iff_ne.mpr c0
    have b1 : (ce != 0) = true := bne_iff_ne.mpr c0
    clear hcv hr c0
    go_enter Try.func25, Try.ntmps25
    go_wp2_with ((go_at_call 18; (with_reducible refine (allocate_Check.calls A0 c0 l0 ce _ HR0.out HC0.out HCE.out).mono ?_); rintro e w3 ⟨rfl, hb⟩; have HB3 : Aside0 (Below w.heap.size w w3) := ⟨hb⟩; clear hb))
    go_ret2
    exact ⟨_, rfl, Kd.R_nil _ _ _ _ _, HB3.out⟩
  subst c0
  rw [if_pos rfl] at hr
  have h64 : l0.length ≤ 64 := by
    split at hcv
    · cases hcv
    · omega
  have HLE := Aside0.mk h64
  clear hcv h64
  obtain ⟨ck, hck⟩ : ∃ e, allocate_Check.f (freshTo l1 l1.length) = some e := ⟨_, rfl⟩
  have HCK := Aside0.mk hck
  have hkv := Option.some.inj hck
  rw [hkv] at hr
  have HKV := Aside0.mk hkv
  have H := Aside0.mk hr
  clear hck hkv hr
  go_enter Try.func25, Try.ntmps25
  go_wp2_with ((go_at_call 18; (with_reducible refine (allocate_Check.calls A0 c0 l0 0 _ HR0.out HC0.out HCE.out).mono ?_); rintro e w3 ⟨rfl, hb⟩; have HB3 : Aside0 (Below w.heap.size w w3) := ⟨hb⟩; clear hb))
  go_loopg [6, 18] l1.length (fun kq v6 v18 w' => ∃ i : Nat, v18 = .int .i64 (i : Int) ∧ Aside0 (kq + i = l1.length) ∧ Aside0 (Kd.R k39 39 w' w.heap.size (fun _ => True) v6 (freshTo l1 i)) ∧ Aside0 (Below w.heap.size w w'))
  case atStart => exact ⟨0, by simp, ⟨by simp⟩, ⟨Kd.R_nil _ _ _ _ _⟩, HB3⟩
  case round =>
    obtain ⟨i, rfl, HK, HO, HBr⟩ := hrel
    by_cases hlt : i < l1.length
    · have b0 : decide ((i : Int) < (l1.length : Int)) = true := decide_eq_true (by omega)
      have b1 : decide (i < l1.length) = true := decide_eq_true hlt
      have p0 : (0 : Int) ≤ (i : Int) := by omega
      have q0 : (i : Int) < (l1.length : Int) := by omega
      have WR : Aside0 (wrap64 ((i : Int) + 1) = ((i + 1 : Nat) : Int)) := ⟨by have := HL1.out; unfold wrap64; omega⟩
      have HT : Aside0 (i < l1.length) := ⟨hlt⟩
      obtain ⟨ad, e, h0, h1, h2, h3, h4, h5⟩ := at_T37 (Kd.C_below HR1.out HBr.out) (i : Int) p0 q0
      cases e
      obtain ⟨x, hx⟩ : ∃ x, rd_T37 l1 (i : Int) = x := ⟨_, rfl⟩
      obtain ⟨x0, x1, x2, x3, x4, x5⟩ := x
      rw [hx] at h0 h1 h2 h3 h4 h5
      have HX := Aside0.mk hx
      simp only [Int.toNat_natCast] at h0 h1 h2 h3 h4 h5
      clear hlt hx
      replace p0 := eq_true p0
      replace q0 := eq_true q0
      go_upto_region 7 with (fail)
      have gx0 := (blk_cell (heap_alloc_new wr (.cells #[.int .i64 x0, .int .i64 x1, .int .i64 x2, .bool x3, .int .i64 x4, .int .i64 x5] 37 (0, 0))) 0).trans (rfl : _ = some (Value.int .i64 x0))
      have gx1 := (blk_cell (heap_alloc_new wr (.cells #[.int .i64 x0, .int .i64 x1, .int .i64 x2, .bool x3, .int .i64 x4, .int .i64 x5] 37 (0, 0))) 1).trans (rfl : _ = some (Value.int .i64 x1))
      have gx2 := (blk_cell (heap_alloc_new wr (.cells #[.int .i64 x0, .int .i64 x1, .int .i64 x2, .bool x3, .int .i64 x4, .int .i64 x5] 37 (0, 0))) 2).trans (rfl : _ = some (Value.int .i64 x2))
      have gx3 := (blk_cell (heap_alloc_new wr (.cells #[.int .i64 x0, .int .i64 x1, .int .i64 x2, .bool x3, .int .i64 x4, .int .i64 x5] 37 (0, 0))) 3).trans (rfl : _ = some (Value.bool x3))
      have gx4 := (blk_cell (heap_alloc_new wr (.cells #[.int .i64 x0, .int .i64 x1, .int .i64 x2, .bool x3, .int .i64 x4, .int .i64 x5] 37 (0, 0))) 4).trans (rfl : _ = some (Value.int .i64 x4))
      have gx5 := (blk_cell (heap_alloc_new wr (.cells #[.int .i64 x0, .int .i64 x1, .int .i64 x2, .bool x3, .int .i64 x4, .int .i64 x5] 37 (0, 0))) 5).trans (rfl : _ = some (Value.int .i64 x5))
      have HO2 : Aside0 (Kd.R k39 39 (wr.alloc (.cells #[.int .i64 x0, .int .i64 x1, .int .i64 x2, .bool x3, .int .i64 x4, .int .i64 x5] 37 (0, 0))) w.heap.size (fun _ => True) u6 (freshTo l1 i)) := ⟨Kd.R_alloc HO.out _⟩
      have HB2 : Aside0 (Below w.heap.size w (wr.alloc (.cells #[.int .i64 x0, .int .i64 x1, .int .i64 x2, .bool x3, .int .i64 x4, .int .i64 x5] 37 (0, 0)))) := ⟨below_alloc HBr.out _⟩
      clear h0 h1 h2 h3 h4 h5
      generalize (wr.alloc (.cells #[.int .i64 x0, .int .i64 x1, .int .i64 x2, .bool x3, .int .i64 x4, .int .i64 x5] 37 (0, 0))) = w2 at *
      go_wp2_with (first | ((with_reducible refine gate_builtin (b := .append) (xs := #[.tmp 22, .tmp 25]) rfl ?_); at_builtin; refine Kd.R_append k39 (w0 := w) w.heap.size rfl (.tmp 22) (.tmp 25) 22 39 (.agg #[(.int .i64 0), (.int .i64 0), (.int .i64 0), (.bool false), (.int .i64 0), (.int .i64 0), (.int .i64 0), (.int .i64 0), (.int .i64 0)]) 72 rfl Try.underlying22 info39 rfl (by decide) (by omega) u6 (freshTo l1 i) (⟨⟨x0, x1, x2, x3, x4, x5⟩, 0, 0, 0⟩ : S39) [.int .i64 x0, .int .i64 x1, .int .i64 x2, .bool x3, .int .i64 x4, .int .i64 x5, .int .i64 0, .int .i64 0, .int .i64 0] (fun _ => True) (fun _ => False) rfl rfl ?aP (fun _ hk => hk.elim) ?aF ?aO ?aB ?aS ?aL ?_; (case aP => exact k39_mkM _ _ _ (⟨⟨x0, x1, x2, x3, x4, x5⟩, 0, 0, 0⟩ : S39)); (case aB => exact HB2.out); (case aF => exact (fun _ _ => trivial)); (case aO => exact HO2.out); (case aS => exact (below_size HB2.out)); (case aL => rw [freshTo_len]; have := HL1.out; have := HT.out; omega); intro va wa ho hb hg hat; have HO5 : Aside0 (Kd.R k39 39 wa w.heap.size (fun _ => True) va (freshTo l1 (i + 1))) := ⟨by unfold freshTo; rw [HX.out]; exact ho⟩; have HB5 : Aside0 (Below w.heap.size w wa) := ⟨hb⟩; clear ho hb hg hat))
      go_roundg (gk - 1)
      case measure => have := HK.out; have := HT.out; omega
      case rel => exact ⟨i + 1, congrArg (Value.int .i64) WR.out, ⟨by have := HK.out; have := HT.out; omega⟩, HO5, HB5⟩
    · have b0 : decide ((i : Int) < (l1.length : Int)) = false := decide_eq_false (by omega)
      have b1 : decide (i < l1.length) = false := decide_eq_false hlt
      obtain rfl : i = l1.length := by have := HK.out; omega
      obtain ⟨L, hL⟩ : ∃ L, freshTo l1 l1.length = L := ⟨_, rfl⟩
      have ho := HO.out
      have hck := HCK.out
      have h := H.out
      rw [hL] at ho hck h
      obtain ⟨Ao, co, eo⟩ := Kd.R_slice ho
      subst eo
      have HOL : Aside0 (Kd.R k39 39 wr w.heap.size (fun _ => True) (.slice Ao L.length co) L) := ⟨ho⟩
      have HCL : Aside0 (allocate_Check.f L = some ck) := ⟨hck⟩
      have hlen : L.length ≤ 70 := by rw [← hL, freshTo_len]; exact HL1.out
      have HLN := Aside0.mk hlen
      clear hL ho hck HO HCK hlt H HKV hlen
      by_cases c1 : ck = 0
      rotate_left
      · rw [if_neg c1] at h
        obtain ⟨rfl, rfl⟩ : [] = r1 ∧ ck = r2 := by
          rw [Prod.mk.injEq] at h
          exact h
        have e0 : (ck == 0) = false := beq_eq_false_iff_ne.mpr c1
        have e1 : (ck != 0) = true := bne_iff_ne.mpr c1
        clear h c1
        go_wp2_with (first | (go_at_call 18; (with_reducible refine (allocate_Check.calls Ao co L ck _ (Kd.R_reads' HOL.out).2.2 (Kd.R_reads' HOL.out).2.1 HCL.out).mono ?_); rintro e w5 ⟨rfl, hb⟩; have HB5 : Aside0 (Below w.heap.size w w5) := ⟨below_step HBr.out hb⟩; have HO5 : Aside0 (Kd.R k39 39 w5 w.heap.size (fun _ => True) (.slice Ao L.length co) L) := ⟨Kd.R_below HOL.out hb⟩; clear hb))
        go_ret2
        exact ⟨_, rfl, Kd.R_nil _ _ _ _ _, HB5.out⟩
      subst c1
      rw [if_pos rfl] at h
      obtain ⟨h1, rfl⟩ : joinTo l0 L L.length = r1 ∧ 0 = r2 := by
        rw [Prod.mk.injEq] at h
        exact h
      have HRES := Aside0.mk h1
      clear h h1
      go_wp2_with (first | (go_at_call 18; (with_reducible refine (allocate_Check.calls Ao co L 0 _ (Kd.R_reads' HOL.out).2.2 (Kd.R_reads' HOL.out).2.1 HCL.out).mono ?_); rintro e w5 ⟨rfl, hb⟩; have HB5 : Aside0 (Below w.heap.size w w5) := ⟨below_step HBr.out hb⟩; have HO5 : Aside0 (Kd.R k39 39 w5 w.heap.size (fun _ => True) (.slice Ao L.length co) L) := ⟨Kd.R_below HOL.out hb⟩; clear hb))
      go_loopg [35] L.length (fun kq v35 w' => ∃ i : Nat, v35 = .int .i64 (i : Int) ∧ Aside0 (kq + i = L.length) ∧ Aside0 (Kd.R k39 39 w' w.heap.size (fun _ => True) (.slice Ao L.length co) (joinTo l0 L i)) ∧ Aside0 (Below w.heap.size w w'))
      case atStart => exact ⟨0, by simp, ⟨by simp⟩, HO5, HB5⟩
      case round =>
        obtain ⟨i, rfl, HK2, HO2, HBr2⟩ := hrel
        by_cases hlt : i < L.length
        · have b0 : decide ((i : Int) < (L.length : Int)) = true := decide_eq_true (by omega)
          have b1 : decide (i < L.length) = true := decide_eq_true hlt
          have p0 : (0 : Int) ≤ (i : Int) := by omega
          have q0 : (i : Int) < (L.length : Int) := by omega
          have WR : Aside0 (wrap64 ((i : Int) + 1) = ((i + 1 : Nat) : Int)) := ⟨by have := HLN.out; unfold wrap64; omega⟩
          have HT : Aside0 (i < L.length) := ⟨hlt⟩
          have hJ : (joinTo l0 L i).length = L.length := joinTo_len l0 L i
          obtain ⟨g, cap, ek, hgb, hgl, cells, hcells⟩ := Kd.R_form HO2.out (by rw [hJ]; omega)
          injection ek with e1 e2 e3
          subst e1
          subst e3
          obtain ⟨x, hx⟩ : ∃ x, rd_T39 (joinTo l0 L i) (i : Int) = x := ⟨_, rfl⟩
          obtain ⟨g0, g1, g2, g3, g4, g5, g6, g7, g8⟩ := usage_rowJ HO2.out HT.out x hx
          obtain ⟨⟨x0, x1, x2, x3, x4, x5⟩, x6, x7, x8⟩ := x
          dsimp only at g0 g1 g2 g3 g4 g5 g6 g7 g8
          have HX := Aside0.mk hx
          have HGB := Aside0.mk hgb
          clear hlt hx hJ e2 hgb hgl hcells
          replace p0 := eq_true p0
          replace q0 := eq_true q0
          go_upto_region 15 with (fail)
          have HS3 : Aside0 ((wr.alloc (.cells #[.int .i64 x0, .int .i64 x1, .int .i64 x2, .bool x3, .int .i64 x4, .int .i64 x5, .int .i64 x6, .int .i64 x7, .int .i64 x8] 39 (0, 0))).heap[wr.heap.size]? = some (.cells #[.int .i64 x0, .int .i64 x1, .int .i64 x2, .bool x3, .int .i64 x4, .int .i64 x5, .int .i64 x6, .int .i64 x7, .int .i64 x8] 39 (0, 0))) := ⟨heap_alloc_new wr (.cells #[.int .i64 x0, .int .i64 x1, .int .i64 x2, .bool x3, .int .i64 x4, .int .i64 x5, .int .i64 x6, .int .i64 x7, .int .i64 x8] 39 (0, 0))⟩
          have HB3 : Aside0 (Below w.heap.size w (wr.alloc (.cells #[.int .i64 x0, .int .i64 x1, .int .i64 x2, .bool x3, .int .i64 x4, .int .i64 x5, .int .i64 x6, .int .i64 x7, .int .i64 x8] 39 (0, 0)))) := ⟨below_alloc HBr2.out _⟩
          have HC3 : Aside0 (Kd.C k39 (wr.alloc (.cells #[.int .i64 x0, .int .i64 x1, .int .i64 x2, .bool x3, .int .i64 x4, .int .i64 x5, .int .i64 x6, .int .i64 x7, .int .i64 x8] 39 (0, 0))) A0 l0.length l0) := ⟨Kd.C_below HR0.out HB3.out⟩
          have HO3 : Aside0 (Kd.R k39 39 (wr.alloc (.cells #[.int .i64 x0, .int .i64 x1, .int .i64 x2, .bool x3, .int .i64 x4, .int .i64 x5, .int .i64 x6, .int .i64 x7, .int .i64 x8] 39 (0, 0))) w.heap.size (fun _ => True) (.slice (some ⟨g, 0, none⟩) L.length co) (joinTo l0 L i)) := ⟨Kd.R_alloc HO2.out _⟩
          clear g0 g1 g2 g3 g4 g5 g6 g7 g8
          generalize (wr.alloc (.cells #[.int .i64 x0, .int .i64 x1, .int .i64 x2, .bool x3, .int .i64 x4, .int .i64 x5, .int .i64 x6, .int .i64 x7, .int .i64 x8] 39 (0, 0))) = w3 at *
          cases hf : (List.range l0.length).find? (fun k : Nat => sameCell (rd_T39 l0 (k : Int)).f0 (⟨⟨x0, x1, x2, x3, x4, x5⟩, x6, x7, x8⟩ : S39).f0) with
          | none =>
            have HF := Aside0.mk hf
            have HN : Aside0 (joinTo l0 L (i + 1) = joinTo l0 L i) := ⟨by show joinStep l0 (joinTo l0 L i) i = _; unfold joinStep; rw [HX.out, hf]⟩
            clear hf
            go_wp2_with (first | (go_at_call 33; refine (indexUsage A0 c0 l0 43 Try.f43 #[.pointer (some ⟨wr.heap.size, 0, none⟩)] (fun k : Nat => sameCell (rd_T39 l0 (k : Int)).f0 (⟨⟨x0, x1, x2, x3, x4, x5⟩, x6, x7, x8⟩ : S39).f0) (fun j w_ => True ∧ Below w3.heap.size w3 w_) w3 Try.func43 (by kernel_rfl) rfl (by have := HLE.out; omega) ⟨trivial, Below.refl _ _⟩ (fun j w_ hi => Kd.C_below HC3.out hi.2) ?hs).mono ?_; (case hs => intro j w_ hj _ hi; exact (join_one (rd_T39 l0 (j : Int)) (⟨⟨x0, x1, x2, x3, x4, x5⟩, x6, x7, x8⟩ : S39) wr.heap.size w_ (blk_below HS3.out hi.2)).mono (fun e w__ ⟨he, hb⟩ => ⟨he, trivial, below_step hi.2 hb⟩)); rintro e w4 ⟨ri, rfl, hfd⟩; have hb := (Found.inv hfd).2; obtain rfl : ri = -1 := Found.nothingJ hfd HF.out; have HB4 : Aside0 (Below w.heap.size w w4) := ⟨below_step HB3.out hb⟩; have HO4 : Aside0 (Kd.R k39 39 w4 w.heap.size (fun _ => True) (.slice (some ⟨g, 0, none⟩) L.length co) (joinTo l0 L i)) := ⟨Kd.R_below HO3.out hb⟩; clear hb hfd))
            go_roundg (gk - 1)
            case measure => have := HK2.out; have := HT.out; omega
            case rel => exact ⟨i + 1, congrArg (Value.int .i64) WR.out, ⟨by have := HK2.out; have := HT.out; omega⟩, ⟨by rw [HN.out]; exact HO4.out⟩, HB4⟩
          | some m =>
            have HF := Aside0.mk hf
            have hml : m < l0.length := List.mem_range.1 (List.find?_range_eq_some.1 hf).2.1
            obtain ⟨y, hy⟩ : ∃ y, rd_T39 l0 (m : Int) = y := ⟨_, rfl⟩
            have HN : Aside0 (joinTo l0 L (i + 1) = (joinTo l0 L i).set i y) := ⟨by show joinStep l0 (joinTo l0 L i) i = _; unfold joinStep; rw [HX.out, hf, ← hy]⟩
            have m0 : (0 : Int) ≤ (m : Int) := by omega
            have m1 : (m : Int) < (l0.length : Int) := by omega
            clear hf hml
            go_upto_region 16 with (first | (go_at_call 33; refine (indexUsage A0 c0 l0 43 Try.f43 #[.pointer (some ⟨wr.heap.size, 0, none⟩)] (fun k : Nat => sameCell (rd_T39 l0 (k : Int)).f0 (⟨⟨x0, x1, x2, x3, x4, x5⟩, x6, x7, x8⟩ : S39).f0) (fun j w_ => True ∧ Below w3.heap.size w3 w_) w3 Try.func43 (by kernel_rfl) rfl (by have := HLE.out; omega) ⟨trivial, Below.refl _ _⟩ (fun j w_ hi => Kd.C_below HC3.out hi.2) ?hs).mono ?_; (case hs => intro j w_ hj _ hi; exact (join_one (rd_T39 l0 (j : Int)) (⟨⟨x0, x1, x2, x3, x4, x5⟩, x6, x7, x8⟩ : S39) wr.heap.size w_ (blk_below HS3.out hi.2)).mono (fun e w__ ⟨he, hb⟩ => ⟨he, trivial, below_step hi.2 hb⟩)); rintro e w4 ⟨ri, rfl, hfd⟩; have hb := (Found.inv hfd).2; obtain rfl : ri = (m : Int) := Found.placeJ hfd HF.out; have HB4 : Aside0 (Below w.heap.size w w4) := ⟨below_step HB3.out hb⟩; have HO4 : Aside0 (Kd.R k39 39 w4 w.heap.size (fun _ => True) (.slice (some ⟨g, 0, none⟩) L.length co) (joinTo l0 L i)) := ⟨Kd.R_below HO3.out hb⟩; clear hb hfd))
            obtain ⟨ad, e, h0, h1, h2, h3, h4, h5, h6, h7, h8⟩ := at_T39 (Kd.C_below HR0.out HB4.out) (m : Int) m0 m1
            cases e
            rw [hy] at h0 h1 h2 h3 h4 h5 h6 h7 h8
            simp only [Int.toNat_natCast] at h0 h1 h2 h3 h4 h5 h6 h7 h8
            obtain ⟨⟨y0, y1, y2, y3, y4, y5⟩, y6, y7, y8⟩ := y
            dsimp only at h0 h1 h2 h3 h4 h5 h6 h7 h8
            obtain ⟨g0, g1, g2, g3, g4, g5, g6, g7, g8⟩ := usage_rowJ HO4.out HT.out _ HX.out
            dsimp only at g0 g1 g2 g3 g4 g5 g6 g7 g8
            obtain ⟨g', cap', ek', -, -, cells', hcells'⟩ := Kd.R_form HO4.out (by rw [joinTo_len]; have := HT.out; omega)
            injection ek' with e1' e2' e3'
            injection e1' with e1'
            injection e1' with e1'
            subst e1'
            have fz : ∀ o, w4.frozen? ⟨g, o, none⟩ = false := fun o => blk_frozen hcells' o
            clear hcells' e2' e3' hy
            replace m0 := eq_true m0
            replace m1 := eq_true m1
            go_wp2
            go_roundg (gk - 1)
            case measure => have := HK2.out; have := HT.out; omega
            case rel => exact ⟨i + 1, congrArg (Value.int .i64) WR.out, ⟨by have := HK2.out; have := HT.out; omega⟩, ⟨by rw [HN.out]; have h_ := usage_putJ HO4.out HT.out ⟨⟨y0, y1, y2, y3, y4, y5⟩, y6, y7, y8⟩; simp only [World.setCells, Nat.add_assoc, Nat.reduceAdd] at h_; exact h_⟩, ⟨by repeat (with_reducible first | exact HB4.out | refine below_set ?_ HGB.out | apply below_drew1)⟩⟩
        · have b0 : decide ((i : Int) < (L.length : Int)) = false := decide_eq_false (by omega)
          have b1 : decide (i < L.length) = false := decide_eq_false hlt
          obtain rfl : i = L.length := by have := HK2.out; omega
          clear hlt
          go_wp2
          go_ret2
          exact ⟨_, rfl, by rw [← HRES.out]; exact HO2.out, HBr2.out⟩

end Go.Proofs.Ytfbekkmmafkmpaa.PX
